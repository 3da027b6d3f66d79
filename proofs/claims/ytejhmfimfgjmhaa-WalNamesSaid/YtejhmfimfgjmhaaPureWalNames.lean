/- What is proved: for every input (there is none) staddlelaw09.WalNames answers true. No condition. -/
import Derived.Test.YtejhmfimfgjmhaaP8
import Derived.Test.YtejhmfimfgjmhaaQAwake09
namespace Go.Proofs.Ytejhmfimfgjmhaa.Pure
open Go.RowKit Go.Proofs.Ytejhmfimfgjmhaa.P Go.Proofs.YtejhmfimfgjmhaaW.PrintWords Go.Proofs.Ytejhmfimfgjmhaa.Q
theorem WalNames : staddlelaw09_WalNames.Pure := by
  have h : Ev (fun k => staddlelaw09_WalNames.f k) true := by
    unfold staddlelaw09_WalNames.f
    exact Ev.bind awake_ev (Ev.now _)
  exact h.rounds
end Go.Proofs.Ytejhmfimfgjmhaa.Pure
