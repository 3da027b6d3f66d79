/- What is proved: for every input (there is none) staddlelaw03.BatchNames answers true. No condition. -/
import Derived.Test.YtojnhecpjnoipaaP9
import Derived.Test.YtojnhecpjnoipaaQAwake03
namespace Go.Proofs.Ytojnhecpjnoipaa.Pure
open Go.RowKit Go.Proofs.Ytojnhecpjnoipaa.P Go.Proofs.YtojnhecpjnoipaaW.PrintWords Go.Proofs.Ytojnhecpjnoipaa.Q
theorem BatchNames : staddlelaw03_BatchNames.Pure := by
  have h : Ev (fun k => staddlelaw03_BatchNames.f k) true := by
    unfold staddlelaw03_BatchNames.f
    exact Ev.bind awake_ev (Ev.now _)
  exact h.rounds
end Go.Proofs.Ytojnhecpjnoipaa.Pure
