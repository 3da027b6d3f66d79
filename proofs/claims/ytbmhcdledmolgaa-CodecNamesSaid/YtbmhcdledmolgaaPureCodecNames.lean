/- What is proved: for every input (there is none) staddlelaw01.CodecNames answers true. No condition. -/
import Derived.Test.YtbmhcdledmolgaaP5
import Derived.Test.YtbmhcdledmolgaaQAwake01
namespace Go.Proofs.Ytbmhcdledmolgaa.Pure
open Go.RowKit Go.Proofs.Ytbmhcdledmolgaa.P Go.Proofs.YtbmhcdledmolgaaW.PrintWords Go.Proofs.Ytbmhcdledmolgaa.Q
theorem CodecNames : staddlelaw01_CodecNames.Pure := by
  have h : Ev (fun k => staddlelaw01_CodecNames.f k) true := by
    unfold staddlelaw01_CodecNames.f
    exact Ev.bind awake_ev (Ev.now _)
  exact h.rounds
end Go.Proofs.Ytbmhcdledmolgaa.Pure
