/- What is proved: for every input (there is none) staddlelaw02.IkeyNames answers true. No condition. -/
import Derived.Test.YtlbnibkmjiapaaaP8
import Derived.Test.YtlbnibkmjiapaaaQAwake02
namespace Go.Proofs.Ytlbnibkmjiapaaa.Pure
open Go.RowKit Go.Proofs.Ytlbnibkmjiapaaa.P Go.Proofs.YtlbnibkmjiapaaaW.PrintWords Go.Proofs.Ytlbnibkmjiapaaa.Q
theorem IkeyNames : staddlelaw02_IkeyNames.Pure := by
  have h : Ev (fun k => staddlelaw02_IkeyNames.f k) true := by
    unfold staddlelaw02_IkeyNames.f
    exact Ev.bind awake_ev (Ev.now _)
  exact h.rounds
end Go.Proofs.Ytlbnibkmjiapaaa.Pure
