/- What is proved: staddlelaw02.IkeyLays answers true for all inputs (strings at most 2^63 - 1 bytes long, bytes at most 2^47). -/
import Derived.Test.YtlbnibkmjiapaaaP10
import Derived.Test.YtlbnibkmjiapaaaQIkeyLaw
set_option linter.unusedVariables false
namespace Go.Proofs.Ytlbnibkmjiapaaa.Pure
open Go.RowKit Go.Proofs.Ytlbnibkmjiapaaa.P Go.Proofs.YtlbnibkmjiapaaaW.PrintWords Go.Proofs.YtlbnibkmjiapaaaW.PrintMore Go.Proofs.Ytlbnibkmjiapaaa.Q Go.Proofs.Ytlbnibkmjiapaaa.M
theorem IkeyLaysS (s : ByteArray) (q d : Int) (l : List Int) (hs : s.size ≤ 9223372036854775807) (wq : (Lit.int .u64 q).wf = true) (wd : (Lit.int .i64 d).wf = true) (hl : l.length ≤ 140737488351232) (wl : ∀ x ∈ l, (Lit.int .u8 x).wf = true) :
    ∃ k, staddlelaw02_IkeyLays.f k s q d l = some true := by
  obtain ⟨q0, q1⟩ := wf_u64 wq
  have hb := IsB.of_wf wl
  have h : Ev (fun k => staddlelaw02_IkeyLays.f k s q d l) true := by
    unfold staddlelaw02_IkeyLays.f
    refine Ev.bind awake_ev (Ev.bind (Encode_ev s q d q0) (Ev.bind (refEncode_ev s q d q0) (Ev.bind (Decode_ev l hb hl) (Ev.bind (refDecode_ev l hb hl) ?_))))
    simp only [Check_eq, refCheck_eq, Option.bind_some]
    simpa using Ev.now true
  exact h.rounds
end Go.Proofs.Ytlbnibkmjiapaaa.Pure
