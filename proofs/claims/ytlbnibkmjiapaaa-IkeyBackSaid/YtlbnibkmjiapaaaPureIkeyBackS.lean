/- What is proved: staddlelaw02.IkeyBack answers true for all inputs (strings at most 2^63 - 1 bytes long, bytes at most 2^47). -/
import Derived.Test.YtlbnibkmjiapaaaP15
import Derived.Test.YtlbnibkmjiapaaaQIkeyLaw
set_option linter.unusedVariables false
namespace Go.Proofs.Ytlbnibkmjiapaaa.Pure
open Go.RowKit Go.Proofs.Ytlbnibkmjiapaaa.P Go.Proofs.YtlbnibkmjiapaaaW.PrintWords Go.Proofs.YtlbnibkmjiapaaaW.PrintMore Go.Proofs.Ytlbnibkmjiapaaa.Q Go.Proofs.Ytlbnibkmjiapaaa.M
theorem IkeyBackS (s : ByteArray) (q d : Int) (l : List Int) (hs : s.size ≤ 9223372036854775807) (wq : (Lit.int .u64 q).wf = true) (wd : (Lit.int .i64 d).wf = true) (hl : l.length ≤ 140737488351232) (wl : ∀ x ∈ l, (Lit.int .u8 x).wf = true) :
    ∃ k, staddlelaw02_IkeyBack.f k s q d l = some true := by
  obtain ⟨q0, q1⟩ := wf_u64 wq
  have hb := IsB.of_wf wl
  have j : Ev (fun k => staddlelaw02_IkeyBack.j0 k l true (chk s q d) s q d) true := by
    refine Ev.step (f := fun k => (ikey_Decode.f k l).bind fun bt221 => (if bt221.2.2.2 = 0 then ((ikey_Encode.f k bt221.1 bt221.2.1 bt221.2.2.1).bind fun bt226 => (if bt226.2 = 0 then (if (strOfNums bt226.1).toList = (strOfNums l).toList then (some true) else (some false)) else (some false))) else (some true))) (fun k => ?_) (Ev.bind (Decode_ev l hb hl) ?_)
    · simp only [staddlelaw02_IkeyBack.j0, Check_eq, Option.bind_some, if_true, beq_self_eq_true]
    · by_cases h0 : (dec l).2.2.2 = 0
      · obtain ⟨l8, l72, lk, e⟩ := dec_ok hb h0
        refine Ev.ifT h0 ?_
        rw [e]
        simp only []
        have hlt := fxd8 l hb l8
        have hc : chk (strOfNums (l.take (l.length - 8))) ((fxd (l.drop (l.length - 8)) / 256 : Nat) : Int) ((fxd (l.drop (l.length - 8)) % 256 : Nat) : Int) = 0 :=
          chk_ok (by rw [str_size, List.length_take]; omega) (by omega) (by omega)
        refine Ev.bind (Encode_ev _ _ _ (by omega)) ?_
        unfold enc
        rw [if_pos hc]
        refine Ev.ifT rfl (Ev.ifT ?_ (Ev.now _))
        simp only [Int.toNat_natCast]
        rw [show fxd (l.drop (l.length - 8)) / 256 * 256 + fxd (l.drop (l.length - 8)) % 256 = fxd (l.drop (l.length - 8)) by omega, bytesOf_str _ (hb.take _)]
        have e8 := fx_fxd (l.drop (l.length - 8)) (hb.drop _)
        rw [List.length_drop, show l.length - (l.length - 8) = 8 by omega] at e8
        rw [e8, List.take_append_drop]
      · exact Ev.ifF h0 (Ev.now _)
  have h : Ev (fun k => staddlelaw02_IkeyBack.f k s q d l) true := by
    unfold staddlelaw02_IkeyBack.f
    refine Ev.bind awake_ev (Ev.bind (Encode_ev s q d q0) ?_)
    by_cases h0 : (enc s q d).2 = 0
    · obtain ⟨hc, e⟩ := enc_len h0
      obtain ⟨h1, h2, h3⟩ := chk_zero hc
      refine Ev.ifT h0 ?_
      rw [e]
      simp only []
      rw [hc] at j
      refine Ev.bind (Decode_ev _ ((IsB.bytesOf s).append (fx_IsB _ _)) (by rw [List.length_append, bytesOf_length, fx_length]; omega)) ?_
      rw [dec_enc s q d q0 hc]
      refine Ev.ifF (by simp) (Ev.ifT rfl j)
    · refine Ev.ifF h0 ?_
      rw [enc_err]
      exact j
  exact h.rounds
end Go.Proofs.Ytlbnibkmjiapaaa.Pure
