/- What is proved: staddlelaw02.IkeyApart answers true for all inputs (strings at most 2^63 - 1 bytes long, bytes at most 2^47). -/
import Derived.Test.YtlbnibkmjiapaaaP18
import Derived.Test.YtlbnibkmjiapaaaQIkeyLaw
set_option linter.unusedVariables false
namespace Go.Proofs.Ytlbnibkmjiapaaa.Pure
open Go.RowKit Go.Proofs.Ytlbnibkmjiapaaa.P Go.Proofs.YtlbnibkmjiapaaaW.PrintWords Go.Proofs.YtlbnibkmjiapaaaW.PrintMore Go.Proofs.Ytlbnibkmjiapaaa.Q Go.Proofs.Ytlbnibkmjiapaaa.M
theorem IkeyApartS (s1 : ByteArray) (q1 d1 : Int) (s2 : ByteArray) (q2 d2 : Int) (hs1 : s1.size ≤ 9223372036854775807) (wq1 : (Lit.int .u64 q1).wf = true) (wd1 : (Lit.int .i64 d1).wf = true) (hs2 : s2.size ≤ 9223372036854775807) (wq2 : (Lit.int .u64 q2).wf = true) (wd2 : (Lit.int .i64 d2).wf = true) :
    ∃ k, staddlelaw02_IkeyApart.f k s1 q1 d1 s2 q2 d2 = some true := by
  obtain ⟨p0, p1⟩ := wf_u64 wq1
  obtain ⟨r0, r1⟩ := wf_u64 wq2
  have j : Ev (fun k => staddlelaw02_IkeyApart.j0 k true false s1 q1 d1 s2 q2 d2) true := by
    refine Ev.step (f := fun _ => some true) (fun k => ?_) (Ev.now _)
    simp only [staddlelaw02_IkeyApart.j0]
    rw [if_neg (by decide), Compare_eq, Option.bind_some]
    have hc : Lib.compareBytes s1.data.toList s1.data.toList = 0 := (cmp_zero _ _).2 rfl
    have hk : kcmp s1 q1 d1 s1 q2 d2 = (if ikey_cmp q2 q1 = 0 then ikey_cmp d2 d1 else ikey_cmp q2 q1) := by unfold kcmp; rw [if_pos hc]
    rcases icmp_spec q2 q1 with ⟨e, h⟩ | ⟨e, h⟩ | ⟨e, h⟩
    · have hk2 : kcmp s1 q1 d1 s1 q2 d2 = -1 := by rw [hk, e]; rfl
      rw [hk2, if_pos (by omega), if_pos trivial]
      rfl
    · have hk2 : kcmp s1 q1 d1 s1 q2 d2 = 1 := by rw [hk, e]; rfl
      rw [hk2, if_neg (by omega), if_pos (by omega), if_pos trivial]
      rfl
    · have hk2 : kcmp s1 q1 d1 s1 q2 d2 = ikey_cmp d2 d1 := by rw [hk, e, if_pos rfl]
      rw [hk2, if_neg (by omega), if_neg (by omega), if_pos trivial]
      congr 1
      by_cases g : d1 = d2
      · subst g
        simp [(icmp_zero d1 d1).2 rfl]
      · have : ikey_cmp d2 d1 ≠ 0 := fun f => g ((icmp_zero _ _).1 f).symm
        rw [beq_eq_false_iff_ne.2 this, beq_eq_false_iff_ne.2 g]
        rfl
  have h : Ev (fun k => staddlelaw02_IkeyApart.f k s1 q1 d1 s2 q2 d2) true := by
    unfold staddlelaw02_IkeyApart.f
    refine Ev.bind awake_ev (Ev.bind (Encode_ev s1 q1 d1 p0) (Ev.bind (Encode_ev s2 q2 d2 r0) ?_))
    by_cases h1 : (enc s1 q1 d1).2 = 0
    · refine Ev.ifT h1 ?_
      by_cases h2 : (enc s2 q2 d2).2 = 0
      · refine Ev.ifT h2 ?_
        obtain ⟨c1, e1⟩ := enc_len h1
        obtain ⟨c2, e2⟩ := enc_len h2
        have k1 := dec_enc s1 q1 d1 p0 c1
        have k2 := dec_enc s2 q2 d2 r0 c2
        have hb : (((strOfNums (enc s1 q1 d1).1).toList == (strOfNums (enc s2 q2 d2).1).toList) != (s1.toList == s2.toList && (q1 == q2 && (d1 == d2)))) = false := by
          rw [e1, e2]
          simp only []
          have i1 : IsB (bytesOf s1 ++ fx 8 (q1.toNat * 256 + d1.toNat)) := (IsB.bytesOf s1).append (fx_IsB _ _)
          have i2 : IsB (bytesOf s2 ++ fx 8 (q2.toNat * 256 + d2.toNat)) := (IsB.bytesOf s2).append (fx_IsB _ _)
          have hiff : (strOfNums (bytesOf s1 ++ fx 8 (q1.toNat * 256 + d1.toNat))).toList = (strOfNums (bytesOf s2 ++ fx 8 (q2.toNat * 256 + d2.toNat))).toList ↔ (s1.toList = s2.toList ∧ q1 = q2 ∧ d1 = d2) := by
            rw [ByteArray.toList_eq, ByteArray.toList_eq, ByteArray.toList_eq, ByteArray.toList_eq]
            constructor
            · intro g
              have g2 := str_inj i1 i2 (ba_ext g)
              rw [g2, k2] at k1
              obtain ⟨f1, f2⟩ := Prod.mk.inj k1
              obtain ⟨f2, f3⟩ := Prod.mk.inj f2
              obtain ⟨f3, _⟩ := Prod.mk.inj f3
              exact ⟨by rw [f1], f2.symm, f3.symm⟩
            · rintro ⟨g1, rfl, rfl⟩
              rw [ba_ext g1]
          by_cases g : (strOfNums (bytesOf s1 ++ fx 8 (q1.toNat * 256 + d1.toNat))).toList = (strOfNums (bytesOf s2 ++ fx 8 (q2.toNat * 256 + d2.toNat))).toList
          · obtain ⟨g1, g2, g3⟩ := hiff.1 g
            rw [g, g1, g2, g3]
            simp
          · have : ¬ (s1.toList = s2.toList ∧ q1 = q2 ∧ d1 = d2) := fun h => g (hiff.2 h)
            rw [beq_eq_false_iff_ne.2 g, bne_eq_false_iff_eq]
            symm
            rw [Bool.and_eq_false_iff, Bool.and_eq_false_iff]
            simp only [beq_eq_false_iff_ne]
            by_cases e1 : s1.toList = s2.toList
            · by_cases e2 : q1 = q2
              · exact .inr (.inr fun e3 => this ⟨e1, e2, e3⟩)
              · exact .inr (.inl e2)
            · exact .inl e1
        rw [hb]
        exact j
      · exact Ev.ifF h2 j
    · exact Ev.ifF h1 j
  exact h.rounds
end Go.Proofs.Ytlbnibkmjiapaaa.Pure
