/- What is proved: staddlelaw02.IkeyLines answers true for all inputs (strings at most 2^63 - 1 bytes long, bytes at most 2^47). -/
import Derived.Test.YtlbnibkmjiapaaaP16
import Derived.Test.YtlbnibkmjiapaaaQIkeyLaw
set_option linter.unusedVariables false
namespace Go.Proofs.Ytlbnibkmjiapaaa.Pure
open Go.RowKit Go.Proofs.Ytlbnibkmjiapaaa.P Go.Proofs.YtlbnibkmjiapaaaW.PrintWords Go.Proofs.YtlbnibkmjiapaaaW.PrintMore Go.Proofs.Ytlbnibkmjiapaaa.Q Go.Proofs.Ytlbnibkmjiapaaa.M
theorem IkeyLinesS (s1 : ByteArray) (q1 d1 : Int) (s2 : ByteArray) (q2 d2 : Int) (s3 : ByteArray) (q3 d3 : Int) (hs1 : s1.size ≤ 9223372036854775807) (wq1 : (Lit.int .u64 q1).wf = true) (wd1 : (Lit.int .i64 d1).wf = true) (hs2 : s2.size ≤ 9223372036854775807) (wq2 : (Lit.int .u64 q2).wf = true) (wd2 : (Lit.int .i64 d2).wf = true) (hs3 : s3.size ≤ 9223372036854775807) (wq3 : (Lit.int .u64 q3).wf = true) (wd3 : (Lit.int .i64 d3).wf = true) :
    ∃ k, staddlelaw02_IkeyLines.f k s1 q1 d1 s2 q2 d2 s3 q3 d3 = some true := by
  have ht := kcmp_trans s1 q1 d1 s2 q2 d2 s3 q3 d3
  have hr := kcmp_range s1 q1 d1 s2 q2 d2
  have hz := kcmp_zero s1 q1 d1 s2 q2 d2
  have hself := (kcmp_zero s1 q1 d1 s1 q1 d1).2 ⟨rfl, rfl, rfl⟩
  have hn := kcmp_neg s1 q1 d1 s2 q2 d2
  have hb : ((kcmp s1 q1 d1 s2 q2 d2 == 0) != (s1.toList == s2.toList && (q1 == q2 && (d1 == d2)))) = false := by
    have hs : s1.toList = s2.toList ↔ s1 = s2 := by rw [ByteArray.toList_eq, ByteArray.toList_eq]; exact ⟨ba_ext, fun h => by rw [h]⟩
    by_cases h : kcmp s1 q1 d1 s2 q2 d2 = 0
    · obtain ⟨rfl, rfl, rfl⟩ := hz.1 h
      simp [h]
    · have : ¬ (s1.toList = s2.toList ∧ q1 = q2 ∧ d1 = d2) := fun g => h (hz.2 ⟨hs.1 g.1, g.2⟩)
      simp only [bne_eq_false_iff_eq]
      rw [beq_eq_false_iff_ne.2 h]
      symm
      rw [Bool.and_eq_false_iff, Bool.and_eq_false_iff]
      simp only [beq_eq_false_iff_ne]
      by_cases e1 : s1.toList = s2.toList
      · by_cases e2 : q1 = q2
        · exact .inr (.inr fun e3 => this ⟨e1, e2, e3⟩)
        · exact .inr (.inl e2)
      · exact .inl e1
  have h : Ev (fun k => staddlelaw02_IkeyLines.f k s1 q1 d1 s2 q2 d2 s3 q3 d3) true := by
    unfold staddlelaw02_IkeyLines.f
    refine Ev.bind awake_ev ?_
    simp only [Compare_eq, Option.bind_some]
    refine Ev.ifT hself (Ev.ifT (by rw [hn, w64 (by omega) (by omega)]) ?_)
    rw [hb]
    generalize kcmp s1 q1 d1 s2 q2 d2 = x at *
    generalize kcmp s2 q2 d2 s3 q3 d3 = y at *
    generalize kcmp s1 q1 d1 s3 q3 d3 = z at *
    refine Ev.step (f := fun _ => some true) (fun k => ?_) (Ev.now _)
    simp only [staddlelaw02_IkeyLines.j0]
    rw [if_neg (by decide)]
    have e1 : decide (x ≤ 1) = true := decide_eq_true hr.2
    by_cases hx : x ≤ 0
    · rw [if_pos hx]
      by_cases hy : y ≤ 0
      · rw [if_pos hy, if_neg (by have := (ht hx hy).1; omega)]
        by_cases hy2 : y < 0
        · rw [if_pos hy2, if_neg (by have := (ht hx hy).2 hy2; omega), if_pos trivial, if_pos (by omega), e1]
        · rw [if_neg hy2, if_pos trivial, if_pos (by omega), e1]
      · rw [if_neg hy, if_neg (by omega), if_pos trivial, if_pos (by omega), e1]
    · rw [if_neg hx, if_pos trivial, if_pos (by omega), e1]
  exact h.rounds
end Go.Proofs.Ytlbnibkmjiapaaa.Pure
