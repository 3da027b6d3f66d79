/- What is proved: for all numbers and operations staddlelaw03.BatchNumbers answers true. No condition but that the arguments can stand in memory. -/
import Derived.Test.YtojnhecpjnoipaaP18
import Derived.Test.YtojnhecpjnoipaaQBatchDec
import Derived.Test.YtojnhecpjnoipaaQAwake03
namespace Go.Proofs.Ytojnhecpjnoipaa.Pure
open Go.RowKit Go.Proofs.YtojnhecpjnoipaaW.PrintWords Go.Proofs.YtojnhecpjnoipaaW.PrintLast Go.Proofs.YtojnhecpjnoipaaW.PrintMore Go.Proofs.Ytojnhecpjnoipaa.P Go.Proofs.Ytojnhecpjnoipaa.M Go.Proofs.Ytojnhecpjnoipaa.Q

theorem last_in (l : List S39) (h : l.length ≤ 64) : 0 ≤ last l ∧ last l ≤ 63 := by unfold last; split <;> omega
theorem chk_from {l : List S39} (h : chk 0 l = 0) (a : Int) : chk a l = if 72057594037927935 < a + last l then 22 else 0 := by
  obtain ⟨h1, h2, h3⟩ := chk_zero h
  unfold chk
  rw [if_neg (by omega), chkl_ok h3]
theorem chk_not {l : List S39} (h : chk 0 l ≠ 0) (a : Int) : chk a l ≠ 0 := by
  intro ha
  obtain ⟨h1, h2, h3⟩ := chk_zero ha
  apply h
  have := last_in l h1
  unfold chk
  rw [if_neg (by omega), if_neg (by omega), chkl_ok h3]
theorem fx8_inj {a b : Int} (ha : 0 ≤ a) (hb : 0 ≤ b) (ha' : a < 18446744073709551616) (hb' : b < 18446744073709551616) (h : fx 8 a.toNat = fx 8 b.toNat) : a = b := by
  have h1 := fxd_fx 8 a.toNat
  have h2 := fxd_fx 8 b.toNat
  rw [h, h2, Nat.mod_eq_of_lt (by omega), Nat.mod_eq_of_lt (by omega)] at h1
  omega
theorem numbers_j1 (a b : Int) (l : List S39) (ha : 0 ≤ a) (hb : 0 ≤ b) (ha' : a < 18446744073709551616) (hb' : b < 18446744073709551616) :
    Ev (fun k => staddlelaw03_BatchNumbers.j1 k a b true (encR a l).1 (encR a l).2 (encR b l).1 (encR b l).2 false) true := by
  by_cases h : chk a l = 0 ∧ chk b l = 0
  · have e1 : encR a l = (enc a l, 0) := by unfold encR; rw [if_pos h.1]
    have e2 : encR b l = (enc b l, 0) := by unfold encR; rw [if_pos h.2]
    rw [e1, e2]
    have n1 := enc_len a l
    have n2 := enc_len b l
    have t1 : (enc a l).take 8 = fx 8 a.toNat ∧ (enc a l).drop 8 = fx 4 l.length ++ opsB l := by
      unfold enc
      exact ⟨List.take_left' (fx_length 8 _), List.drop_left' (fx_length 8 _)⟩
    have t2 : (enc b l).take 8 = fx 8 b.toNat ∧ (enc b l).drop 8 = fx 4 l.length ++ opsB l := by
      unfold enc
      exact ⟨List.take_left' (fx_length 8 _), List.drop_left' (fx_length 8 _)⟩
    refine Ev.step (f := fun _ => some true) (fun k => ?_) (Ev.now _)
    simp only [staddlelaw03_BatchNumbers.j1]
    rw [if_neg (by decide), if_pos trivial, if_pos trivial, if_pos trivial, if_pos (by omega), if_pos (by omega), t1.1, t1.2, t2.1, t2.2, if_pos rfl]
    congr 1
    by_cases hab : a = b
    · rw [hab]; simp
    · have : ((strOfNums (fx 8 a.toNat)).toList == (strOfNums (fx 8 b.toNat)).toList) = false := beq_eq_false_iff_ne.mpr fun hs => hab (fx8_inj ha hb ha' hb' ((same_str (fx_IsB _ _) (fx_IsB _ _)).1 hs))
      rw [this]
      simp [hab]
  · refine Ev.step (f := fun _ => some true) (fun k => ?_) (Ev.now _)
    simp only [staddlelaw03_BatchNumbers.j1]
    have z : ∀ c, (encR c l).2 = 0 ↔ chk c l = 0 := by
      intro c
      unfold encR
      split
      · rename_i hc; simp [hc]
      · rfl
    rw [if_neg (by decide)]
    by_cases h1 : (encR a l).2 = 0
    · rw [if_pos h1, if_neg (fun h2 => h ⟨(z a).1 h1, (z b).1 h2⟩)]
    · rw [if_neg h1]
theorem numbers_j0 (a b : Int) (l : List S39) (ha : 0 ≤ a) (hb : 0 ≤ b) (ha' : a < 18446744073709551616) (hb' : b < 18446744073709551616) (h0 : chk 0 l = 0) (n : Int) (hn : n = last l) :
    Ev (fun k => staddlelaw03_BatchNumbers.j0 k a b true (encR a l).1 (encR a l).2 (encR b l).1 (encR b l).2 n) true := by
  have hl := last_in l (chk_zero h0).1
  have hw : IntKind.u64.wrap (72057594037927935 - n) = 72057594037927935 - last l := by rw [hn, wU64 (by omega) (by omega)]
  have hc := chk_from h0 a
  refine Ev.step (fun k => ?_) (numbers_j1 a b l ha hb ha' hb')
  simp only [staddlelaw03_BatchNumbers.j0]
  rw [hw]
  by_cases hg : 72057594037927935 < a + last l
  · rw [if_pos hg] at hc
    have e2 : (encR a l).2 = 22 := by unfold encR; rw [if_neg (by omega), hc]
    rw [e2, if_neg (by simp; omega), if_neg (by omega)]
    rfl
  · rw [if_neg hg] at hc
    have e2 : (encR a l).2 = 0 := by unfold encR; rw [if_pos hc]
    rw [e2, if_neg (by simp; omega), if_pos (by omega)]
theorem BatchNumbersS (a0 a1 : Int) (l2 : List S39) (w0 : (Lit.int .u64 a0).wf = true) (w1 : (Lit.int .u64 a1).wf = true) (h2 : l2.length * 40 ≤ 140737488351232) (w2 : ∀ x ∈ l2, (Lit.int .i64 x.f0).wf = true ∧ x.f1.size ≤ 9223372036854775807 ∧ x.f2.size ≤ 9223372036854775807) :
    ∃ k, staddlelaw03_BatchNumbers.f k a0 a1 l2 = some true := by
  obtain ⟨p0, p1⟩ := wf_u64 w0
  obtain ⟨q0, q1⟩ := wf_u64 w1
  have h : Ev (fun k => staddlelaw03_BatchNumbers.f k a0 a1 l2) true := by
    unfold staddlelaw03_BatchNumbers.f
    refine Ev.bind awake_ev (Ev.bind (Encode_ev a0 l2 p0 p1) (Ev.bind (Encode_ev a1 l2 q0 q1) (Ev.bind (Encode_ev 0 l2 (by omega) (by omega)) ?_)))
    by_cases hc : chk 0 l2 = 0
    · have e0 : encR 0 l2 = (enc 0 l2, 0) := by unfold encR; rw [if_pos hc]
      rw [e0]
      refine Ev.ifT rfl ?_
      have hl := (chk_zero hc).1
      have hw : IntKind.u64.wrap (l2.length : Int) = (l2.length : Int) := wU64 (by omega) (by omega)
      rw [hw]
      by_cases hp : (l2.length : Int) > 0
      · refine Ev.ifT hp (numbers_j0 a0 a1 l2 p0 q0 p1 q1 hc _ ?_)
        rw [wU64 (by omega) (by omega)]
        unfold last
        rw [if_neg (by omega)]
      · refine Ev.ifF hp (numbers_j0 a0 a1 l2 p0 q0 p1 q1 hc _ ?_)
        unfold last
        rw [if_pos (by omega)]
        omega
    · have e0 : encR 0 l2 = ([], chk 0 l2) := by unfold encR; rw [if_neg hc]
      have e1 : encR a0 l2 = ([], chk a0 l2) := by unfold encR; rw [if_neg (chk_not hc a0)]
      have e2 : encR a1 l2 = ([], chk a1 l2) := by unfold encR; rw [if_neg (chk_not hc a1)]
      rw [e0, e1, e2]
      refine Ev.ifF hc (Ev.ifT rfl (Ev.ifF (chk_not hc a0) ?_))
      have : (chk a1 l2 != 0) = true := bne_iff_ne.mpr (chk_not hc a1)
      simp only [this]
      exact Ev.now _
  exact h.rounds
end Go.Proofs.Ytojnhecpjnoipaa.Pure
