/- What is proved: for all entries, any two intervals and every key staddlelaw11.BlockIntervals answers true. No condition but that the arguments can stand in memory. -/
import Derived.Test.YtppkpleagnddeaaBI
import Derived.Test.YtppkpleagnddeaaQBack
namespace Go.Proofs.Ytppkpleagnddeaa.Pure
open Go.RowKit Go.Proofs.YtppkpleagnddeaaW.PrintWords Go.Proofs.YtppkpleagnddeaaW.PrintLast Go.Proofs.YtppkpleagnddeaaW.PrintMore Go.Proofs.Ytppkpleagnddeaa.P Go.Proofs.Ytppkpleagnddeaa.M Go.Proofs.Ytppkpleagnddeaa.Q Go.Proofs.Ytppkpleagnddeaa.B

theorem mks_count (iv : Nat) (h1 : 1 ≤ iv) : ∀ (l : List S42) (i : Nat) (last : List Int) (o : Nat), (mks iv i last o l).length + (i + iv - 1) / iv = (i + l.length + iv - 1) / iv
  | [], i, last, o => by simp [mks]
  | e :: t, i, last, o => by
    have ih := mks_count iv h1 t (i + 1) (kb e) (o + (ent (nsh iv i last (kb e)) (kb e) e.f1).length)
    rw [show i + 1 + iv - 1 = i + iv by omega, Nat.add_div_right _ (by omega)] at ih
    rw [mks, List.length_append, List.length_cons, show i + (t.length + 1) + iv - 1 = i + 1 + t.length + iv - 1 by omega, ← ih]
    have hdm := Nat.div_add_mod i iv
    have hml := Nat.mod_lt i (show 0 < iv by omega)
    by_cases hm : i % iv = 0
    · rw [if_pos hm, List.length_singleton]
      have : (i + iv - 1) / iv = i / iv := by
        rw [show i + iv - 1 = iv - 1 + iv * (i / iv) by omega, Nat.add_mul_div_left _ _ (by omega), Nat.div_eq_of_lt (by omega), Nat.zero_add]
      omega
    · rw [if_neg hm, List.length_nil]
      have : (i + iv - 1) / iv = i / iv + 1 := by
        rw [show i + iv - 1 = (i % iv - 1) + iv * (i / iv + 1) by rw [Nat.mul_add, Nat.mul_one]; omega, Nat.add_mul_div_left _ _ (by omega), Nat.div_eq_of_lt (by omega), Nat.zero_add]
      omega
theorem mks_few {a b : Nat} (h1 : 1 ≤ a) (hab : a ≤ b) (l : List S42) : (mks b 0 [] 0 l).length ≤ (mks a 0 [] 0 l).length := by
  have ha := mks_count a h1 l 0 [] 0
  have hb := mks_count b (by omega) l 0 [] 0
  rw [Nat.zero_add, Nat.zero_add, Nat.div_eq_of_lt (by omega), Nat.add_zero] at ha hb
  rw [ha, hb]
  have h2 : l.length ≤ (l.length + a - 1) / a * b := by
    have h3 := Nat.div_add_mod (l.length + a - 1) a
    have h4 := Nat.mod_lt (l.length + a - 1) (show 0 < a by omega)
    have h5 : a * ((l.length + a - 1) / a) ≤ (l.length + a - 1) / a * b := by rw [Nat.mul_comm a]; exact Nat.mul_le_mul_left _ hab
    omega
  have h6 : (l.length + b - 1) / b < (l.length + a - 1) / a + 1 := (Nat.div_lt_iff_lt_mul (by omega)).2 (by rw [Nat.add_mul, Nat.one_mul]; omega)
  omega
theorem rd_two (p : List Int) (a b : Int) (t : List Int) : rd (p ++ a :: b :: t) (p.length : Int) = a ∧ rd (p ++ a :: b :: t) ((p.length + 1 : Nat) : Int) = b := by
  unfold rd
  rw [Int.toNat_natCast, Int.toNat_natCast, List.getD_eq_getElem?_getD, List.getD_eq_getElem?_getD, List.getElem?_append_right (by omega), List.getElem?_append_right (by omega), Nat.sub_self, Nat.add_sub_cancel_left]
  exact ⟨rfl, rfl⟩
theorem lay_ends (iv : Nat) (l : List S42) (hf : Fit l) (hl : l.length ≤ 1000) : rd (lay iv l) (((lay iv l).length - 4 : Nat) : Int) = (((mks iv 0 [] 0 l).length % 256 : Nat) : Int) ∧ rd (lay iv l) (((lay iv l).length - 3 : Nat) : Int) = (((mks iv 0 [] 0 l).length / 256 % 256 : Nat) : Int) := by
  obtain ⟨hlen, _⟩ := lay_length iv l hf hl
  have hlay : lay iv l = (body iv 0 [] l ++ (mfx (mks iv 0 [] 0 l) ++ [(iv : Int)])) ++ fx 4 (mks iv 0 [] 0 l).length := by unfold lay; simp
  have hpre : (body iv 0 [] l ++ (mfx (mks iv 0 [] 0 l) ++ [(iv : Int)])).length = (lay iv l).length - 4 := by simp only [List.length_append, mfx_length, List.length_singleton]; omega
  have hfx : fx 4 (mks iv 0 [] 0 l).length = (((mks iv 0 [] 0 l).length % 256 : Nat) : Int) :: (((mks iv 0 [] 0 l).length / 256 % 256 : Nat) : Int) :: fx 2 ((mks iv 0 [] 0 l).length / 256 / 256) := by rw [fx, fx]
  rw [hfx] at hlay
  have h := rd_two (body iv 0 [] l ++ (mfx (mks iv 0 [] 0 l) ++ [(iv : Int)])) (((mks iv 0 [] 0 l).length % 256 : Nat) : Int) (((mks iv 0 [] 0 l).length / 256 % 256 : Nat) : Int) (fx 2 ((mks iv 0 [] 0 l).length / 256 / 256))
  rw [← hlay, hpre] at h
  rw [show (lay iv l).length - 3 = (lay iv l).length - 4 + 1 by omega]
  exact h
theorem BlockIntervalsS (l0 : List S42) (a1 a2 : Int) (q0 : ByteArray) (q1 q2 : Int) (_h0 : l0.length * 48 ≤ 140737488351232) (w0 : ∀ x ∈ l0, (Lit.int .u64 x.f0.f1).wf = true ∧ (Lit.int .i64 x.f0.f2).wf = true ∧ x.f0.f0.size ≤ 9223372036854775807 ∧ x.f1.size ≤ 9223372036854775807) (_w1 : (Lit.int .i64 a1).wf = true) (_w2 : (Lit.int .i64 a2).wf = true)
    (_z : q0.size ≤ 9223372036854775807) (_v1 : (Lit.int .u64 q1).wf = true) (_v2 : (Lit.int .i64 q2).wf = true) : ∃ k, B.Ints k l0 a1 a2 ⟨q0, q1, q2⟩ ∧ true = true := by
  have hl := cut_len l0
  have hq : ∀ e ∈ cut l0, 0 ≤ e.f0.f1 := fun e he => (wf_u64 (w0 e (cut_mem he)).1).1
  obtain ⟨K1, e1⟩ := Build_ev (cut l0) a1 hl hq
  obtain ⟨K2, e2⟩ := Build_ev (cut l0) a2 hl hq
  have okv : ∀ a : Int, (blt (cut l0) a).2 = 0 → (1 ≤ a ∧ a ≤ 16) ∧ ck none (cut l0) = 0 := by
    intro a h
    unfold blt at h
    by_cases h1 : a < 1 ∨ 16 < a
    · rw [if_pos h1] at h; exact absurd h (by decide)
    · rw [if_neg h1] at h
      by_cases hc : ck none (cut l0) = 0
      · exact ⟨by omega, hc⟩
      · rw [if_neg hc] at h; exact absurd h hc
  by_cases hz : (blt (cut l0) a1).2 = 0 ∧ (blt (cut l0) a2).2 = 0
  · obtain ⟨⟨ha1, ha2⟩, hc⟩ := okv a1 hz.1
    obtain ⟨⟨hb1, hb2⟩, _⟩ := okv a2 hz.2
    clear okv hz
    obtain ⟨ia, rfl⟩ : ∃ iv : Nat, a1 = (iv : Int) := ⟨a1.toNat, by omega⟩
    obtain ⟨ib, rfl⟩ : ∃ iv : Nat, a2 = (iv : Int) := ⟨a2.toNat, by omega⟩
    rw [blt_ok (by omega) (by omega) hc] at e1 e2
    obtain ⟨K3, e3⟩ := open_ev ia (by omega) (by omega) (cut l0) hc hq hl
    obtain ⟨K4, e4⟩ := open_ev ib (by omega) (by omega) (cut l0) hc hq hl
    obtain ⟨K5, e5⟩ := find_ev (cut l0) ia ⟨q0, q1, q2⟩ (by omega) (by omega) (by omega) hc
    obtain ⟨K6, e6⟩ := find_ev (cut l0) ib ⟨q0, q1, q2⟩ (by omega) (by omega) (by omega) hc
    have hf := Fit.of hc hq
    obtain ⟨la, lb⟩ := lay_length ia (cut l0) hf hl
    obtain ⟨lc, ld⟩ := lay_length ib (cut l0) hf hl
    obtain ⟨r1, r2⟩ := lay_ends ia (cut l0) hf hl
    obtain ⟨r3, r4⟩ := lay_ends ib (cut l0) hf hl
    have m1 := mks_length ia (cut l0) 0 [] 0
    have m2 := mks_length ib (cut l0) 0 [] 0
    refine ⟨K1 + K2 + K3 + K4 + K5 + K6, ⟨_, _, _, _, e1 _ (by omega), e2 _ (by omega), fun _ _ => ⟨ia, ib, rfl, rfl, e3 _ (by omega), e4 _ (by omega), ⟨_, e5 _ (by omega), e6 _ (by omega)⟩, by omega, by omega, by omega, by omega, _, _, _, _, Nat.mod_lt _ (by decide), Nat.mod_lt _ (by decide), Nat.mod_lt _ (by decide), Nat.mod_lt _ (by decide), r1, r2, r3, r4, fun hab => ?_⟩⟩, rfl⟩
    have := mks_few (a := ia) (b := ib) (by omega) hab (cut l0)
    omega
  · refine ⟨K1 + K2, ⟨_, _, _, _, e1 _ (by omega), e2 _ (by omega), fun ha hb => absurd ⟨ha, hb⟩ hz⟩, rfl⟩
end Go.Proofs.Ytppkpleagnddeaa.Pure
