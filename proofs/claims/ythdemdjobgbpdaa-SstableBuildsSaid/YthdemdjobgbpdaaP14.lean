-- By this session's wip/hprint.py: the kit's print.py with functions by hand beside it. Not trusted: Lean checks it.
import Derived.Test.YthdemdjobgbpdaaP0
namespace Go.Proofs.Ythdemdjobgbpdaa.P
open Go.RowKit Go.Proofs.YthdemdjobgbpdaaW.PrintWords Go.Proofs.YthdemdjobgbpdaaW.PrintLast Go.Proofs.YthdemdjobgbpdaaW.PrintMore
attribute [local go_sem] max2_int min2_int max_two min_two max_three min_three max_four min_four   -- for this text's walks alone
set_option linter.unusedVariables false
set_option linter.unusedSimpArgs false

/-! ### staddleref10_Hash: function 68 -/
mutual
def staddleref10_Hash.l0 : Nat → ByteArray → Int → Int → Option (Int)
  | 0, _, _, _ => none
  | k + 1, x0, x3, x4 => if (wrap64 ((x0.size : Int) - x4)) ≥ 4 then (if 0 ≤ x4 then (if x4 < (x0.size : Int) then (if 0 ≤ (wrap64 (x4 + 1)) then (if (wrap64 (x4 + 1)) < (x0.size : Int) then (if 0 ≤ (wrap64 (x4 + 2)) then (if (wrap64 (x4 + 2)) < (x0.size : Int) then (if 0 ≤ (wrap64 (x4 + 3)) then (if (wrap64 (x4 + 3)) < (x0.size : Int) then (staddleref10_Hash.l0 k x0 (Go.bits .xor .u32 ((((x3 + ((((((((bt x0 x4) % 4294967296) + ((((bt x0 (wrap64 (x4 + 1))) % 4294967296) * 256) % 4294967296)) % 4294967296) + ((((bt x0 (wrap64 (x4 + 2))) % 4294967296) * 65536) % 4294967296)) % 4294967296) + ((((bt x0 (wrap64 (x4 + 3))) % 4294967296) * 16777216) % 4294967296)) % 4294967296)) % 4294967296) * 3332679571) % 4294967296) (((((x3 + ((((((((bt x0 x4) % 4294967296) + ((((bt x0 (wrap64 (x4 + 1))) % 4294967296) * 256) % 4294967296)) % 4294967296) + ((((bt x0 (wrap64 (x4 + 2))) % 4294967296) * 65536) % 4294967296)) % 4294967296) + ((((bt x0 (wrap64 (x4 + 3))) % 4294967296) * 16777216) % 4294967296)) % 4294967296)) % 4294967296) * 3332679571) % 4294967296) / 65536)) (wrap64 (x4 + 4))) else (none)) else (none)) else (none)) else (none)) else (none)) else (none)) else (none)) else (none)) else (if (wrap64 ((x0.size : Int) - x4)) = 3 then (if 0 ≤ (wrap64 (x4 + 2)) then (if (wrap64 (x4 + 2)) < (x0.size : Int) then (staddleref10_Hash.j1 k x0 ((x3 + ((((bt x0 (wrap64 (x4 + 2))) % 4294967296) * 65536) % 4294967296)) % 4294967296) x4 (wrap64 ((x0.size : Int) - x4))) else (none)) else (none)) else (staddleref10_Hash.j1 k x0 x3 x4 (wrap64 ((x0.size : Int) - x4))))
def staddleref10_Hash.j1 : Nat → ByteArray → Int → Int → Int → Option (Int)
  | 0, _, _, _, _ => none
  | k + 1, x0, x3, x4, x6 => if x6 ≥ 2 then (if 0 ≤ (wrap64 (x4 + 1)) then (if (wrap64 (x4 + 1)) < (x0.size : Int) then (if x6 ≥ 1 then (if 0 ≤ x4 then (if x4 < (x0.size : Int) then (some (Go.bits .xor .u32 ((((((x3 + ((((bt x0 (wrap64 (x4 + 1))) % 4294967296) * 256) % 4294967296)) % 4294967296) + ((bt x0 x4) % 4294967296)) % 4294967296) * 3332679571) % 4294967296) (((((((x3 + ((((bt x0 (wrap64 (x4 + 1))) % 4294967296) * 256) % 4294967296)) % 4294967296) + ((bt x0 x4) % 4294967296)) % 4294967296) * 3332679571) % 4294967296) / 16777216))) else (none)) else (none)) else (some ((x3 + ((((bt x0 (wrap64 (x4 + 1))) % 4294967296) * 256) % 4294967296)) % 4294967296))) else (none)) else (none)) else (if x6 ≥ 1 then (if 0 ≤ x4 then (if x4 < (x0.size : Int) then (some (Go.bits .xor .u32 ((((x3 + ((bt x0 x4) % 4294967296)) % 4294967296) * 3332679571) % 4294967296) (((((x3 + ((bt x0 x4) % 4294967296)) % 4294967296) * 3332679571) % 4294967296) / 16777216))) else (none)) else (none)) else (some x3))
end
def staddleref10_Hash.f (k : Nat) (a0 : ByteArray) : Option (Int) := staddleref10_Hash.l0 k a0 (Go.bits .xor .u32 3164544308 (((((a0.size : Int)) % 4294967296) * 3332679571) % 4294967296)) 0
theorem staddleref10_Hash.mono_l : ∀ k, (∀ y0 y1 y2, LeO (staddleref10_Hash.l0 k y0 y1 y2) (staddleref10_Hash.l0 (k + 1) y0 y1 y2)) ∧ (∀ y0 y1 y2 y3, LeO (staddleref10_Hash.j1 k y0 y1 y2 y3) (staddleref10_Hash.j1 (k + 1) y0 y1 y2 y3))
  | 0 => ⟨fun _ _ _ r h => by simp [staddleref10_Hash.l0] at h, fun _ _ _ _ r h => by simp [staddleref10_Hash.j1] at h⟩
  | k + 1 => by
    obtain ⟨ih0, ih1⟩ := staddleref10_Hash.mono_l k
    refine ⟨?_, ?_⟩
    · intro y0 y1 y2
      unfold staddleref10_Hash.l0
      repeat' first
      | (with_reducible exact ih0 _ _ _)
      | (with_reducible exact ih1 _ _ _ _)
      | (with_reducible exact LeO.refl _)
      | (with_reducible exact LeO.none _)
      | (with_reducible refine LeO.ite ?_ ?_)
      | (with_reducible refine LeO.bind ?_ (fun _ => ?_))
      | exact ih0 _ _ _
      | exact ih1 _ _ _ _
      | exact LeO.none _
      | refine LeO.ite ?_ ?_
      | refine LeO.bind ?_ (fun _ => ?_)
    · intro y0 y1 y2 y3
      unfold staddleref10_Hash.j1
      repeat' first
      | (with_reducible exact ih0 _ _ _)
      | (with_reducible exact ih1 _ _ _ _)
      | (with_reducible exact LeO.refl _)
      | (with_reducible exact LeO.none _)
      | (with_reducible refine LeO.ite ?_ ?_)
      | (with_reducible refine LeO.bind ?_ (fun _ => ?_))
      | exact ih0 _ _ _
      | exact ih1 _ _ _ _
      | exact LeO.none _
      | refine LeO.ite ?_ ?_
      | refine LeO.bind ?_ (fun _ => ?_)
theorem staddleref10_Hash.mono : ∀ a0 k, LeO (staddleref10_Hash.f k a0) (staddleref10_Hash.f (k + 1) a0) := by
  intro a0 k
  obtain ⟨ih0, ih1⟩ := staddleref10_Hash.mono_l k
  unfold staddleref10_Hash.f
  repeat' first
      | (with_reducible exact ih0 _ _ _)
      | (with_reducible exact ih1 _ _ _ _)
      | (with_reducible exact LeO.refl _)
      | (with_reducible exact LeO.none _)
      | (with_reducible refine LeO.ite ?_ ?_)
      | (with_reducible refine LeO.bind ?_ (fun _ => ?_))
      | exact ih0 _ _ _
      | exact ih1 _ _ _ _
      | exact LeO.none _
      | refine LeO.ite ?_ ?_
      | refine LeO.bind ?_ (fun _ => ?_)
set_option maxHeartbeats 8000000 in
set_option maxRecDepth 100000 in
theorem staddleref10_Hash.calls (k : Nat) (a0 : ByteArray) (r : Int) (w : World) (h : staddleref10_Hash.f k a0 = some r) :
    Calls Try.prog 68 #[.string a0] w fun e w' => e = .returned (.int .u32 r) ∧ Drawn0 w w' := by
  have H : (staddleref10_Hash.l0 k a0 (Go.bits .xor .u32 3164544308 (((((a0.size : Int)) % 4294967296) * 3332679571) % 4294967296)) 0) = some r := h
  clear h
  have H' := Aside0.mk H
  clear H
  go_enter Try.func68, Try.ntmps68
  go_wp2
  repeat (go_quiet (fail); try go_wp2)
  go_loopg [3, 4] k (fun kq v3 v4 w' => ∃ (x3_1 : Int) (x4_1 : Int), v3 = .int .u32 x3_1 ∧ v4 = .int .i64 x4_1 ∧ Aside0 (staddleref10_Hash.l0 kq a0 x3_1 x4_1 = some r) ∧ Aside0 (kq ≤ k) ∧ Drawn0 w w')
  case atStart => exact ⟨(Go.bits .xor .u32 3164544308 (((((a0.size : Int)) % 4294967296) * 3332679571) % 4294967296)), (0), (by first | rfl | (simp; done) | (simp [*]; done) | (simp; omega)), (by first | rfl | (simp; done) | (simp [*]; done) | (simp; omega)), H', ⟨Nat.le_refl _⟩, by repeat (first | exact Drawn0.refl _ | apply Drawn0.step)⟩
  case round =>
    clear H'
    obtain ⟨x3_1, x4_1, rfl, rfl, HA, HK1, ⟨m1, rfl⟩⟩ := hrel
    cases gk with
    | zero => exact absurd HA.out (by simp [staddleref10_Hash.l0])
    | succ k1 =>
      have H := HA.out
      clear HA
      simp only [staddleref10_Hash.l0] at H
      by_cases c2 : (wrap64 ((a0.size : Int) - x4_1)) ≥ 4
      · rw [if_pos c2] at H
        have c2b0 : decide (4 ≤ (wrap64 ((a0.size : Int) - x4_1))) = true := decide_eq_true c2
        clear c2
        by_cases c3 : 0 ≤ x4_1
        · rw [if_pos c3] at H
          have c3b0 : decide (0 ≤ x4_1) = true := decide_eq_true c3
          clear c3
          by_cases c4 : x4_1 < (a0.size : Int)
          · rw [if_pos c4] at H
            have c4b0 : decide (x4_1 < (a0.size : Int)) = true := decide_eq_true c4
            clear c4
            obtain ⟨ji6, hji6⟩ : ∃ j_ : Int, (wrap64 (x4_1 + 1)) = j_ := ⟨_, rfl⟩
            replace H : (if 0 ≤ (ji6) then (if (ji6) < (a0.size : Int) then (if 0 ≤ (wrap64 (x4_1 + 2)) then (if (wrap64 (x4_1 + 2)) < (a0.size : Int) then (if 0 ≤ (wrap64 (x4_1 + 3)) then (if (wrap64 (x4_1 + 3)) < (a0.size : Int) then (staddleref10_Hash.l0 k1 a0 (Go.bits .xor .u32 ((((x3_1 + ((((((((bt a0 x4_1) % 4294967296) + ((((bt a0 (ji6)) % 4294967296) * 256) % 4294967296)) % 4294967296) + ((((bt a0 (wrap64 (x4_1 + 2))) % 4294967296) * 65536) % 4294967296)) % 4294967296) + ((((bt a0 (wrap64 (x4_1 + 3))) % 4294967296) * 16777216) % 4294967296)) % 4294967296)) % 4294967296) * 3332679571) % 4294967296) (((((x3_1 + ((((((((bt a0 x4_1) % 4294967296) + ((((bt a0 (ji6)) % 4294967296) * 256) % 4294967296)) % 4294967296) + ((((bt a0 (wrap64 (x4_1 + 2))) % 4294967296) * 65536) % 4294967296)) % 4294967296) + ((((bt a0 (wrap64 (x4_1 + 3))) % 4294967296) * 16777216) % 4294967296)) % 4294967296)) % 4294967296) * 3332679571) % 4294967296) / 65536)) (wrap64 (x4_1 + 4))) else (none)) else (none)) else (none)) else (none)) else (none)) else (none)) = some r := by first | (rw [hji6] at H; exact H) | (simp only [hji6] at H ⊢; exact H)
            have hji6w : (IntKind.i64.wrap (x4_1 + 1)) = ji6 := (i64_w _).trans hji6
            by_cases c7 : 0 ≤ (ji6)
            · rw [if_pos c7] at H
              have c7b0 : decide (0 ≤ (ji6)) = true := decide_eq_true c7
              clear c7
              by_cases c8 : (ji6) < (a0.size : Int)
              · rw [if_pos c8] at H
                have c8b0 : decide ((ji6) < (a0.size : Int)) = true := decide_eq_true c8
                clear c8
                obtain ⟨ji10, hji10⟩ : ∃ j_ : Int, (wrap64 (x4_1 + 2)) = j_ := ⟨_, rfl⟩
                replace H : (if 0 ≤ (ji10) then (if (ji10) < (a0.size : Int) then (if 0 ≤ (wrap64 (x4_1 + 3)) then (if (wrap64 (x4_1 + 3)) < (a0.size : Int) then (staddleref10_Hash.l0 k1 a0 (Go.bits .xor .u32 ((((x3_1 + ((((((((bt a0 x4_1) % 4294967296) + ((((bt a0 (ji6)) % 4294967296) * 256) % 4294967296)) % 4294967296) + ((((bt a0 (ji10)) % 4294967296) * 65536) % 4294967296)) % 4294967296) + ((((bt a0 (wrap64 (x4_1 + 3))) % 4294967296) * 16777216) % 4294967296)) % 4294967296)) % 4294967296) * 3332679571) % 4294967296) (((((x3_1 + ((((((((bt a0 x4_1) % 4294967296) + ((((bt a0 (ji6)) % 4294967296) * 256) % 4294967296)) % 4294967296) + ((((bt a0 (ji10)) % 4294967296) * 65536) % 4294967296)) % 4294967296) + ((((bt a0 (wrap64 (x4_1 + 3))) % 4294967296) * 16777216) % 4294967296)) % 4294967296)) % 4294967296) * 3332679571) % 4294967296) / 65536)) (wrap64 (x4_1 + 4))) else (none)) else (none)) else (none)) else (none)) = some r := by first | (rw [hji10] at H; exact H) | (simp only [hji10] at H ⊢; exact H)
                have hji10w : (IntKind.i64.wrap (x4_1 + 2)) = ji10 := (i64_w _).trans hji10
                by_cases c11 : 0 ≤ (ji10)
                · rw [if_pos c11] at H
                  have c11b0 : decide (0 ≤ (ji10)) = true := decide_eq_true c11
                  clear c11
                  by_cases c12 : (ji10) < (a0.size : Int)
                  · rw [if_pos c12] at H
                    have c12b0 : decide ((ji10) < (a0.size : Int)) = true := decide_eq_true c12
                    clear c12
                    obtain ⟨ji14, hji14⟩ : ∃ j_ : Int, (wrap64 (x4_1 + 3)) = j_ := ⟨_, rfl⟩
                    replace H : (if 0 ≤ (ji14) then (if (ji14) < (a0.size : Int) then (staddleref10_Hash.l0 k1 a0 (Go.bits .xor .u32 ((((x3_1 + ((((((((bt a0 x4_1) % 4294967296) + ((((bt a0 (ji6)) % 4294967296) * 256) % 4294967296)) % 4294967296) + ((((bt a0 (ji10)) % 4294967296) * 65536) % 4294967296)) % 4294967296) + ((((bt a0 (ji14)) % 4294967296) * 16777216) % 4294967296)) % 4294967296)) % 4294967296) * 3332679571) % 4294967296) (((((x3_1 + ((((((((bt a0 x4_1) % 4294967296) + ((((bt a0 (ji6)) % 4294967296) * 256) % 4294967296)) % 4294967296) + ((((bt a0 (ji10)) % 4294967296) * 65536) % 4294967296)) % 4294967296) + ((((bt a0 (ji14)) % 4294967296) * 16777216) % 4294967296)) % 4294967296)) % 4294967296) * 3332679571) % 4294967296) / 65536)) (wrap64 (x4_1 + 4))) else (none)) else (none)) = some r := by first | (rw [hji14] at H; exact H) | (simp only [hji14] at H ⊢; exact H)
                    have hji14w : (IntKind.i64.wrap (x4_1 + 3)) = ji14 := (i64_w _).trans hji14
                    by_cases c15 : 0 ≤ (ji14)
                    · rw [if_pos c15] at H
                      have c15b0 : decide (0 ≤ (ji14)) = true := decide_eq_true c15
                      clear c15
                      by_cases c16 : (ji14) < (a0.size : Int)
                      · rw [if_pos c16] at H
                        have c16b0 : decide ((ji14) < (a0.size : Int)) = true := decide_eq_true c16
                        clear c16
                        have H' := Aside0.mk H
                        clear H
                        have p5 : 0 ≤ (x4_1 : Int) := of_decide_eq_true (by first | (with_reducible assumption) | assumption)
                        have q5 : x4_1 < (a0.size : Int) := of_decide_eq_true (by first | (with_reducible assumption) | assumption)
                        have hx5 := bt_at a0 x4_1
                        replace p5 := eq_true p5
                        replace q5 := eq_true q5
                        have p9 : 0 ≤ ((ji6) : Int) := of_decide_eq_true (by first | (with_reducible assumption) | assumption)
                        have q9 : (ji6) < (a0.size : Int) := of_decide_eq_true (by first | (with_reducible assumption) | assumption)
                        have hx9 := bt_at a0 (ji6)
                        replace p9 := eq_true p9
                        replace q9 := eq_true q9
                        have p13 : 0 ≤ ((ji10) : Int) := of_decide_eq_true (by first | (with_reducible assumption) | assumption)
                        have q13 : (ji10) < (a0.size : Int) := of_decide_eq_true (by first | (with_reducible assumption) | assumption)
                        have hx13 := bt_at a0 (ji10)
                        replace p13 := eq_true p13
                        replace q13 := eq_true q13
                        have p17 : 0 ≤ ((ji14) : Int) := of_decide_eq_true (by first | (with_reducible assumption) | assumption)
                        have q17 : (ji14) < (a0.size : Int) := of_decide_eq_true (by first | (with_reducible assumption) | assumption)
                        have hx17 := bt_at a0 (ji14)
                        replace p17 := eq_true p17
                        replace q17 := eq_true q17
                        go_wp2
                        repeat (go_quiet (fail); try go_wp2)
                        go_roundg k1
                        case measure => have := HK1.out; omega
                        case rel => exact ⟨(Go.bits .xor .u32 ((((x3_1 + ((((((((bt a0 x4_1) % 4294967296) + ((((bt a0 (ji6)) % 4294967296) * 256) % 4294967296)) % 4294967296) + ((((bt a0 (ji10)) % 4294967296) * 65536) % 4294967296)) % 4294967296) + ((((bt a0 (ji14)) % 4294967296) * 16777216) % 4294967296)) % 4294967296)) % 4294967296) * 3332679571) % 4294967296) (((((x3_1 + ((((((((bt a0 x4_1) % 4294967296) + ((((bt a0 (ji6)) % 4294967296) * 256) % 4294967296)) % 4294967296) + ((((bt a0 (ji10)) % 4294967296) * 65536) % 4294967296)) % 4294967296) + ((((bt a0 (ji14)) % 4294967296) * 16777216) % 4294967296)) % 4294967296)) % 4294967296) * 3332679571) % 4294967296) / 65536)), (wrap64 (x4_1 + 4)), (by first | rfl | (simp; done) | (simp only [← hji6, ← hji10, ← hji14] <;> (first | rfl | simp)) | (simp [*]; done)), (by first | rfl | (simp; done) | (simp [*]; done) | (simp; omega)), H', ⟨by have := HK1.out; omega⟩, by repeat (first | exact Drawn0.refl _ | apply Drawn0.step)⟩
                      · rw [if_neg c16] at H
                        exact absurd H (by simp)
                    · rw [if_neg c15] at H
                      exact absurd H (by simp)
                  · rw [if_neg c12] at H
                    exact absurd H (by simp)
                · rw [if_neg c11] at H
                  exact absurd H (by simp)
              · rw [if_neg c8] at H
                exact absurd H (by simp)
            · rw [if_neg c7] at H
              exact absurd H (by simp)
          · rw [if_neg c4] at H
            exact absurd H (by simp)
        · rw [if_neg c3] at H
          exact absurd H (by simp)
      · rw [if_neg c2] at H
        have c2b0 : decide (4 ≤ (wrap64 ((a0.size : Int) - x4_1))) = false := decide_eq_false c2
        clear c2
        have HC18 := Aside0.mk H
        clear H
        go_upto_if 58 with (fail)
        repeat (go_quiet (fail); go_upto_if 58 with (fail))
        go_cut [3] (fun v3 wc => ∃ (kq : Nat) (x3_17 : Int), v3 = .int .u32 x3_17 ∧ Aside0 (staddleref10_Hash.j1 kq a0 x3_17 x4_1 (wrap64 ((a0.size : Int) - x4_1)) = some r) ∧ Aside0 (kq ≤ k1) ∧ Drawn0 w wc)
        case first =>
          have H := HC18.out
          clear HC18
          by_cases c19 : (wrap64 ((a0.size : Int) - x4_1)) = 3
          · rw [if_pos c19] at H
            have c19b0 : ((wrap64 ((a0.size : Int) - x4_1)) == 3) = true := beq_iff_eq.mpr c19
            have c19b1 : ((wrap64 ((a0.size : Int) - x4_1)) != 3) = false := bne_eq_false_iff_eq.mpr c19
            clear c19
            (first | rw [c19b0] | (simp only [i64_w, i32_w]; rw [c19b0]) | skip)
            obtain ⟨ji20, hji20⟩ : ∃ j_ : Int, (wrap64 (x4_1 + 2)) = j_ := ⟨_, rfl⟩
            replace H : (if 0 ≤ (ji20) then (if (ji20) < (a0.size : Int) then (staddleref10_Hash.j1 k1 a0 ((x3_1 + ((((bt a0 (ji20)) % 4294967296) * 65536) % 4294967296)) % 4294967296) x4_1 (wrap64 ((a0.size : Int) - x4_1))) else (none)) else (none)) = some r := by first | (rw [hji20] at H; exact H) | (simp only [hji20] at H ⊢; exact H)
            have hji20w : (IntKind.i64.wrap (x4_1 + 2)) = ji20 := (i64_w _).trans hji20
            by_cases c21 : 0 ≤ (ji20)
            · rw [if_pos c21] at H
              have c21b0 : decide (0 ≤ (ji20)) = true := decide_eq_true c21
              clear c21
              by_cases c22 : (ji20) < (a0.size : Int)
              · rw [if_pos c22] at H
                have c22b0 : decide ((ji20) < (a0.size : Int)) = true := decide_eq_true c22
                clear c22
                have H' := Aside0.mk H
                clear H
                have p23 : 0 ≤ ((ji20) : Int) := of_decide_eq_true (by first | (with_reducible assumption) | assumption)
                have q23 : (ji20) < (a0.size : Int) := of_decide_eq_true (by first | (with_reducible assumption) | assumption)
                have hx23 := bt_at a0 (ji20)
                replace p23 := eq_true p23
                replace q23 := eq_true q23
                go_wp2
                repeat (go_quiet (fail); try go_wp2)
                go_meet
                case rel => exact ⟨_, ((x3_1 + ((((bt a0 (ji20)) % 4294967296) * 65536) % 4294967296)) % 4294967296), (by first | rfl | (simp; done) | (simp only [← hji20] <;> (first | rfl | simp)) | (simp [*]; done)), H', ⟨by have := HK1.out; first | omega | exact Nat.le_refl _⟩, by repeat (first | exact Drawn0.refl _ | apply Drawn0.step)⟩
              · rw [if_neg c22] at H
                exact absurd H (by simp)
            · rw [if_neg c21] at H
              exact absurd H (by simp)
          · rw [if_neg c19] at H
            have c19b0 : ((wrap64 ((a0.size : Int) - x4_1)) == 3) = false := beq_eq_false_iff_ne.mpr c19
            have c19b1 : ((wrap64 ((a0.size : Int) - x4_1)) != 3) = true := bne_iff_ne.mpr c19
            (first | rw [c19b0] | (simp only [i64_w, i32_w]; rw [c19b0]) | skip)
            have H' := Aside0.mk H
            clear H
            go_wp2
            repeat (go_quiet (fail); try go_wp2)
            go_meet
            case rel => exact ⟨_, (x3_1), (by first | rfl | (simp; done) | (simp [*]; done) | (simp; omega)), H', ⟨by have := HK1.out; first | omega | exact Nat.le_refl _⟩, by repeat (first | exact Drawn0.refl _ | apply Drawn0.step)⟩
        case rest =>
          clear HC18
          try clear c1
          try clear p1
          try clear q1
          try clear hx1
          try clear c2
          try clear c2b0
          try clear p2
          try clear q2
          try clear hx2
          try clear c3
          try clear c3b0
          try clear c4
          try clear c4b0
          try clear p5
          try clear q5
          try clear hx5
          try clear c6
          try clear p6
          try clear c7
          try clear c7b0
          try clear c8
          try clear c8b0
          try clear p9
          try clear q9
          try clear hx9
          try clear c11
          try clear c11b0
          try clear c12
          try clear c12b0
          try clear p13
          try clear q13
          try clear hx13
          try clear c15
          try clear c15b0
          try clear c16
          try clear c16b0
          try clear p17
          try clear q17
          try clear hx17
          try clear c19
          try clear c19b0
          try clear c19b1
          try clear c21
          try clear c21b0
          try clear c22
          try clear c22b0
          try clear p23
          try clear q23
          try clear hx23
          try clear p13
          try clear p17
          try clear p23
          try clear p5
          try clear p9
          try clear q13
          try clear q17
          try clear q23
          try clear q5
          try clear q9
          obtain ⟨kq, x3_17, rfl, HA, HJ17, ⟨mc17, rfl⟩⟩ := hcut
          cases kq with
          | zero => exact absurd HA.out (by simp [staddleref10_Hash.j1])
          | succ kj17 =>
            have H := HA.out
            clear HA
            simp only [staddleref10_Hash.j1] at H
            by_cases c24 : (wrap64 ((a0.size : Int) - x4_1)) ≥ 2
            · rw [if_pos c24] at H
              have c24b0 : decide (2 ≤ (wrap64 ((a0.size : Int) - x4_1))) = true := decide_eq_true c24
              clear c24
              obtain ⟨ji25, hji25⟩ : ∃ j_ : Int, (wrap64 (x4_1 + 1)) = j_ := ⟨_, rfl⟩
              replace H : (if 0 ≤ (ji25) then (if (ji25) < (a0.size : Int) then (if (wrap64 ((a0.size : Int) - x4_1)) ≥ 1 then (if 0 ≤ x4_1 then (if x4_1 < (a0.size : Int) then (some (Go.bits .xor .u32 ((((((x3_17 + ((((bt a0 (ji25)) % 4294967296) * 256) % 4294967296)) % 4294967296) + ((bt a0 x4_1) % 4294967296)) % 4294967296) * 3332679571) % 4294967296) (((((((x3_17 + ((((bt a0 (ji25)) % 4294967296) * 256) % 4294967296)) % 4294967296) + ((bt a0 x4_1) % 4294967296)) % 4294967296) * 3332679571) % 4294967296) / 16777216))) else (none)) else (none)) else (some ((x3_17 + ((((bt a0 (ji25)) % 4294967296) * 256) % 4294967296)) % 4294967296))) else (none)) else (none)) = some r := by first | (rw [hji25] at H; exact H) | (simp only [hji25] at H ⊢; exact H)
              have hji25w : (IntKind.i64.wrap (x4_1 + 1)) = ji25 := (i64_w _).trans hji25
              by_cases c26 : 0 ≤ (ji25)
              · rw [if_pos c26] at H
                have c26b0 : decide (0 ≤ (ji25)) = true := decide_eq_true c26
                clear c26
                by_cases c27 : (ji25) < (a0.size : Int)
                · rw [if_pos c27] at H
                  have c27b0 : decide ((ji25) < (a0.size : Int)) = true := decide_eq_true c27
                  clear c27
                  by_cases c29 : (wrap64 ((a0.size : Int) - x4_1)) ≥ 1
                  · rw [if_pos c29] at H
                    have c29b0 : decide (1 ≤ (wrap64 ((a0.size : Int) - x4_1))) = true := decide_eq_true c29
                    clear c29
                    by_cases c30 : 0 ≤ x4_1
                    · rw [if_pos c30] at H
                      have c30b0 : decide (0 ≤ x4_1) = true := decide_eq_true c30
                      clear c30
                      by_cases c31 : x4_1 < (a0.size : Int)
                      · rw [if_pos c31] at H
                        have c31b0 : decide (x4_1 < (a0.size : Int)) = true := decide_eq_true c31
                        clear c31
                        obtain rfl := Option.some.inj H
                        have p28 : 0 ≤ ((ji25) : Int) := of_decide_eq_true (by first | (with_reducible assumption) | assumption)
                        have q28 : (ji25) < (a0.size : Int) := of_decide_eq_true (by first | (with_reducible assumption) | assumption)
                        have hx28 := bt_at a0 (ji25)
                        replace p28 := eq_true p28
                        replace q28 := eq_true q28
                        have p32 : 0 ≤ (x4_1 : Int) := of_decide_eq_true (by first | (with_reducible assumption) | assumption)
                        have q32 : x4_1 < (a0.size : Int) := of_decide_eq_true (by first | (with_reducible assumption) | assumption)
                        have hx32 := bt_at a0 x4_1
                        replace p32 := eq_true p32
                        replace q32 := eq_true q32
                        go_wp2
                        repeat (go_quiet (fail); try go_wp2)
                        go_ret
                        exact ⟨by first | rfl | (simp; done) | (simp only [← hji25] <;> (first | rfl | simp)) | (simp [*]; done), by repeat (first | exact Drawn0.refl _ | apply Drawn0.step)⟩
                      · rw [if_neg c31] at H
                        exact absurd H (by simp)
                    · rw [if_neg c30] at H
                      exact absurd H (by simp)
                  · rw [if_neg c29] at H
                    have c29b0 : decide (1 ≤ (wrap64 ((a0.size : Int) - x4_1))) = false := decide_eq_false c29
                    clear c29
                    obtain rfl := Option.some.inj H
                    have p28 : 0 ≤ ((ji25) : Int) := of_decide_eq_true (by first | (with_reducible assumption) | assumption)
                    have q28 : (ji25) < (a0.size : Int) := of_decide_eq_true (by first | (with_reducible assumption) | assumption)
                    have hx28 := bt_at a0 (ji25)
                    replace p28 := eq_true p28
                    replace q28 := eq_true q28
                    go_wp2
                    repeat (go_quiet (fail); try go_wp2)
                    go_ret
                    exact ⟨by first | rfl | (simp; done) | (simp only [← hji25] <;> (first | rfl | simp)) | (simp [*]; done), by repeat (first | exact Drawn0.refl _ | apply Drawn0.step)⟩
                · rw [if_neg c27] at H
                  exact absurd H (by simp)
              · rw [if_neg c26] at H
                exact absurd H (by simp)
            · rw [if_neg c24] at H
              have c24b0 : decide (2 ≤ (wrap64 ((a0.size : Int) - x4_1))) = false := decide_eq_false c24
              clear c24
              by_cases c33 : (wrap64 ((a0.size : Int) - x4_1)) ≥ 1
              · rw [if_pos c33] at H
                have c33b0 : decide (1 ≤ (wrap64 ((a0.size : Int) - x4_1))) = true := decide_eq_true c33
                clear c33
                by_cases c34 : 0 ≤ x4_1
                · rw [if_pos c34] at H
                  have c34b0 : decide (0 ≤ x4_1) = true := decide_eq_true c34
                  clear c34
                  by_cases c35 : x4_1 < (a0.size : Int)
                  · rw [if_pos c35] at H
                    have c35b0 : decide (x4_1 < (a0.size : Int)) = true := decide_eq_true c35
                    clear c35
                    obtain rfl := Option.some.inj H
                    have p36 : 0 ≤ (x4_1 : Int) := of_decide_eq_true (by first | (with_reducible assumption) | assumption)
                    have q36 : x4_1 < (a0.size : Int) := of_decide_eq_true (by first | (with_reducible assumption) | assumption)
                    have hx36 := bt_at a0 x4_1
                    replace p36 := eq_true p36
                    replace q36 := eq_true q36
                    go_wp2
                    repeat (go_quiet (fail); try go_wp2)
                    go_ret
                    exact ⟨by first | rfl | (simp; done) | (simp [*]; done) | (simp; omega), by repeat (first | exact Drawn0.refl _ | apply Drawn0.step)⟩
                  · rw [if_neg c35] at H
                    exact absurd H (by simp)
                · rw [if_neg c34] at H
                  exact absurd H (by simp)
              · rw [if_neg c33] at H
                have c33b0 : decide (1 ≤ (wrap64 ((a0.size : Int) - x4_1))) = false := decide_eq_false c33
                clear c33
                obtain rfl := Option.some.inj H
                go_wp2
                repeat (go_quiet (fail); try go_wp2)
                go_ret
                exact ⟨by first | rfl | (simp; done) | (simp [*]; done) | (simp; omega), by repeat (first | exact Drawn0.refl _ | apply Drawn0.step)⟩

/-! ### staddleref10_places: function 49 -/
def staddleref10_places.l0 : Nat → Int → Int → Int → Int → List Int → Int → Option (List Int)
  | 0, _, _, _, _, _, _ => none
  | k + 1, x1, x2, x7, x8, x9, x10 => if x10 < x2 then (if (IntKind.u64.wrap (x1)) = 0 then (none) else (if x9.length < 17592186044416 then (staddleref10_places.l0 k x1 x2 ((x7 + x8) % 4294967296) x8 (x9 ++ [wrap64 (Int.tmod (IntKind.u64.wrap (x7)) (IntKind.u64.wrap (x1)))]) (wrap64 (x10 + 1))) else (none))) else (some x9)
def staddleref10_places.f (k : Nat) (a0 : ByteArray) (a1 : Int) (a2 : Int) : Option (List Int) := (staddleref10_Hash.f k a0).bind fun t206 => (staddleref10_places.l0 k a1 a2 t206 (((t206 / 131072) + ((t206 * 32768) % 4294967296)) % 4294967296) ([] : List Int) 0)
theorem staddleref10_places.mono_l : ∀ k, (∀ y0 y1 y2 y3 y4 y5, LeO (staddleref10_places.l0 k y0 y1 y2 y3 y4 y5) (staddleref10_places.l0 (k + 1) y0 y1 y2 y3 y4 y5))
  | 0 => fun _ _ _ _ _ _ r h => by simp [staddleref10_places.l0] at h
  | k + 1 => by
    have ih0 := staddleref10_places.mono_l k
    · intro y0 y1 y2 y3 y4 y5
      unfold staddleref10_places.l0
      repeat' first
      | (with_reducible exact ih0 _ _ _ _ _ _)
      | (with_reducible exact staddleref10_Hash.mono _ _)
      | (with_reducible exact LeO.refl _)
      | (with_reducible exact LeO.none _)
      | (with_reducible refine LeO.ite ?_ ?_)
      | (with_reducible refine LeO.bind ?_ (fun _ => ?_))
      | exact ih0 _ _ _ _ _ _
      | exact staddleref10_Hash.mono _ _
      | exact LeO.none _
      | refine LeO.ite ?_ ?_
      | refine LeO.bind ?_ (fun _ => ?_)
theorem staddleref10_places.mono : ∀ a0 a1 a2 k, LeO (staddleref10_places.f k a0 a1 a2) (staddleref10_places.f (k + 1) a0 a1 a2) := by
  intro a0 a1 a2 k
  have ih0 := staddleref10_places.mono_l k
  unfold staddleref10_places.f
  repeat' first
      | (with_reducible exact ih0 _ _ _ _ _ _)
      | (with_reducible exact staddleref10_Hash.mono _ _)
      | (with_reducible exact LeO.refl _)
      | (with_reducible exact LeO.none _)
      | (with_reducible refine LeO.ite ?_ ?_)
      | (with_reducible refine LeO.bind ?_ (fun _ => ?_))
      | exact ih0 _ _ _ _ _ _
      | exact staddleref10_Hash.mono _ _
      | exact LeO.none _
      | refine LeO.ite ?_ ?_
      | refine LeO.bind ?_ (fun _ => ?_)
set_option maxHeartbeats 8000000 in
set_option maxRecDepth 100000 in
theorem staddleref10_places.calls (k : Nat) (a0 : ByteArray) (a1 : Int) (a2 : Int) (r : List Int) (w : World) (h : staddleref10_places.f k a0 a1 a2 = some r) :
    Calls Try.prog 49 #[.string a0, .int .i64 a1, .int .i64 a2] w fun e w' => ∃ v0_ : Value, e = .returned (v0_) ∧ Kd.R (Kd.int .i64) 3 w' w.heap.size (fun _ => True) v0_ r ∧ Below w.heap.size w w' := by
  have HB := Aside0.mk (Below.refl w.heap.size w)
  have H : ((staddleref10_Hash.f k a0).bind fun t206 => (staddleref10_places.l0 k a1 a2 t206 (((t206 / 131072) + ((t206 * 32768) % 4294967296)) % 4294967296) ([] : List Int) 0)) = some r := h
  clear h
  replace H := Option.bind_eq_some_iff.mp H
  obtain ⟨t206, A40, H⟩ := H
  replace H : (staddleref10_places.l0 k a1 a2 t206 (((t206 / 131072) + ((t206 * 32768) % 4294967296)) % 4294967296) ([] : List Int) 0) = some r := H
  have A4 := Aside0.mk A40
  clear A40
  have H' := Aside0.mk H
  clear H
  go_enter Try.func49, Try.ntmps49
  go_wp2_with (first | ((with_reducible refine gate_callee (f := 68) rfl ?_); refine goesL_ (some 12) rfl rfl Try.func68 (by kernel_rfl) rfl #[.string a0] rfl (by (try simp only [List.map_toArray, List.map_cons, List.map_nil]); first | done | rfl | (simp only [List.length_drop, List.length_take]; rfl)) ?_; (with_reducible refine (staddleref10_Hash.calls k a0 t206 _ A4.out).mono ?_); rintro e w' ⟨rfl, ⟨nd, rfl⟩⟩; refine ⟨_, rfl, ?_⟩))
  obtain ⟨d8, hd8⟩ : ∃ y_ : Int, (((t206 / 131072) + ((t206 * 32768) % 4294967296)) % 4294967296) = y_ := ⟨_, rfl⟩
  rw [hd8] at H' ⊢
  clear hd8
  go_loopg [7, 9, 10] k (fun kq v7 v9 v10 w' => ∃ (x7_1 : Int) (x9_1 : List Int) (x10_1 : Int), v7 = .int .u32 x7_1 ∧ v10 = .int .i64 x10_1 ∧ Aside0 (staddleref10_places.l0 kq a1 a2 x7_1 d8 x9_1 x10_1 = some r) ∧ Aside0 (kq ≤ k) ∧ Aside0 (Kd.R (Kd.int .i64) 3 w' w.heap.size (fun _ => True) v9 x9_1) ∧ Aside0 (Below w.heap.size w w'))
  case atStart => exact ⟨(t206), (([] : List Int)), (0), (by first | rfl | (simp; done) | (simp [*]; done) | (simp; omega)), (by first | rfl | (simp; done) | (simp [*]; done) | (simp; omega)), H', ⟨Nat.le_refl _⟩, ⟨by first | exact Kd.R_nil _ _ _ _ _ | exact Kd.N_nil _ _ _ _ _ | exact Kd.V_nil _ _ _ _ _ | exact Kd.Q_nil _ _ _ _ _ | exact Kd.S_nil _ _ _ _ _⟩, ⟨by repeat (first | (with_reducible first | exact HB.out | apply below_alloc | apply pw_below_drewN | apply below_drew1) | exact HB.out)⟩⟩
  case round =>
    clear H'
    try clear p2
    try clear c4
    obtain ⟨x7_1, x9_1, x10_1, rfl, rfl, HA, HK1, HO_9, HB⟩ := hrel
    cases gk with
    | zero => exact absurd HA.out (by simp [staddleref10_places.l0])
    | succ k1 =>
      have H := HA.out
      clear HA
      simp only [staddleref10_places.l0] at H
      by_cases c5 : x10_1 < a2
      · rw [if_pos c5] at H
        have c5b0 : decide (x10_1 < a2) = true := decide_eq_true c5
        clear c5
        by_cases c6 : (IntKind.u64.wrap (a1)) = 0
        · rw [if_pos c6] at H
          exact absurd H (by simp)
        · rw [if_neg c6] at H
          have c6b0 : ((IntKind.u64.wrap (a1)) == 0) = false := beq_eq_false_iff_ne.mpr c6
          have c6b1 : ((IntKind.u64.wrap (a1)) != 0) = true := bne_iff_ne.mpr c6
          by_cases c7 : x9_1.length < 17592186044416
          · rw [if_pos c7] at H
            have LMc7 := Aside0.mk c7
            clear c7
            obtain ⟨y207, hy207⟩ : ∃ y_ : List Int, y_ = (x9_1 ++ [wrap64 (Int.tmod (IntKind.u64.wrap (x7_1)) (IntKind.u64.wrap (a1)))]) := ⟨_, rfl⟩
            replace H : (staddleref10_places.l0 k1 a1 a2 ((x7_1 + d8) % 4294967296) d8 y207 (wrap64 (x10_1 + 1))) = some r := by first | (rw [hy207]; with_reducible exact H) | (have H2_ := (Option.bind_some _ _).symm.trans H; rw [hy207]; with_reducible exact H2_) | (have H2_ := (Option.bind_some _ _).symm.trans H; with_reducible exact H2_) | with_reducible exact H | (rw [hy207]; exact H) | exact H
            have Ny207 := Aside0.mk hy207
            clear hy207
            have H' := Aside0.mk H
            clear H
            go_wp2_with (first | ((with_reducible refine gate_builtin (b := .append) (xs := #[.tmp 23, .tmp 30]) rfl ?_); at_builtin; refine Kd.R_append (Kd.int .i64) (w0 := w) w.heap.size rfl (.tmp 23) (.tmp 30) 94 3 (.int .i64 0) 8 rfl Try.underlying94 info3 rfl (by decide) (by omega) u9 x9_1 (wrap64 (Int.tmod (IntKind.u64.wrap (x7_1)) (IntKind.u64.wrap (a1)))) [_] (fun _ => True) (fun _ => False) rfl rfl ?aP (fun _ hk => hk.elim) ?aF ?aO ?aB ?aS ?aL ?_; (case aP => first | exact rfl | exact h_cell (by simp) | exact h_cell (by simp [*])); (case aB => exact (by repeat (first | (with_reducible first | exact HB.out | apply below_alloc | apply pw_below_drewN | apply below_drew1) | exact HB.out))); (case aF => exact (fun _ _ => trivial)); (case aO => exact (by (with_reducible repeat (first | apply Kd.R_alloc | apply Kd.R_drewN | apply Kd.R_drew)); exact HO_9.out)); (case aS => exact (below_size (by repeat (first | (with_reducible first | exact HB.out | apply below_alloc | apply pw_below_drewN | apply below_drew1) | exact HB.out)))); (case aL => have := LMc7.out; omega); intro v208 w8 ho hb hg hat; rw [← Ny207.out] at ho; have n0_ := Aside0.mk (hb); have n1_ := Aside0.mk (ho); clear HB; clear HO_9; have HB := n0_; have HO209 := n1_; clear n0_ n1_; clear ho hb hg hat))
            go_roundg k1
            case measure => have := HK1.out; omega
            case rel => exact ⟨((x7_1 + d8) % 4294967296), (y207), (wrap64 (x10_1 + 1)), (by first | rfl | (simp; done) | (simp [*]; done) | (simp; omega)), (by first | rfl | (simp; done) | (simp [*]; done) | (simp; omega)), H', ⟨by have := HK1.out; omega⟩, ⟨by (with_reducible repeat (first | apply Kd.R_alloc | apply Kd.R_drewN | apply Kd.R_drew)); exact HO209.out⟩, ⟨by repeat (first | (with_reducible first | exact HB.out | apply below_alloc | apply pw_below_drewN | apply below_drew1) | exact HB.out)⟩⟩
          · rw [if_neg c7] at H
            exact absurd H (by simp)
      · rw [if_neg c5] at H
        have c5b0 : decide (x10_1 < a2) = false := decide_eq_false c5
        clear c5
        obtain rfl := Option.some.inj H
        go_wp2
        go_ret
        exact ⟨_, by first | rfl | (simp [errW_none, errW_some] <;> rfl) | (simp [*, errW_none, errW_some] <;> rfl), by (with_reducible repeat (first | apply Kd.R_alloc | apply Kd.R_drewN | apply Kd.R_drew)); exact HO_9.out, by repeat (first | (with_reducible first | exact HB.out | apply below_alloc | apply pw_below_drewN | apply below_drew1) | exact HB.out)⟩

-- NOT PRINTED: function 24 (staddleref10_Build)

end Go.Proofs.Ythdemdjobgbpdaa.P
