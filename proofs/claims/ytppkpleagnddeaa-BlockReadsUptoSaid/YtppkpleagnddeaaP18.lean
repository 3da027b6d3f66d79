-- By this session's wip/hprint.py: the kit's print.py with functions by hand beside it. Not trusted: Lean checks it.
import Derived.Test.YtppkpleagnddeaaP0
namespace Go.Proofs.Ytppkpleagnddeaa.P
open Go.RowKit Go.Proofs.YtppkpleagnddeaaW.PrintWords Go.Proofs.YtppkpleagnddeaaW.PrintLast Go.Proofs.YtppkpleagnddeaaW.PrintMore
attribute [local go_sem] max2_int min2_int max_two min_two max_three min_three max_four min_four   -- for this text's walks alone
set_option linter.unusedVariables false
set_option linter.unusedSimpArgs false

/-! ### staddleref01_Fixed: function 32 -/
mutual
def staddleref01_Fixed.j0 : Nat → List Int → Int → Bool → Option (Int × Int)
 | 0, _, _, _ => none
 | k + 1, x0, x1, x13 => if x13 = true then (some (0, 1)) else (if (x0.length : Int) < x1 then (some (0, 10)) else (staddleref01_Fixed.l0 k x0 0 (wrap64 (x1 - 1))))
def staddleref01_Fixed.l0 : Nat → List Int → Int → Int → Option (Int × Int)
 | 0, _, _, _ => none
 | k + 1, x0, x6, x7 => if x7 ≥ 0 then (if 0 ≤ x7 then (if x7 < (x0.length : Int) then (staddleref01_Fixed.l0 k x0 (IntKind.u64.wrap ((IntKind.u64.wrap (x6 * 256)) + (IntKind.u64.wrap (rd x0 x7)))) (wrap64 (x7 - 1))) else (none)) else (none)) else (some (x6, 0))
end
def staddleref01_Fixed.f (k : Nat) (l0 : List Int) (a1 : Int) : Option (Int × Int) := if a1 < 1 then (staddleref01_Fixed.j0 k l0 a1 true) else (staddleref01_Fixed.j0 k l0 a1 (decide (a1 > 8)))
set_option maxHeartbeats 8000000 in
set_option maxRecDepth 100000 in
theorem staddleref01_Fixed.calls (k : Nat) (A0 : Option Addr) (c0 : Nat) (l0 : List Int) (a1 : Int) (r1 : Int) (r2 : Int) (w : World) (hr0 : Kd.C (Kd.int .u8) w A0 l0.length l0) (hc0 : l0.length ≤ c0) (h : staddleref01_Fixed.f k l0 a1 = some (r1, r2)) :
  Calls Try.prog 32 #[.slice A0 l0.length c0, .int .i64 a1] w fun e w' => e = .returned (.tuple #[.int .u64 r1, .int .i64 r2]) ∧ Drawn0 w w' := by
 have HR0 := Aside0.mk hr0
 have HC0 := Aside0.mk hc0
 clear hr0 hc0
 have H : (if a1 < 1 then (staddleref01_Fixed.j0 k l0 a1 true) else (staddleref01_Fixed.j0 k l0 a1 (decide (a1 > 8)))) = some (r1, r2) := h
 clear h
 have HC3 := Aside0.mk H
 clear H
 go_enter Try.func32, Try.ntmps32
 go_upto_region 1 with (fail)
 go_cut [13] (fun v13 wc => ∃ (kq : Nat) (x13_2 : Bool), v13 = .bool x13_2 ∧ Aside0 (staddleref01_Fixed.j0 kq l0 a1 x13_2 = some (r1, r2)) ∧ Aside0 (kq ≤ k) ∧ Drawn0 w wc)
 case first =>
  have H := HC3.out
  clear HC3
  by_cases c4 : a1 < 1
  ·
   rw [if_pos c4] at H
   have c4b0 : decide (a1 < 1) = true := decide_eq_true c4
   clear c4
   (first | rw [c4b0] | (simp only [i64_w, i32_w]; rw [c4b0]) | skip)
   have H' := Aside0.mk H
   clear H
   go_wp2
   go_meet
   case rel => exact ⟨_, (true), (by first | rfl | (simp; done) | (simp [*]; done) | (simp; omega)), H', ⟨by first | omega | exact Nat.le_refl _⟩, by repeat (first | exact Drawn0.refl _ | apply Drawn0.step)⟩
  ·
   rw [if_neg c4] at H
   have c4b0 : decide (a1 < 1) = false := decide_eq_false c4
   clear c4
   (first | rw [c4b0] | (simp only [i64_w, i32_w]; rw [c4b0]) | skip)
   have H' := Aside0.mk H
   clear H
   go_wp2
   go_meet
   case rel => exact ⟨_, (decide (a1 > 8)), (by first | rfl | (simp; done) | (simp [*]; done) | (simp; omega)), H', ⟨by first | omega | exact Nat.le_refl _⟩, by repeat (first | exact Drawn0.refl _ | apply Drawn0.step)⟩
 case rest =>
  clear HC3
  try clear p2
  try clear c3
  try clear c4
  try clear c4b0
  obtain ⟨kq, x13_2, rfl, HA, HJ2, ⟨mc2, rfl⟩⟩ := hcut
  cases kq with
  | zero => exact absurd HA.out (by simp [staddleref01_Fixed.j0])
  | succ kj2 =>
   have H := HA.out
   clear HA
   simp only [staddleref01_Fixed.j0] at H
   by_cases c5 : x13_2 = true
   ·
    subst c5
    have H1 : (some (0, 1)) = some (r1, r2) := by rw [if_pos rfl] at H; exact H
    clear H
    have H := H1
    clear H1
    simp only [Option.some.injEq, Prod.mk.injEq] at H
    obtain ⟨rfl, rfl⟩ := H
    go_wp2
    go_ret2
    exact ⟨by first | rfl | (simp; done) | (simp [*]; done) | (simp; omega), by repeat (first | exact Drawn0.refl _ | apply Drawn0.step)⟩
   ·
    replace c5 := Bool.eq_false_iff.mpr c5
    subst c5
    have H1 : (if (l0.length : Int) < a1 then (some (0, 10)) else (staddleref01_Fixed.l0 kj2 l0 0 (wrap64 (a1 - 1)))) = some (r1, r2) := by rw [if_neg (show ¬ (false = true) by decide)] at H; exact H
    clear H
    have H := H1
    clear H1
    by_cases c6 : (l0.length : Int) < a1
    ·
     rw [if_pos c6] at H
     have c6b0 : decide ((l0.length : Int) < a1) = true := decide_eq_true c6
     clear c6
     simp only [Option.some.injEq, Prod.mk.injEq] at H
     obtain ⟨rfl, rfl⟩ := H
     go_wp2
     go_ret2
     exact ⟨by first | rfl | (simp; done) | (simp [*]; done) | (simp; omega), by repeat (first | exact Drawn0.refl _ | apply Drawn0.step)⟩
    ·
     rw [if_neg c6] at H
     have c6b0 : decide ((l0.length : Int) < a1) = false := decide_eq_false c6
     clear c6
     have H' := Aside0.mk H
     clear H
     go_wp2
     go_loopg [6, 7] kj2 (fun kq v6 v7 w' => ∃ (x6_2 : Int) (x7_2 : Int), v6 = .int .u64 x6_2 ∧ v7 = .int .i64 x7_2 ∧ Aside0 (staddleref01_Fixed.l0 kq l0 x6_2 x7_2 = some (r1, r2)) ∧ Aside0 (kq ≤ kj2) ∧ Drawn0 w w')
     case atStart => exact ⟨(0), (wrap64 (a1 - 1)), (by first | rfl | (simp; done) | (simp [*]; done) | (simp; omega)), (by first | rfl | (simp; done) | (simp [*]; done) | (simp; omega)), H', ⟨Nat.le_refl _⟩, by repeat (first | exact Drawn0.refl _ | apply Drawn0.step)⟩
     case round =>
      clear H'
      try clear c2
      try clear p2
      try clear c3
      try clear c4
      try clear c4b0
      try clear c5
      try clear c6
      try clear c6b0
      try clear p6
      try clear p2
      obtain ⟨x6_2, x7_2, rfl, rfl, HA, HK2, ⟨m2, rfl⟩⟩ := hrel
      cases gk with
      | zero => exact absurd HA.out (by simp [staddleref01_Fixed.l0])
      | succ k2 =>
       have H := HA.out
       clear HA
       simp only [staddleref01_Fixed.l0] at H
       by_cases c7 : x7_2 ≥ 0
       ·
        rw [if_pos c7] at H
        have c7b0 : decide (0 ≤ x7_2) = true := decide_eq_true c7
        clear c7
        by_cases c8 : 0 ≤ x7_2
        ·
         rw [if_pos c8] at H
         have c8b0 : decide (0 ≤ x7_2) = true := decide_eq_true c8
         clear c8
         by_cases c9 : x7_2 < (l0.length : Int)
         ·
          rw [if_pos c9] at H
          have c9b0 : decide (x7_2 < (l0.length : Int)) = true := decide_eq_true c9
          clear c9
          have H' := Aside0.mk H
          clear H
          have p348 : 0 ≤ (x7_2 : Int) := of_decide_eq_true (by first | (with_reducible assumption) | assumption)
          have q348 : x7_2 < (l0.length : Int) := of_decide_eq_true (by first | (with_reducible assumption) | assumption)
          obtain ⟨ad348, e348, hx348_0⟩ := Kd.at_int HR0.out x7_2 p348 q348
          cases e348
          replace p348 := eq_true p348
          replace q348 := eq_true q348
          go_wp2
          go_roundg k2
          case measure => have := HJ2.out; have := HK2.out; omega
          case rel => exact ⟨(IntKind.u64.wrap ((IntKind.u64.wrap (x6_2 * 256)) + (IntKind.u64.wrap (rd l0 x7_2)))), (wrap64 (x7_2 - 1)), (by first | rfl | (simp; done) | (simp [*]; done) | (simp; omega)), (by first | rfl | (simp; done) | (simp [*]; done) | (simp; omega)), H', ⟨by have := HJ2.out; have := HK2.out; omega⟩, by repeat (first | exact Drawn0.refl _ | apply Drawn0.step)⟩
         ·
          rw [if_neg c9] at H
          exact absurd H (by simp)
        ·
         rw [if_neg c8] at H
         exact absurd H (by simp)
       ·
        rw [if_neg c7] at H
        have c7b0 : decide (0 ≤ x7_2) = false := decide_eq_false c7
        clear c7
        simp only [Option.some.injEq, Prod.mk.injEq] at H
        obtain ⟨rfl, rfl⟩ := H
        go_wp2
        go_ret2
        exact ⟨by first | rfl | (simp; done) | (simp [*]; done) | (simp; omega), by repeat (first | exact Drawn0.refl _ | apply Drawn0.step)⟩

/-! ### staddleref01_Uvarint: function 33 -/
mutual
def staddleref01_Uvarint.l0 : Nat → List Int → Int → Int → Option (Int × Int × Int)
 | 0, _, _, _ => none
 | k + 1, x0, x5, x6 => if x6 < 10 then (if x6 ≥ (x0.length : Int) then (some (0, 0, 10)) else (if x6 = 9 then (if 0 ≤ x6 then (if x6 < (x0.length : Int) then (staddleref01_Uvarint.j1 k x0 x5 x6 (decide ((rd x0 x6) > 1))) else (none)) else (none)) else (staddleref01_Uvarint.j1 k x0 x5 x6 false))) else (some (0, 0, 11))
def staddleref01_Uvarint.j1 : Nat → List Int → Int → Int → Bool → Option (Int × Int × Int)
 | 0, _, _, _, _ => none
 | k + 1, x0, x5, x6, x23 => if x23 = true then (some (0, 0, 11)) else (if 0 ≤ x6 then (if x6 < (x0.length : Int) then (if 0 ≤ (IntKind.u64.wrap (wrap64 (7 * x6))) then (if (rd x0 x6) < 128 then (some (IntKind.u64.wrap (x5 + (shl .u64 (IntKind.u64.wrap (Int.tmod (rd x0 x6) 128)) (IntKind.u64.wrap (wrap64 (7 * x6))))), wrap64 (x6 + 1), 0)) else (staddleref01_Uvarint.l0 k x0 (IntKind.u64.wrap (x5 + (shl .u64 (IntKind.u64.wrap (Int.tmod (rd x0 x6) 128)) (IntKind.u64.wrap (wrap64 (7 * x6)))))) (wrap64 (x6 + 1)))) else (none)) else (none)) else (none))
end
def staddleref01_Uvarint.f (k : Nat) (l0 : List Int) : Option (Int × Int × Int) := staddleref01_Uvarint.l0 k l0 0 0
set_option maxHeartbeats 8000000 in
set_option maxRecDepth 100000 in
theorem staddleref01_Uvarint.calls (k : Nat) (A0 : Option Addr) (c0 : Nat) (l0 : List Int) (r1 : Int) (r2 : Int) (r3 : Int) (w : World) (hr0 : Kd.C (Kd.int .u8) w A0 l0.length l0) (hc0 : l0.length ≤ c0) (h : staddleref01_Uvarint.f k l0 = some (r1, r2, r3)) :
  Calls Try.prog 33 #[.slice A0 l0.length c0] w fun e w' => e = .returned (.tuple #[.int .u64 r1, .int .i64 r2, .int .i64 r3]) ∧ Drawn0 w w' := by
 have HR0 := Aside0.mk hr0
 have HC0 := Aside0.mk hc0
 clear hr0 hc0
 have H : (staddleref01_Uvarint.l0 k l0 0 0) = some (r1, r2, r3) := h
 clear h
 have H' := Aside0.mk H
 clear H
 go_enter Try.func33, Try.ntmps33
 go_wp2
 go_loopg [5, 6] k (fun kq v5 v6 w' => ∃ (x5_1 : Int) (x6_1 : Int), v5 = .int .u64 x5_1 ∧ v6 = .int .i64 x6_1 ∧ Aside0 (staddleref01_Uvarint.l0 kq l0 x5_1 x6_1 = some (r1, r2, r3)) ∧ Aside0 (kq ≤ k) ∧ Drawn0 w w')
 case atStart => exact ⟨(0), (0), (by first | rfl | (simp; done) | (simp [*]; done) | (simp; omega)), (by first | rfl | (simp; done) | (simp [*]; done) | (simp; omega)), H', ⟨Nat.le_refl _⟩, by repeat (first | exact Drawn0.refl _ | apply Drawn0.step)⟩
 case round =>
  clear H'
  obtain ⟨x5_1, x6_1, rfl, rfl, HA, HK1, ⟨m1, rfl⟩⟩ := hrel
  cases gk with
  | zero => exact absurd HA.out (by simp [staddleref01_Uvarint.l0])
  | succ k1 =>
   have H := HA.out
   clear HA
   simp only [staddleref01_Uvarint.l0] at H
   by_cases c2 : x6_1 < 10
   ·
    rw [if_pos c2] at H
    have c2b0 : decide (x6_1 < 10) = true := decide_eq_true c2
    clear c2
    by_cases c3 : x6_1 ≥ (l0.length : Int)
    ·
     rw [if_pos c3] at H
     have c3b0 : decide ((l0.length : Int) ≤ x6_1) = true := decide_eq_true c3
     clear c3
     simp only [Option.some.injEq, Prod.mk.injEq] at H
     obtain ⟨rfl, rfl, rfl⟩ := H
     go_wp2
     go_ret3
     exact ⟨by first | rfl | (simp; done) | (simp [*]; done) | (simp; omega), by repeat (first | exact Drawn0.refl _ | apply Drawn0.step)⟩
    ·
     rw [if_neg c3] at H
     have c3b0 : decide ((l0.length : Int) ≤ x6_1) = false := decide_eq_false c3
     clear c3
     have HC4 := Aside0.mk H
     clear H
     go_upto_region 7 with (fail)
     go_cut [23] (fun v23 wc => ∃ (kq : Nat) (x23_3 : Bool), v23 = .bool x23_3 ∧ Aside0 (staddleref01_Uvarint.j1 kq l0 x5_1 x6_1 x23_3 = some (r1, r2, r3)) ∧ Aside0 (kq ≤ k1) ∧ Drawn0 w wc)
     case first =>
      have H := HC4.out
      clear HC4
      by_cases c5 : x6_1 = 9
      ·
       rw [if_pos c5] at H
       have c5b0 : (x6_1 == 9) = true := beq_iff_eq.mpr c5
       have c5b1 : (x6_1 != 9) = false := bne_eq_false_iff_eq.mpr c5
       clear c5
       (first | rw [c5b0] | (simp only [i64_w, i32_w]; rw [c5b0]) | skip)
       by_cases c6 : 0 ≤ x6_1
       ·
        rw [if_pos c6] at H
        have c6b0 : decide (0 ≤ x6_1) = true := decide_eq_true c6
        clear c6
        by_cases c7 : x6_1 < (l0.length : Int)
        ·
         rw [if_pos c7] at H
         have c7b0 : decide (x6_1 < (l0.length : Int)) = true := decide_eq_true c7
         clear c7
         have H' := Aside0.mk H
         clear H
         have p349 : 0 ≤ (x6_1 : Int) := of_decide_eq_true (by first | (with_reducible assumption) | assumption)
         have q349 : x6_1 < (l0.length : Int) := of_decide_eq_true (by first | (with_reducible assumption) | assumption)
         obtain ⟨ad349, e349, hx349_0⟩ := Kd.at_int HR0.out x6_1 p349 q349
         cases e349
         replace p349 := eq_true p349
         replace q349 := eq_true q349
         go_wp2
         go_meet
         case rel => exact ⟨_, (decide ((rd l0 x6_1) > 1)), (by first | rfl | (simp; done) | (simp [*]; done) | (simp; omega)), H', ⟨by have := HK1.out; first | omega | exact Nat.le_refl _⟩, by repeat (first | exact Drawn0.refl _ | apply Drawn0.step)⟩
        ·
         rw [if_neg c7] at H
         exact absurd H (by simp)
       ·
        rw [if_neg c6] at H
        exact absurd H (by simp)
      ·
       rw [if_neg c5] at H
       have c5b0 : (x6_1 == 9) = false := beq_eq_false_iff_ne.mpr c5
       have c5b1 : (x6_1 != 9) = true := bne_iff_ne.mpr c5
       (first | rw [c5b0] | (simp only [i64_w, i32_w]; rw [c5b0]) | skip)
       have H' := Aside0.mk H
       clear H
       go_wp2
       go_meet
       case rel => exact ⟨_, (false), (by first | rfl | (simp; done) | (simp [*]; done) | (simp; omega)), H', ⟨by have := HK1.out; first | omega | exact Nat.le_refl _⟩, by repeat (first | exact Drawn0.refl _ | apply Drawn0.step)⟩
     case rest =>
      clear HC4
      try clear c2
      try clear c2b0
      try clear p2
      try clear c3
      try clear c3b0
      try clear p3
      try clear q3
      try clear hx3
      try clear c5
      try clear c5b0
      try clear c5b1
      try clear c6
      try clear c6b0
      try clear c7
      try clear c7b0
      try clear hx349_0
      try clear p349
      try clear q349
      obtain ⟨kq, x23_3, rfl, HA, HJ3, ⟨mc3, rfl⟩⟩ := hcut
      cases kq with
      | zero => exact absurd HA.out (by simp [staddleref01_Uvarint.j1])
      | succ kj3 =>
       have H := HA.out
       clear HA
       simp only [staddleref01_Uvarint.j1] at H
       by_cases c8 : x23_3 = true
       ·
        subst c8
        have H1 : (some (0, 0, 11)) = some (r1, r2, r3) := by rw [if_pos rfl] at H; exact H
        clear H
        have H := H1
        clear H1
        simp only [Option.some.injEq, Prod.mk.injEq] at H
        obtain ⟨rfl, rfl, rfl⟩ := H
        go_wp2
        go_ret3
        exact ⟨by first | rfl | (simp; done) | (simp [*]; done) | (simp; omega), by repeat (first | exact Drawn0.refl _ | apply Drawn0.step)⟩
       ·
        replace c8 := Bool.eq_false_iff.mpr c8
        subst c8
        have H1 : (if 0 ≤ x6_1 then (if x6_1 < (l0.length : Int) then (if 0 ≤ (IntKind.u64.wrap (wrap64 (7 * x6_1))) then (if (rd l0 x6_1) < 128 then (some (IntKind.u64.wrap (x5_1 + (shl .u64 (IntKind.u64.wrap (Int.tmod (rd l0 x6_1) 128)) (IntKind.u64.wrap (wrap64 (7 * x6_1))))), wrap64 (x6_1 + 1), 0)) else (staddleref01_Uvarint.l0 kj3 l0 (IntKind.u64.wrap (x5_1 + (shl .u64 (IntKind.u64.wrap (Int.tmod (rd l0 x6_1) 128)) (IntKind.u64.wrap (wrap64 (7 * x6_1)))))) (wrap64 (x6_1 + 1)))) else (none)) else (none)) else (none)) = some (r1, r2, r3) := by rw [if_neg (show ¬ (false = true) by decide)] at H; exact H
        clear H
        have H := H1
        clear H1
        by_cases c9 : 0 ≤ x6_1
        ·
         rw [if_pos c9] at H
         have c9b0 : decide (0 ≤ x6_1) = true := decide_eq_true c9
         clear c9
         by_cases c10 : x6_1 < (l0.length : Int)
         ·
          rw [if_pos c10] at H
          have c10b0 : decide (x6_1 < (l0.length : Int)) = true := decide_eq_true c10
          clear c10
          obtain ⟨ji11, hji11⟩ : ∃ j_ : Int, (IntKind.u64.wrap (wrap64 (7 * x6_1))) = j_ := ⟨_, rfl⟩
          replace H : (if 0 ≤ (ji11) then (if (rd l0 x6_1) < 128 then (some (IntKind.u64.wrap (x5_1 + (shl .u64 (IntKind.u64.wrap (Int.tmod (rd l0 x6_1) 128)) (ji11))), wrap64 (x6_1 + 1), 0)) else (staddleref01_Uvarint.l0 kj3 l0 (IntKind.u64.wrap (x5_1 + (shl .u64 (IntKind.u64.wrap (Int.tmod (rd l0 x6_1) 128)) (ji11)))) (wrap64 (x6_1 + 1)))) else (none)) = some (r1, r2, r3) := by first | (rw [hji11] at H; exact H) | (simp only [hji11] at H ⊢; exact H)
          by_cases c12 : 0 ≤ (ji11)
          ·
           rw [if_pos c12] at H
           have c12b0 := eq_true c12
           have c12b1 : decide (0 ≤ (ji11)) = true := decide_eq_true c12
           clear c12
           obtain ⟨ji13, hji13⟩ : ∃ j_ : Int, (shl .u64 (IntKind.u64.wrap (Int.tmod (rd l0 x6_1) 128)) (ji11)) = j_ := ⟨_, rfl⟩
           replace H : (if (rd l0 x6_1) < 128 then (some (IntKind.u64.wrap (x5_1 + (ji13)), wrap64 (x6_1 + 1), 0)) else (staddleref01_Uvarint.l0 kj3 l0 (IntKind.u64.wrap (x5_1 + (ji13))) (wrap64 (x6_1 + 1)))) = some (r1, r2, r3) := by first | (rw [hji13] at H; exact H) | (simp only [hji13] at H ⊢; exact H)
           have hji13_ : (IntKind.u64.wrap ((IntKind.u64.wrap (Int.tmod (rd l0 x6_1) 128)) * 2 ^ min (ji11).toNat 64)) = ji13 := hji13
           have hji13z : (ji11) ≤ 64 → (IntKind.u64.wrap ((IntKind.u64.wrap (Int.tmod (rd l0 x6_1) 128)) * 2 ^ (ji11).toNat)) = ji13 := shl_small hji13
           by_cases c14 : (rd l0 x6_1) < 128
           ·
            rw [if_pos c14] at H
            have c14b0 : decide ((rd l0 x6_1) < 128) = true := decide_eq_true c14
            clear c14
            simp only [Option.some.injEq, Prod.mk.injEq] at H
            obtain ⟨rfl, rfl, rfl⟩ := H
            have p350 : 0 ≤ (x6_1 : Int) := of_decide_eq_true (by first | (with_reducible assumption) | assumption)
            have q350 : x6_1 < (l0.length : Int) := of_decide_eq_true (by first | (with_reducible assumption) | assumption)
            obtain ⟨ad350, e350, hx350_0⟩ := Kd.at_int HR0.out x6_1 p350 q350
            cases e350
            replace p350 := eq_true p350
            replace q350 := eq_true q350
            have p351 : 0 ≤ (x6_1 : Int) := of_decide_eq_true (by first | (with_reducible assumption) | assumption)
            have q351 : x6_1 < (l0.length : Int) := of_decide_eq_true (by first | (with_reducible assumption) | assumption)
            obtain ⟨ad351, e351, hx351_0⟩ := Kd.at_int HR0.out x6_1 p351 q351
            obtain rfl : ad350 = ad351 := (by injection e351)
            replace p351 := eq_true p351
            replace q351 := eq_true q351
            go_wp2
            go_ret3
            exact ⟨by first | rfl | (simp; done) | (simp only [← hji11, ← hji13] <;> (first | rfl | simp)) | (simp [*]; done), by repeat (first | exact Drawn0.refl _ | apply Drawn0.step)⟩
           ·
            rw [if_neg c14] at H
            have c14b0 : decide ((rd l0 x6_1) < 128) = false := decide_eq_false c14
            clear c14
            have H' := Aside0.mk H
            clear H
            have p350 : 0 ≤ (x6_1 : Int) := of_decide_eq_true (by first | (with_reducible assumption) | assumption)
            have q350 : x6_1 < (l0.length : Int) := of_decide_eq_true (by first | (with_reducible assumption) | assumption)
            obtain ⟨ad350, e350, hx350_0⟩ := Kd.at_int HR0.out x6_1 p350 q350
            cases e350
            replace p350 := eq_true p350
            replace q350 := eq_true q350
            have p351 : 0 ≤ (x6_1 : Int) := of_decide_eq_true (by first | (with_reducible assumption) | assumption)
            have q351 : x6_1 < (l0.length : Int) := of_decide_eq_true (by first | (with_reducible assumption) | assumption)
            obtain ⟨ad351, e351, hx351_0⟩ := Kd.at_int HR0.out x6_1 p351 q351
            obtain rfl : ad350 = ad351 := (by injection e351)
            replace p351 := eq_true p351
            replace q351 := eq_true q351
            go_wp2
            go_roundg kj3
            case measure => have := HK1.out; have := HJ3.out; omega
            case rel => exact ⟨(IntKind.u64.wrap (x5_1 + (ji13))), (wrap64 (x6_1 + 1)), (by first | rfl | (simp; done) | (simp only [← hji13] <;> (first | rfl | simp)) | (simp [*]; done)), (by first | rfl | (simp; done) | (simp [*]; done) | (simp; omega)), H', ⟨by have := HK1.out; have := HJ3.out; omega⟩, by repeat (first | exact Drawn0.refl _ | apply Drawn0.step)⟩
          ·
           rw [if_neg c12] at H
           exact absurd H (by simp)
         ·
          rw [if_neg c10] at H
          exact absurd H (by simp)
        ·
         rw [if_neg c9] at H
         exact absurd H (by simp)
   ·
    rw [if_neg c2] at H
    have c2b0 : decide (x6_1 < 10) = false := decide_eq_false c2
    clear c2
    simp only [Option.some.injEq, Prod.mk.injEq] at H
    obtain ⟨rfl, rfl, rfl⟩ := H
    go_wp2
    go_ret3
    exact ⟨by first | rfl | (simp; done) | (simp [*]; done) | (simp; omega), by repeat (first | exact Drawn0.refl _ | apply Drawn0.step)⟩

end Go.Proofs.Ytppkpleagnddeaa.P
