-- By this session's wip/hprint.py: the kit's print.py with functions by hand beside it. Not trusted: Lean checks it.
import Derived.Test.YthkkbgehmiobaaaP0
namespace Go.Proofs.Ythkkbgehmiobaaa.P
open Go.RowKit Go.Proofs.YthkkbgehmiobaaaW.PrintWords Go.Proofs.YthkkbgehmiobaaaW.PrintLast Go.Proofs.YthkkbgehmiobaaaW.PrintMore
attribute [local go_sem] max2_int min2_int max_two min_two max_three min_three max_four min_four   -- for this text's walks alone
set_option linter.unusedVariables false
set_option linter.unusedSimpArgs false

/-! ### staddleref01_Fixed: function 52 -/
mutual
def staddleref01_Fixed.j0 : Nat → List Int → Int → Bool → Option (Int × Int)
  | 0, _, _, _ => none
  | k + 1, x0, x1, x13 => if x13 = true then (some (0, 1)) else (if (x0.length : Int) < x1 then (some (0, 10)) else (staddleref01_Fixed.l0 k x0 0 (wrap64 (x1 - 1))))
def staddleref01_Fixed.l0 : Nat → List Int → Int → Int → Option (Int × Int)
  | 0, _, _, _ => none
  | k + 1, x0, x6, x7 => if x7 ≥ 0 then (if 0 ≤ x7 then (if x7 < (x0.length : Int) then (staddleref01_Fixed.l0 k x0 (IntKind.u64.wrap ((IntKind.u64.wrap (x6 * 256)) + (IntKind.u64.wrap (rd x0 x7)))) (wrap64 (x7 - 1))) else (none)) else (none)) else (some (x6, 0))
end
def staddleref01_Fixed.f (k : Nat) (l0 : List Int) (a1 : Int) : Option (Int × Int) := if a1 < 1 then (staddleref01_Fixed.j0 k l0 a1 true) else (staddleref01_Fixed.j0 k l0 a1 (decide (a1 > 8)))
theorem staddleref01_Fixed.mono_l : ∀ k, (∀ y0 y1 y2, LeO (staddleref01_Fixed.j0 k y0 y1 y2) (staddleref01_Fixed.j0 (k + 1) y0 y1 y2)) ∧ (∀ y0 y1 y2, LeO (staddleref01_Fixed.l0 k y0 y1 y2) (staddleref01_Fixed.l0 (k + 1) y0 y1 y2))
  | 0 => ⟨fun _ _ _ r h => by simp [staddleref01_Fixed.j0] at h, fun _ _ _ r h => by simp [staddleref01_Fixed.l0] at h⟩
  | k + 1 => by
    obtain ⟨ih0, ih1⟩ := staddleref01_Fixed.mono_l k
    refine ⟨?_, ?_⟩
    · intro y0 y1 y2
      unfold staddleref01_Fixed.j0
      repeat' first
      | (with_reducible exact ih0 _ _ _)
      | (with_reducible exact ih1 _ _ _)
      | (with_reducible exact LeO.refl _)
      | (with_reducible exact LeO.none _)
      | (with_reducible refine LeO.ite ?_ ?_)
      | (with_reducible refine LeO.bind ?_ (fun _ => ?_))
      | exact ih0 _ _ _
      | exact ih1 _ _ _
      | exact LeO.none _
      | refine LeO.ite ?_ ?_
      | refine LeO.bind ?_ (fun _ => ?_)
    · intro y0 y1 y2
      unfold staddleref01_Fixed.l0
      repeat' first
      | (with_reducible exact ih0 _ _ _)
      | (with_reducible exact ih1 _ _ _)
      | (with_reducible exact LeO.refl _)
      | (with_reducible exact LeO.none _)
      | (with_reducible refine LeO.ite ?_ ?_)
      | (with_reducible refine LeO.bind ?_ (fun _ => ?_))
      | exact ih0 _ _ _
      | exact ih1 _ _ _
      | exact LeO.none _
      | refine LeO.ite ?_ ?_
      | refine LeO.bind ?_ (fun _ => ?_)
theorem staddleref01_Fixed.mono : ∀ a0 a1 k, LeO (staddleref01_Fixed.f k a0 a1) (staddleref01_Fixed.f (k + 1) a0 a1) := by
  intro a0 a1 k
  obtain ⟨ih0, ih1⟩ := staddleref01_Fixed.mono_l k
  unfold staddleref01_Fixed.f
  repeat' first
      | (with_reducible exact ih0 _ _ _)
      | (with_reducible exact ih1 _ _ _)
      | (with_reducible exact LeO.refl _)
      | (with_reducible exact LeO.none _)
      | (with_reducible refine LeO.ite ?_ ?_)
      | (with_reducible refine LeO.bind ?_ (fun _ => ?_))
      | exact ih0 _ _ _
      | exact ih1 _ _ _
      | exact LeO.none _
      | refine LeO.ite ?_ ?_
      | refine LeO.bind ?_ (fun _ => ?_)
set_option maxHeartbeats 8000000 in
set_option maxRecDepth 100000 in
theorem staddleref01_Fixed.calls (k : Nat) (A0 : Option Addr) (c0 : Nat) (l0 : List Int) (a1 : Int) (r1 : Int) (r2 : Int) (w : World) (hr0 : Kd.C (Kd.int .u8) w A0 l0.length l0) (hc0 : l0.length ≤ c0) (h : staddleref01_Fixed.f k l0 a1 = some (r1, r2)) :
    Calls Try.prog 52 #[.slice A0 l0.length c0, .int .i64 a1] w fun e w' => e = .returned (.tuple #[.int .u64 r1, .int .i64 r2]) ∧ Drawn0 w w' := by
  have HR0 := Aside0.mk hr0
  have HC0 := Aside0.mk hc0
  clear hr0 hc0
  have H : (if a1 < 1 then (staddleref01_Fixed.j0 k l0 a1 true) else (staddleref01_Fixed.j0 k l0 a1 (decide (a1 > 8)))) = some (r1, r2) := h
  clear h
  have HC3 := Aside0.mk H
  clear H
  go_enter Try.func52, Try.ntmps52
  go_upto_region 1 with (fail)
  go_cut [13] (fun v13 wc => ∃ (kq : Nat) (x13_2 : Bool), v13 = .bool x13_2 ∧ Aside0 (staddleref01_Fixed.j0 kq l0 a1 x13_2 = some (r1, r2)) ∧ Aside0 (kq ≤ k) ∧ Drawn0 w wc)
  case first =>
    have H := HC3.out
    clear HC3
    by_cases c4 : a1 < 1
    · rw [if_pos c4] at H
      have c4b0 : decide (a1 < 1) = true := decide_eq_true c4
      clear c4
      (first | rw [c4b0] | (simp only [i64_w, i32_w]; rw [c4b0]) | skip)
      have H' := Aside0.mk H
      clear H
      go_wp2
      go_meet
      case rel => exact ⟨_, (true), (by first | rfl | (simp; done) | (simp [*]; done) | (simp; omega)), H', ⟨by first | omega | exact Nat.le_refl _⟩, by repeat (first | exact Drawn0.refl _ | apply Drawn0.step)⟩
    · rw [if_neg c4] at H
      have c4b0 : decide (a1 < 1) = false := decide_eq_false c4
      clear c4
      (first | rw [c4b0] | (simp only [i64_w, i32_w]; rw [c4b0]) | skip)
      have H' := Aside0.mk H
      clear H
      go_wp2
      go_meet
      case rel => exact ⟨_, (decide (a1 > 8)), (by first | rfl | (simp; done) | (simp [*]; done) | (simp; omega)), H', ⟨by first | omega | exact Nat.le_refl _⟩, by repeat (first | exact Drawn0.refl _ | apply Drawn0.step)⟩
  case rest =>
    clear HC3
    try clear p2
    try clear c4
    try clear c4b0
    obtain ⟨kq, x13_2, rfl, HA, HJ2, ⟨mc2, rfl⟩⟩ := hcut
    cases kq with
    | zero => exact absurd HA.out (by simp [staddleref01_Fixed.j0])
    | succ kj2 =>
      have H := HA.out
      clear HA
      simp only [staddleref01_Fixed.j0] at H
      by_cases c5 : x13_2 = true
      · subst c5
        have H1 : (some (0, 1)) = some (r1, r2) := by rw [if_pos rfl] at H; exact H
        clear H
        have H := H1
        clear H1
        simp only [Option.some.injEq, Prod.mk.injEq] at H
        obtain ⟨rfl, rfl⟩ := H
        go_wp2
        go_ret2
        exact ⟨by first | rfl | (simp; done) | (simp [*]; done) | (simp; omega), by repeat (first | exact Drawn0.refl _ | apply Drawn0.step)⟩
      · replace c5 := Bool.eq_false_iff.mpr c5
        subst c5
        have H1 : (if (l0.length : Int) < a1 then (some (0, 10)) else (staddleref01_Fixed.l0 kj2 l0 0 (wrap64 (a1 - 1)))) = some (r1, r2) := by rw [if_neg (show ¬ (false = true) by decide)] at H; exact H
        clear H
        have H := H1
        clear H1
        by_cases c6 : (l0.length : Int) < a1
        · rw [if_pos c6] at H
          have c6b0 : decide ((l0.length : Int) < a1) = true := decide_eq_true c6
          clear c6
          simp only [Option.some.injEq, Prod.mk.injEq] at H
          obtain ⟨rfl, rfl⟩ := H
          go_wp2
          go_ret2
          exact ⟨by first | rfl | (simp; done) | (simp [*]; done) | (simp; omega), by repeat (first | exact Drawn0.refl _ | apply Drawn0.step)⟩
        · rw [if_neg c6] at H
          have c6b0 : decide ((l0.length : Int) < a1) = false := decide_eq_false c6
          clear c6
          have H' := Aside0.mk H
          clear H
          go_wp2
          go_loopg [6, 7] kj2 (fun kq v6 v7 w' => ∃ (x6_2 : Int) (x7_2 : Int), v6 = .int .u64 x6_2 ∧ v7 = .int .i64 x7_2 ∧ Aside0 (staddleref01_Fixed.l0 kq l0 x6_2 x7_2 = some (r1, r2)) ∧ Aside0 (kq ≤ kj2) ∧ Drawn0 w w')
          case atStart => exact ⟨(0), (wrap64 (a1 - 1)), (by first | rfl | (simp; done) | (simp [*]; done) | (simp; omega)), (by first | rfl | (simp; done) | (simp [*]; done) | (simp; omega)), H', ⟨Nat.le_refl _⟩, by repeat (first | exact Drawn0.refl _ | apply Drawn0.step)⟩
          case round =>
            clear H'
            try clear c2
            try clear p2
            try clear c4
            try clear c4b0
            try clear c5
            try clear c6
            try clear c6b0
            try clear p6
            try clear p2
            obtain ⟨x6_2, x7_2, rfl, rfl, HA, HK2, ⟨m2, rfl⟩⟩ := hrel
            cases gk with
            | zero => exact absurd HA.out (by simp [staddleref01_Fixed.l0])
            | succ k2 =>
              have H := HA.out
              clear HA
              simp only [staddleref01_Fixed.l0] at H
              by_cases c7 : x7_2 ≥ 0
              · rw [if_pos c7] at H
                have c7b0 : decide (0 ≤ x7_2) = true := decide_eq_true c7
                clear c7
                by_cases c8 : 0 ≤ x7_2
                · rw [if_pos c8] at H
                  have c8b0 : decide (0 ≤ x7_2) = true := decide_eq_true c8
                  clear c8
                  by_cases c9 : x7_2 < (l0.length : Int)
                  · rw [if_pos c9] at H
                    have c9b0 : decide (x7_2 < (l0.length : Int)) = true := decide_eq_true c9
                    clear c9
                    have H' := Aside0.mk H
                    clear H
                    have p350 : 0 ≤ (x7_2 : Int) := of_decide_eq_true (by first | (with_reducible assumption) | assumption)
                    have q350 : x7_2 < (l0.length : Int) := of_decide_eq_true (by first | (with_reducible assumption) | assumption)
                    obtain ⟨ad350, e350, hx350_0⟩ := Kd.at_int HR0.out x7_2 p350 q350
                    cases e350
                    replace p350 := eq_true p350
                    replace q350 := eq_true q350
                    go_wp2
                    go_roundg k2
                    case measure => have := HJ2.out; have := HK2.out; omega
                    case rel => exact ⟨(IntKind.u64.wrap ((IntKind.u64.wrap (x6_2 * 256)) + (IntKind.u64.wrap (rd l0 x7_2)))), (wrap64 (x7_2 - 1)), (by first | rfl | (simp; done) | (simp [*]; done) | (simp; omega)), (by first | rfl | (simp; done) | (simp [*]; done) | (simp; omega)), H', ⟨by have := HJ2.out; have := HK2.out; omega⟩, by repeat (first | exact Drawn0.refl _ | apply Drawn0.step)⟩
                  · rw [if_neg c9] at H
                    exact absurd H (by simp)
                · rw [if_neg c8] at H
                  exact absurd H (by simp)
              · rw [if_neg c7] at H
                have c7b0 : decide (0 ≤ x7_2) = false := decide_eq_false c7
                clear c7
                simp only [Option.some.injEq, Prod.mk.injEq] at H
                obtain ⟨rfl, rfl⟩ := H
                go_wp2
                go_ret2
                exact ⟨by first | rfl | (simp; done) | (simp [*]; done) | (simp; omega), by repeat (first | exact Drawn0.refl _ | apply Drawn0.step)⟩

/-! ### staddleref02_Decode: function 47 -/
def staddleref02_Decode.j0 : Nat → List Int → Bool → Option (ByteArray × Int × Int × Int)
  | 0, _, _ => none
  | k + 1, x0, x13 => if x13 = true then (some ((⟨#[]⟩ : ByteArray), 0, 0, 20)) else (if 0 ≤ (wrap64 ((x0.length : Int) - 8)) then (if (wrap64 ((x0.length : Int) - 8)) ≤ (x0.length : Int) then ((staddleref01_Fixed.f k (x0.drop ((wrap64 ((x0.length : Int) - 8)) : Int).toNat) 8).bind fun bt353 => (if (Int.tmod bt353.1 256) > 1 then (some ((⟨#[]⟩ : ByteArray), 0, 0, 20)) else (some (strOfNums (x0.take ((wrap64 ((x0.length : Int) - 8)) : Int).toNat), IntKind.u64.wrap (Int.tdiv bt353.1 256), wrap64 (Int.tmod bt353.1 256), 0)))) else (none)) else (none))
def staddleref02_Decode.f (k : Nat) (l0 : List Int) : Option (ByteArray × Int × Int × Int) := if (l0.length : Int) < 8 then (staddleref02_Decode.j0 k l0 true) else (staddleref02_Decode.j0 k l0 (decide ((l0.length : Int) > 72)))
theorem staddleref02_Decode.mono_l : ∀ k, (∀ y0 y1, LeO (staddleref02_Decode.j0 k y0 y1) (staddleref02_Decode.j0 (k + 1) y0 y1))
  | 0 => fun _ _ r h => by simp [staddleref02_Decode.j0] at h
  | k + 1 => by
    have ih0 := staddleref02_Decode.mono_l k
    · intro y0 y1
      unfold staddleref02_Decode.j0
      repeat' first
      | (with_reducible exact ih0 _ _)
      | (with_reducible exact staddleref01_Fixed.mono _ _ _)
      | (with_reducible exact LeO.refl _)
      | (with_reducible exact LeO.none _)
      | (with_reducible refine LeO.ite ?_ ?_)
      | (with_reducible refine LeO.bind ?_ (fun _ => ?_))
      | exact ih0 _ _
      | exact staddleref01_Fixed.mono _ _ _
      | exact LeO.none _
      | refine LeO.ite ?_ ?_
      | refine LeO.bind ?_ (fun _ => ?_)
theorem staddleref02_Decode.mono : ∀ a0 k, LeO (staddleref02_Decode.f k a0) (staddleref02_Decode.f (k + 1) a0) := by
  intro a0 k
  have ih0 := staddleref02_Decode.mono_l k
  unfold staddleref02_Decode.f
  repeat' first
      | (with_reducible exact ih0 _ _)
      | (with_reducible exact staddleref01_Fixed.mono _ _ _)
      | (with_reducible exact LeO.refl _)
      | (with_reducible exact LeO.none _)
      | (with_reducible refine LeO.ite ?_ ?_)
      | (with_reducible refine LeO.bind ?_ (fun _ => ?_))
      | exact ih0 _ _
      | exact staddleref01_Fixed.mono _ _ _
      | exact LeO.none _
      | refine LeO.ite ?_ ?_
      | refine LeO.bind ?_ (fun _ => ?_)
set_option maxHeartbeats 8000000 in
set_option maxRecDepth 100000 in
theorem staddleref02_Decode.calls (k : Nat) (A0 : Option Addr) (c0 : Nat) (l0 : List Int) (r1 : ByteArray) (r2 : Int) (r3 : Int) (r4 : Int) (w : World) (hr0 : Kd.C (Kd.int .u8) w A0 l0.length l0) (hc0 : l0.length ≤ c0) (h : staddleref02_Decode.f k l0 = some (r1, r2, r3, r4)) :
    Calls Try.prog 47 #[.slice A0 l0.length c0] w fun e w' => e = .returned (.tuple #[.agg #[.string r1, .int .u64 r2, .int .i64 r3], .int .i64 r4]) ∧ Below w.heap.size w w' := by
  have hu42 := Try.underlying42
  have HR0 := Aside0.mk hr0
  have HC0 := Aside0.mk hc0
  clear hr0 hc0
  have HB := Aside0.mk (Below.refl w.heap.size w)
  have H : (if (l0.length : Int) < 8 then (staddleref02_Decode.j0 k l0 true) else (staddleref02_Decode.j0 k l0 (decide ((l0.length : Int) > 72)))) = some (r1, r2, r3, r4) := h
  clear h
  have HC2 := Aside0.mk H
  clear H
  go_enter Try.func47, Try.ntmps47
  go_upto_region 1 with (first | ((with_reducible refine gate_dst (N := 2) rfl ?_); (try (refine gate_guard (by rfl) ?_; dsimp only)); refine box_event ?hg (N := 2) ?hd (cs := #[.string (⟨#[]⟩ : ByteArray), .int .u64 0, .int .i64 0]) (t := 42) ?hr ?_; (case hd => rfl); (case hg => rfl); (case hr => first | (go_simp; done) | (go_simp; rfl)); intro gb351 hg w3 hbox hb; have n0_ := Aside0.mk (below_step (by repeat (first | (with_reducible first | exact HB.out | apply below_alloc | apply pw_below_drewN | apply below_drew1) | exact HB.out)) hb); have n1_ := Aside0.mk (hbox); have n2_ := Aside0.mk ((by rw [hg]; exact (below_size (by repeat (first | (with_reducible first | exact HB.out | apply below_alloc | apply pw_below_drewN | apply below_drew1) | exact HB.out))) : w.heap.size ≤ gb351)); have n3_ := Aside0.mk ((by rw [hg]; exact (below_size (by repeat (first | (with_reducible first | exact HB.out | apply below_alloc | apply pw_below_drewN | apply below_drew1) | exact HB.out))) : w.heap.size ≤ gb351)); clear HB; have HB := n0_; have BK351 := n1_; have GW351 := n2_; have GE351 := n3_; clear n0_ n1_ n2_ n3_; clear hb hbox hg))
  (try simp only [Act.put, List.setIfInBounds_toArray, List.set_cons_zero, List.set_cons_succ])
  go_cut [13] (fun v13 wc => ∃ (kq : Nat) (x13_1 : Bool), v13 = .bool x13_1 ∧ Aside0 (staddleref02_Decode.j0 kq l0 x13_1 = some (r1, r2, r3, r4)) ∧ Aside0 (kq ≤ k) ∧ Aside0 (wc.heap[gb351]? = some (.cells #[.string (⟨#[]⟩ : ByteArray), .int .u64 0, .int .i64 0] 42 (0, 0))) ∧ Aside0 (Below w.heap.size w wc))
  case first =>
    have H := HC2.out
    clear HC2
    by_cases c4 : (l0.length : Int) < 8
    · rw [if_pos c4] at H
      have c4b0 : decide ((l0.length : Int) < 8) = true := decide_eq_true c4
      have c4b1 : decide (l0.length < 8) = true := decide_eq_true (by omega)
      clear c4
      (first | rw [c4b0] | (simp only [i64_w, i32_w]; rw [c4b0]) | skip)
      have H' := Aside0.mk H
      clear H
      go_wp2
      go_meet
      case rel => exact ⟨_, (true), (by first | rfl | (simp; done) | (simp [*]; done) | (simp; omega)), H', ⟨by first | omega | exact Nat.le_refl _⟩, ⟨by (with_reducible repeat (first | refine blk_drewN ?_ _ | refine blk_drew ?_ | refine blk_alloc ?_ _)); exact BK351.out⟩, ⟨by repeat (first | (with_reducible first | exact HB.out | apply below_alloc | apply pw_below_drewN | apply below_drew1 | refine below_set ?_ GE351.out) | exact HB.out)⟩⟩
    · rw [if_neg c4] at H
      have c4b0 : decide ((l0.length : Int) < 8) = false := decide_eq_false c4
      have c4b1 : decide (l0.length < 8) = false := decide_eq_false (by omega)
      clear c4
      (first | rw [c4b0] | (simp only [i64_w, i32_w]; rw [c4b0]) | skip)
      have H' := Aside0.mk H
      clear H
      go_wp2
      go_meet
      case rel => exact ⟨_, (decide ((l0.length : Int) > 72)), (by first | rfl | (simp; done) | (simp [*]; done) | (simp; omega)), H', ⟨by first | omega | exact Nat.le_refl _⟩, ⟨by (with_reducible repeat (first | refine blk_drewN ?_ _ | refine blk_drew ?_ | refine blk_alloc ?_ _)); exact BK351.out⟩, ⟨by repeat (first | (with_reducible first | exact HB.out | apply below_alloc | apply pw_below_drewN | apply below_drew1 | refine below_set ?_ GE351.out) | exact HB.out)⟩⟩
  case rest =>
    clear HC2
    try clear p2
    try clear c4
    try clear c4b0
    try clear c4b1
    obtain ⟨kq, x13_1, rfl, HA, HJ1, BK351, HB⟩ := hcut
    cases kq with
    | zero => exact absurd HA.out (by simp [staddleref02_Decode.j0])
    | succ kj1 =>
      have H := HA.out
      clear HA
      simp only [staddleref02_Decode.j0] at H
      by_cases c5 : x13_1 = true
      · subst c5
        have H1 : (some ((⟨#[]⟩ : ByteArray), 0, 0, 20)) = some (r1, r2, r3, r4) := by rw [if_pos rfl] at H; exact H
        clear H
        have H := H1
        clear H1
        simp only [Option.some.injEq, Prod.mk.injEq] at H
        obtain ⟨rfl, rfl, rfl, rfl⟩ := H
        have hcz6_0 : wc.cell? ⟨gb351, 0, none⟩ = some (.string (⟨#[]⟩ : ByteArray)) := (blk_cell BK351.out 0).trans rfl
        have hcz6_1 : wc.cell? ⟨gb351, 1, none⟩ = some (.int .u64 0) := (blk_cell BK351.out 1).trans rfl
        have hcz6_2 : wc.cell? ⟨gb351, 2, none⟩ = some (.int .i64 0) := (blk_cell BK351.out 2).trans rfl
        have hfz6_0 := blk_frozen BK351.out 0
        have hfz6_1 := blk_frozen BK351.out 1
        have hfz6_2 := blk_frozen BK351.out 2
        go_wp2
        refine bodyPost_ret (results_ct rfl _ _ gb351 42 #[.string (⟨#[]⟩ : ByteArray), .int .u64 0, .int .i64 0] (0, 0) _ rfl (by (with_reducible repeat (first | refine blk_drewN ?_ _ | refine blk_drew ?_ | refine blk_alloc ?_ _)); refine blk_put (cs := #[.string (⟨#[]⟩ : ByteArray), .int .u64 0, .int .i64 0]) ?_ 2 _ rfl; (with_reducible repeat (first | refine blk_drewN ?_ _ | refine blk_drew ?_ | refine blk_alloc ?_ _)); refine blk_put (cs := #[.string (⟨#[]⟩ : ByteArray), .int .u64 0, .int .i64 0]) ?_ 1 _ rfl; (with_reducible repeat (first | refine blk_drewN ?_ _ | refine blk_drew ?_ | refine blk_alloc ?_ _)); refine blk_put (cs := #[.string (⟨#[]⟩ : ByteArray), .int .u64 0, .int .i64 0]) ?_ 0 _ rfl; (with_reducible repeat (first | refine blk_drewN ?_ _ | refine blk_drew ?_ | refine blk_alloc ?_ _)); exact BK351.out) Try.underlying42 rfl (by kernel_rfl)) rfl ?_
        exact ⟨by first | rfl | (simp [errW_none, errW_some] <;> rfl) | (simp [*, errW_none, errW_some] <;> rfl), by repeat (first | (with_reducible first | exact HB.out | apply below_alloc | apply pw_below_drewN | apply below_drew1 | refine below_set ?_ GE351.out) | exact HB.out)⟩
      · replace c5 := Bool.eq_false_iff.mpr c5
        subst c5
        have H1 : (if 0 ≤ (wrap64 ((l0.length : Int) - 8)) then (if (wrap64 ((l0.length : Int) - 8)) ≤ (l0.length : Int) then ((staddleref01_Fixed.f kj1 (l0.drop ((wrap64 ((l0.length : Int) - 8)) : Int).toNat) 8).bind fun bt353 => (if (Int.tmod bt353.1 256) > 1 then (some ((⟨#[]⟩ : ByteArray), 0, 0, 20)) else (some (strOfNums (l0.take ((wrap64 ((l0.length : Int) - 8)) : Int).toNat), IntKind.u64.wrap (Int.tdiv bt353.1 256), wrap64 (Int.tmod bt353.1 256), 0)))) else (none)) else (none)) = some (r1, r2, r3, r4) := by rw [if_neg (show ¬ (false = true) by decide)] at H; exact H
        clear H
        have H := H1
        clear H1
        obtain ⟨ji7, hji7⟩ : ∃ j_ : Int, (wrap64 ((l0.length : Int) - 8)) = j_ := ⟨_, rfl⟩
        replace H : (if 0 ≤ (ji7) then (if (ji7) ≤ (l0.length : Int) then ((staddleref01_Fixed.f kj1 (l0.drop ((ji7) : Int).toNat) 8).bind fun bt353 => (if (Int.tmod bt353.1 256) > 1 then (some ((⟨#[]⟩ : ByteArray), 0, 0, 20)) else (some (strOfNums (l0.take ((ji7) : Int).toNat), IntKind.u64.wrap (Int.tdiv bt353.1 256), wrap64 (Int.tmod bt353.1 256), 0)))) else (none)) else (none)) = some (r1, r2, r3, r4) := by first | (rw [hji7] at H; exact H) | (simp only [hji7] at H ⊢; exact H)
        have hji7w : (IntKind.i64.wrap ((l0.length : Int) - 8)) = ji7 := (i64_w _).trans hji7
        by_cases c8 : 0 ≤ (ji7)
        · rw [if_pos c8] at H
          have c8b0 := eq_true c8
          have c8b1 : decide (0 ≤ (ji7)) = true := decide_eq_true c8
          clear c8
          by_cases c9 : (ji7) ≤ (l0.length : Int)
          · rw [if_pos c9] at H
            have c9b0 := eq_true c9
            have c9b1 : decide ((ji7) ≤ (l0.length : Int)) = true := decide_eq_true c9
            clear c9
            replace H := Option.bind_eq_some_iff.mp H
            obtain ⟨⟨t353, t354⟩, A100, H⟩ := H
            replace H : (if (Int.tmod t353 256) > 1 then (some ((⟨#[]⟩ : ByteArray), 0, 0, 20)) else (some (strOfNums (l0.take ((ji7) : Int).toNat), IntKind.u64.wrap (Int.tdiv t353 256), wrap64 (Int.tmod t353 256), 0))) = some (r1, r2, r3, r4) := H
            have A10 := Aside0.mk A100
            clear A100
            by_cases c11 : (Int.tmod t353 256) > 1
            · rw [if_pos c11] at H
              have c11b0 : decide (1 < (Int.tmod t353 256)) = true := decide_eq_true c11
              clear c11
              simp only [Option.some.injEq, Prod.mk.injEq] at H
              obtain ⟨rfl, rfl, rfl, rfl⟩ := H
              obtain ⟨i012, hi012, _, hsz12, _⟩ := info_parts info5
              obtain ⟨A12, hcut12, hA12, hC12⟩ := print_drop_of (P := Try.prog) (Value.int .u8) 0 28 5 .i64 Try.underlying28 hi012 hsz12 A0 c0 l0 (ji7) (of_decide_eq_true (by first | (with_reducible assumption) | assumption)) (of_decide_eq_true (by first | (with_reducible assumption) | assumption)) HC0.out
              have HR352 := Aside0.mk (Kd.C_of_reads (h1 := fun _ => rfl) (hA12 _ (Kd.reads_of_C HR0.out)))
              have HC352 := Aside0.mk hC12
              clear hA12 hC12 hi012 hsz12
              go_wp2_with (first | ((with_reducible refine gate_callee (f := 52) rfl ?_); refine goesL_ (some 21) rfl rfl Try.func52 (by kernel_rfl) rfl #[.slice A12 (l0.drop ((ji7) : Int).toNat).length (c0 - (ji7).toNat), .int .i64 8] rfl (by (try simp only [List.map_toArray, List.map_cons, List.map_nil]); first | done | (rw [show (l0.drop ((ji7) : Int).toNat).length = (l0.length - (ji7).toNat) from List.length_drop] <;> rfl) | (simp only [hji7]; rfl) | rfl | (simp only [List.length_drop, List.length_take]; rfl)) ?_; (with_reducible refine (staddleref01_Fixed.calls kj1 _ _ (l0.drop ((ji7) : Int).toNat) 8 t353 t354 _ ?side1 ?side2 A10.out).mono ?_); (case side1 => repeat (first | exact (Kd.C_below HR352.out HB.out) | (with_reducible refine Kd.C_alloc ?_ _) | (with_reducible refine Kd.C_drewN ?_ _) | (with_reducible refine Kd.C_drew ?_))); (case side2 => exact HC352.out); rintro e w' ⟨rfl, ⟨nd, rfl⟩⟩; refine ⟨_, rfl, ?_⟩; (try (rw [drewN_self wc]; generalize hq_ : World.drewN wc _ = wc; have n0_ : Aside0 (wc.heap[gb351]? = some (.cells #[.string (⟨#[]⟩ : ByteArray), .int .u64 0, .int .i64 0] 42 (0, 0))) := ⟨by rw [← hq_]; exact (by (with_reducible repeat (first | refine blk_drewN ?_ _ | refine blk_drew ?_ | refine blk_alloc ?_ _)); exact BK351.out)⟩; have n1_ : Aside0 (Below w.heap.size w wc) := ⟨by rw [← hq_]; exact (by repeat (first | (with_reducible first | exact HB.out | apply below_alloc | apply pw_below_drewN | apply below_drew1 | refine below_set ?_ GE351.out) | exact HB.out))⟩; clear BK351 HB hq_; have BK351 := n0_; have HB := n1_; clear n0_ n1_)); try have hcu13 : wc.cell? ⟨gb351, 0, none⟩ = some (.string (⟨#[]⟩ : ByteArray)) := (blk_cell BK351.out 0).trans rfl; try have hcu13f := blk_frozen BK351.out 0; try have hcu14 : wc.cell? ⟨gb351, 1, none⟩ = some (.int .u64 0) := (blk_cell BK351.out 1).trans rfl; try have hcu14f := blk_frozen BK351.out 1; try have hcu15 : wc.cell? ⟨gb351, 2, none⟩ = some (.int .i64 0) := (blk_cell BK351.out 2).trans rfl; try have hcu15f := blk_frozen BK351.out 2; have hcz16_0 : wc.cell? ⟨gb351, 0, none⟩ = some (.string (⟨#[]⟩ : ByteArray)) := (blk_cell BK351.out 0).trans rfl; have hcz16_1 : wc.cell? ⟨gb351, 1, none⟩ = some (.int .u64 0) := (blk_cell BK351.out 1).trans rfl; have hcz16_2 : wc.cell? ⟨gb351, 2, none⟩ = some (.int .i64 0) := (blk_cell BK351.out 2).trans rfl; have hfz16_0 := blk_frozen BK351.out 0; have hfz16_1 := blk_frozen BK351.out 1; have hfz16_2 := blk_frozen BK351.out 2))
              refine bodyPost_ret (results_ct rfl _ _ gb351 42 #[.string (⟨#[]⟩ : ByteArray), .int .u64 0, .int .i64 0] (0, 0) _ rfl (by (with_reducible repeat (first | refine blk_drewN ?_ _ | refine blk_drew ?_ | refine blk_alloc ?_ _)); refine blk_put (cs := #[.string (⟨#[]⟩ : ByteArray), .int .u64 0, .int .i64 0]) ?_ 2 _ rfl; (with_reducible repeat (first | refine blk_drewN ?_ _ | refine blk_drew ?_ | refine blk_alloc ?_ _)); refine blk_put (cs := #[.string (⟨#[]⟩ : ByteArray), .int .u64 0, .int .i64 0]) ?_ 1 _ rfl; (with_reducible repeat (first | refine blk_drewN ?_ _ | refine blk_drew ?_ | refine blk_alloc ?_ _)); refine blk_put (cs := #[.string (⟨#[]⟩ : ByteArray), .int .u64 0, .int .i64 0]) ?_ 0 _ rfl; (with_reducible repeat (first | refine blk_drewN ?_ _ | refine blk_drew ?_ | refine blk_alloc ?_ _)); exact BK351.out) Try.underlying42 rfl (by kernel_rfl)) rfl ?_
              exact ⟨by first | rfl | (simp [errW_none, errW_some] <;> rfl) | (simp only [← hji7]; first | rfl | (simp [errW_none, errW_some] <;> rfl)) | (simp [*, errW_none, errW_some] <;> rfl), by repeat (first | (with_reducible first | exact HB.out | apply below_alloc | apply pw_below_drewN | apply below_drew1 | refine below_set ?_ GE351.out) | exact HB.out)⟩
            · rw [if_neg c11] at H
              have c11b0 : decide (1 < (Int.tmod t353 256)) = false := decide_eq_false c11
              clear c11
              have c17b0 := eq_true (of_decide_eq_true (by first | (with_reducible assumption) | assumption) : 0 ≤ (ji7))
              have c18b0 := eq_true (of_decide_eq_true (by first | (with_reducible assumption) | assumption) : (ji7) ≤ (l0.length : Int))
              simp only [Option.some.injEq, Prod.mk.injEq] at H
              obtain ⟨rfl, rfl, rfl, rfl⟩ := H
              obtain ⟨i019, hi019, _, hsz19, _⟩ := info_parts info5
              obtain ⟨A19, hcut19, hA19, hC19⟩ := print_drop_of (P := Try.prog) (Value.int .u8) 0 28 5 .i64 Try.underlying28 hi019 hsz19 A0 c0 l0 (ji7) (of_decide_eq_true (by first | (with_reducible assumption) | assumption)) (of_decide_eq_true (by first | (with_reducible assumption) | assumption)) HC0.out
              have HR352 := Aside0.mk (Kd.C_of_reads (h1 := fun _ => rfl) (hA19 _ (Kd.reads_of_C HR0.out)))
              have HC352 := Aside0.mk hC19
              clear hA19 hC19 hi019 hsz19
              go_wp2_with (first | ((with_reducible refine gate_callee (f := 52) rfl ?_); refine goesL_ (some 21) rfl rfl Try.func52 (by kernel_rfl) rfl #[.slice A19 (l0.drop ((ji7) : Int).toNat).length (c0 - (ji7).toNat), .int .i64 8] rfl (by (try simp only [List.map_toArray, List.map_cons, List.map_nil]); first | done | (rw [show (l0.drop ((ji7) : Int).toNat).length = (l0.length - (ji7).toNat) from List.length_drop] <;> rfl) | (simp only [hji7]; rfl) | rfl | (simp only [List.length_drop, List.length_take]; rfl)) ?_; (with_reducible refine (staddleref01_Fixed.calls kj1 _ _ (l0.drop ((ji7) : Int).toNat) 8 t353 t354 _ ?side1 ?side2 A10.out).mono ?_); (case side1 => repeat (first | exact (Kd.C_below HR352.out HB.out) | (with_reducible refine Kd.C_alloc ?_ _) | (with_reducible refine Kd.C_drewN ?_ _) | (with_reducible refine Kd.C_drew ?_))); (case side2 => exact HC352.out); rintro e w' ⟨rfl, ⟨nd, rfl⟩⟩; refine ⟨_, rfl, ?_⟩; (try (rw [drewN_self wc]; generalize hq_ : World.drewN wc _ = wc; have n0_ : Aside0 (wc.heap[gb351]? = some (.cells #[.string (⟨#[]⟩ : ByteArray), .int .u64 0, .int .i64 0] 42 (0, 0))) := ⟨by rw [← hq_]; exact (by (with_reducible repeat (first | refine blk_drewN ?_ _ | refine blk_drew ?_ | refine blk_alloc ?_ _)); exact BK351.out)⟩; have n1_ : Aside0 (Below w.heap.size w wc) := ⟨by rw [← hq_]; exact (by repeat (first | (with_reducible first | exact HB.out | apply below_alloc | apply pw_below_drewN | apply below_drew1 | refine below_set ?_ GE351.out) | exact HB.out))⟩; clear BK351 HB hq_; have BK351 := n0_; have HB := n1_; clear n0_ n1_)); try have hcu20 : wc.cell? ⟨gb351, 0, none⟩ = some (.string (⟨#[]⟩ : ByteArray)) := (blk_cell BK351.out 0).trans rfl; try have hcu20f := blk_frozen BK351.out 0; try have hcu21 : wc.cell? ⟨gb351, 1, none⟩ = some (.int .u64 0) := (blk_cell BK351.out 1).trans rfl; try have hcu21f := blk_frozen BK351.out 1; try have hcu22 : wc.cell? ⟨gb351, 2, none⟩ = some (.int .i64 0) := (blk_cell BK351.out 2).trans rfl; try have hcu22f := blk_frozen BK351.out 2; obtain ⟨i023, hi023, _, hsz23, _⟩ := info_parts info5; obtain ⟨hcut23, hA23, hC23⟩ := print_take_of (P := Try.prog) (Value.int .u8) 0 28 5 .i64 Try.underlying28 hi023 hsz23 A0 c0 l0 (ji7) (of_decide_eq_true (by first | (with_reducible assumption) | assumption)) (of_decide_eq_true (by first | (with_reducible assumption) | assumption)) HC0.out; have HR355 := Aside0.mk (Kd.C_of_reads (h1 := fun _ => rfl) (hA23 _ (Kd.reads_of_C HR0.out))); have HC355 := Aside0.mk hC23; clear hA23 hC23 hi023 hsz23; have hcv24 := Kd.C_string (P := Try.prog) (A := A0) (c := c0) Try.underlying28 Try.underlying5 Try.underlying9 (Kd.C_below HR355.out HB.out); have hcd24 := fun (n_ : Nat) => Kd.C_string (P := Try.prog) (A := A0) (c := c0) Try.underlying28 Try.underlying5 Try.underlying9 (Kd.C_drewN (Kd.C_below HR355.out HB.out) n_); rw [show (l0.take ((ji7) : Int).toNat).length = (ji7).toNat from (by rw [List.length_take]; have h_ : ((ji7) : Int) ≤ (l0.length : Int) := of_decide_eq_true (by first | (with_reducible assumption) | assumption); omega)] at hcv24; simp only [show (l0.take ((ji7) : Int).toNat).length = (ji7).toNat from (by rw [List.length_take]; have h_ : ((ji7) : Int) ≤ (l0.length : Int) := of_decide_eq_true (by first | (with_reducible assumption) | assumption); omega)] at hcd24; have hcz25_0 : wc.cell? ⟨gb351, 0, none⟩ = some (.string (⟨#[]⟩ : ByteArray)) := (blk_cell BK351.out 0).trans rfl; have hcz25_1 : wc.cell? ⟨gb351, 1, none⟩ = some (.int .u64 0) := (blk_cell BK351.out 1).trans rfl; have hcz25_2 : wc.cell? ⟨gb351, 2, none⟩ = some (.int .i64 0) := (blk_cell BK351.out 2).trans rfl; have hfz25_0 := blk_frozen BK351.out 0; have hfz25_1 := blk_frozen BK351.out 1; have hfz25_2 := blk_frozen BK351.out 2))
              refine bodyPost_ret (results_ct rfl _ _ gb351 42 #[.string (strOfNums (l0.take ((ji7) : Int).toNat)), .int .u64 (IntKind.u64.wrap (Int.tdiv t353 256)), .int .i64 (wrap64 (Int.tmod t353 256))] (0, 0) _ rfl (by (with_reducible repeat (first | refine blk_drewN ?_ _ | refine blk_drew ?_ | refine blk_alloc ?_ _)); refine blk_put (cs := #[.string (strOfNums (l0.take ((ji7) : Int).toNat)), .int .u64 (IntKind.u64.wrap (Int.tdiv t353 256)), .int .i64 0]) ?_ 2 _ rfl; (with_reducible repeat (first | refine blk_drewN ?_ _ | refine blk_drew ?_ | refine blk_alloc ?_ _)); refine blk_put (cs := #[.string (strOfNums (l0.take ((ji7) : Int).toNat)), .int .u64 0, .int .i64 0]) ?_ 1 _ rfl; (with_reducible repeat (first | refine blk_drewN ?_ _ | refine blk_drew ?_ | refine blk_alloc ?_ _)); refine blk_put (cs := #[.string (⟨#[]⟩ : ByteArray), .int .u64 0, .int .i64 0]) ?_ 0 _ rfl; (with_reducible repeat (first | refine blk_drewN ?_ _ | refine blk_drew ?_ | refine blk_alloc ?_ _)); exact BK351.out) Try.underlying42 rfl (by kernel_rfl)) rfl ?_
              exact ⟨by first | rfl | (simp [errW_none, errW_some] <;> rfl) | (simp only [← hji7]; first | rfl | (simp [errW_none, errW_some] <;> rfl)) | (simp [*, errW_none, errW_some] <;> rfl), by repeat (first | (with_reducible first | exact HB.out | apply below_alloc | apply pw_below_drewN | apply below_drew1 | refine below_set ?_ GE351.out) | exact HB.out)⟩
          · rw [if_neg c9] at H
            exact absurd H (by simp)
        · rw [if_neg c8] at H
          exact absurd H (by simp)

-- NOT PRINTED: function 34 (staddleref13_Reader_key)

-- NOT PRINTED: function 15 (staddleref13_Decode)

-- NOT PRINTED: function 5 (staddlelaw13_EditReads)

-- NOT PRINTED: function 6 (staddlelaw13_EditBack)

end Go.Proofs.Ythkkbgehmiobaaa.P
