-- By this session's wip/hprint.py: the kit's print.py with functions by hand beside it. Not trusted: Lean checks it.
import Derived.Test.YthkkbgehmiobaaaP0
import Derived.Test.YthkkbgehmiobaaaP16
import Derived.Test.YthkkbgehmiobaaaP17
namespace Go.Proofs.Ythkkbgehmiobaaa.P
open Go.RowKit Go.Proofs.YthkkbgehmiobaaaW.PrintWords Go.Proofs.YthkkbgehmiobaaaW.PrintLast Go.Proofs.YthkkbgehmiobaaaW.PrintMore
attribute [local go_sem] max2_int min2_int max_two min_two max_three min_three max_four min_four   -- for this text's walks alone
set_option linter.unusedVariables false
set_option linter.unusedSimpArgs false

/-! ### staddleref13_File: function 27 -/
def staddleref13_File.j0 : Nat → Bool → Int → Int → Int → ByteArray → Int → Int → ByteArray → Int → Int → Option (Int)
  | 0, _, _, _, _, _, _, _, _, _, _ => none
  | k + 1, x19, x183000, x183001, x183002, x183003, x183004, x183005, x183006, x183007, x183008 => if x19 = true then (some 132) else ((staddleref02_Check.f x183003 x183004 x183005).bind fun t184 => (if t184 = 0 then ((staddleref02_Check.f x183006 x183007 x183008).bind fun t185 => (if t185 = 0 then ((staddleref02_Compare.f k x183006 x183007 x183008 x183003 x183004 x183005).bind fun t186 => (if t186 < 0 then (some 132) else (some 0))) else (some t185))) else (some t184)))
def staddleref13_File.f (k : Nat) (a0_0 : Int) (a0_1 : Int) (a0_2 : Int) (a0_3 : ByteArray) (a0_4 : Int) (a0_5 : Int) (a0_6 : ByteArray) (a0_7 : Int) (a0_8 : Int) : Option (Int) := (staddleref13_place.f k a0_0 a0_1).bind fun t183 => (if t183 = 0 then (if a0_2 < 1 then (staddleref13_File.j0 k true a0_0 a0_1 a0_2 a0_3 a0_4 a0_5 a0_6 a0_7 a0_8) else (staddleref13_File.j0 k (decide (a0_2 > 2147483647)) a0_0 a0_1 a0_2 a0_3 a0_4 a0_5 a0_6 a0_7 a0_8)) else (some t183))
theorem staddleref13_File.mono_l : ∀ k, (∀ y0 y1 y2 y3 y4 y5 y6 y7 y8 y9, LeO (staddleref13_File.j0 k y0 y1 y2 y3 y4 y5 y6 y7 y8 y9) (staddleref13_File.j0 (k + 1) y0 y1 y2 y3 y4 y5 y6 y7 y8 y9))
  | 0 => fun _ _ _ _ _ _ _ _ _ _ r h => by simp [staddleref13_File.j0] at h
  | k + 1 => by
    have ih0 := staddleref13_File.mono_l k
    · intro y0 y1 y2 y3 y4 y5 y6 y7 y8 y9
      unfold staddleref13_File.j0
      repeat' first
      | (with_reducible exact ih0 _ _ _ _ _ _ _ _ _ _)
      | (with_reducible exact staddleref02_Compare.mono _ _ _ _ _ _ _)
      | (with_reducible exact staddleref13_place.mono _ _ _)
      | (with_reducible exact LeO.refl _)
      | (with_reducible exact LeO.none _)
      | (with_reducible refine LeO.ite ?_ ?_)
      | (with_reducible refine LeO.bind ?_ (fun _ => ?_))
      | exact ih0 _ _ _ _ _ _ _ _ _ _
      | exact staddleref02_Compare.mono _ _ _ _ _ _ _
      | exact staddleref13_place.mono _ _ _
      | exact LeO.none _
      | refine LeO.ite ?_ ?_
      | refine LeO.bind ?_ (fun _ => ?_)
theorem staddleref13_File.mono : ∀ a0 a1 a2 a3 a4 a5 a6 a7 a8 k, LeO (staddleref13_File.f k a0 a1 a2 a3 a4 a5 a6 a7 a8) (staddleref13_File.f (k + 1) a0 a1 a2 a3 a4 a5 a6 a7 a8) := by
  intro a0 a1 a2 a3 a4 a5 a6 a7 a8 k
  have ih0 := staddleref13_File.mono_l k
  unfold staddleref13_File.f
  repeat' first
      | (with_reducible exact ih0 _ _ _ _ _ _ _ _ _ _)
      | (with_reducible exact staddleref02_Compare.mono _ _ _ _ _ _ _)
      | (with_reducible exact staddleref13_place.mono _ _ _)
      | (with_reducible exact LeO.refl _)
      | (with_reducible exact LeO.none _)
      | (with_reducible refine LeO.ite ?_ ?_)
      | (with_reducible refine LeO.bind ?_ (fun _ => ?_))
      | exact ih0 _ _ _ _ _ _ _ _ _ _
      | exact staddleref02_Compare.mono _ _ _ _ _ _ _
      | exact staddleref13_place.mono _ _ _
      | exact LeO.none _
      | refine LeO.ite ?_ ?_
      | refine LeO.bind ?_ (fun _ => ?_)
set_option maxHeartbeats 8000000 in
set_option maxRecDepth 100000 in
theorem staddleref13_File.calls (k : Nat) (a0_0 : Int) (a0_1 : Int) (a0_2 : Int) (a0_3 : ByteArray) (a0_4 : Int) (a0_5 : Int) (a0_6 : ByteArray) (a0_7 : Int) (a0_8 : Int) (r : Int) (w : World) (h : staddleref13_File.f k a0_0 a0_1 a0_2 a0_3 a0_4 a0_5 a0_6 a0_7 a0_8 = some r) :
    Calls Try.prog 27 #[.agg #[.int .i64 a0_0, .int .u64 a0_1, .int .i64 a0_2, .string a0_3, .int .u64 a0_4, .int .i64 a0_5, .string a0_6, .int .u64 a0_7, .int .i64 a0_8]] w fun e w' => e = .returned (.int .i64 r) ∧ Below w.heap.size w w' := by
  have hu44 := Try.underlying44
  have hu42 := Try.underlying42
  have HB := Aside0.mk (Below.refl w.heap.size w)
  have H : ((staddleref13_place.f k a0_0 a0_1).bind fun t183 => (if t183 = 0 then (if a0_2 < 1 then (staddleref13_File.j0 k true a0_0 a0_1 a0_2 a0_3 a0_4 a0_5 a0_6 a0_7 a0_8) else (staddleref13_File.j0 k (decide (a0_2 > 2147483647)) a0_0 a0_1 a0_2 a0_3 a0_4 a0_5 a0_6 a0_7 a0_8)) else (some t183))) = some r := h
  clear h
  replace H := Option.bind_eq_some_iff.mp H
  obtain ⟨t183, A20, H⟩ := H
  replace H : (if t183 = 0 then (if a0_2 < 1 then (staddleref13_File.j0 k true a0_0 a0_1 a0_2 a0_3 a0_4 a0_5 a0_6 a0_7 a0_8) else (staddleref13_File.j0 k (decide (a0_2 > 2147483647)) a0_0 a0_1 a0_2 a0_3 a0_4 a0_5 a0_6 a0_7 a0_8)) else (some t183)) = some r := H
  have A2 := Aside0.mk A20
  clear A20
  by_cases c3 : t183 = 0
  · rw [if_pos c3] at H
    have c3b0 : (t183 == 0) = true := beq_iff_eq.mpr c3
    have c3b1 : (t183 != 0) = false := bne_eq_false_iff_eq.mpr c3
    clear c3
    have HC4 := Aside0.mk H
    clear H
    go_enter Try.func27, Try.ntmps27
    go_upto_region 4 with (first | ((with_reducible refine gate_dst (N := 1) rfl ?_); refine box_event ?hg (N := 1) ?hd (cs := #[.int .i64 a0_0, .int .u64 a0_1, .int .i64 a0_2, .string a0_3, .int .u64 a0_4, .int .i64 a0_5, .string a0_6, .int .u64 a0_7, .int .i64 a0_8]) (t := 44) ?hr ?_; (case hd => rfl); (case hg => rfl); (case hr => first | (go_simp; done) | (go_simp; rfl)); intro gb182 hg w5 hbox hb; have n0_ := Aside0.mk (below_step (by repeat (first | (with_reducible first | exact HB.out | apply below_alloc | apply pw_below_drewN | apply below_drew1) | exact HB.out)) hb); have n1_ := Aside0.mk (hbox); have n2_ := Aside0.mk ((by rw [hg]; exact (below_size (by repeat (first | (with_reducible first | exact HB.out | apply below_alloc | apply pw_below_drewN | apply below_drew1) | exact HB.out))) : w.heap.size ≤ gb182)); have n3_ := Aside0.mk ((by rw [hg]; exact (below_size (by repeat (first | (with_reducible first | exact HB.out | apply below_alloc | apply pw_below_drewN | apply below_drew1) | exact HB.out))) : w.heap.size ≤ gb182)); clear HB; have HB := n0_; have BK182 := n1_; have GW182 := n2_; have GE182 := n3_; clear n0_ n1_ n2_ n3_; clear hb hbox hg; have hcz6_0 : w5.cell? ⟨gb182, 0, none⟩ = some (.int .i64 a0_0) := (blk_cell BK182.out 0).trans rfl; have hcz6_1 : w5.cell? ⟨gb182, 1, none⟩ = some (.int .u64 a0_1) := (blk_cell BK182.out 1).trans rfl; have hcz6_2 : w5.cell? ⟨gb182, 2, none⟩ = some (.int .i64 a0_2) := (blk_cell BK182.out 2).trans rfl; have hcz6_3 : w5.cell? ⟨gb182, 3, none⟩ = some (.string a0_3) := (blk_cell BK182.out 3).trans rfl; have hcz6_4 : w5.cell? ⟨gb182, 4, none⟩ = some (.int .u64 a0_4) := (blk_cell BK182.out 4).trans rfl; have hcz6_5 : w5.cell? ⟨gb182, 5, none⟩ = some (.int .i64 a0_5) := (blk_cell BK182.out 5).trans rfl; have hcz6_6 : w5.cell? ⟨gb182, 6, none⟩ = some (.string a0_6) := (blk_cell BK182.out 6).trans rfl; have hcz6_7 : w5.cell? ⟨gb182, 7, none⟩ = some (.int .u64 a0_7) := (blk_cell BK182.out 7).trans rfl; have hcz6_8 : w5.cell? ⟨gb182, 8, none⟩ = some (.int .i64 a0_8) := (blk_cell BK182.out 8).trans rfl; have hfz6_0 := blk_frozen BK182.out 0; have hfz6_1 := blk_frozen BK182.out 1; have hfz6_2 := blk_frozen BK182.out 2; have hfz6_3 := blk_frozen BK182.out 3; have hfz6_4 := blk_frozen BK182.out 4; have hfz6_5 := blk_frozen BK182.out 5; have hfz6_6 := blk_frozen BK182.out 6; have hfz6_7 := blk_frozen BK182.out 7; have hfz6_8 := blk_frozen BK182.out 8) | ((with_reducible refine gate_callee (f := 26) rfl ?_); refine goesL_ (some 8) rfl rfl Try.func26 (by kernel_rfl) rfl #[.int .i64 a0_0, .int .u64 a0_1] rfl (by (try simp only [List.map_toArray, List.map_cons, List.map_nil]); first | done | rfl | (simp only [List.length_drop, List.length_take]; rfl)) ?_; (with_reducible refine (staddleref13_place.calls k a0_0 a0_1 t183 _ A2.out).mono ?_); rintro e w' ⟨rfl, ⟨nd, rfl⟩⟩; refine ⟨_, rfl, ?_⟩))
    (try simp only [Act.put, List.setIfInBounds_toArray, List.set_cons_zero, List.set_cons_succ])
    go_cut [19] (fun v19 wc => ∃ (kq : Nat) (x19_3 : Bool), v19 = .bool x19_3 ∧ Aside0 (staddleref13_File.j0 kq x19_3 a0_0 a0_1 a0_2 a0_3 a0_4 a0_5 a0_6 a0_7 a0_8 = some r) ∧ Aside0 (kq ≤ k) ∧ Aside0 (wc.heap[gb182]? = some (.cells #[.int .i64 a0_0, .int .u64 a0_1, .int .i64 a0_2, .string a0_3, .int .u64 a0_4, .int .i64 a0_5, .string a0_6, .int .u64 a0_7, .int .i64 a0_8] 44 (0, 0))) ∧ Aside0 (Below w.heap.size w wc))
    case first =>
      have H := HC4.out
      clear HC4
      by_cases c7 : a0_2 < 1
      · rw [if_pos c7] at H
        have c7b0 : decide (a0_2 < 1) = true := decide_eq_true c7
        clear c7
        (first | rw [c7b0] | (simp only [i64_w, i32_w]; rw [c7b0]) | skip)
        have H' := Aside0.mk H
        clear H
        have hcz8_0 : w5.cell? ⟨gb182, 0, none⟩ = some (.int .i64 a0_0) := (blk_cell BK182.out 0).trans rfl
        have hcz8_1 : w5.cell? ⟨gb182, 1, none⟩ = some (.int .u64 a0_1) := (blk_cell BK182.out 1).trans rfl
        have hcz8_2 : w5.cell? ⟨gb182, 2, none⟩ = some (.int .i64 a0_2) := (blk_cell BK182.out 2).trans rfl
        have hcz8_3 : w5.cell? ⟨gb182, 3, none⟩ = some (.string a0_3) := (blk_cell BK182.out 3).trans rfl
        have hcz8_4 : w5.cell? ⟨gb182, 4, none⟩ = some (.int .u64 a0_4) := (blk_cell BK182.out 4).trans rfl
        have hcz8_5 : w5.cell? ⟨gb182, 5, none⟩ = some (.int .i64 a0_5) := (blk_cell BK182.out 5).trans rfl
        have hcz8_6 : w5.cell? ⟨gb182, 6, none⟩ = some (.string a0_6) := (blk_cell BK182.out 6).trans rfl
        have hcz8_7 : w5.cell? ⟨gb182, 7, none⟩ = some (.int .u64 a0_7) := (blk_cell BK182.out 7).trans rfl
        have hcz8_8 : w5.cell? ⟨gb182, 8, none⟩ = some (.int .i64 a0_8) := (blk_cell BK182.out 8).trans rfl
        have hfz8_0 := blk_frozen BK182.out 0
        have hfz8_1 := blk_frozen BK182.out 1
        have hfz8_2 := blk_frozen BK182.out 2
        have hfz8_3 := blk_frozen BK182.out 3
        have hfz8_4 := blk_frozen BK182.out 4
        have hfz8_5 := blk_frozen BK182.out 5
        have hfz8_6 := blk_frozen BK182.out 6
        have hfz8_7 := blk_frozen BK182.out 7
        have hfz8_8 := blk_frozen BK182.out 8
        go_wp2
        go_meet
        case rel => exact ⟨_, (true), (by first | rfl | (simp; done) | (simp [*]; done) | (simp; omega)), H', ⟨by first | omega | exact Nat.le_refl _⟩, ⟨by (with_reducible repeat (first | refine blk_drewN ?_ _ | refine blk_drew ?_ | refine blk_alloc ?_ _)); exact BK182.out⟩, ⟨by repeat (first | (with_reducible first | exact HB.out | apply below_alloc | apply pw_below_drewN | apply below_drew1 | refine below_set ?_ GE182.out) | exact HB.out)⟩⟩
      · rw [if_neg c7] at H
        have c7b0 : decide (a0_2 < 1) = false := decide_eq_false c7
        clear c7
        (first | rw [c7b0] | (simp only [i64_w, i32_w]; rw [c7b0]) | skip)
        have H' := Aside0.mk H
        clear H
        have hcz9_0 : w5.cell? ⟨gb182, 0, none⟩ = some (.int .i64 a0_0) := (blk_cell BK182.out 0).trans rfl
        have hcz9_1 : w5.cell? ⟨gb182, 1, none⟩ = some (.int .u64 a0_1) := (blk_cell BK182.out 1).trans rfl
        have hcz9_2 : w5.cell? ⟨gb182, 2, none⟩ = some (.int .i64 a0_2) := (blk_cell BK182.out 2).trans rfl
        have hcz9_3 : w5.cell? ⟨gb182, 3, none⟩ = some (.string a0_3) := (blk_cell BK182.out 3).trans rfl
        have hcz9_4 : w5.cell? ⟨gb182, 4, none⟩ = some (.int .u64 a0_4) := (blk_cell BK182.out 4).trans rfl
        have hcz9_5 : w5.cell? ⟨gb182, 5, none⟩ = some (.int .i64 a0_5) := (blk_cell BK182.out 5).trans rfl
        have hcz9_6 : w5.cell? ⟨gb182, 6, none⟩ = some (.string a0_6) := (blk_cell BK182.out 6).trans rfl
        have hcz9_7 : w5.cell? ⟨gb182, 7, none⟩ = some (.int .u64 a0_7) := (blk_cell BK182.out 7).trans rfl
        have hcz9_8 : w5.cell? ⟨gb182, 8, none⟩ = some (.int .i64 a0_8) := (blk_cell BK182.out 8).trans rfl
        have hfz9_0 := blk_frozen BK182.out 0
        have hfz9_1 := blk_frozen BK182.out 1
        have hfz9_2 := blk_frozen BK182.out 2
        have hfz9_3 := blk_frozen BK182.out 3
        have hfz9_4 := blk_frozen BK182.out 4
        have hfz9_5 := blk_frozen BK182.out 5
        have hfz9_6 := blk_frozen BK182.out 6
        have hfz9_7 := blk_frozen BK182.out 7
        have hfz9_8 := blk_frozen BK182.out 8
        go_wp2
        go_meet
        case rel => exact ⟨_, (decide (a0_2 > 2147483647)), (by first | rfl | (simp; done) | (simp [*]; done) | (simp; omega)), H', ⟨by first | omega | exact Nat.le_refl _⟩, ⟨by (with_reducible repeat (first | refine blk_drewN ?_ _ | refine blk_drew ?_ | refine blk_alloc ?_ _)); exact BK182.out⟩, ⟨by repeat (first | (with_reducible first | exact HB.out | apply below_alloc | apply pw_below_drewN | apply below_drew1 | refine below_set ?_ GE182.out) | exact HB.out)⟩⟩
    case rest =>
      clear HC4
      try clear c2
      try clear p2
      try clear c3
      try clear c3b0
      try clear c3b1
      try clear c7
      try clear c7b0
      try clear hcz6_0
      try clear hcz6_1
      try clear hcz6_2
      try clear hcz6_3
      try clear hcz6_4
      try clear hcz6_5
      try clear hcz6_6
      try clear hcz6_7
      try clear hcz6_8
      try clear hcz8_0
      try clear hcz8_1
      try clear hcz8_2
      try clear hcz8_3
      try clear hcz8_4
      try clear hcz8_5
      try clear hcz8_6
      try clear hcz8_7
      try clear hcz8_8
      try clear hcz9_0
      try clear hcz9_1
      try clear hcz9_2
      try clear hcz9_3
      try clear hcz9_4
      try clear hcz9_5
      try clear hcz9_6
      try clear hcz9_7
      try clear hcz9_8
      try clear hfz6_0
      try clear hfz6_1
      try clear hfz6_2
      try clear hfz6_3
      try clear hfz6_4
      try clear hfz6_5
      try clear hfz6_6
      try clear hfz6_7
      try clear hfz6_8
      try clear hfz8_0
      try clear hfz8_1
      try clear hfz8_2
      try clear hfz8_3
      try clear hfz8_4
      try clear hfz8_5
      try clear hfz8_6
      try clear hfz8_7
      try clear hfz8_8
      try clear hfz9_0
      try clear hfz9_1
      try clear hfz9_2
      try clear hfz9_3
      try clear hfz9_4
      try clear hfz9_5
      try clear hfz9_6
      try clear hfz9_7
      try clear hfz9_8
      obtain ⟨kq, x19_3, rfl, HA, HJ3, BK182, HB⟩ := hcut
      cases kq with
      | zero => exact absurd HA.out (by simp [staddleref13_File.j0])
      | succ kj3 =>
        have H := HA.out
        clear HA
        simp only [staddleref13_File.j0] at H
        by_cases c10 : x19_3 = true
        · subst c10
          have H1 : (some 132) = some r := by rw [if_pos rfl] at H; exact H
          clear H
          have H := H1
          clear H1
          obtain rfl := Option.some.inj H
          go_wp2
          go_ret
          exact ⟨by first | rfl | (simp [errW_none, errW_some] <;> rfl) | (simp [*, errW_none, errW_some] <;> rfl), by repeat (first | (with_reducible first | exact HB.out | apply below_alloc | apply pw_below_drewN | apply below_drew1 | refine below_set ?_ GE182.out) | exact HB.out)⟩
        · replace c10 := Bool.eq_false_iff.mpr c10
          subst c10
          have H1 : ((staddleref02_Check.f a0_3 a0_4 a0_5).bind fun t184 => (if t184 = 0 then ((staddleref02_Check.f a0_6 a0_7 a0_8).bind fun t185 => (if t185 = 0 then ((staddleref02_Compare.f kj3 a0_6 a0_7 a0_8 a0_3 a0_4 a0_5).bind fun t186 => (if t186 < 0 then (some 132) else (some 0))) else (some t185))) else (some t184))) = some r := by rw [if_neg (show ¬ (false = true) by decide)] at H; exact H
          clear H
          have H := H1
          clear H1
          replace H := Option.bind_eq_some_iff.mp H
          obtain ⟨t184, A110, H⟩ := H
          replace H : (if t184 = 0 then ((staddleref02_Check.f a0_6 a0_7 a0_8).bind fun t185 => (if t185 = 0 then ((staddleref02_Compare.f kj3 a0_6 a0_7 a0_8 a0_3 a0_4 a0_5).bind fun t186 => (if t186 < 0 then (some 132) else (some 0))) else (some t185))) else (some t184)) = some r := H
          have A11 := Aside0.mk A110
          clear A110
          by_cases c12 : t184 = 0
          · rw [if_pos c12] at H
            have c12b0 : (t184 == 0) = true := beq_iff_eq.mpr c12
            have c12b1 : (t184 != 0) = false := bne_eq_false_iff_eq.mpr c12
            clear c12
            replace H := Option.bind_eq_some_iff.mp H
            obtain ⟨t185, A130, H⟩ := H
            replace H : (if t185 = 0 then ((staddleref02_Compare.f kj3 a0_6 a0_7 a0_8 a0_3 a0_4 a0_5).bind fun t186 => (if t186 < 0 then (some 132) else (some 0))) else (some t185)) = some r := H
            have A13 := Aside0.mk A130
            clear A130
            by_cases c14 : t185 = 0
            · rw [if_pos c14] at H
              have c14b0 : (t185 == 0) = true := beq_iff_eq.mpr c14
              have c14b1 : (t185 != 0) = false := bne_eq_false_iff_eq.mpr c14
              clear c14
              replace H := Option.bind_eq_some_iff.mp H
              obtain ⟨t186, A150, H⟩ := H
              replace H : (if t186 < 0 then (some 132) else (some 0)) = some r := H
              have A15 := Aside0.mk A150
              clear A150
              by_cases c16 : t186 < 0
              · rw [if_pos c16] at H
                have c16b0 : decide (t186 < 0) = true := decide_eq_true c16
                clear c16
                obtain rfl := Option.some.inj H
                have hcz17_0 : wc.cell? ⟨gb182, 0, none⟩ = some (.int .i64 a0_0) := (blk_cell BK182.out 0).trans rfl
                have hcz17_1 : wc.cell? ⟨gb182, 1, none⟩ = some (.int .u64 a0_1) := (blk_cell BK182.out 1).trans rfl
                have hcz17_2 : wc.cell? ⟨gb182, 2, none⟩ = some (.int .i64 a0_2) := (blk_cell BK182.out 2).trans rfl
                have hcz17_3 : wc.cell? ⟨gb182, 3, none⟩ = some (.string a0_3) := (blk_cell BK182.out 3).trans rfl
                have hcz17_4 : wc.cell? ⟨gb182, 4, none⟩ = some (.int .u64 a0_4) := (blk_cell BK182.out 4).trans rfl
                have hcz17_5 : wc.cell? ⟨gb182, 5, none⟩ = some (.int .i64 a0_5) := (blk_cell BK182.out 5).trans rfl
                have hcz17_6 : wc.cell? ⟨gb182, 6, none⟩ = some (.string a0_6) := (blk_cell BK182.out 6).trans rfl
                have hcz17_7 : wc.cell? ⟨gb182, 7, none⟩ = some (.int .u64 a0_7) := (blk_cell BK182.out 7).trans rfl
                have hcz17_8 : wc.cell? ⟨gb182, 8, none⟩ = some (.int .i64 a0_8) := (blk_cell BK182.out 8).trans rfl
                have hfz17_0 := blk_frozen BK182.out 0
                have hfz17_1 := blk_frozen BK182.out 1
                have hfz17_2 := blk_frozen BK182.out 2
                have hfz17_3 := blk_frozen BK182.out 3
                have hfz17_4 := blk_frozen BK182.out 4
                have hfz17_5 := blk_frozen BK182.out 5
                have hfz17_6 := blk_frozen BK182.out 6
                have hfz17_7 := blk_frozen BK182.out 7
                have hfz17_8 := blk_frozen BK182.out 8
                go_wp2_with (first | ((with_reducible refine gate_callee (f := 38) rfl ?_); refine goesL_ (some 22) rfl rfl Try.func38 (by kernel_rfl) rfl #[.agg #[.string a0_3, .int .u64 a0_4, .int .i64 a0_5]] rfl (by (try simp only [List.map_toArray, List.map_cons, List.map_nil]); first | done | rfl | (simp only [List.length_drop, List.length_take]; rfl)) ?_; (with_reducible refine (staddleref02_Check.calls a0_3 a0_4 a0_5 t184 _ A11.out).mono ?_); rintro e w18 ⟨rfl, hb⟩; refine ⟨_, rfl, ?_⟩; have n0_ := Aside0.mk (blk_below (g := gb182) (o := .cells #[.int .i64 a0_0, .int .u64 a0_1, .int .i64 a0_2, .string a0_3, .int .u64 a0_4, .int .i64 a0_5, .string a0_6, .int .u64 a0_7, .int .i64 a0_8] 44 (0, 0)) (by (with_reducible repeat (first | refine blk_drewN ?_ _ | refine blk_drew ?_ | refine blk_alloc ?_ _)); exact BK182.out) hb); have n1_ := Aside0.mk (below_step (by repeat (first | (with_reducible first | exact HB.out | apply below_alloc | apply pw_below_drewN | apply below_drew1 | refine below_set ?_ GE182.out) | exact HB.out)) hb); clear BK182; clear HB; have BK182 := n0_; have HB := n1_; clear n0_ n1_; (try clear hb); (try clear hb2); (try clear hk); (try clear hi); have hcz19_0 : w18.cell? ⟨gb182, 0, none⟩ = some (.int .i64 a0_0) := (blk_cell BK182.out 0).trans rfl; have hcz19_1 : w18.cell? ⟨gb182, 1, none⟩ = some (.int .u64 a0_1) := (blk_cell BK182.out 1).trans rfl; have hcz19_2 : w18.cell? ⟨gb182, 2, none⟩ = some (.int .i64 a0_2) := (blk_cell BK182.out 2).trans rfl; have hcz19_3 : w18.cell? ⟨gb182, 3, none⟩ = some (.string a0_3) := (blk_cell BK182.out 3).trans rfl; have hcz19_4 : w18.cell? ⟨gb182, 4, none⟩ = some (.int .u64 a0_4) := (blk_cell BK182.out 4).trans rfl; have hcz19_5 : w18.cell? ⟨gb182, 5, none⟩ = some (.int .i64 a0_5) := (blk_cell BK182.out 5).trans rfl; have hcz19_6 : w18.cell? ⟨gb182, 6, none⟩ = some (.string a0_6) := (blk_cell BK182.out 6).trans rfl; have hcz19_7 : w18.cell? ⟨gb182, 7, none⟩ = some (.int .u64 a0_7) := (blk_cell BK182.out 7).trans rfl; have hcz19_8 : w18.cell? ⟨gb182, 8, none⟩ = some (.int .i64 a0_8) := (blk_cell BK182.out 8).trans rfl; have hfz19_0 := blk_frozen BK182.out 0; have hfz19_1 := blk_frozen BK182.out 1; have hfz19_2 := blk_frozen BK182.out 2; have hfz19_3 := blk_frozen BK182.out 3; have hfz19_4 := blk_frozen BK182.out 4; have hfz19_5 := blk_frozen BK182.out 5; have hfz19_6 := blk_frozen BK182.out 6; have hfz19_7 := blk_frozen BK182.out 7; have hfz19_8 := blk_frozen BK182.out 8) | ((with_reducible refine gate_callee (f := 38) rfl ?_); refine goesL_ (some 28) rfl rfl Try.func38 (by kernel_rfl) rfl #[.agg #[.string a0_6, .int .u64 a0_7, .int .i64 a0_8]] rfl (by (try simp only [List.map_toArray, List.map_cons, List.map_nil]); first | done | rfl | (simp only [List.length_drop, List.length_take]; rfl)) ?_; (with_reducible refine (staddleref02_Check.calls a0_6 a0_7 a0_8 t185 _ A13.out).mono ?_); rintro e w20 ⟨rfl, hb⟩; refine ⟨_, rfl, ?_⟩; have n0_ := Aside0.mk (blk_below (g := gb182) (o := .cells #[.int .i64 a0_0, .int .u64 a0_1, .int .i64 a0_2, .string a0_3, .int .u64 a0_4, .int .i64 a0_5, .string a0_6, .int .u64 a0_7, .int .i64 a0_8] 44 (0, 0)) (by (with_reducible repeat (first | refine blk_drewN ?_ _ | refine blk_drew ?_ | refine blk_alloc ?_ _)); exact BK182.out) hb); have n1_ := Aside0.mk (below_step (by repeat (first | (with_reducible first | exact HB.out | apply below_alloc | apply pw_below_drewN | apply below_drew1 | refine below_set ?_ GE182.out) | exact HB.out)) hb); clear BK182; clear HB; have BK182 := n0_; have HB := n1_; clear n0_ n1_; (try clear hb); (try clear hb2); (try clear hk); (try clear hi); have hcz21_0 : w20.cell? ⟨gb182, 0, none⟩ = some (.int .i64 a0_0) := (blk_cell BK182.out 0).trans rfl; have hcz21_1 : w20.cell? ⟨gb182, 1, none⟩ = some (.int .u64 a0_1) := (blk_cell BK182.out 1).trans rfl; have hcz21_2 : w20.cell? ⟨gb182, 2, none⟩ = some (.int .i64 a0_2) := (blk_cell BK182.out 2).trans rfl; have hcz21_3 : w20.cell? ⟨gb182, 3, none⟩ = some (.string a0_3) := (blk_cell BK182.out 3).trans rfl; have hcz21_4 : w20.cell? ⟨gb182, 4, none⟩ = some (.int .u64 a0_4) := (blk_cell BK182.out 4).trans rfl; have hcz21_5 : w20.cell? ⟨gb182, 5, none⟩ = some (.int .i64 a0_5) := (blk_cell BK182.out 5).trans rfl; have hcz21_6 : w20.cell? ⟨gb182, 6, none⟩ = some (.string a0_6) := (blk_cell BK182.out 6).trans rfl; have hcz21_7 : w20.cell? ⟨gb182, 7, none⟩ = some (.int .u64 a0_7) := (blk_cell BK182.out 7).trans rfl; have hcz21_8 : w20.cell? ⟨gb182, 8, none⟩ = some (.int .i64 a0_8) := (blk_cell BK182.out 8).trans rfl; have hfz21_0 := blk_frozen BK182.out 0; have hfz21_1 := blk_frozen BK182.out 1; have hfz21_2 := blk_frozen BK182.out 2; have hfz21_3 := blk_frozen BK182.out 3; have hfz21_4 := blk_frozen BK182.out 4; have hfz21_5 := blk_frozen BK182.out 5; have hfz21_6 := blk_frozen BK182.out 6; have hfz21_7 := blk_frozen BK182.out 7; have hfz21_8 := blk_frozen BK182.out 8) | ((with_reducible refine gate_callee (f := 41) rfl ?_); refine goesL_ (some 36) rfl rfl Try.func41 (by kernel_rfl) rfl #[.agg #[.string a0_6, .int .u64 a0_7, .int .i64 a0_8], .agg #[.string a0_3, .int .u64 a0_4, .int .i64 a0_5]] rfl (by (try simp only [List.map_toArray, List.map_cons, List.map_nil]); first | done | rfl | (simp only [List.length_drop, List.length_take]; rfl)) ?_; (with_reducible refine (staddleref02_Compare.calls kj3 a0_6 a0_7 a0_8 a0_3 a0_4 a0_5 t186 _ A15.out).mono ?_); rintro e w22 ⟨rfl, hb⟩; refine ⟨_, rfl, ?_⟩; have n0_ := Aside0.mk (blk_below (g := gb182) (o := .cells #[.int .i64 a0_0, .int .u64 a0_1, .int .i64 a0_2, .string a0_3, .int .u64 a0_4, .int .i64 a0_5, .string a0_6, .int .u64 a0_7, .int .i64 a0_8] 44 (0, 0)) (by (with_reducible repeat (first | refine blk_drewN ?_ _ | refine blk_drew ?_ | refine blk_alloc ?_ _)); exact BK182.out) hb); have n1_ := Aside0.mk (below_step (by repeat (first | (with_reducible first | exact HB.out | apply below_alloc | apply pw_below_drewN | apply below_drew1 | refine below_set ?_ GE182.out) | exact HB.out)) hb); clear BK182; clear HB; have BK182 := n0_; have HB := n1_; clear n0_ n1_; (try clear hb); (try clear hb2); (try clear hk); (try clear hi)))
                go_ret
                exact ⟨by first | rfl | (simp [errW_none, errW_some] <;> rfl) | (simp [*, errW_none, errW_some] <;> rfl), by repeat (first | (with_reducible first | exact HB.out | apply below_alloc | apply pw_below_drewN | apply below_drew1 | refine below_set ?_ GE182.out) | exact HB.out)⟩
              · rw [if_neg c16] at H
                have c16b0 : decide (t186 < 0) = false := decide_eq_false c16
                clear c16
                obtain rfl := Option.some.inj H
                have hcz23_0 : wc.cell? ⟨gb182, 0, none⟩ = some (.int .i64 a0_0) := (blk_cell BK182.out 0).trans rfl
                have hcz23_1 : wc.cell? ⟨gb182, 1, none⟩ = some (.int .u64 a0_1) := (blk_cell BK182.out 1).trans rfl
                have hcz23_2 : wc.cell? ⟨gb182, 2, none⟩ = some (.int .i64 a0_2) := (blk_cell BK182.out 2).trans rfl
                have hcz23_3 : wc.cell? ⟨gb182, 3, none⟩ = some (.string a0_3) := (blk_cell BK182.out 3).trans rfl
                have hcz23_4 : wc.cell? ⟨gb182, 4, none⟩ = some (.int .u64 a0_4) := (blk_cell BK182.out 4).trans rfl
                have hcz23_5 : wc.cell? ⟨gb182, 5, none⟩ = some (.int .i64 a0_5) := (blk_cell BK182.out 5).trans rfl
                have hcz23_6 : wc.cell? ⟨gb182, 6, none⟩ = some (.string a0_6) := (blk_cell BK182.out 6).trans rfl
                have hcz23_7 : wc.cell? ⟨gb182, 7, none⟩ = some (.int .u64 a0_7) := (blk_cell BK182.out 7).trans rfl
                have hcz23_8 : wc.cell? ⟨gb182, 8, none⟩ = some (.int .i64 a0_8) := (blk_cell BK182.out 8).trans rfl
                have hfz23_0 := blk_frozen BK182.out 0
                have hfz23_1 := blk_frozen BK182.out 1
                have hfz23_2 := blk_frozen BK182.out 2
                have hfz23_3 := blk_frozen BK182.out 3
                have hfz23_4 := blk_frozen BK182.out 4
                have hfz23_5 := blk_frozen BK182.out 5
                have hfz23_6 := blk_frozen BK182.out 6
                have hfz23_7 := blk_frozen BK182.out 7
                have hfz23_8 := blk_frozen BK182.out 8
                go_wp2_with (first | ((with_reducible refine gate_callee (f := 38) rfl ?_); refine goesL_ (some 22) rfl rfl Try.func38 (by kernel_rfl) rfl #[.agg #[.string a0_3, .int .u64 a0_4, .int .i64 a0_5]] rfl (by (try simp only [List.map_toArray, List.map_cons, List.map_nil]); first | done | rfl | (simp only [List.length_drop, List.length_take]; rfl)) ?_; (with_reducible refine (staddleref02_Check.calls a0_3 a0_4 a0_5 t184 _ A11.out).mono ?_); rintro e w24 ⟨rfl, hb⟩; refine ⟨_, rfl, ?_⟩; have n0_ := Aside0.mk (blk_below (g := gb182) (o := .cells #[.int .i64 a0_0, .int .u64 a0_1, .int .i64 a0_2, .string a0_3, .int .u64 a0_4, .int .i64 a0_5, .string a0_6, .int .u64 a0_7, .int .i64 a0_8] 44 (0, 0)) (by (with_reducible repeat (first | refine blk_drewN ?_ _ | refine blk_drew ?_ | refine blk_alloc ?_ _)); exact BK182.out) hb); have n1_ := Aside0.mk (below_step (by repeat (first | (with_reducible first | exact HB.out | apply below_alloc | apply pw_below_drewN | apply below_drew1 | refine below_set ?_ GE182.out) | exact HB.out)) hb); clear BK182; clear HB; have BK182 := n0_; have HB := n1_; clear n0_ n1_; (try clear hb); (try clear hb2); (try clear hk); (try clear hi); have hcz25_0 : w24.cell? ⟨gb182, 0, none⟩ = some (.int .i64 a0_0) := (blk_cell BK182.out 0).trans rfl; have hcz25_1 : w24.cell? ⟨gb182, 1, none⟩ = some (.int .u64 a0_1) := (blk_cell BK182.out 1).trans rfl; have hcz25_2 : w24.cell? ⟨gb182, 2, none⟩ = some (.int .i64 a0_2) := (blk_cell BK182.out 2).trans rfl; have hcz25_3 : w24.cell? ⟨gb182, 3, none⟩ = some (.string a0_3) := (blk_cell BK182.out 3).trans rfl; have hcz25_4 : w24.cell? ⟨gb182, 4, none⟩ = some (.int .u64 a0_4) := (blk_cell BK182.out 4).trans rfl; have hcz25_5 : w24.cell? ⟨gb182, 5, none⟩ = some (.int .i64 a0_5) := (blk_cell BK182.out 5).trans rfl; have hcz25_6 : w24.cell? ⟨gb182, 6, none⟩ = some (.string a0_6) := (blk_cell BK182.out 6).trans rfl; have hcz25_7 : w24.cell? ⟨gb182, 7, none⟩ = some (.int .u64 a0_7) := (blk_cell BK182.out 7).trans rfl; have hcz25_8 : w24.cell? ⟨gb182, 8, none⟩ = some (.int .i64 a0_8) := (blk_cell BK182.out 8).trans rfl; have hfz25_0 := blk_frozen BK182.out 0; have hfz25_1 := blk_frozen BK182.out 1; have hfz25_2 := blk_frozen BK182.out 2; have hfz25_3 := blk_frozen BK182.out 3; have hfz25_4 := blk_frozen BK182.out 4; have hfz25_5 := blk_frozen BK182.out 5; have hfz25_6 := blk_frozen BK182.out 6; have hfz25_7 := blk_frozen BK182.out 7; have hfz25_8 := blk_frozen BK182.out 8) | ((with_reducible refine gate_callee (f := 38) rfl ?_); refine goesL_ (some 28) rfl rfl Try.func38 (by kernel_rfl) rfl #[.agg #[.string a0_6, .int .u64 a0_7, .int .i64 a0_8]] rfl (by (try simp only [List.map_toArray, List.map_cons, List.map_nil]); first | done | rfl | (simp only [List.length_drop, List.length_take]; rfl)) ?_; (with_reducible refine (staddleref02_Check.calls a0_6 a0_7 a0_8 t185 _ A13.out).mono ?_); rintro e w26 ⟨rfl, hb⟩; refine ⟨_, rfl, ?_⟩; have n0_ := Aside0.mk (blk_below (g := gb182) (o := .cells #[.int .i64 a0_0, .int .u64 a0_1, .int .i64 a0_2, .string a0_3, .int .u64 a0_4, .int .i64 a0_5, .string a0_6, .int .u64 a0_7, .int .i64 a0_8] 44 (0, 0)) (by (with_reducible repeat (first | refine blk_drewN ?_ _ | refine blk_drew ?_ | refine blk_alloc ?_ _)); exact BK182.out) hb); have n1_ := Aside0.mk (below_step (by repeat (first | (with_reducible first | exact HB.out | apply below_alloc | apply pw_below_drewN | apply below_drew1 | refine below_set ?_ GE182.out) | exact HB.out)) hb); clear BK182; clear HB; have BK182 := n0_; have HB := n1_; clear n0_ n1_; (try clear hb); (try clear hb2); (try clear hk); (try clear hi); have hcz27_0 : w26.cell? ⟨gb182, 0, none⟩ = some (.int .i64 a0_0) := (blk_cell BK182.out 0).trans rfl; have hcz27_1 : w26.cell? ⟨gb182, 1, none⟩ = some (.int .u64 a0_1) := (blk_cell BK182.out 1).trans rfl; have hcz27_2 : w26.cell? ⟨gb182, 2, none⟩ = some (.int .i64 a0_2) := (blk_cell BK182.out 2).trans rfl; have hcz27_3 : w26.cell? ⟨gb182, 3, none⟩ = some (.string a0_3) := (blk_cell BK182.out 3).trans rfl; have hcz27_4 : w26.cell? ⟨gb182, 4, none⟩ = some (.int .u64 a0_4) := (blk_cell BK182.out 4).trans rfl; have hcz27_5 : w26.cell? ⟨gb182, 5, none⟩ = some (.int .i64 a0_5) := (blk_cell BK182.out 5).trans rfl; have hcz27_6 : w26.cell? ⟨gb182, 6, none⟩ = some (.string a0_6) := (blk_cell BK182.out 6).trans rfl; have hcz27_7 : w26.cell? ⟨gb182, 7, none⟩ = some (.int .u64 a0_7) := (blk_cell BK182.out 7).trans rfl; have hcz27_8 : w26.cell? ⟨gb182, 8, none⟩ = some (.int .i64 a0_8) := (blk_cell BK182.out 8).trans rfl; have hfz27_0 := blk_frozen BK182.out 0; have hfz27_1 := blk_frozen BK182.out 1; have hfz27_2 := blk_frozen BK182.out 2; have hfz27_3 := blk_frozen BK182.out 3; have hfz27_4 := blk_frozen BK182.out 4; have hfz27_5 := blk_frozen BK182.out 5; have hfz27_6 := blk_frozen BK182.out 6; have hfz27_7 := blk_frozen BK182.out 7; have hfz27_8 := blk_frozen BK182.out 8) | ((with_reducible refine gate_callee (f := 41) rfl ?_); refine goesL_ (some 36) rfl rfl Try.func41 (by kernel_rfl) rfl #[.agg #[.string a0_6, .int .u64 a0_7, .int .i64 a0_8], .agg #[.string a0_3, .int .u64 a0_4, .int .i64 a0_5]] rfl (by (try simp only [List.map_toArray, List.map_cons, List.map_nil]); first | done | rfl | (simp only [List.length_drop, List.length_take]; rfl)) ?_; (with_reducible refine (staddleref02_Compare.calls kj3 a0_6 a0_7 a0_8 a0_3 a0_4 a0_5 t186 _ A15.out).mono ?_); rintro e w28 ⟨rfl, hb⟩; refine ⟨_, rfl, ?_⟩; have n0_ := Aside0.mk (blk_below (g := gb182) (o := .cells #[.int .i64 a0_0, .int .u64 a0_1, .int .i64 a0_2, .string a0_3, .int .u64 a0_4, .int .i64 a0_5, .string a0_6, .int .u64 a0_7, .int .i64 a0_8] 44 (0, 0)) (by (with_reducible repeat (first | refine blk_drewN ?_ _ | refine blk_drew ?_ | refine blk_alloc ?_ _)); exact BK182.out) hb); have n1_ := Aside0.mk (below_step (by repeat (first | (with_reducible first | exact HB.out | apply below_alloc | apply pw_below_drewN | apply below_drew1 | refine below_set ?_ GE182.out) | exact HB.out)) hb); clear BK182; clear HB; have BK182 := n0_; have HB := n1_; clear n0_ n1_; (try clear hb); (try clear hb2); (try clear hk); (try clear hi)))
                go_ret
                exact ⟨by first | rfl | (simp [errW_none, errW_some] <;> rfl) | (simp [*, errW_none, errW_some] <;> rfl), by repeat (first | (with_reducible first | exact HB.out | apply below_alloc | apply pw_below_drewN | apply below_drew1 | refine below_set ?_ GE182.out) | exact HB.out)⟩
            · rw [if_neg c14] at H
              have c14b0 : (t185 == 0) = false := beq_eq_false_iff_ne.mpr c14
              have c14b1 : (t185 != 0) = true := bne_iff_ne.mpr c14
              obtain rfl := Option.some.inj H
              have hcz29_0 : wc.cell? ⟨gb182, 0, none⟩ = some (.int .i64 a0_0) := (blk_cell BK182.out 0).trans rfl
              have hcz29_1 : wc.cell? ⟨gb182, 1, none⟩ = some (.int .u64 a0_1) := (blk_cell BK182.out 1).trans rfl
              have hcz29_2 : wc.cell? ⟨gb182, 2, none⟩ = some (.int .i64 a0_2) := (blk_cell BK182.out 2).trans rfl
              have hcz29_3 : wc.cell? ⟨gb182, 3, none⟩ = some (.string a0_3) := (blk_cell BK182.out 3).trans rfl
              have hcz29_4 : wc.cell? ⟨gb182, 4, none⟩ = some (.int .u64 a0_4) := (blk_cell BK182.out 4).trans rfl
              have hcz29_5 : wc.cell? ⟨gb182, 5, none⟩ = some (.int .i64 a0_5) := (blk_cell BK182.out 5).trans rfl
              have hcz29_6 : wc.cell? ⟨gb182, 6, none⟩ = some (.string a0_6) := (blk_cell BK182.out 6).trans rfl
              have hcz29_7 : wc.cell? ⟨gb182, 7, none⟩ = some (.int .u64 a0_7) := (blk_cell BK182.out 7).trans rfl
              have hcz29_8 : wc.cell? ⟨gb182, 8, none⟩ = some (.int .i64 a0_8) := (blk_cell BK182.out 8).trans rfl
              have hfz29_0 := blk_frozen BK182.out 0
              have hfz29_1 := blk_frozen BK182.out 1
              have hfz29_2 := blk_frozen BK182.out 2
              have hfz29_3 := blk_frozen BK182.out 3
              have hfz29_4 := blk_frozen BK182.out 4
              have hfz29_5 := blk_frozen BK182.out 5
              have hfz29_6 := blk_frozen BK182.out 6
              have hfz29_7 := blk_frozen BK182.out 7
              have hfz29_8 := blk_frozen BK182.out 8
              go_wp2_with (first | ((with_reducible refine gate_callee (f := 38) rfl ?_); refine goesL_ (some 22) rfl rfl Try.func38 (by kernel_rfl) rfl #[.agg #[.string a0_3, .int .u64 a0_4, .int .i64 a0_5]] rfl (by (try simp only [List.map_toArray, List.map_cons, List.map_nil]); first | done | rfl | (simp only [List.length_drop, List.length_take]; rfl)) ?_; (with_reducible refine (staddleref02_Check.calls a0_3 a0_4 a0_5 t184 _ A11.out).mono ?_); rintro e w30 ⟨rfl, hb⟩; refine ⟨_, rfl, ?_⟩; have n0_ := Aside0.mk (blk_below (g := gb182) (o := .cells #[.int .i64 a0_0, .int .u64 a0_1, .int .i64 a0_2, .string a0_3, .int .u64 a0_4, .int .i64 a0_5, .string a0_6, .int .u64 a0_7, .int .i64 a0_8] 44 (0, 0)) (by (with_reducible repeat (first | refine blk_drewN ?_ _ | refine blk_drew ?_ | refine blk_alloc ?_ _)); exact BK182.out) hb); have n1_ := Aside0.mk (below_step (by repeat (first | (with_reducible first | exact HB.out | apply below_alloc | apply pw_below_drewN | apply below_drew1 | refine below_set ?_ GE182.out) | exact HB.out)) hb); clear BK182; clear HB; have BK182 := n0_; have HB := n1_; clear n0_ n1_; (try clear hb); (try clear hb2); (try clear hk); (try clear hi); have hcz31_0 : w30.cell? ⟨gb182, 0, none⟩ = some (.int .i64 a0_0) := (blk_cell BK182.out 0).trans rfl; have hcz31_1 : w30.cell? ⟨gb182, 1, none⟩ = some (.int .u64 a0_1) := (blk_cell BK182.out 1).trans rfl; have hcz31_2 : w30.cell? ⟨gb182, 2, none⟩ = some (.int .i64 a0_2) := (blk_cell BK182.out 2).trans rfl; have hcz31_3 : w30.cell? ⟨gb182, 3, none⟩ = some (.string a0_3) := (blk_cell BK182.out 3).trans rfl; have hcz31_4 : w30.cell? ⟨gb182, 4, none⟩ = some (.int .u64 a0_4) := (blk_cell BK182.out 4).trans rfl; have hcz31_5 : w30.cell? ⟨gb182, 5, none⟩ = some (.int .i64 a0_5) := (blk_cell BK182.out 5).trans rfl; have hcz31_6 : w30.cell? ⟨gb182, 6, none⟩ = some (.string a0_6) := (blk_cell BK182.out 6).trans rfl; have hcz31_7 : w30.cell? ⟨gb182, 7, none⟩ = some (.int .u64 a0_7) := (blk_cell BK182.out 7).trans rfl; have hcz31_8 : w30.cell? ⟨gb182, 8, none⟩ = some (.int .i64 a0_8) := (blk_cell BK182.out 8).trans rfl; have hfz31_0 := blk_frozen BK182.out 0; have hfz31_1 := blk_frozen BK182.out 1; have hfz31_2 := blk_frozen BK182.out 2; have hfz31_3 := blk_frozen BK182.out 3; have hfz31_4 := blk_frozen BK182.out 4; have hfz31_5 := blk_frozen BK182.out 5; have hfz31_6 := blk_frozen BK182.out 6; have hfz31_7 := blk_frozen BK182.out 7; have hfz31_8 := blk_frozen BK182.out 8) | ((with_reducible refine gate_callee (f := 38) rfl ?_); refine goesL_ (some 28) rfl rfl Try.func38 (by kernel_rfl) rfl #[.agg #[.string a0_6, .int .u64 a0_7, .int .i64 a0_8]] rfl (by (try simp only [List.map_toArray, List.map_cons, List.map_nil]); first | done | rfl | (simp only [List.length_drop, List.length_take]; rfl)) ?_; (with_reducible refine (staddleref02_Check.calls a0_6 a0_7 a0_8 t185 _ A13.out).mono ?_); rintro e w32 ⟨rfl, hb⟩; refine ⟨_, rfl, ?_⟩; have n0_ := Aside0.mk (blk_below (g := gb182) (o := .cells #[.int .i64 a0_0, .int .u64 a0_1, .int .i64 a0_2, .string a0_3, .int .u64 a0_4, .int .i64 a0_5, .string a0_6, .int .u64 a0_7, .int .i64 a0_8] 44 (0, 0)) (by (with_reducible repeat (first | refine blk_drewN ?_ _ | refine blk_drew ?_ | refine blk_alloc ?_ _)); exact BK182.out) hb); have n1_ := Aside0.mk (below_step (by repeat (first | (with_reducible first | exact HB.out | apply below_alloc | apply pw_below_drewN | apply below_drew1 | refine below_set ?_ GE182.out) | exact HB.out)) hb); clear BK182; clear HB; have BK182 := n0_; have HB := n1_; clear n0_ n1_; (try clear hb); (try clear hb2); (try clear hk); (try clear hi)))
              go_ret
              exact ⟨by first | rfl | (simp [errW_none, errW_some] <;> rfl) | (simp [*, errW_none, errW_some] <;> rfl), by repeat (first | (with_reducible first | exact HB.out | apply below_alloc | apply pw_below_drewN | apply below_drew1 | refine below_set ?_ GE182.out) | exact HB.out)⟩
          · rw [if_neg c12] at H
            have c12b0 : (t184 == 0) = false := beq_eq_false_iff_ne.mpr c12
            have c12b1 : (t184 != 0) = true := bne_iff_ne.mpr c12
            obtain rfl := Option.some.inj H
            have hcz33_0 : wc.cell? ⟨gb182, 0, none⟩ = some (.int .i64 a0_0) := (blk_cell BK182.out 0).trans rfl
            have hcz33_1 : wc.cell? ⟨gb182, 1, none⟩ = some (.int .u64 a0_1) := (blk_cell BK182.out 1).trans rfl
            have hcz33_2 : wc.cell? ⟨gb182, 2, none⟩ = some (.int .i64 a0_2) := (blk_cell BK182.out 2).trans rfl
            have hcz33_3 : wc.cell? ⟨gb182, 3, none⟩ = some (.string a0_3) := (blk_cell BK182.out 3).trans rfl
            have hcz33_4 : wc.cell? ⟨gb182, 4, none⟩ = some (.int .u64 a0_4) := (blk_cell BK182.out 4).trans rfl
            have hcz33_5 : wc.cell? ⟨gb182, 5, none⟩ = some (.int .i64 a0_5) := (blk_cell BK182.out 5).trans rfl
            have hcz33_6 : wc.cell? ⟨gb182, 6, none⟩ = some (.string a0_6) := (blk_cell BK182.out 6).trans rfl
            have hcz33_7 : wc.cell? ⟨gb182, 7, none⟩ = some (.int .u64 a0_7) := (blk_cell BK182.out 7).trans rfl
            have hcz33_8 : wc.cell? ⟨gb182, 8, none⟩ = some (.int .i64 a0_8) := (blk_cell BK182.out 8).trans rfl
            have hfz33_0 := blk_frozen BK182.out 0
            have hfz33_1 := blk_frozen BK182.out 1
            have hfz33_2 := blk_frozen BK182.out 2
            have hfz33_3 := blk_frozen BK182.out 3
            have hfz33_4 := blk_frozen BK182.out 4
            have hfz33_5 := blk_frozen BK182.out 5
            have hfz33_6 := blk_frozen BK182.out 6
            have hfz33_7 := blk_frozen BK182.out 7
            have hfz33_8 := blk_frozen BK182.out 8
            go_wp2_with (first | ((with_reducible refine gate_callee (f := 38) rfl ?_); refine goesL_ (some 22) rfl rfl Try.func38 (by kernel_rfl) rfl #[.agg #[.string a0_3, .int .u64 a0_4, .int .i64 a0_5]] rfl (by (try simp only [List.map_toArray, List.map_cons, List.map_nil]); first | done | rfl | (simp only [List.length_drop, List.length_take]; rfl)) ?_; (with_reducible refine (staddleref02_Check.calls a0_3 a0_4 a0_5 t184 _ A11.out).mono ?_); rintro e w34 ⟨rfl, hb⟩; refine ⟨_, rfl, ?_⟩; have n0_ := Aside0.mk (blk_below (g := gb182) (o := .cells #[.int .i64 a0_0, .int .u64 a0_1, .int .i64 a0_2, .string a0_3, .int .u64 a0_4, .int .i64 a0_5, .string a0_6, .int .u64 a0_7, .int .i64 a0_8] 44 (0, 0)) (by (with_reducible repeat (first | refine blk_drewN ?_ _ | refine blk_drew ?_ | refine blk_alloc ?_ _)); exact BK182.out) hb); have n1_ := Aside0.mk (below_step (by repeat (first | (with_reducible first | exact HB.out | apply below_alloc | apply pw_below_drewN | apply below_drew1 | refine below_set ?_ GE182.out) | exact HB.out)) hb); clear BK182; clear HB; have BK182 := n0_; have HB := n1_; clear n0_ n1_; (try clear hb); (try clear hb2); (try clear hk); (try clear hi)))
            go_ret
            exact ⟨by first | rfl | (simp [errW_none, errW_some] <;> rfl) | (simp [*, errW_none, errW_some] <;> rfl), by repeat (first | (with_reducible first | exact HB.out | apply below_alloc | apply pw_below_drewN | apply below_drew1 | refine below_set ?_ GE182.out) | exact HB.out)⟩
  · rw [if_neg c3] at H
    have c3b0 : (t183 == 0) = false := beq_eq_false_iff_ne.mpr c3
    have c3b1 : (t183 != 0) = true := bne_iff_ne.mpr c3
    obtain rfl := Option.some.inj H
    go_enter Try.func27, Try.ntmps27
    go_wp2_with (first | ((with_reducible refine gate_dst (N := 1) rfl ?_); refine box_event ?hg (N := 1) ?hd (cs := #[.int .i64 a0_0, .int .u64 a0_1, .int .i64 a0_2, .string a0_3, .int .u64 a0_4, .int .i64 a0_5, .string a0_6, .int .u64 a0_7, .int .i64 a0_8]) (t := 44) ?hr ?_; (case hd => rfl); (case hg => rfl); (case hr => first | (go_simp; done) | (go_simp; rfl)); intro gb182 hg w35 hbox hb; have n0_ := Aside0.mk (below_step (by repeat (first | (with_reducible first | exact HB.out | apply below_alloc | apply pw_below_drewN | apply below_drew1) | exact HB.out)) hb); have n1_ := Aside0.mk (hbox); have n2_ := Aside0.mk ((by rw [hg]; exact (below_size (by repeat (first | (with_reducible first | exact HB.out | apply below_alloc | apply pw_below_drewN | apply below_drew1) | exact HB.out))) : w.heap.size ≤ gb182)); have n3_ := Aside0.mk ((by rw [hg]; exact (below_size (by repeat (first | (with_reducible first | exact HB.out | apply below_alloc | apply pw_below_drewN | apply below_drew1) | exact HB.out))) : w.heap.size ≤ gb182)); clear HB; have HB := n0_; have BK182 := n1_; have GW182 := n2_; have GE182 := n3_; clear n0_ n1_ n2_ n3_; clear hb hbox hg; have hcz36_0 : w35.cell? ⟨gb182, 0, none⟩ = some (.int .i64 a0_0) := (blk_cell BK182.out 0).trans rfl; have hcz36_1 : w35.cell? ⟨gb182, 1, none⟩ = some (.int .u64 a0_1) := (blk_cell BK182.out 1).trans rfl; have hcz36_2 : w35.cell? ⟨gb182, 2, none⟩ = some (.int .i64 a0_2) := (blk_cell BK182.out 2).trans rfl; have hcz36_3 : w35.cell? ⟨gb182, 3, none⟩ = some (.string a0_3) := (blk_cell BK182.out 3).trans rfl; have hcz36_4 : w35.cell? ⟨gb182, 4, none⟩ = some (.int .u64 a0_4) := (blk_cell BK182.out 4).trans rfl; have hcz36_5 : w35.cell? ⟨gb182, 5, none⟩ = some (.int .i64 a0_5) := (blk_cell BK182.out 5).trans rfl; have hcz36_6 : w35.cell? ⟨gb182, 6, none⟩ = some (.string a0_6) := (blk_cell BK182.out 6).trans rfl; have hcz36_7 : w35.cell? ⟨gb182, 7, none⟩ = some (.int .u64 a0_7) := (blk_cell BK182.out 7).trans rfl; have hcz36_8 : w35.cell? ⟨gb182, 8, none⟩ = some (.int .i64 a0_8) := (blk_cell BK182.out 8).trans rfl; have hfz36_0 := blk_frozen BK182.out 0; have hfz36_1 := blk_frozen BK182.out 1; have hfz36_2 := blk_frozen BK182.out 2; have hfz36_3 := blk_frozen BK182.out 3; have hfz36_4 := blk_frozen BK182.out 4; have hfz36_5 := blk_frozen BK182.out 5; have hfz36_6 := blk_frozen BK182.out 6; have hfz36_7 := blk_frozen BK182.out 7; have hfz36_8 := blk_frozen BK182.out 8) | ((with_reducible refine gate_callee (f := 26) rfl ?_); refine goesL_ (some 8) rfl rfl Try.func26 (by kernel_rfl) rfl #[.int .i64 a0_0, .int .u64 a0_1] rfl (by (try simp only [List.map_toArray, List.map_cons, List.map_nil]); first | done | rfl | (simp only [List.length_drop, List.length_take]; rfl)) ?_; (with_reducible refine (staddleref13_place.calls k a0_0 a0_1 t183 _ A2.out).mono ?_); rintro e w' ⟨rfl, ⟨nd, rfl⟩⟩; refine ⟨_, rfl, ?_⟩))
    go_ret
    exact ⟨by first | rfl | (simp [errW_none, errW_some] <;> rfl) | (simp [*, errW_none, errW_some] <;> rfl), by repeat (first | (with_reducible first | exact HB.out | apply below_alloc | apply pw_below_drewN | apply below_drew1 | refine below_set ?_ GE182.out) | exact HB.out)⟩

end Go.Proofs.Ythkkbgehmiobaaa.P
