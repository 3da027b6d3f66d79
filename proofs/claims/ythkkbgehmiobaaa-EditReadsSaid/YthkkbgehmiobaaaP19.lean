-- By this session's wip/hprint.py: the kit's print.py with functions by hand beside it. Not trusted: Lean checks it.
import Derived.Test.YthkkbgehmiobaaaP0
import Derived.Test.YthkkbgehmiobaaaP16
import Derived.Test.YthkkbgehmiobaaaP18
namespace Go.Proofs.Ythkkbgehmiobaaa.P
open Go.RowKit Go.Proofs.YthkkbgehmiobaaaW.PrintWords Go.Proofs.YthkkbgehmiobaaaW.PrintLast Go.Proofs.YthkkbgehmiobaaaW.PrintMore
attribute [local go_sem] max2_int min2_int max_two min_two max_three min_three max_four min_four   -- for this text's walks alone
set_option linter.unusedVariables false
set_option linter.unusedSimpArgs false

/-! ### staddleref13_Check: function 13 -/
mutual
def staddleref13_Check.j0 : Nat → Bool → Int → Int → Int → List (S40) → List (S44) → Option (Int)
  | 0, _, _, _, _, _, _ => none
  | k + 1, x16, x188000, x188001, x188002, x188003, x188004 => if x16 = true then (some 131) else (if x188000 > 1099511627776 then (staddleref13_Check.j1 k true x188000 x188001 x188002 x188003 x188004) else (staddleref13_Check.j1 k (decide (x188001 > 1099511627776)) x188000 x188001 x188002 x188003 x188004))
def staddleref13_Check.j1 : Nat → Bool → Int → Int → Int → List (S40) → List (S44) → Option (Int)
  | 0, _, _, _, _, _, _ => none
  | k + 1, x24, x188000, x188001, x188002, x188003, x188004 => if x24 = true then (some 132) else (if x188002 > 72057594037927935 then (some 22) else (staddleref13_Check.l0 k 0 x188000 x188001 x188002 x188003 x188004))
def staddleref13_Check.l0 : Nat → Int → Int → Int → Int → List (S40) → List (S44) → Option (Int)
  | 0, _, _, _, _, _, _ => none
  | k + 1, x3, x188000, x188001, x188002, x188003, x188004 => if x3 < (x188003.length : Int) then (if 0 ≤ x3 then ((staddleref13_place.f k ((rd_T40 x188003 x3).f0) ((rd_T40 x188003 x3).f1)).bind fun t190 => (if t190 = 0 then (staddleref13_Check.l0 k (wrap64 (x3 + 1)) x188000 x188001 x188002 x188003 x188004) else (some t190))) else (none)) else (staddleref13_Check.l1 k 0 x188000 x188001 x188002 x188003 x188004)
def staddleref13_Check.l1 : Nat → Int → Int → Int → Int → List (S40) → List (S44) → Option (Int)
  | 0, _, _, _, _, _, _ => none
  | k + 1, x5, x188000, x188001, x188002, x188003, x188004 => if x5 < (x188004.length : Int) then (if 0 ≤ x5 then ((staddleref13_File.f k ((rd_T44 x188004 x5).f0) ((rd_T44 x188004 x5).f1) ((rd_T44 x188004 x5).f2) ((rd_T44 x188004 x5).f3.f0) ((rd_T44 x188004 x5).f3.f1) ((rd_T44 x188004 x5).f3.f2) ((rd_T44 x188004 x5).f4.f0) ((rd_T44 x188004 x5).f4.f1) ((rd_T44 x188004 x5).f4.f2)).bind fun t192 => (if t192 = 0 then (staddleref13_Check.l1 k (wrap64 (x5 + 1)) x188000 x188001 x188002 x188003 x188004) else (some t192))) else (none)) else (some 0)
end
def staddleref13_Check.f (k : Nat) (a0_0 : Int) (a0_1 : Int) (a0_2 : Int) (l0_3 : List (S40)) (l0_4 : List (S44)) : Option (Int) := if (l0_3.length : Int) > 20000 then (staddleref13_Check.j0 k true a0_0 a0_1 a0_2 l0_3 l0_4) else (staddleref13_Check.j0 k (decide ((l0_4.length : Int) > 100)) a0_0 a0_1 a0_2 l0_3 l0_4)
theorem staddleref13_Check.mono_l : ∀ k, (∀ y0 y1 y2 y3 y4 y5, LeO (staddleref13_Check.j0 k y0 y1 y2 y3 y4 y5) (staddleref13_Check.j0 (k + 1) y0 y1 y2 y3 y4 y5)) ∧ (∀ y0 y1 y2 y3 y4 y5, LeO (staddleref13_Check.j1 k y0 y1 y2 y3 y4 y5) (staddleref13_Check.j1 (k + 1) y0 y1 y2 y3 y4 y5)) ∧ (∀ y0 y1 y2 y3 y4 y5, LeO (staddleref13_Check.l0 k y0 y1 y2 y3 y4 y5) (staddleref13_Check.l0 (k + 1) y0 y1 y2 y3 y4 y5)) ∧ (∀ y0 y1 y2 y3 y4 y5, LeO (staddleref13_Check.l1 k y0 y1 y2 y3 y4 y5) (staddleref13_Check.l1 (k + 1) y0 y1 y2 y3 y4 y5))
  | 0 => ⟨fun _ _ _ _ _ _ r h => by simp [staddleref13_Check.j0] at h, fun _ _ _ _ _ _ r h => by simp [staddleref13_Check.j1] at h, fun _ _ _ _ _ _ r h => by simp [staddleref13_Check.l0] at h, fun _ _ _ _ _ _ r h => by simp [staddleref13_Check.l1] at h⟩
  | k + 1 => by
    obtain ⟨ih0, ih1, ih2, ih3⟩ := staddleref13_Check.mono_l k
    refine ⟨?_, ?_, ?_, ?_⟩
    · intro y0 y1 y2 y3 y4 y5
      unfold staddleref13_Check.j0
      repeat' first
      | (with_reducible exact ih0 _ _ _ _ _ _)
      | (with_reducible exact ih1 _ _ _ _ _ _)
      | (with_reducible exact ih2 _ _ _ _ _ _)
      | (with_reducible exact ih3 _ _ _ _ _ _)
      | (with_reducible exact staddleref13_File.mono _ _ _ _ _ _ _ _ _ _)
      | (with_reducible exact staddleref13_place.mono _ _ _)
      | (with_reducible exact LeO.refl _)
      | (with_reducible exact LeO.none _)
      | (with_reducible refine LeO.ite ?_ ?_)
      | (with_reducible refine LeO.bind ?_ (fun _ => ?_))
      | exact ih0 _ _ _ _ _ _
      | exact ih1 _ _ _ _ _ _
      | exact ih2 _ _ _ _ _ _
      | exact ih3 _ _ _ _ _ _
      | exact staddleref13_File.mono _ _ _ _ _ _ _ _ _ _
      | exact staddleref13_place.mono _ _ _
      | exact LeO.none _
      | refine LeO.ite ?_ ?_
      | refine LeO.bind ?_ (fun _ => ?_)
    · intro y0 y1 y2 y3 y4 y5
      unfold staddleref13_Check.j1
      repeat' first
      | (with_reducible exact ih0 _ _ _ _ _ _)
      | (with_reducible exact ih1 _ _ _ _ _ _)
      | (with_reducible exact ih2 _ _ _ _ _ _)
      | (with_reducible exact ih3 _ _ _ _ _ _)
      | (with_reducible exact staddleref13_File.mono _ _ _ _ _ _ _ _ _ _)
      | (with_reducible exact staddleref13_place.mono _ _ _)
      | (with_reducible exact LeO.refl _)
      | (with_reducible exact LeO.none _)
      | (with_reducible refine LeO.ite ?_ ?_)
      | (with_reducible refine LeO.bind ?_ (fun _ => ?_))
      | exact ih0 _ _ _ _ _ _
      | exact ih1 _ _ _ _ _ _
      | exact ih2 _ _ _ _ _ _
      | exact ih3 _ _ _ _ _ _
      | exact staddleref13_File.mono _ _ _ _ _ _ _ _ _ _
      | exact staddleref13_place.mono _ _ _
      | exact LeO.none _
      | refine LeO.ite ?_ ?_
      | refine LeO.bind ?_ (fun _ => ?_)
    · intro y0 y1 y2 y3 y4 y5
      unfold staddleref13_Check.l0
      repeat' first
      | (with_reducible exact ih0 _ _ _ _ _ _)
      | (with_reducible exact ih1 _ _ _ _ _ _)
      | (with_reducible exact ih2 _ _ _ _ _ _)
      | (with_reducible exact ih3 _ _ _ _ _ _)
      | (with_reducible exact staddleref13_File.mono _ _ _ _ _ _ _ _ _ _)
      | (with_reducible exact staddleref13_place.mono _ _ _)
      | (with_reducible exact LeO.refl _)
      | (with_reducible exact LeO.none _)
      | (with_reducible refine LeO.ite ?_ ?_)
      | (with_reducible refine LeO.bind ?_ (fun _ => ?_))
      | exact ih0 _ _ _ _ _ _
      | exact ih1 _ _ _ _ _ _
      | exact ih2 _ _ _ _ _ _
      | exact ih3 _ _ _ _ _ _
      | exact staddleref13_File.mono _ _ _ _ _ _ _ _ _ _
      | exact staddleref13_place.mono _ _ _
      | exact LeO.none _
      | refine LeO.ite ?_ ?_
      | refine LeO.bind ?_ (fun _ => ?_)
    · intro y0 y1 y2 y3 y4 y5
      unfold staddleref13_Check.l1
      repeat' first
      | (with_reducible exact ih0 _ _ _ _ _ _)
      | (with_reducible exact ih1 _ _ _ _ _ _)
      | (with_reducible exact ih2 _ _ _ _ _ _)
      | (with_reducible exact ih3 _ _ _ _ _ _)
      | (with_reducible exact staddleref13_File.mono _ _ _ _ _ _ _ _ _ _)
      | (with_reducible exact staddleref13_place.mono _ _ _)
      | (with_reducible exact LeO.refl _)
      | (with_reducible exact LeO.none _)
      | (with_reducible refine LeO.ite ?_ ?_)
      | (with_reducible refine LeO.bind ?_ (fun _ => ?_))
      | exact ih0 _ _ _ _ _ _
      | exact ih1 _ _ _ _ _ _
      | exact ih2 _ _ _ _ _ _
      | exact ih3 _ _ _ _ _ _
      | exact staddleref13_File.mono _ _ _ _ _ _ _ _ _ _
      | exact staddleref13_place.mono _ _ _
      | exact LeO.none _
      | refine LeO.ite ?_ ?_
      | refine LeO.bind ?_ (fun _ => ?_)
theorem staddleref13_Check.mono : ∀ a0 a1 a2 a3 a4 k, LeO (staddleref13_Check.f k a0 a1 a2 a3 a4) (staddleref13_Check.f (k + 1) a0 a1 a2 a3 a4) := by
  intro a0 a1 a2 a3 a4 k
  obtain ⟨ih0, ih1, ih2, ih3⟩ := staddleref13_Check.mono_l k
  unfold staddleref13_Check.f
  repeat' first
      | (with_reducible exact ih0 _ _ _ _ _ _)
      | (with_reducible exact ih1 _ _ _ _ _ _)
      | (with_reducible exact ih2 _ _ _ _ _ _)
      | (with_reducible exact ih3 _ _ _ _ _ _)
      | (with_reducible exact staddleref13_File.mono _ _ _ _ _ _ _ _ _ _)
      | (with_reducible exact staddleref13_place.mono _ _ _)
      | (with_reducible exact LeO.refl _)
      | (with_reducible exact LeO.none _)
      | (with_reducible refine LeO.ite ?_ ?_)
      | (with_reducible refine LeO.bind ?_ (fun _ => ?_))
      | exact ih0 _ _ _ _ _ _
      | exact ih1 _ _ _ _ _ _
      | exact ih2 _ _ _ _ _ _
      | exact ih3 _ _ _ _ _ _
      | exact staddleref13_File.mono _ _ _ _ _ _ _ _ _ _
      | exact staddleref13_place.mono _ _ _
      | exact LeO.none _
      | refine LeO.ite ?_ ?_
      | refine LeO.bind ?_ (fun _ => ?_)
set_option maxHeartbeats 8000000 in
set_option maxRecDepth 100000 in
theorem staddleref13_Check.calls (k : Nat) (a0_0 : Int) (a0_1 : Int) (a0_2 : Int) (A0_3 : Option Addr) (c0_3 : Nat) (l0_3 : List (S40)) (A0_4 : Option Addr) (c0_4 : Nat) (l0_4 : List (S44)) (r : Int) (w : World) (hr0_3 : Kd.C k40 w A0_3 l0_3.length l0_3) (hc0_3 : l0_3.length ≤ c0_3) (hr0_4 : Kd.C k44 w A0_4 l0_4.length l0_4) (hc0_4 : l0_4.length ≤ c0_4) (h : staddleref13_Check.f k a0_0 a0_1 a0_2 l0_3 l0_4 = some r) :
    Calls Try.prog 13 #[.agg #[.int .u64 a0_0, .int .u64 a0_1, .int .u64 a0_2, .slice A0_3 l0_3.length c0_3, .slice A0_4 l0_4.length c0_4]] w fun e w' => e = .returned (.int .i64 r) ∧ Below w.heap.size w w' := by
  have hu27 := Try.underlying27
  have hu44 := Try.underlying44
  have HR0_3 := Aside0.mk hr0_3
  have HC0_3 := Aside0.mk hc0_3
  clear hr0_3 hc0_3
  have HR0_4 := Aside0.mk hr0_4
  have HC0_4 := Aside0.mk hc0_4
  clear hr0_4 hc0_4
  have HB := Aside0.mk (Below.refl w.heap.size w)
  have H : (if (l0_3.length : Int) > 20000 then (staddleref13_Check.j0 k true a0_0 a0_1 a0_2 l0_3 l0_4) else (staddleref13_Check.j0 k (decide ((l0_4.length : Int) > 100)) a0_0 a0_1 a0_2 l0_3 l0_4)) = some r := h
  clear h
  have HC2 := Aside0.mk H
  clear H
  go_enter Try.func13, Try.ntmps13
  go_upto_region 1 with (first | ((with_reducible refine gate_dst (N := 1) rfl ?_); (try (refine gate_guard (by rfl) ?_; dsimp only)); refine box_event ?hg (N := 1) ?hd (cs := #[.int .u64 a0_0, .int .u64 a0_1, .int .u64 a0_2, .slice A0_3 l0_3.length c0_3, .slice A0_4 l0_4.length c0_4]) (t := 27) ?hr ?_; (case hd => rfl); (case hg => rfl); (case hr => first | (go_simp; done) | (go_simp; rfl)); intro gb187 hg w3 hbox hb; have n0_ := Aside0.mk (below_step (by repeat (first | (with_reducible first | exact HB.out | apply below_alloc | apply pw_below_drewN | apply below_drew1) | exact HB.out)) hb); have n1_ := Aside0.mk (hbox); have n2_ := Aside0.mk ((by rw [hg]; exact (below_size (by repeat (first | (with_reducible first | exact HB.out | apply below_alloc | apply pw_below_drewN | apply below_drew1) | exact HB.out))) : w.heap.size ≤ gb187)); have n3_ := Aside0.mk ((by rw [hg]; exact (below_size (by repeat (first | (with_reducible first | exact HB.out | apply below_alloc | apply pw_below_drewN | apply below_drew1) | exact HB.out))) : w.heap.size ≤ gb187)); clear HB; have HB := n0_; have BK187 := n1_; have GW187 := n2_; have GE187 := n3_; clear n0_ n1_ n2_ n3_; clear hb hbox hg))
  repeat (go_quiet (first | ((with_reducible refine gate_dst (N := 1) rfl ?_); (try (refine gate_guard (by rfl) ?_; dsimp only)); refine box_event ?hg (N := 1) ?hd (cs := #[.int .u64 a0_0, .int .u64 a0_1, .int .u64 a0_2, .slice A0_3 l0_3.length c0_3, .slice A0_4 l0_4.length c0_4]) (t := 27) ?hr ?_; (case hd => rfl); (case hg => rfl); (case hr => first | (go_simp; done) | (go_simp; rfl)); intro gb187 hg w3 hbox hb; have n0_ := Aside0.mk (below_step (by repeat (first | (with_reducible first | exact HB.out | apply below_alloc | apply pw_below_drewN | apply below_drew1) | exact HB.out)) hb); have n1_ := Aside0.mk (hbox); have n2_ := Aside0.mk ((by rw [hg]; exact (below_size (by repeat (first | (with_reducible first | exact HB.out | apply below_alloc | apply pw_below_drewN | apply below_drew1) | exact HB.out))) : w.heap.size ≤ gb187)); have n3_ := Aside0.mk ((by rw [hg]; exact (below_size (by repeat (first | (with_reducible first | exact HB.out | apply below_alloc | apply pw_below_drewN | apply below_drew1) | exact HB.out))) : w.heap.size ≤ gb187)); clear HB; have HB := n0_; have BK187 := n1_; have GW187 := n2_; have GE187 := n3_; clear n0_ n1_ n2_ n3_; clear hb hbox hg)); go_upto_region 1 with (first | ((with_reducible refine gate_dst (N := 1) rfl ?_); (try (refine gate_guard (by rfl) ?_; dsimp only)); refine box_event ?hg (N := 1) ?hd (cs := #[.int .u64 a0_0, .int .u64 a0_1, .int .u64 a0_2, .slice A0_3 l0_3.length c0_3, .slice A0_4 l0_4.length c0_4]) (t := 27) ?hr ?_; (case hd => rfl); (case hg => rfl); (case hr => first | (go_simp; done) | (go_simp; rfl)); intro gb187 hg w3 hbox hb; have n0_ := Aside0.mk (below_step (by repeat (first | (with_reducible first | exact HB.out | apply below_alloc | apply pw_below_drewN | apply below_drew1) | exact HB.out)) hb); have n1_ := Aside0.mk (hbox); have n2_ := Aside0.mk ((by rw [hg]; exact (below_size (by repeat (first | (with_reducible first | exact HB.out | apply below_alloc | apply pw_below_drewN | apply below_drew1) | exact HB.out))) : w.heap.size ≤ gb187)); have n3_ := Aside0.mk ((by rw [hg]; exact (below_size (by repeat (first | (with_reducible first | exact HB.out | apply below_alloc | apply pw_below_drewN | apply below_drew1) | exact HB.out))) : w.heap.size ≤ gb187)); clear HB; have HB := n0_; have BK187 := n1_; have GW187 := n2_; have GE187 := n3_; clear n0_ n1_ n2_ n3_; clear hb hbox hg)))
  (try simp only [Act.put, List.setIfInBounds_toArray, List.set_cons_zero, List.set_cons_succ])
  go_cut [16] (fun v16 wc => ∃ (kq : Nat) (x16_1 : Bool), v16 = .bool x16_1 ∧ Aside0 (staddleref13_Check.j0 kq x16_1 a0_0 a0_1 a0_2 l0_3 l0_4 = some r) ∧ Aside0 (kq ≤ k) ∧ Aside0 (wc.heap[gb187]? = some (.cells #[.int .u64 a0_0, .int .u64 a0_1, .int .u64 a0_2, (.slice A0_3 l0_3.length c0_3), (.slice A0_4 l0_4.length c0_4)] 27 (0, 0))) ∧ Aside0 (Below w.heap.size w wc))
  case first =>
    have H := HC2.out
    clear HC2
    by_cases c4 : (l0_3.length : Int) > 20000
    · rw [if_pos c4] at H
      have c4b0 : decide (20000 < (l0_3.length : Int)) = true := decide_eq_true c4
      have c4b1 : decide (20000 < l0_3.length) = true := decide_eq_true (by omega)
      clear c4
      (first | rw [c4b0] | (simp only [i64_w, i32_w]; rw [c4b0]) | skip)
      have H' := Aside0.mk H
      clear H
      have hcz5_0 : w3.cell? ⟨gb187, 0, none⟩ = some (.int .u64 a0_0) := (blk_cell BK187.out 0).trans rfl
      have hcz5_1 : w3.cell? ⟨gb187, 1, none⟩ = some (.int .u64 a0_1) := (blk_cell BK187.out 1).trans rfl
      have hcz5_2 : w3.cell? ⟨gb187, 2, none⟩ = some (.int .u64 a0_2) := (blk_cell BK187.out 2).trans rfl
      have hcz5_3 : w3.cell? ⟨gb187, 3, none⟩ = some (.slice A0_3 l0_3.length c0_3) := (blk_cell BK187.out 3).trans rfl
      have hcz5_4 : w3.cell? ⟨gb187, 4, none⟩ = some (.slice A0_4 l0_4.length c0_4) := (blk_cell BK187.out 4).trans rfl
      have hfz5_0 := blk_frozen BK187.out 0
      have hfz5_1 := blk_frozen BK187.out 1
      have hfz5_2 := blk_frozen BK187.out 2
      have hfz5_3 := blk_frozen BK187.out 3
      have hfz5_4 := blk_frozen BK187.out 4
      go_wp2
      repeat (go_quiet (fail); try go_wp2)
      go_meet
      case rel => exact ⟨_, (true), (by first | rfl | (simp; done) | (simp [*]; done) | (simp; omega)), H', ⟨by first | omega | exact Nat.le_refl _⟩, ⟨by (with_reducible repeat (first | refine blk_drewN ?_ _ | refine blk_drew ?_ | refine blk_alloc ?_ _)); exact BK187.out⟩, ⟨by repeat (first | (with_reducible first | exact HB.out | apply below_alloc | apply pw_below_drewN | apply below_drew1 | refine below_set ?_ GE187.out) | exact HB.out)⟩⟩
    · rw [if_neg c4] at H
      have c4b0 : decide (20000 < (l0_3.length : Int)) = false := decide_eq_false c4
      have c4b1 : decide (20000 < l0_3.length) = false := decide_eq_false (by omega)
      clear c4
      (first | rw [c4b0] | (simp only [i64_w, i32_w]; rw [c4b0]) | skip)
      have H' := Aside0.mk H
      clear H
      have hcz6_0 : w3.cell? ⟨gb187, 0, none⟩ = some (.int .u64 a0_0) := (blk_cell BK187.out 0).trans rfl
      have hcz6_1 : w3.cell? ⟨gb187, 1, none⟩ = some (.int .u64 a0_1) := (blk_cell BK187.out 1).trans rfl
      have hcz6_2 : w3.cell? ⟨gb187, 2, none⟩ = some (.int .u64 a0_2) := (blk_cell BK187.out 2).trans rfl
      have hcz6_3 : w3.cell? ⟨gb187, 3, none⟩ = some (.slice A0_3 l0_3.length c0_3) := (blk_cell BK187.out 3).trans rfl
      have hcz6_4 : w3.cell? ⟨gb187, 4, none⟩ = some (.slice A0_4 l0_4.length c0_4) := (blk_cell BK187.out 4).trans rfl
      have hfz6_0 := blk_frozen BK187.out 0
      have hfz6_1 := blk_frozen BK187.out 1
      have hfz6_2 := blk_frozen BK187.out 2
      have hfz6_3 := blk_frozen BK187.out 3
      have hfz6_4 := blk_frozen BK187.out 4
      go_wp2
      repeat (go_quiet (fail); try go_wp2)
      go_meet
      case rel => exact ⟨_, (decide ((l0_4.length : Int) > 100)), (by first | rfl | (simp; done) | (simp [*]; done) | (simp; omega)), H', ⟨by first | omega | exact Nat.le_refl _⟩, ⟨by (with_reducible repeat (first | refine blk_drewN ?_ _ | refine blk_drew ?_ | refine blk_alloc ?_ _)); exact BK187.out⟩, ⟨by repeat (first | (with_reducible first | exact HB.out | apply below_alloc | apply pw_below_drewN | apply below_drew1 | refine below_set ?_ GE187.out) | exact HB.out)⟩⟩
  case rest =>
    clear HC2
    try clear c1
    try clear p2
    try clear c4
    try clear c4b0
    try clear c4b1
    try clear hcz5_0
    try clear hcz5_1
    try clear hcz5_2
    try clear hcz5_3
    try clear hcz5_4
    try clear hcz6_0
    try clear hcz6_1
    try clear hcz6_2
    try clear hcz6_3
    try clear hcz6_4
    try clear hfz5_0
    try clear hfz5_1
    try clear hfz5_2
    try clear hfz5_3
    try clear hfz5_4
    try clear hfz6_0
    try clear hfz6_1
    try clear hfz6_2
    try clear hfz6_3
    try clear hfz6_4
    obtain ⟨kq, x16_1, rfl, HA, HJ1, BK187, HB⟩ := hcut
    cases kq with
    | zero => exact absurd HA.out (by simp [staddleref13_Check.j0])
    | succ kj1 =>
      have H := HA.out
      clear HA
      simp only [staddleref13_Check.j0] at H
      by_cases c7 : x16_1 = true
      · subst c7
        have H1 : (some 131) = some r := by rw [if_pos rfl] at H; exact H
        clear H
        have H := H1
        clear H1
        obtain rfl := Option.some.inj H
        go_wp2
        repeat (go_quiet (fail); try go_wp2)
        go_ret
        exact ⟨by first | rfl | (simp [errW_none, errW_some] <;> rfl) | (simp [*, errW_none, errW_some] <;> rfl), by repeat (first | (with_reducible first | exact HB.out | apply below_alloc | apply pw_below_drewN | apply below_drew1 | refine below_set ?_ GE187.out) | exact HB.out)⟩
      · replace c7 := Bool.eq_false_iff.mpr c7
        subst c7
        have H1 : (if a0_0 > 1099511627776 then (staddleref13_Check.j1 kj1 true a0_0 a0_1 a0_2 l0_3 l0_4) else (staddleref13_Check.j1 kj1 (decide (a0_1 > 1099511627776)) a0_0 a0_1 a0_2 l0_3 l0_4)) = some r := by rw [if_neg (show ¬ (false = true) by decide)] at H; exact H
        clear H
        have H := H1
        clear H1
        have HC8 := Aside0.mk H
        clear H
        go_upto_region 3 with (fail)
        repeat (go_quiet (fail); go_upto_region 3 with (fail))
        go_cut [24] (fun v24 wc => ∃ (kq : Nat) (x24_7 : Bool), v24 = .bool x24_7 ∧ Aside0 (staddleref13_Check.j1 kq x24_7 a0_0 a0_1 a0_2 l0_3 l0_4 = some r) ∧ Aside0 (kq ≤ kj1) ∧ Aside0 (wc.heap[gb187]? = some (.cells #[.int .u64 a0_0, .int .u64 a0_1, .int .u64 a0_2, (.slice A0_3 l0_3.length c0_3), (.slice A0_4 l0_4.length c0_4)] 27 (0, 0))) ∧ Aside0 (Below w.heap.size w wc))
        case first =>
          have H := HC8.out
          clear HC8
          by_cases c9 : a0_0 > 1099511627776
          · rw [if_pos c9] at H
            have c9b0 : decide (1099511627776 < a0_0) = true := decide_eq_true c9
            clear c9
            (first | rw [c9b0] | (simp only [i64_w, i32_w]; rw [c9b0]) | skip)
            have H' := Aside0.mk H
            clear H
            have hcz10_0 : wc.cell? ⟨gb187, 0, none⟩ = some (.int .u64 a0_0) := (blk_cell BK187.out 0).trans rfl
            have hcz10_1 : wc.cell? ⟨gb187, 1, none⟩ = some (.int .u64 a0_1) := (blk_cell BK187.out 1).trans rfl
            have hcz10_2 : wc.cell? ⟨gb187, 2, none⟩ = some (.int .u64 a0_2) := (blk_cell BK187.out 2).trans rfl
            have hcz10_3 : wc.cell? ⟨gb187, 3, none⟩ = some (.slice A0_3 l0_3.length c0_3) := (blk_cell BK187.out 3).trans rfl
            have hcz10_4 : wc.cell? ⟨gb187, 4, none⟩ = some (.slice A0_4 l0_4.length c0_4) := (blk_cell BK187.out 4).trans rfl
            have hfz10_0 := blk_frozen BK187.out 0
            have hfz10_1 := blk_frozen BK187.out 1
            have hfz10_2 := blk_frozen BK187.out 2
            have hfz10_3 := blk_frozen BK187.out 3
            have hfz10_4 := blk_frozen BK187.out 4
            go_wp2
            repeat (go_quiet (fail); try go_wp2)
            go_meet
            case rel => exact ⟨_, (true), (by first | rfl | (simp; done) | (simp [*]; done) | (simp; omega)), H', ⟨by have := HJ1.out; first | omega | exact Nat.le_refl _⟩, ⟨by (with_reducible repeat (first | refine blk_drewN ?_ _ | refine blk_drew ?_ | refine blk_alloc ?_ _)); exact BK187.out⟩, ⟨by repeat (first | (with_reducible first | exact HB.out | apply below_alloc | apply pw_below_drewN | apply below_drew1 | refine below_set ?_ GE187.out) | exact HB.out)⟩⟩
          · rw [if_neg c9] at H
            have c9b0 : decide (1099511627776 < a0_0) = false := decide_eq_false c9
            clear c9
            (first | rw [c9b0] | (simp only [i64_w, i32_w]; rw [c9b0]) | skip)
            have H' := Aside0.mk H
            clear H
            have hcz11_0 : wc.cell? ⟨gb187, 0, none⟩ = some (.int .u64 a0_0) := (blk_cell BK187.out 0).trans rfl
            have hcz11_1 : wc.cell? ⟨gb187, 1, none⟩ = some (.int .u64 a0_1) := (blk_cell BK187.out 1).trans rfl
            have hcz11_2 : wc.cell? ⟨gb187, 2, none⟩ = some (.int .u64 a0_2) := (blk_cell BK187.out 2).trans rfl
            have hcz11_3 : wc.cell? ⟨gb187, 3, none⟩ = some (.slice A0_3 l0_3.length c0_3) := (blk_cell BK187.out 3).trans rfl
            have hcz11_4 : wc.cell? ⟨gb187, 4, none⟩ = some (.slice A0_4 l0_4.length c0_4) := (blk_cell BK187.out 4).trans rfl
            have hfz11_0 := blk_frozen BK187.out 0
            have hfz11_1 := blk_frozen BK187.out 1
            have hfz11_2 := blk_frozen BK187.out 2
            have hfz11_3 := blk_frozen BK187.out 3
            have hfz11_4 := blk_frozen BK187.out 4
            go_wp2
            repeat (go_quiet (fail); try go_wp2)
            go_meet
            case rel => exact ⟨_, (decide (a0_1 > 1099511627776)), (by first | rfl | (simp; done) | (simp [*]; done) | (simp; omega)), H', ⟨by have := HJ1.out; first | omega | exact Nat.le_refl _⟩, ⟨by (with_reducible repeat (first | refine blk_drewN ?_ _ | refine blk_drew ?_ | refine blk_alloc ?_ _)); exact BK187.out⟩, ⟨by repeat (first | (with_reducible first | exact HB.out | apply below_alloc | apply pw_below_drewN | apply below_drew1 | refine below_set ?_ GE187.out) | exact HB.out)⟩⟩
        case rest =>
          clear HC8
          try clear c1
          try clear p2
          try clear c4
          try clear c4b0
          try clear c4b1
          try clear c7
          try clear c9
          try clear c9b0
          try clear hcz10_0
          try clear hcz10_1
          try clear hcz10_2
          try clear hcz10_3
          try clear hcz10_4
          try clear hcz11_0
          try clear hcz11_1
          try clear hcz11_2
          try clear hcz11_3
          try clear hcz11_4
          try clear hcz5_0
          try clear hcz5_1
          try clear hcz5_2
          try clear hcz5_3
          try clear hcz5_4
          try clear hcz6_0
          try clear hcz6_1
          try clear hcz6_2
          try clear hcz6_3
          try clear hcz6_4
          try clear hfz10_0
          try clear hfz10_1
          try clear hfz10_2
          try clear hfz10_3
          try clear hfz10_4
          try clear hfz11_0
          try clear hfz11_1
          try clear hfz11_2
          try clear hfz11_3
          try clear hfz11_4
          try clear hfz5_0
          try clear hfz5_1
          try clear hfz5_2
          try clear hfz5_3
          try clear hfz5_4
          try clear hfz6_0
          try clear hfz6_1
          try clear hfz6_2
          try clear hfz6_3
          try clear hfz6_4
          try clear p2
          obtain ⟨kq, x24_7, rfl, HA, HJ7, BK187, HB⟩ := hcut
          cases kq with
          | zero => exact absurd HA.out (by simp [staddleref13_Check.j1])
          | succ kj7 =>
            have H := HA.out
            clear HA
            simp only [staddleref13_Check.j1] at H
            by_cases c12 : x24_7 = true
            · subst c12
              have H1 : (some 132) = some r := by rw [if_pos rfl] at H; exact H
              clear H
              have H := H1
              clear H1
              obtain rfl := Option.some.inj H
              go_wp2
              repeat (go_quiet (fail); try go_wp2)
              go_ret
              exact ⟨by first | rfl | (simp [errW_none, errW_some] <;> rfl) | (simp [*, errW_none, errW_some] <;> rfl), by repeat (first | (with_reducible first | exact HB.out | apply below_alloc | apply pw_below_drewN | apply below_drew1 | refine below_set ?_ GE187.out) | exact HB.out)⟩
            · replace c12 := Bool.eq_false_iff.mpr c12
              subst c12
              have H1 : (if a0_2 > 72057594037927935 then (some 22) else (staddleref13_Check.l0 kj7 0 a0_0 a0_1 a0_2 l0_3 l0_4)) = some r := by rw [if_neg (show ¬ (false = true) by decide)] at H; exact H
              clear H
              have H := H1
              clear H1
              by_cases c13 : a0_2 > 72057594037927935
              · rw [if_pos c13] at H
                have c13b0 : decide (72057594037927935 < a0_2) = true := decide_eq_true c13
                clear c13
                obtain rfl := Option.some.inj H
                have hcz14_0 : wc.cell? ⟨gb187, 0, none⟩ = some (.int .u64 a0_0) := (blk_cell BK187.out 0).trans rfl
                have hcz14_1 : wc.cell? ⟨gb187, 1, none⟩ = some (.int .u64 a0_1) := (blk_cell BK187.out 1).trans rfl
                have hcz14_2 : wc.cell? ⟨gb187, 2, none⟩ = some (.int .u64 a0_2) := (blk_cell BK187.out 2).trans rfl
                have hcz14_3 : wc.cell? ⟨gb187, 3, none⟩ = some (.slice A0_3 l0_3.length c0_3) := (blk_cell BK187.out 3).trans rfl
                have hcz14_4 : wc.cell? ⟨gb187, 4, none⟩ = some (.slice A0_4 l0_4.length c0_4) := (blk_cell BK187.out 4).trans rfl
                have hfz14_0 := blk_frozen BK187.out 0
                have hfz14_1 := blk_frozen BK187.out 1
                have hfz14_2 := blk_frozen BK187.out 2
                have hfz14_3 := blk_frozen BK187.out 3
                have hfz14_4 := blk_frozen BK187.out 4
                go_wp2
                repeat (go_quiet (fail); try go_wp2)
                go_ret
                exact ⟨by first | rfl | (simp [errW_none, errW_some] <;> rfl) | (simp [*, errW_none, errW_some] <;> rfl), by repeat (first | (with_reducible first | exact HB.out | apply below_alloc | apply pw_below_drewN | apply below_drew1 | refine below_set ?_ GE187.out) | exact HB.out)⟩
              · rw [if_neg c13] at H
                have c13b0 : decide (72057594037927935 < a0_2) = false := decide_eq_false c13
                clear c13
                have H' := Aside0.mk H
                clear H
                have hcz15_0 : wc.cell? ⟨gb187, 0, none⟩ = some (.int .u64 a0_0) := (blk_cell BK187.out 0).trans rfl
                have hcz15_1 : wc.cell? ⟨gb187, 1, none⟩ = some (.int .u64 a0_1) := (blk_cell BK187.out 1).trans rfl
                have hcz15_2 : wc.cell? ⟨gb187, 2, none⟩ = some (.int .u64 a0_2) := (blk_cell BK187.out 2).trans rfl
                have hcz15_3 : wc.cell? ⟨gb187, 3, none⟩ = some (.slice A0_3 l0_3.length c0_3) := (blk_cell BK187.out 3).trans rfl
                have hcz15_4 : wc.cell? ⟨gb187, 4, none⟩ = some (.slice A0_4 l0_4.length c0_4) := (blk_cell BK187.out 4).trans rfl
                have hfz15_0 := blk_frozen BK187.out 0
                have hfz15_1 := blk_frozen BK187.out 1
                have hfz15_2 := blk_frozen BK187.out 2
                have hfz15_3 := blk_frozen BK187.out 3
                have hfz15_4 := blk_frozen BK187.out 4
                go_wp2
                repeat (go_quiet (fail); try go_wp2)
                go_loopg [3] kj7 (fun kq v3 w' => ∃ (x3_3 : Int), v3 = .int .i64 x3_3 ∧ Aside0 (staddleref13_Check.l0 kq x3_3 a0_0 a0_1 a0_2 l0_3 l0_4 = some r) ∧ Aside0 (kq ≤ kj7) ∧ Aside0 (w'.heap[gb187]? = some (.cells #[.int .u64 a0_0, .int .u64 a0_1, .int .u64 a0_2, (.slice A0_3 l0_3.length c0_3), (.slice A0_4 l0_4.length c0_4)] 27 (0, 0))) ∧ Aside0 (Below w.heap.size w w'))
                case atStart => exact ⟨(0), (by first | rfl | (simp; done) | (simp [*]; done) | (simp; omega)), H', ⟨Nat.le_refl _⟩, ⟨by (with_reducible repeat (first | refine blk_drewN ?_ _ | refine blk_drew ?_ | refine blk_alloc ?_ _)); exact BK187.out⟩, ⟨by repeat (first | (with_reducible first | exact HB.out | apply below_alloc | apply pw_below_drewN | apply below_drew1 | refine below_set ?_ GE187.out) | exact HB.out)⟩⟩
                case round =>
                  clear H'
                  try clear c1
                  try clear p2
                  try clear c4
                  try clear c4b0
                  try clear c4b1
                  try clear c7
                  try clear c9
                  try clear c9b0
                  try clear c12
                  try clear c13
                  try clear c13b0
                  try clear hcz10_0
                  try clear hcz10_1
                  try clear hcz10_2
                  try clear hcz10_3
                  try clear hcz10_4
                  try clear hcz11_0
                  try clear hcz11_1
                  try clear hcz11_2
                  try clear hcz11_3
                  try clear hcz11_4
                  try clear hcz14_0
                  try clear hcz14_1
                  try clear hcz14_2
                  try clear hcz14_3
                  try clear hcz14_4
                  try clear hcz15_0
                  try clear hcz15_1
                  try clear hcz15_2
                  try clear hcz15_3
                  try clear hcz15_4
                  try clear hcz5_0
                  try clear hcz5_1
                  try clear hcz5_2
                  try clear hcz5_3
                  try clear hcz5_4
                  try clear hcz6_0
                  try clear hcz6_1
                  try clear hcz6_2
                  try clear hcz6_3
                  try clear hcz6_4
                  try clear hfz10_0
                  try clear hfz10_1
                  try clear hfz10_2
                  try clear hfz10_3
                  try clear hfz10_4
                  try clear hfz11_0
                  try clear hfz11_1
                  try clear hfz11_2
                  try clear hfz11_3
                  try clear hfz11_4
                  try clear hfz14_0
                  try clear hfz14_1
                  try clear hfz14_2
                  try clear hfz14_3
                  try clear hfz14_4
                  try clear hfz15_0
                  try clear hfz15_1
                  try clear hfz15_2
                  try clear hfz15_3
                  try clear hfz15_4
                  try clear hfz5_0
                  try clear hfz5_1
                  try clear hfz5_2
                  try clear hfz5_3
                  try clear hfz5_4
                  try clear hfz6_0
                  try clear hfz6_1
                  try clear hfz6_2
                  try clear hfz6_3
                  try clear hfz6_4
                  try clear p2
                  obtain ⟨x3_3, rfl, HA, HK3, BK187, HB⟩ := hrel
                  cases gk with
                  | zero => exact absurd HA.out (by simp [staddleref13_Check.l0])
                  | succ k3 =>
                    have H := HA.out
                    clear HA
                    simp only [staddleref13_Check.l0] at H
                    by_cases c16 : x3_3 < (l0_3.length : Int)
                    · rw [if_pos c16] at H
                      have c16b0 : decide (x3_3 < (l0_3.length : Int)) = true := decide_eq_true c16
                      clear c16
                      by_cases c17 : 0 ≤ x3_3
                      · rw [if_pos c17] at H
                        have c17b0 : decide (0 ≤ x3_3) = true := decide_eq_true c17
                        clear c17
                        replace H := Option.bind_eq_some_iff.mp H
                        obtain ⟨t190, A180, H⟩ := H
                        replace H : (if t190 = 0 then (staddleref13_Check.l0 k3 (wrap64 (x3_3 + 1)) a0_0 a0_1 a0_2 l0_3 l0_4) else (some t190)) = some r := H
                        have A18 := Aside0.mk A180
                        clear A180
                        by_cases c19 : t190 = 0
                        · rw [if_pos c19] at H
                          have c19b0 : (t190 == 0) = true := beq_iff_eq.mpr c19
                          have c19b1 : (t190 != 0) = false := bne_eq_false_iff_eq.mpr c19
                          clear c19
                          have H' := Aside0.mk H
                          clear H
                          have hcz20_0 : wr.cell? ⟨gb187, 0, none⟩ = some (.int .u64 a0_0) := (blk_cell BK187.out 0).trans rfl
                          have hcz20_1 : wr.cell? ⟨gb187, 1, none⟩ = some (.int .u64 a0_1) := (blk_cell BK187.out 1).trans rfl
                          have hcz20_2 : wr.cell? ⟨gb187, 2, none⟩ = some (.int .u64 a0_2) := (blk_cell BK187.out 2).trans rfl
                          have hcz20_3 : wr.cell? ⟨gb187, 3, none⟩ = some (.slice A0_3 l0_3.length c0_3) := (blk_cell BK187.out 3).trans rfl
                          have hcz20_4 : wr.cell? ⟨gb187, 4, none⟩ = some (.slice A0_4 l0_4.length c0_4) := (blk_cell BK187.out 4).trans rfl
                          have hfz20_0 := blk_frozen BK187.out 0
                          have hfz20_1 := blk_frozen BK187.out 1
                          have hfz20_2 := blk_frozen BK187.out 2
                          have hfz20_3 := blk_frozen BK187.out 3
                          have hfz20_4 := blk_frozen BK187.out 4
                          have p188 : 0 ≤ (x3_3 : Int) := of_decide_eq_true (by first | (with_reducible assumption) | assumption)
                          have q188 : x3_3 < (l0_3.length : Int) := of_decide_eq_true (by first | (with_reducible assumption) | assumption)
                          obtain ⟨ad188, e188, hx188_0, hx188_1⟩ := at_T40 HR0_3.out x3_3 p188 q188
                          cases e188
                          replace hx188_0 := (HB.out.cell (World.block_lt_of_cell? w _ hx188_0)).trans hx188_0
                          replace hx188_1 := (HB.out.cell (World.block_lt_of_cell? w _ hx188_1)).trans hx188_1
                          replace p188 := eq_true p188
                          replace q188 := eq_true q188
                          have p189 : 0 ≤ (x3_3 : Int) := of_decide_eq_true (by first | (with_reducible assumption) | assumption)
                          have q189 : x3_3 < (l0_3.length : Int) := of_decide_eq_true (by first | (with_reducible assumption) | assumption)
                          obtain ⟨ad189, e189, hx189_0, hx189_1⟩ := at_T40 HR0_3.out x3_3 p189 q189
                          obtain rfl : ad188 = ad189 := (by injection e189)
                          replace hx189_0 := (HB.out.cell (World.block_lt_of_cell? w _ hx189_0)).trans hx189_0
                          replace hx189_1 := (HB.out.cell (World.block_lt_of_cell? w _ hx189_1)).trans hx189_1
                          replace p189 := eq_true p189
                          replace q189 := eq_true q189
                          go_wp2_with (first | (go_at_call 26; (with_reducible refine (staddleref13_place.calls k3 ((rd_T40 l0_3 x3_3).f0) ((rd_T40 l0_3 x3_3).f1) t190 _ A18.out).mono ?_); rintro e w' ⟨rfl, ⟨nd, rfl⟩⟩; (try first | exact ⟨rfl, _, World.drewN_drewN _ _ _⟩ | exact ⟨rfl, _, Eq.trans (World.drewN_drewN _ _ _) (congrArg (World.drewN _) (Nat.add_assoc _ _ _))⟩)))
                          repeat (go_quiet (first | (go_at_call 26; (with_reducible refine (staddleref13_place.calls k3 ((rd_T40 l0_3 x3_3).f0) ((rd_T40 l0_3 x3_3).f1) t190 _ A18.out).mono ?_); rintro e w' ⟨rfl, ⟨nd, rfl⟩⟩; (try first | exact ⟨rfl, _, World.drewN_drewN _ _ _⟩ | exact ⟨rfl, _, Eq.trans (World.drewN_drewN _ _ _) (congrArg (World.drewN _) (Nat.add_assoc _ _ _))⟩))); try go_wp2_with (first | (go_at_call 26; (with_reducible refine (staddleref13_place.calls k3 ((rd_T40 l0_3 x3_3).f0) ((rd_T40 l0_3 x3_3).f1) t190 _ A18.out).mono ?_); rintro e w' ⟨rfl, ⟨nd, rfl⟩⟩; (try first | exact ⟨rfl, _, World.drewN_drewN _ _ _⟩ | exact ⟨rfl, _, Eq.trans (World.drewN_drewN _ _ _) (congrArg (World.drewN _) (Nat.add_assoc _ _ _))⟩))))
                          go_roundg k3
                          case measure => have := HJ1.out; have := HJ7.out; have := HK3.out; omega
                          case rel => exact ⟨(wrap64 (x3_3 + 1)), (by first | rfl | (simp; done) | (simp [*]; done) | (simp; omega)), H', ⟨by have := HJ1.out; have := HJ7.out; have := HK3.out; omega⟩, ⟨by (with_reducible repeat (first | refine blk_drewN ?_ _ | refine blk_drew ?_ | refine blk_alloc ?_ _)); exact BK187.out⟩, ⟨by repeat (first | (with_reducible first | exact HB.out | apply below_alloc | apply pw_below_drewN | apply below_drew1 | refine below_set ?_ GE187.out) | exact HB.out)⟩⟩
                        · rw [if_neg c19] at H
                          have c19b0 : (t190 == 0) = false := beq_eq_false_iff_ne.mpr c19
                          have c19b1 : (t190 != 0) = true := bne_iff_ne.mpr c19
                          obtain rfl := Option.some.inj H
                          have hcz21_0 : wr.cell? ⟨gb187, 0, none⟩ = some (.int .u64 a0_0) := (blk_cell BK187.out 0).trans rfl
                          have hcz21_1 : wr.cell? ⟨gb187, 1, none⟩ = some (.int .u64 a0_1) := (blk_cell BK187.out 1).trans rfl
                          have hcz21_2 : wr.cell? ⟨gb187, 2, none⟩ = some (.int .u64 a0_2) := (blk_cell BK187.out 2).trans rfl
                          have hcz21_3 : wr.cell? ⟨gb187, 3, none⟩ = some (.slice A0_3 l0_3.length c0_3) := (blk_cell BK187.out 3).trans rfl
                          have hcz21_4 : wr.cell? ⟨gb187, 4, none⟩ = some (.slice A0_4 l0_4.length c0_4) := (blk_cell BK187.out 4).trans rfl
                          have hfz21_0 := blk_frozen BK187.out 0
                          have hfz21_1 := blk_frozen BK187.out 1
                          have hfz21_2 := blk_frozen BK187.out 2
                          have hfz21_3 := blk_frozen BK187.out 3
                          have hfz21_4 := blk_frozen BK187.out 4
                          have p188 : 0 ≤ (x3_3 : Int) := of_decide_eq_true (by first | (with_reducible assumption) | assumption)
                          have q188 : x3_3 < (l0_3.length : Int) := of_decide_eq_true (by first | (with_reducible assumption) | assumption)
                          obtain ⟨ad188, e188, hx188_0, hx188_1⟩ := at_T40 HR0_3.out x3_3 p188 q188
                          cases e188
                          replace hx188_0 := (HB.out.cell (World.block_lt_of_cell? w _ hx188_0)).trans hx188_0
                          replace hx188_1 := (HB.out.cell (World.block_lt_of_cell? w _ hx188_1)).trans hx188_1
                          replace p188 := eq_true p188
                          replace q188 := eq_true q188
                          have p189 : 0 ≤ (x3_3 : Int) := of_decide_eq_true (by first | (with_reducible assumption) | assumption)
                          have q189 : x3_3 < (l0_3.length : Int) := of_decide_eq_true (by first | (with_reducible assumption) | assumption)
                          obtain ⟨ad189, e189, hx189_0, hx189_1⟩ := at_T40 HR0_3.out x3_3 p189 q189
                          obtain rfl : ad188 = ad189 := (by injection e189)
                          replace hx189_0 := (HB.out.cell (World.block_lt_of_cell? w _ hx189_0)).trans hx189_0
                          replace hx189_1 := (HB.out.cell (World.block_lt_of_cell? w _ hx189_1)).trans hx189_1
                          replace p189 := eq_true p189
                          replace q189 := eq_true q189
                          go_wp2_with (first | (go_at_call 26; (with_reducible refine (staddleref13_place.calls k3 ((rd_T40 l0_3 x3_3).f0) ((rd_T40 l0_3 x3_3).f1) t190 _ A18.out).mono ?_); rintro e w' ⟨rfl, ⟨nd, rfl⟩⟩; (try first | exact ⟨rfl, _, World.drewN_drewN _ _ _⟩ | exact ⟨rfl, _, Eq.trans (World.drewN_drewN _ _ _) (congrArg (World.drewN _) (Nat.add_assoc _ _ _))⟩)))
                          repeat (go_quiet (first | (go_at_call 26; (with_reducible refine (staddleref13_place.calls k3 ((rd_T40 l0_3 x3_3).f0) ((rd_T40 l0_3 x3_3).f1) t190 _ A18.out).mono ?_); rintro e w' ⟨rfl, ⟨nd, rfl⟩⟩; (try first | exact ⟨rfl, _, World.drewN_drewN _ _ _⟩ | exact ⟨rfl, _, Eq.trans (World.drewN_drewN _ _ _) (congrArg (World.drewN _) (Nat.add_assoc _ _ _))⟩))); try go_wp2_with (first | (go_at_call 26; (with_reducible refine (staddleref13_place.calls k3 ((rd_T40 l0_3 x3_3).f0) ((rd_T40 l0_3 x3_3).f1) t190 _ A18.out).mono ?_); rintro e w' ⟨rfl, ⟨nd, rfl⟩⟩; (try first | exact ⟨rfl, _, World.drewN_drewN _ _ _⟩ | exact ⟨rfl, _, Eq.trans (World.drewN_drewN _ _ _) (congrArg (World.drewN _) (Nat.add_assoc _ _ _))⟩))))
                          go_ret
                          exact ⟨by first | rfl | (simp [errW_none, errW_some] <;> rfl) | (simp [*, errW_none, errW_some] <;> rfl), by repeat (first | (with_reducible first | exact HB.out | apply below_alloc | apply pw_below_drewN | apply below_drew1 | refine below_set ?_ GE187.out) | exact HB.out)⟩
                      · rw [if_neg c17] at H
                        exact absurd H (by simp)
                    · rw [if_neg c16] at H
                      have c16b0 : decide (x3_3 < (l0_3.length : Int)) = false := decide_eq_false c16
                      clear c16
                      have H' := Aside0.mk H
                      clear H
                      have hcz22_0 : wr.cell? ⟨gb187, 0, none⟩ = some (.int .u64 a0_0) := (blk_cell BK187.out 0).trans rfl
                      have hcz22_1 : wr.cell? ⟨gb187, 1, none⟩ = some (.int .u64 a0_1) := (blk_cell BK187.out 1).trans rfl
                      have hcz22_2 : wr.cell? ⟨gb187, 2, none⟩ = some (.int .u64 a0_2) := (blk_cell BK187.out 2).trans rfl
                      have hcz22_3 : wr.cell? ⟨gb187, 3, none⟩ = some (.slice A0_3 l0_3.length c0_3) := (blk_cell BK187.out 3).trans rfl
                      have hcz22_4 : wr.cell? ⟨gb187, 4, none⟩ = some (.slice A0_4 l0_4.length c0_4) := (blk_cell BK187.out 4).trans rfl
                      have hfz22_0 := blk_frozen BK187.out 0
                      have hfz22_1 := blk_frozen BK187.out 1
                      have hfz22_2 := blk_frozen BK187.out 2
                      have hfz22_3 := blk_frozen BK187.out 3
                      have hfz22_4 := blk_frozen BK187.out 4
                      go_wp2
                      repeat (go_quiet (fail); try go_wp2)
                      go_loopg [5] k3 (fun kq v5 w' => ∃ (x5_4 : Int), v5 = .int .i64 x5_4 ∧ Aside0 (staddleref13_Check.l1 kq x5_4 a0_0 a0_1 a0_2 l0_3 l0_4 = some r) ∧ Aside0 (kq ≤ k3) ∧ Aside0 (w'.heap[gb187]? = some (.cells #[.int .u64 a0_0, .int .u64 a0_1, .int .u64 a0_2, (.slice A0_3 l0_3.length c0_3), (.slice A0_4 l0_4.length c0_4)] 27 (0, 0))) ∧ Aside0 (Below w.heap.size w w'))
                      case atStart => exact ⟨(0), (by first | rfl | (simp; done) | (simp [*]; done) | (simp; omega)), H', ⟨Nat.le_refl _⟩, ⟨by (with_reducible repeat (first | refine blk_drewN ?_ _ | refine blk_drew ?_ | refine blk_alloc ?_ _)); exact BK187.out⟩, ⟨by repeat (first | (with_reducible first | exact HB.out | apply below_alloc | apply pw_below_drewN | apply below_drew1 | refine below_set ?_ GE187.out) | exact HB.out)⟩⟩
                      case round =>
                        clear H'
                        try clear c1
                        try clear p1
                        try clear q1
                        try clear hx1
                        try clear p2
                        try clear c4
                        try clear c4b0
                        try clear c4b1
                        try clear p6
                        try clear c7
                        try clear c9
                        try clear c9b0
                        try clear c12
                        try clear c13
                        try clear c13b0
                        try clear c16
                        try clear c16b0
                        try clear c17
                        try clear c17b0
                        try clear p18
                        try clear q18
                        try clear hx18
                        try clear c19
                        try clear c19b0
                        try clear c19b1
                        try clear hcz10_0
                        try clear hcz10_1
                        try clear hcz10_2
                        try clear hcz10_3
                        try clear hcz10_4
                        try clear hcz11_0
                        try clear hcz11_1
                        try clear hcz11_2
                        try clear hcz11_3
                        try clear hcz11_4
                        try clear hcz14_0
                        try clear hcz14_1
                        try clear hcz14_2
                        try clear hcz14_3
                        try clear hcz14_4
                        try clear hcz15_0
                        try clear hcz15_1
                        try clear hcz15_2
                        try clear hcz15_3
                        try clear hcz15_4
                        try clear hcz20_0
                        try clear hcz20_1
                        try clear hcz20_2
                        try clear hcz20_3
                        try clear hcz20_4
                        try clear hcz21_0
                        try clear hcz21_1
                        try clear hcz21_2
                        try clear hcz21_3
                        try clear hcz21_4
                        try clear hcz22_0
                        try clear hcz22_1
                        try clear hcz22_2
                        try clear hcz22_3
                        try clear hcz22_4
                        try clear hcz5_0
                        try clear hcz5_1
                        try clear hcz5_2
                        try clear hcz5_3
                        try clear hcz5_4
                        try clear hcz6_0
                        try clear hcz6_1
                        try clear hcz6_2
                        try clear hcz6_3
                        try clear hcz6_4
                        try clear hfz10_0
                        try clear hfz10_1
                        try clear hfz10_2
                        try clear hfz10_3
                        try clear hfz10_4
                        try clear hfz11_0
                        try clear hfz11_1
                        try clear hfz11_2
                        try clear hfz11_3
                        try clear hfz11_4
                        try clear hfz14_0
                        try clear hfz14_1
                        try clear hfz14_2
                        try clear hfz14_3
                        try clear hfz14_4
                        try clear hfz15_0
                        try clear hfz15_1
                        try clear hfz15_2
                        try clear hfz15_3
                        try clear hfz15_4
                        try clear hfz20_0
                        try clear hfz20_1
                        try clear hfz20_2
                        try clear hfz20_3
                        try clear hfz20_4
                        try clear hfz21_0
                        try clear hfz21_1
                        try clear hfz21_2
                        try clear hfz21_3
                        try clear hfz21_4
                        try clear hfz22_0
                        try clear hfz22_1
                        try clear hfz22_2
                        try clear hfz22_3
                        try clear hfz22_4
                        try clear hfz5_0
                        try clear hfz5_1
                        try clear hfz5_2
                        try clear hfz5_3
                        try clear hfz5_4
                        try clear hfz6_0
                        try clear hfz6_1
                        try clear hfz6_2
                        try clear hfz6_3
                        try clear hfz6_4
                        try clear hx188_0
                        try clear hx188_1
                        try clear hx189_0
                        try clear hx189_1
                        try clear p188
                        try clear p189
                        try clear p2
                        try clear q188
                        try clear q189
                        obtain ⟨x5_4, rfl, HA, HK4, BK187, HB⟩ := hrel
                        cases gk with
                        | zero => exact absurd HA.out (by simp [staddleref13_Check.l1])
                        | succ k4 =>
                          have H := HA.out
                          clear HA
                          simp only [staddleref13_Check.l1] at H
                          by_cases c23 : x5_4 < (l0_4.length : Int)
                          · rw [if_pos c23] at H
                            have c23b0 : decide (x5_4 < (l0_4.length : Int)) = true := decide_eq_true c23
                            clear c23
                            by_cases c24 : 0 ≤ x5_4
                            · rw [if_pos c24] at H
                              have c24b0 : decide (0 ≤ x5_4) = true := decide_eq_true c24
                              clear c24
                              replace H := Option.bind_eq_some_iff.mp H
                              obtain ⟨t192, A250, H⟩ := H
                              replace H : (if t192 = 0 then (staddleref13_Check.l1 k4 (wrap64 (x5_4 + 1)) a0_0 a0_1 a0_2 l0_3 l0_4) else (some t192)) = some r := H
                              have A25 := Aside0.mk A250
                              clear A250
                              by_cases c26 : t192 = 0
                              · rw [if_pos c26] at H
                                have c26b0 : (t192 == 0) = true := beq_iff_eq.mpr c26
                                have c26b1 : (t192 != 0) = false := bne_eq_false_iff_eq.mpr c26
                                clear c26
                                have H' := Aside0.mk H
                                clear H
                                have hcz27_0 : wr.cell? ⟨gb187, 0, none⟩ = some (.int .u64 a0_0) := (blk_cell BK187.out 0).trans rfl
                                have hcz27_1 : wr.cell? ⟨gb187, 1, none⟩ = some (.int .u64 a0_1) := (blk_cell BK187.out 1).trans rfl
                                have hcz27_2 : wr.cell? ⟨gb187, 2, none⟩ = some (.int .u64 a0_2) := (blk_cell BK187.out 2).trans rfl
                                have hcz27_3 : wr.cell? ⟨gb187, 3, none⟩ = some (.slice A0_3 l0_3.length c0_3) := (blk_cell BK187.out 3).trans rfl
                                have hcz27_4 : wr.cell? ⟨gb187, 4, none⟩ = some (.slice A0_4 l0_4.length c0_4) := (blk_cell BK187.out 4).trans rfl
                                have hfz27_0 := blk_frozen BK187.out 0
                                have hfz27_1 := blk_frozen BK187.out 1
                                have hfz27_2 := blk_frozen BK187.out 2
                                have hfz27_3 := blk_frozen BK187.out 3
                                have hfz27_4 := blk_frozen BK187.out 4
                                have p191 : 0 ≤ (x5_4 : Int) := of_decide_eq_true (by first | (with_reducible assumption) | assumption)
                                have q191 : x5_4 < (l0_4.length : Int) := of_decide_eq_true (by first | (with_reducible assumption) | assumption)
                                obtain ⟨ad191, e191, hx191_0, hx191_1, hx191_2, hx191_3, hx191_4, hx191_5, hx191_6, hx191_7, hx191_8⟩ := at_T44 HR0_4.out x5_4 p191 q191
                                cases e191
                                replace hx191_0 := (HB.out.cell (World.block_lt_of_cell? w _ hx191_0)).trans hx191_0
                                replace hx191_1 := (HB.out.cell (World.block_lt_of_cell? w _ hx191_1)).trans hx191_1
                                replace hx191_2 := (HB.out.cell (World.block_lt_of_cell? w _ hx191_2)).trans hx191_2
                                replace hx191_3 := (HB.out.cell (World.block_lt_of_cell? w _ hx191_3)).trans hx191_3
                                replace hx191_4 := (HB.out.cell (World.block_lt_of_cell? w _ hx191_4)).trans hx191_4
                                replace hx191_5 := (HB.out.cell (World.block_lt_of_cell? w _ hx191_5)).trans hx191_5
                                replace hx191_6 := (HB.out.cell (World.block_lt_of_cell? w _ hx191_6)).trans hx191_6
                                replace hx191_7 := (HB.out.cell (World.block_lt_of_cell? w _ hx191_7)).trans hx191_7
                                replace hx191_8 := (HB.out.cell (World.block_lt_of_cell? w _ hx191_8)).trans hx191_8
                                replace p191 := eq_true p191
                                replace q191 := eq_true q191
                                go_wp2_with (first | (go_at_call 27; (with_reducible refine (staddleref13_File.calls k4 ((rd_T44 l0_4 x5_4).f0) ((rd_T44 l0_4 x5_4).f1) ((rd_T44 l0_4 x5_4).f2) ((rd_T44 l0_4 x5_4).f3.f0) ((rd_T44 l0_4 x5_4).f3.f1) ((rd_T44 l0_4 x5_4).f3.f2) ((rd_T44 l0_4 x5_4).f4.f0) ((rd_T44 l0_4 x5_4).f4.f1) ((rd_T44 l0_4 x5_4).f4.f2) t192 _ A25.out).mono ?_); rintro e w28 ⟨rfl, hb⟩; have n0_ := Aside0.mk (blk_below (g := gb187) (o := .cells #[.int .u64 a0_0, .int .u64 a0_1, .int .u64 a0_2, .slice A0_3 l0_3.length c0_3, .slice (some ad191) l0_4.length c0_4] 27 (0, 0)) (by (with_reducible repeat (first | refine blk_drewN ?_ _ | refine blk_drew ?_ | refine blk_alloc ?_ _)); exact BK187.out) hb); have n1_ := Aside0.mk (below_step (by repeat (first | (with_reducible first | exact HB.out | apply below_alloc | apply pw_below_drewN | apply below_drew1 | refine below_set ?_ GE187.out) | exact HB.out)) hb); clear BK187; clear HB; have BK187 := n0_; have HB := n1_; clear n0_ n1_; (try clear hb); (try clear hb2); (try clear hk); (try clear hi)))
                                repeat (go_quiet (first | (go_at_call 27; (with_reducible refine (staddleref13_File.calls k4 ((rd_T44 l0_4 x5_4).f0) ((rd_T44 l0_4 x5_4).f1) ((rd_T44 l0_4 x5_4).f2) ((rd_T44 l0_4 x5_4).f3.f0) ((rd_T44 l0_4 x5_4).f3.f1) ((rd_T44 l0_4 x5_4).f3.f2) ((rd_T44 l0_4 x5_4).f4.f0) ((rd_T44 l0_4 x5_4).f4.f1) ((rd_T44 l0_4 x5_4).f4.f2) t192 _ A25.out).mono ?_); rintro e w28 ⟨rfl, hb⟩; have n0_ := Aside0.mk (blk_below (g := gb187) (o := .cells #[.int .u64 a0_0, .int .u64 a0_1, .int .u64 a0_2, .slice A0_3 l0_3.length c0_3, .slice (some ad191) l0_4.length c0_4] 27 (0, 0)) (by (with_reducible repeat (first | refine blk_drewN ?_ _ | refine blk_drew ?_ | refine blk_alloc ?_ _)); exact BK187.out) hb); have n1_ := Aside0.mk (below_step (by repeat (first | (with_reducible first | exact HB.out | apply below_alloc | apply pw_below_drewN | apply below_drew1 | refine below_set ?_ GE187.out) | exact HB.out)) hb); clear BK187; clear HB; have BK187 := n0_; have HB := n1_; clear n0_ n1_; (try clear hb); (try clear hb2); (try clear hk); (try clear hi))); try go_wp2_with (first | (go_at_call 27; (with_reducible refine (staddleref13_File.calls k4 ((rd_T44 l0_4 x5_4).f0) ((rd_T44 l0_4 x5_4).f1) ((rd_T44 l0_4 x5_4).f2) ((rd_T44 l0_4 x5_4).f3.f0) ((rd_T44 l0_4 x5_4).f3.f1) ((rd_T44 l0_4 x5_4).f3.f2) ((rd_T44 l0_4 x5_4).f4.f0) ((rd_T44 l0_4 x5_4).f4.f1) ((rd_T44 l0_4 x5_4).f4.f2) t192 _ A25.out).mono ?_); rintro e w28 ⟨rfl, hb⟩; have n0_ := Aside0.mk (blk_below (g := gb187) (o := .cells #[.int .u64 a0_0, .int .u64 a0_1, .int .u64 a0_2, .slice A0_3 l0_3.length c0_3, .slice (some ad191) l0_4.length c0_4] 27 (0, 0)) (by (with_reducible repeat (first | refine blk_drewN ?_ _ | refine blk_drew ?_ | refine blk_alloc ?_ _)); exact BK187.out) hb); have n1_ := Aside0.mk (below_step (by repeat (first | (with_reducible first | exact HB.out | apply below_alloc | apply pw_below_drewN | apply below_drew1 | refine below_set ?_ GE187.out) | exact HB.out)) hb); clear BK187; clear HB; have BK187 := n0_; have HB := n1_; clear n0_ n1_; (try clear hb); (try clear hb2); (try clear hk); (try clear hi))))
                                go_roundg k4
                                case measure => have := HJ1.out; have := HJ7.out; have := HK3.out; have := HK4.out; omega
                                case rel => exact ⟨(wrap64 (x5_4 + 1)), (by first | rfl | (simp; done) | (simp [*]; done) | (simp; omega)), H', ⟨by have := HJ1.out; have := HJ7.out; have := HK3.out; have := HK4.out; omega⟩, ⟨by (with_reducible repeat (first | refine blk_drewN ?_ _ | refine blk_drew ?_ | refine blk_alloc ?_ _)); exact BK187.out⟩, ⟨by repeat (first | (with_reducible first | exact HB.out | apply below_alloc | apply pw_below_drewN | apply below_drew1 | refine below_set ?_ GE187.out) | exact HB.out)⟩⟩
                              · rw [if_neg c26] at H
                                have c26b0 : (t192 == 0) = false := beq_eq_false_iff_ne.mpr c26
                                have c26b1 : (t192 != 0) = true := bne_iff_ne.mpr c26
                                obtain rfl := Option.some.inj H
                                have hcz29_0 : wr.cell? ⟨gb187, 0, none⟩ = some (.int .u64 a0_0) := (blk_cell BK187.out 0).trans rfl
                                have hcz29_1 : wr.cell? ⟨gb187, 1, none⟩ = some (.int .u64 a0_1) := (blk_cell BK187.out 1).trans rfl
                                have hcz29_2 : wr.cell? ⟨gb187, 2, none⟩ = some (.int .u64 a0_2) := (blk_cell BK187.out 2).trans rfl
                                have hcz29_3 : wr.cell? ⟨gb187, 3, none⟩ = some (.slice A0_3 l0_3.length c0_3) := (blk_cell BK187.out 3).trans rfl
                                have hcz29_4 : wr.cell? ⟨gb187, 4, none⟩ = some (.slice A0_4 l0_4.length c0_4) := (blk_cell BK187.out 4).trans rfl
                                have hfz29_0 := blk_frozen BK187.out 0
                                have hfz29_1 := blk_frozen BK187.out 1
                                have hfz29_2 := blk_frozen BK187.out 2
                                have hfz29_3 := blk_frozen BK187.out 3
                                have hfz29_4 := blk_frozen BK187.out 4
                                have p191 : 0 ≤ (x5_4 : Int) := of_decide_eq_true (by first | (with_reducible assumption) | assumption)
                                have q191 : x5_4 < (l0_4.length : Int) := of_decide_eq_true (by first | (with_reducible assumption) | assumption)
                                obtain ⟨ad191, e191, hx191_0, hx191_1, hx191_2, hx191_3, hx191_4, hx191_5, hx191_6, hx191_7, hx191_8⟩ := at_T44 HR0_4.out x5_4 p191 q191
                                cases e191
                                replace hx191_0 := (HB.out.cell (World.block_lt_of_cell? w _ hx191_0)).trans hx191_0
                                replace hx191_1 := (HB.out.cell (World.block_lt_of_cell? w _ hx191_1)).trans hx191_1
                                replace hx191_2 := (HB.out.cell (World.block_lt_of_cell? w _ hx191_2)).trans hx191_2
                                replace hx191_3 := (HB.out.cell (World.block_lt_of_cell? w _ hx191_3)).trans hx191_3
                                replace hx191_4 := (HB.out.cell (World.block_lt_of_cell? w _ hx191_4)).trans hx191_4
                                replace hx191_5 := (HB.out.cell (World.block_lt_of_cell? w _ hx191_5)).trans hx191_5
                                replace hx191_6 := (HB.out.cell (World.block_lt_of_cell? w _ hx191_6)).trans hx191_6
                                replace hx191_7 := (HB.out.cell (World.block_lt_of_cell? w _ hx191_7)).trans hx191_7
                                replace hx191_8 := (HB.out.cell (World.block_lt_of_cell? w _ hx191_8)).trans hx191_8
                                replace p191 := eq_true p191
                                replace q191 := eq_true q191
                                go_wp2_with (first | (go_at_call 27; (with_reducible refine (staddleref13_File.calls k4 ((rd_T44 l0_4 x5_4).f0) ((rd_T44 l0_4 x5_4).f1) ((rd_T44 l0_4 x5_4).f2) ((rd_T44 l0_4 x5_4).f3.f0) ((rd_T44 l0_4 x5_4).f3.f1) ((rd_T44 l0_4 x5_4).f3.f2) ((rd_T44 l0_4 x5_4).f4.f0) ((rd_T44 l0_4 x5_4).f4.f1) ((rd_T44 l0_4 x5_4).f4.f2) t192 _ A25.out).mono ?_); rintro e w30 ⟨rfl, hb⟩; have n0_ := Aside0.mk (blk_below (g := gb187) (o := .cells #[.int .u64 a0_0, .int .u64 a0_1, .int .u64 a0_2, .slice A0_3 l0_3.length c0_3, .slice (some ad191) l0_4.length c0_4] 27 (0, 0)) (by (with_reducible repeat (first | refine blk_drewN ?_ _ | refine blk_drew ?_ | refine blk_alloc ?_ _)); exact BK187.out) hb); have n1_ := Aside0.mk (below_step (by repeat (first | (with_reducible first | exact HB.out | apply below_alloc | apply pw_below_drewN | apply below_drew1 | refine below_set ?_ GE187.out) | exact HB.out)) hb); clear BK187; clear HB; have BK187 := n0_; have HB := n1_; clear n0_ n1_; (try clear hb); (try clear hb2); (try clear hk); (try clear hi)))
                                repeat (go_quiet (first | (go_at_call 27; (with_reducible refine (staddleref13_File.calls k4 ((rd_T44 l0_4 x5_4).f0) ((rd_T44 l0_4 x5_4).f1) ((rd_T44 l0_4 x5_4).f2) ((rd_T44 l0_4 x5_4).f3.f0) ((rd_T44 l0_4 x5_4).f3.f1) ((rd_T44 l0_4 x5_4).f3.f2) ((rd_T44 l0_4 x5_4).f4.f0) ((rd_T44 l0_4 x5_4).f4.f1) ((rd_T44 l0_4 x5_4).f4.f2) t192 _ A25.out).mono ?_); rintro e w30 ⟨rfl, hb⟩; have n0_ := Aside0.mk (blk_below (g := gb187) (o := .cells #[.int .u64 a0_0, .int .u64 a0_1, .int .u64 a0_2, .slice A0_3 l0_3.length c0_3, .slice (some ad191) l0_4.length c0_4] 27 (0, 0)) (by (with_reducible repeat (first | refine blk_drewN ?_ _ | refine blk_drew ?_ | refine blk_alloc ?_ _)); exact BK187.out) hb); have n1_ := Aside0.mk (below_step (by repeat (first | (with_reducible first | exact HB.out | apply below_alloc | apply pw_below_drewN | apply below_drew1 | refine below_set ?_ GE187.out) | exact HB.out)) hb); clear BK187; clear HB; have BK187 := n0_; have HB := n1_; clear n0_ n1_; (try clear hb); (try clear hb2); (try clear hk); (try clear hi))); try go_wp2_with (first | (go_at_call 27; (with_reducible refine (staddleref13_File.calls k4 ((rd_T44 l0_4 x5_4).f0) ((rd_T44 l0_4 x5_4).f1) ((rd_T44 l0_4 x5_4).f2) ((rd_T44 l0_4 x5_4).f3.f0) ((rd_T44 l0_4 x5_4).f3.f1) ((rd_T44 l0_4 x5_4).f3.f2) ((rd_T44 l0_4 x5_4).f4.f0) ((rd_T44 l0_4 x5_4).f4.f1) ((rd_T44 l0_4 x5_4).f4.f2) t192 _ A25.out).mono ?_); rintro e w30 ⟨rfl, hb⟩; have n0_ := Aside0.mk (blk_below (g := gb187) (o := .cells #[.int .u64 a0_0, .int .u64 a0_1, .int .u64 a0_2, .slice A0_3 l0_3.length c0_3, .slice (some ad191) l0_4.length c0_4] 27 (0, 0)) (by (with_reducible repeat (first | refine blk_drewN ?_ _ | refine blk_drew ?_ | refine blk_alloc ?_ _)); exact BK187.out) hb); have n1_ := Aside0.mk (below_step (by repeat (first | (with_reducible first | exact HB.out | apply below_alloc | apply pw_below_drewN | apply below_drew1 | refine below_set ?_ GE187.out) | exact HB.out)) hb); clear BK187; clear HB; have BK187 := n0_; have HB := n1_; clear n0_ n1_; (try clear hb); (try clear hb2); (try clear hk); (try clear hi))))
                                go_ret
                                exact ⟨by first | rfl | (simp [errW_none, errW_some] <;> rfl) | (simp [*, errW_none, errW_some] <;> rfl), by repeat (first | (with_reducible first | exact HB.out | apply below_alloc | apply pw_below_drewN | apply below_drew1 | refine below_set ?_ GE187.out) | exact HB.out)⟩
                            · rw [if_neg c24] at H
                              exact absurd H (by simp)
                          · rw [if_neg c23] at H
                            have c23b0 : decide (x5_4 < (l0_4.length : Int)) = false := decide_eq_false c23
                            clear c23
                            obtain rfl := Option.some.inj H
                            have hcz31_0 : wr.cell? ⟨gb187, 0, none⟩ = some (.int .u64 a0_0) := (blk_cell BK187.out 0).trans rfl
                            have hcz31_1 : wr.cell? ⟨gb187, 1, none⟩ = some (.int .u64 a0_1) := (blk_cell BK187.out 1).trans rfl
                            have hcz31_2 : wr.cell? ⟨gb187, 2, none⟩ = some (.int .u64 a0_2) := (blk_cell BK187.out 2).trans rfl
                            have hcz31_3 : wr.cell? ⟨gb187, 3, none⟩ = some (.slice A0_3 l0_3.length c0_3) := (blk_cell BK187.out 3).trans rfl
                            have hcz31_4 : wr.cell? ⟨gb187, 4, none⟩ = some (.slice A0_4 l0_4.length c0_4) := (blk_cell BK187.out 4).trans rfl
                            have hfz31_0 := blk_frozen BK187.out 0
                            have hfz31_1 := blk_frozen BK187.out 1
                            have hfz31_2 := blk_frozen BK187.out 2
                            have hfz31_3 := blk_frozen BK187.out 3
                            have hfz31_4 := blk_frozen BK187.out 4
                            go_wp2
                            repeat (go_quiet (fail); try go_wp2)
                            go_ret
                            exact ⟨by first | rfl | (simp [errW_none, errW_some] <;> rfl) | (simp [*, errW_none, errW_some] <;> rfl), by repeat (first | (with_reducible first | exact HB.out | apply below_alloc | apply pw_below_drewN | apply below_drew1 | refine below_set ?_ GE187.out) | exact HB.out)⟩

end Go.Proofs.Ythkkbgehmiobaaa.P
