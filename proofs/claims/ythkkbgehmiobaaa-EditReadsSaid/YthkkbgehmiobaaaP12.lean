-- By this session's wip/hprint.py: the kit's print.py with functions by hand beside it. Not trusted: Lean checks it.
import Derived.Test.YthkkbgehmiobaaaP0
import Derived.Test.YthkkbgehmiobaaaP1
import Derived.Test.YthkkbgehmiobaaaP11
namespace Go.Proofs.Ythkkbgehmiobaaa.P
open Go.RowKit Go.Proofs.YthkkbgehmiobaaaW.PrintWords Go.Proofs.YthkkbgehmiobaaaW.PrintLast Go.Proofs.YthkkbgehmiobaaaW.PrintMore
attribute [local go_sem] max2_int min2_int max_two min_two max_three min_three max_four min_four   -- for this text's walks alone
set_option linter.unusedVariables false
set_option linter.unusedSimpArgs false

attribute [local go_sem high] eqA40
/-! ### staddleref13_Same: function 11 -/
mutual
def staddleref13_Same.j0 : Nat → Bool → Int → Int → Int → List (S40) → List (S44) → Int → Int → Int → List (S40) → List (S44) → Option (Bool)
  | 0, _, _, _, _, _, _, _, _, _, _, _ => none
  | k + 1, x43, x149000, x149001, x149002, x149003, x149004, x150000, x150001, x150002, x150003, x150004 => if x43 = true then (some false) else (staddleref13_Same.l0 k 0 x149000 x149001 x149002 x149003 x149004 x150000 x150001 x150002 x150003 x150004)
def staddleref13_Same.l0 : Nat → Int → Int → Int → Int → List (S40) → List (S44) → Int → Int → Int → List (S40) → List (S44) → Option (Bool)
  | 0, _, _, _, _, _, _, _, _, _, _, _ => none
  | k + 1, x6, x149000, x149001, x149002, x149003, x149004, x150000, x150001, x150002, x150003, x150004 => if x6 < (x149003.length : Int) then (if 0 ≤ x6 then (if x6 < (x150003.length : Int) then (if (!(((rd_T40 x149003 x6).f0) == ((rd_T40 x150003 x6).f0)) || (!(((rd_T40 x149003 x6).f1) == ((rd_T40 x150003 x6).f1)))) = true then (some false) else (staddleref13_Same.l0 k (wrap64 (x6 + 1)) x149000 x149001 x149002 x149003 x149004 x150000 x150001 x150002 x150003 x150004)) else (none)) else (none)) else (some true)
end
def staddleref13_Same.f (k : Nat) (a0_0 : Int) (a0_1 : Int) (a0_2 : Int) (l0_3 : List (S40)) (l0_4 : List (S44)) (a1_0 : Int) (a1_1 : Int) (a1_2 : Int) (l1_3 : List (S40)) (l1_4 : List (S44)) : Option (Bool) := (staddleref13_SameFiles.f k l0_4 l1_4).bind fun t150 => (if t150 = true then (if a0_0 = a1_0 then (if a0_1 = a1_1 then (if a0_2 = a1_2 then (staddleref13_Same.j0 k ((l0_3.length : Int) != (l1_3.length : Int)) a0_0 a0_1 a0_2 l0_3 l0_4 a1_0 a1_1 a1_2 l1_3 l1_4) else (staddleref13_Same.j0 k true a0_0 a0_1 a0_2 l0_3 l0_4 a1_0 a1_1 a1_2 l1_3 l1_4)) else (staddleref13_Same.j0 k true a0_0 a0_1 a0_2 l0_3 l0_4 a1_0 a1_1 a1_2 l1_3 l1_4)) else (staddleref13_Same.j0 k true a0_0 a0_1 a0_2 l0_3 l0_4 a1_0 a1_1 a1_2 l1_3 l1_4)) else (staddleref13_Same.j0 k true a0_0 a0_1 a0_2 l0_3 l0_4 a1_0 a1_1 a1_2 l1_3 l1_4))
theorem staddleref13_Same.mono_l : ∀ k, (∀ y0 y1 y2 y3 y4 y5 y6 y7 y8 y9 y10, LeO (staddleref13_Same.j0 k y0 y1 y2 y3 y4 y5 y6 y7 y8 y9 y10) (staddleref13_Same.j0 (k + 1) y0 y1 y2 y3 y4 y5 y6 y7 y8 y9 y10)) ∧ (∀ y0 y1 y2 y3 y4 y5 y6 y7 y8 y9 y10, LeO (staddleref13_Same.l0 k y0 y1 y2 y3 y4 y5 y6 y7 y8 y9 y10) (staddleref13_Same.l0 (k + 1) y0 y1 y2 y3 y4 y5 y6 y7 y8 y9 y10))
  | 0 => ⟨fun _ _ _ _ _ _ _ _ _ _ _ r h => by simp [staddleref13_Same.j0] at h, fun _ _ _ _ _ _ _ _ _ _ _ r h => by simp [staddleref13_Same.l0] at h⟩
  | k + 1 => by
    obtain ⟨ih0, ih1⟩ := staddleref13_Same.mono_l k
    refine ⟨?_, ?_⟩
    · intro y0 y1 y2 y3 y4 y5 y6 y7 y8 y9 y10
      unfold staddleref13_Same.j0
      repeat' first
      | (with_reducible exact ih0 _ _ _ _ _ _ _ _ _ _ _)
      | (with_reducible exact ih1 _ _ _ _ _ _ _ _ _ _ _)
      | (with_reducible exact staddleref13_SameFiles.mono _ _ _)
      | (with_reducible exact LeO.refl _)
      | (with_reducible exact LeO.none _)
      | (with_reducible refine LeO.ite ?_ ?_)
      | (with_reducible refine LeO.bind ?_ (fun _ => ?_))
      | exact ih0 _ _ _ _ _ _ _ _ _ _ _
      | exact ih1 _ _ _ _ _ _ _ _ _ _ _
      | exact staddleref13_SameFiles.mono _ _ _
      | exact LeO.none _
      | refine LeO.ite ?_ ?_
      | refine LeO.bind ?_ (fun _ => ?_)
    · intro y0 y1 y2 y3 y4 y5 y6 y7 y8 y9 y10
      unfold staddleref13_Same.l0
      repeat' first
      | (with_reducible exact ih0 _ _ _ _ _ _ _ _ _ _ _)
      | (with_reducible exact ih1 _ _ _ _ _ _ _ _ _ _ _)
      | (with_reducible exact staddleref13_SameFiles.mono _ _ _)
      | (with_reducible exact LeO.refl _)
      | (with_reducible exact LeO.none _)
      | (with_reducible refine LeO.ite ?_ ?_)
      | (with_reducible refine LeO.bind ?_ (fun _ => ?_))
      | exact ih0 _ _ _ _ _ _ _ _ _ _ _
      | exact ih1 _ _ _ _ _ _ _ _ _ _ _
      | exact staddleref13_SameFiles.mono _ _ _
      | exact LeO.none _
      | refine LeO.ite ?_ ?_
      | refine LeO.bind ?_ (fun _ => ?_)
theorem staddleref13_Same.mono : ∀ a0 a1 a2 a3 a4 a5 a6 a7 a8 a9 k, LeO (staddleref13_Same.f k a0 a1 a2 a3 a4 a5 a6 a7 a8 a9) (staddleref13_Same.f (k + 1) a0 a1 a2 a3 a4 a5 a6 a7 a8 a9) := by
  intro a0 a1 a2 a3 a4 a5 a6 a7 a8 a9 k
  obtain ⟨ih0, ih1⟩ := staddleref13_Same.mono_l k
  unfold staddleref13_Same.f
  repeat' first
      | (with_reducible exact ih0 _ _ _ _ _ _ _ _ _ _ _)
      | (with_reducible exact ih1 _ _ _ _ _ _ _ _ _ _ _)
      | (with_reducible exact staddleref13_SameFiles.mono _ _ _)
      | (with_reducible exact LeO.refl _)
      | (with_reducible exact LeO.none _)
      | (with_reducible refine LeO.ite ?_ ?_)
      | (with_reducible refine LeO.bind ?_ (fun _ => ?_))
      | exact ih0 _ _ _ _ _ _ _ _ _ _ _
      | exact ih1 _ _ _ _ _ _ _ _ _ _ _
      | exact staddleref13_SameFiles.mono _ _ _
      | exact LeO.none _
      | refine LeO.ite ?_ ?_
      | refine LeO.bind ?_ (fun _ => ?_)
set_option maxHeartbeats 8000000 in
set_option maxRecDepth 100000 in
theorem staddleref13_Same.calls (k : Nat) (a0_0 : Int) (a0_1 : Int) (a0_2 : Int) (A0_3 : Option Addr) (c0_3 : Nat) (l0_3 : List (S40)) (A0_4 : Option Addr) (c0_4 : Nat) (l0_4 : List (S44)) (a1_0 : Int) (a1_1 : Int) (a1_2 : Int) (A1_3 : Option Addr) (c1_3 : Nat) (l1_3 : List (S40)) (A1_4 : Option Addr) (c1_4 : Nat) (l1_4 : List (S44)) (r : Bool) (w : World) (hr0_3 : Kd.C k40 w A0_3 l0_3.length l0_3) (hc0_3 : l0_3.length ≤ c0_3) (hr0_4 : Kd.C k44 w A0_4 l0_4.length l0_4) (hc0_4 : l0_4.length ≤ c0_4) (hr1_3 : Kd.C k40 w A1_3 l1_3.length l1_3) (hc1_3 : l1_3.length ≤ c1_3) (hr1_4 : Kd.C k44 w A1_4 l1_4.length l1_4) (hc1_4 : l1_4.length ≤ c1_4) (h : staddleref13_Same.f k a0_0 a0_1 a0_2 l0_3 l0_4 a1_0 a1_1 a1_2 l1_3 l1_4 = some r) :
    Calls Try.prog 11 #[.agg #[.int .u64 a0_0, .int .u64 a0_1, .int .u64 a0_2, .slice A0_3 l0_3.length c0_3, .slice A0_4 l0_4.length c0_4], .agg #[.int .u64 a1_0, .int .u64 a1_1, .int .u64 a1_2, .slice A1_3 l1_3.length c1_3, .slice A1_4 l1_4.length c1_4]] w fun e w' => e = .returned (.bool r) ∧ Below w.heap.size w w' := by
  have hu27 := Try.underlying27
  have hu40 := Try.underlying40
  have HR0_3 := Aside0.mk hr0_3
  have HC0_3 := Aside0.mk hc0_3
  clear hr0_3 hc0_3
  have HR0_4 := Aside0.mk hr0_4
  have HC0_4 := Aside0.mk hc0_4
  clear hr0_4 hc0_4
  have HR1_3 := Aside0.mk hr1_3
  have HC1_3 := Aside0.mk hc1_3
  clear hr1_3 hc1_3
  have HR1_4 := Aside0.mk hr1_4
  have HC1_4 := Aside0.mk hc1_4
  clear hr1_4 hc1_4
  have HB := Aside0.mk (Below.refl w.heap.size w)
  have H : ((staddleref13_SameFiles.f k l0_4 l1_4).bind fun t150 => (if t150 = true then (if a0_0 = a1_0 then (if a0_1 = a1_1 then (if a0_2 = a1_2 then (staddleref13_Same.j0 k ((l0_3.length : Int) != (l1_3.length : Int)) a0_0 a0_1 a0_2 l0_3 l0_4 a1_0 a1_1 a1_2 l1_3 l1_4) else (staddleref13_Same.j0 k true a0_0 a0_1 a0_2 l0_3 l0_4 a1_0 a1_1 a1_2 l1_3 l1_4)) else (staddleref13_Same.j0 k true a0_0 a0_1 a0_2 l0_3 l0_4 a1_0 a1_1 a1_2 l1_3 l1_4)) else (staddleref13_Same.j0 k true a0_0 a0_1 a0_2 l0_3 l0_4 a1_0 a1_1 a1_2 l1_3 l1_4)) else (staddleref13_Same.j0 k true a0_0 a0_1 a0_2 l0_3 l0_4 a1_0 a1_1 a1_2 l1_3 l1_4))) = some r := h
  clear h
  replace H := Option.bind_eq_some_iff.mp H
  obtain ⟨t150, A30, H⟩ := H
  replace H : (if t150 = true then (if a0_0 = a1_0 then (if a0_1 = a1_1 then (if a0_2 = a1_2 then (staddleref13_Same.j0 k ((l0_3.length : Int) != (l1_3.length : Int)) a0_0 a0_1 a0_2 l0_3 l0_4 a1_0 a1_1 a1_2 l1_3 l1_4) else (staddleref13_Same.j0 k true a0_0 a0_1 a0_2 l0_3 l0_4 a1_0 a1_1 a1_2 l1_3 l1_4)) else (staddleref13_Same.j0 k true a0_0 a0_1 a0_2 l0_3 l0_4 a1_0 a1_1 a1_2 l1_3 l1_4)) else (staddleref13_Same.j0 k true a0_0 a0_1 a0_2 l0_3 l0_4 a1_0 a1_1 a1_2 l1_3 l1_4)) else (staddleref13_Same.j0 k true a0_0 a0_1 a0_2 l0_3 l0_4 a1_0 a1_1 a1_2 l1_3 l1_4)) = some r := H
  have A3 := Aside0.mk A30
  clear A30
  have HC4 := Aside0.mk H
  clear H
  go_enter Try.func11, Try.ntmps11
  go_upto_region 2 with (first | ((with_reducible refine gate_dst (N := 2) rfl ?_); (try (refine gate_guard (by rfl) ?_; dsimp only)); refine box_event ?hg (N := 2) ?hd (cs := #[.int .u64 a0_0, .int .u64 a0_1, .int .u64 a0_2, .slice A0_3 l0_3.length c0_3, .slice A0_4 l0_4.length c0_4]) (t := 27) ?hr ?_; (case hd => rfl); (case hg => rfl); (case hr => first | (go_simp; done) | (go_simp; rfl)); intro gb148 hg w5 hbox hb; have n0_ := Aside0.mk (below_step (by repeat (first | (with_reducible first | exact HB.out | apply below_alloc | apply pw_below_drewN | apply below_drew1) | exact HB.out)) hb); have n1_ := Aside0.mk (hbox); have n2_ := Aside0.mk ((by rw [hg]; exact (below_size (by repeat (first | (with_reducible first | exact HB.out | apply below_alloc | apply pw_below_drewN | apply below_drew1) | exact HB.out))) : w.heap.size ≤ gb148)); have n3_ := Aside0.mk ((by rw [hg]; exact (below_size (by repeat (first | (with_reducible first | exact HB.out | apply below_alloc | apply pw_below_drewN | apply below_drew1) | exact HB.out))) : w.heap.size ≤ gb148)); clear HB; have HB := n0_; have BK148 := n1_; have GW148 := n2_; have GE148 := n3_; clear n0_ n1_ n2_ n3_; clear hb hbox hg) | ((with_reducible refine gate_dst (N := 3) rfl ?_); (try (refine gate_guard (by rfl) ?_; dsimp only)); refine box_event ?hg (N := 3) ?hd (cs := #[.int .u64 a1_0, .int .u64 a1_1, .int .u64 a1_2, .slice A1_3 l1_3.length c1_3, .slice A1_4 l1_4.length c1_4]) (t := 27) ?hr ?_; (case hd => rfl); (case hg => rfl); (case hr => first | (go_simp; done) | (go_simp; rfl)); intro gb149 hg w6 hbox hb; have n0_ := Aside0.mk (blk_below (g := gb148) (o := .cells #[.int .u64 a0_0, .int .u64 a0_1, .int .u64 a0_2, .slice A0_3 l0_3.length c0_3, .slice A0_4 l0_4.length c0_4] 27 (0, 0)) (by (with_reducible repeat (first | refine blk_drewN ?_ _ | refine blk_drew ?_ | refine blk_alloc ?_ _)); exact BK148.out) hb); have n1_ := Aside0.mk (below_step (by repeat (first | (with_reducible first | exact HB.out | apply below_alloc | apply pw_below_drewN | apply below_drew1 | refine below_set ?_ GE148.out) | exact HB.out)) hb); have n2_ := Aside0.mk (hbox); have n3_ := Aside0.mk ((by rw [hg]; exact (below_size (by repeat (first | (with_reducible first | exact HB.out | apply below_alloc | apply pw_below_drewN | apply below_drew1 | refine below_set ?_ GE148.out) | exact HB.out))) : w.heap.size ≤ gb149)); have n4_ := Aside0.mk ((by rw [hg]; exact (below_size (by repeat (first | (with_reducible first | exact HB.out | apply below_alloc | apply pw_below_drewN | apply below_drew1 | refine below_set ?_ GE148.out) | exact HB.out))) : w.heap.size ≤ gb149)); have n5_ := Aside0.mk ((by rw [hg]; exact Nat.ne_of_lt (blk_lt (g := gb148) (o := .cells #[.int .u64 a0_0, .int .u64 a0_1, .int .u64 a0_2, .slice A0_3 l0_3.length c0_3, .slice A0_4 l0_4.length c0_4] 27 (0, 0)) (by (with_reducible repeat (first | refine blk_drewN ?_ _ | refine blk_drew ?_ | refine blk_alloc ?_ _)); exact BK148.out)) : gb148 ≠ gb149)); have n6_ := Aside0.mk ((by rw [hg]; exact Nat.ne_of_gt (blk_lt (g := gb148) (o := .cells #[.int .u64 a0_0, .int .u64 a0_1, .int .u64 a0_2, .slice A0_3 l0_3.length c0_3, .slice A0_4 l0_4.length c0_4] 27 (0, 0)) (by (with_reducible repeat (first | refine blk_drewN ?_ _ | refine blk_drew ?_ | refine blk_alloc ?_ _)); exact BK148.out)) : gb149 ≠ gb148)); clear BK148; clear HB; have BK148 := n0_; have HB := n1_; have BK149 := n2_; have GW149 := n3_; have GE149 := n4_; have NB148_149 := n5_; have NB149_148 := n6_; clear n0_ n1_ n2_ n3_ n4_ n5_ n6_; clear hb hbox hg; have hnb7 := NB148_149.out; have hnc7 := NB149_148.out; have hcz8_0 : w6.cell? ⟨gb148, 0, none⟩ = some (.int .u64 a0_0) := (blk_cell BK148.out 0).trans rfl; have hcz8_1 : w6.cell? ⟨gb148, 1, none⟩ = some (.int .u64 a0_1) := (blk_cell BK148.out 1).trans rfl; have hcz8_2 : w6.cell? ⟨gb148, 2, none⟩ = some (.int .u64 a0_2) := (blk_cell BK148.out 2).trans rfl; have hcz8_3 : w6.cell? ⟨gb148, 3, none⟩ = some (.slice A0_3 l0_3.length c0_3) := (blk_cell BK148.out 3).trans rfl; have hcz8_4 : w6.cell? ⟨gb148, 4, none⟩ = some (.slice A0_4 l0_4.length c0_4) := (blk_cell BK148.out 4).trans rfl; have hfz8_0 := blk_frozen BK148.out 0; have hfz8_1 := blk_frozen BK148.out 1; have hfz8_2 := blk_frozen BK148.out 2; have hfz8_3 := blk_frozen BK148.out 3; have hfz8_4 := blk_frozen BK148.out 4; have hcz9_0 : w6.cell? ⟨gb149, 0, none⟩ = some (.int .u64 a1_0) := (blk_cell BK149.out 0).trans rfl; have hcz9_1 : w6.cell? ⟨gb149, 1, none⟩ = some (.int .u64 a1_1) := (blk_cell BK149.out 1).trans rfl; have hcz9_2 : w6.cell? ⟨gb149, 2, none⟩ = some (.int .u64 a1_2) := (blk_cell BK149.out 2).trans rfl; have hcz9_3 : w6.cell? ⟨gb149, 3, none⟩ = some (.slice A1_3 l1_3.length c1_3) := (blk_cell BK149.out 3).trans rfl; have hcz9_4 : w6.cell? ⟨gb149, 4, none⟩ = some (.slice A1_4 l1_4.length c1_4) := (blk_cell BK149.out 4).trans rfl; have hfz9_0 := blk_frozen BK149.out 0; have hfz9_1 := blk_frozen BK149.out 1; have hfz9_2 := blk_frozen BK149.out 2; have hfz9_3 := blk_frozen BK149.out 3; have hfz9_4 := blk_frozen BK149.out 4) | (go_at_call 23; (with_reducible refine (staddleref13_SameFiles.calls k _ _ l0_4 _ _ l1_4 t150 _ ?side1 ?side2 ?side3 ?side4 A3.out).mono ?_); (case side1 => repeat (first | exact (Kd.C_below HR0_4.out HB.out) | (with_reducible refine Kd.C_alloc ?_ _) | (with_reducible refine Kd.C_drewN ?_ _) | (with_reducible refine Kd.C_drew ?_))); (case side2 => exact HC0_4.out); (case side3 => repeat (first | exact (Kd.C_below HR1_4.out HB.out) | (with_reducible refine Kd.C_alloc ?_ _) | (with_reducible refine Kd.C_drewN ?_ _) | (with_reducible refine Kd.C_drew ?_))); (case side4 => exact HC1_4.out); rintro e w' ⟨rfl, ⟨nd, rfl⟩⟩; (try first | exact ⟨rfl, _, World.drewN_drewN _ _ _⟩ | exact ⟨rfl, _, Eq.trans (World.drewN_drewN _ _ _) (congrArg (World.drewN _) (Nat.add_assoc _ _ _))⟩)))
  repeat (go_quiet (first | ((with_reducible refine gate_dst (N := 2) rfl ?_); (try (refine gate_guard (by rfl) ?_; dsimp only)); refine box_event ?hg (N := 2) ?hd (cs := #[.int .u64 a0_0, .int .u64 a0_1, .int .u64 a0_2, .slice A0_3 l0_3.length c0_3, .slice A0_4 l0_4.length c0_4]) (t := 27) ?hr ?_; (case hd => rfl); (case hg => rfl); (case hr => first | (go_simp; done) | (go_simp; rfl)); intro gb148 hg w5 hbox hb; have n0_ := Aside0.mk (below_step (by repeat (first | (with_reducible first | exact HB.out | apply below_alloc | apply pw_below_drewN | apply below_drew1) | exact HB.out)) hb); have n1_ := Aside0.mk (hbox); have n2_ := Aside0.mk ((by rw [hg]; exact (below_size (by repeat (first | (with_reducible first | exact HB.out | apply below_alloc | apply pw_below_drewN | apply below_drew1) | exact HB.out))) : w.heap.size ≤ gb148)); have n3_ := Aside0.mk ((by rw [hg]; exact (below_size (by repeat (first | (with_reducible first | exact HB.out | apply below_alloc | apply pw_below_drewN | apply below_drew1) | exact HB.out))) : w.heap.size ≤ gb148)); clear HB; have HB := n0_; have BK148 := n1_; have GW148 := n2_; have GE148 := n3_; clear n0_ n1_ n2_ n3_; clear hb hbox hg) | ((with_reducible refine gate_dst (N := 3) rfl ?_); (try (refine gate_guard (by rfl) ?_; dsimp only)); refine box_event ?hg (N := 3) ?hd (cs := #[.int .u64 a1_0, .int .u64 a1_1, .int .u64 a1_2, .slice A1_3 l1_3.length c1_3, .slice A1_4 l1_4.length c1_4]) (t := 27) ?hr ?_; (case hd => rfl); (case hg => rfl); (case hr => first | (go_simp; done) | (go_simp; rfl)); intro gb149 hg w6 hbox hb; have n0_ := Aside0.mk (blk_below (g := gb148) (o := .cells #[.int .u64 a0_0, .int .u64 a0_1, .int .u64 a0_2, .slice A0_3 l0_3.length c0_3, .slice A0_4 l0_4.length c0_4] 27 (0, 0)) (by (with_reducible repeat (first | refine blk_drewN ?_ _ | refine blk_drew ?_ | refine blk_alloc ?_ _)); exact BK148.out) hb); have n1_ := Aside0.mk (below_step (by repeat (first | (with_reducible first | exact HB.out | apply below_alloc | apply pw_below_drewN | apply below_drew1 | refine below_set ?_ GE148.out) | exact HB.out)) hb); have n2_ := Aside0.mk (hbox); have n3_ := Aside0.mk ((by rw [hg]; exact (below_size (by repeat (first | (with_reducible first | exact HB.out | apply below_alloc | apply pw_below_drewN | apply below_drew1 | refine below_set ?_ GE148.out) | exact HB.out))) : w.heap.size ≤ gb149)); have n4_ := Aside0.mk ((by rw [hg]; exact (below_size (by repeat (first | (with_reducible first | exact HB.out | apply below_alloc | apply pw_below_drewN | apply below_drew1 | refine below_set ?_ GE148.out) | exact HB.out))) : w.heap.size ≤ gb149)); have n5_ := Aside0.mk ((by rw [hg]; exact Nat.ne_of_lt (blk_lt (g := gb148) (o := .cells #[.int .u64 a0_0, .int .u64 a0_1, .int .u64 a0_2, .slice A0_3 l0_3.length c0_3, .slice A0_4 l0_4.length c0_4] 27 (0, 0)) (by (with_reducible repeat (first | refine blk_drewN ?_ _ | refine blk_drew ?_ | refine blk_alloc ?_ _)); exact BK148.out)) : gb148 ≠ gb149)); have n6_ := Aside0.mk ((by rw [hg]; exact Nat.ne_of_gt (blk_lt (g := gb148) (o := .cells #[.int .u64 a0_0, .int .u64 a0_1, .int .u64 a0_2, .slice A0_3 l0_3.length c0_3, .slice A0_4 l0_4.length c0_4] 27 (0, 0)) (by (with_reducible repeat (first | refine blk_drewN ?_ _ | refine blk_drew ?_ | refine blk_alloc ?_ _)); exact BK148.out)) : gb149 ≠ gb148)); clear BK148; clear HB; have BK148 := n0_; have HB := n1_; have BK149 := n2_; have GW149 := n3_; have GE149 := n4_; have NB148_149 := n5_; have NB149_148 := n6_; clear n0_ n1_ n2_ n3_ n4_ n5_ n6_; clear hb hbox hg; have hnb7 := NB148_149.out; have hnc7 := NB149_148.out; have hcz8_0 : w6.cell? ⟨gb148, 0, none⟩ = some (.int .u64 a0_0) := (blk_cell BK148.out 0).trans rfl; have hcz8_1 : w6.cell? ⟨gb148, 1, none⟩ = some (.int .u64 a0_1) := (blk_cell BK148.out 1).trans rfl; have hcz8_2 : w6.cell? ⟨gb148, 2, none⟩ = some (.int .u64 a0_2) := (blk_cell BK148.out 2).trans rfl; have hcz8_3 : w6.cell? ⟨gb148, 3, none⟩ = some (.slice A0_3 l0_3.length c0_3) := (blk_cell BK148.out 3).trans rfl; have hcz8_4 : w6.cell? ⟨gb148, 4, none⟩ = some (.slice A0_4 l0_4.length c0_4) := (blk_cell BK148.out 4).trans rfl; have hfz8_0 := blk_frozen BK148.out 0; have hfz8_1 := blk_frozen BK148.out 1; have hfz8_2 := blk_frozen BK148.out 2; have hfz8_3 := blk_frozen BK148.out 3; have hfz8_4 := blk_frozen BK148.out 4; have hcz9_0 : w6.cell? ⟨gb149, 0, none⟩ = some (.int .u64 a1_0) := (blk_cell BK149.out 0).trans rfl; have hcz9_1 : w6.cell? ⟨gb149, 1, none⟩ = some (.int .u64 a1_1) := (blk_cell BK149.out 1).trans rfl; have hcz9_2 : w6.cell? ⟨gb149, 2, none⟩ = some (.int .u64 a1_2) := (blk_cell BK149.out 2).trans rfl; have hcz9_3 : w6.cell? ⟨gb149, 3, none⟩ = some (.slice A1_3 l1_3.length c1_3) := (blk_cell BK149.out 3).trans rfl; have hcz9_4 : w6.cell? ⟨gb149, 4, none⟩ = some (.slice A1_4 l1_4.length c1_4) := (blk_cell BK149.out 4).trans rfl; have hfz9_0 := blk_frozen BK149.out 0; have hfz9_1 := blk_frozen BK149.out 1; have hfz9_2 := blk_frozen BK149.out 2; have hfz9_3 := blk_frozen BK149.out 3; have hfz9_4 := blk_frozen BK149.out 4) | (go_at_call 23; (with_reducible refine (staddleref13_SameFiles.calls k _ _ l0_4 _ _ l1_4 t150 _ ?side1 ?side2 ?side3 ?side4 A3.out).mono ?_); (case side1 => repeat (first | exact (Kd.C_below HR0_4.out HB.out) | (with_reducible refine Kd.C_alloc ?_ _) | (with_reducible refine Kd.C_drewN ?_ _) | (with_reducible refine Kd.C_drew ?_))); (case side2 => exact HC0_4.out); (case side3 => repeat (first | exact (Kd.C_below HR1_4.out HB.out) | (with_reducible refine Kd.C_alloc ?_ _) | (with_reducible refine Kd.C_drewN ?_ _) | (with_reducible refine Kd.C_drew ?_))); (case side4 => exact HC1_4.out); rintro e w' ⟨rfl, ⟨nd, rfl⟩⟩; (try first | exact ⟨rfl, _, World.drewN_drewN _ _ _⟩ | exact ⟨rfl, _, Eq.trans (World.drewN_drewN _ _ _) (congrArg (World.drewN _) (Nat.add_assoc _ _ _))⟩))); go_upto_region 2 with (first | ((with_reducible refine gate_dst (N := 2) rfl ?_); (try (refine gate_guard (by rfl) ?_; dsimp only)); refine box_event ?hg (N := 2) ?hd (cs := #[.int .u64 a0_0, .int .u64 a0_1, .int .u64 a0_2, .slice A0_3 l0_3.length c0_3, .slice A0_4 l0_4.length c0_4]) (t := 27) ?hr ?_; (case hd => rfl); (case hg => rfl); (case hr => first | (go_simp; done) | (go_simp; rfl)); intro gb148 hg w5 hbox hb; have n0_ := Aside0.mk (below_step (by repeat (first | (with_reducible first | exact HB.out | apply below_alloc | apply pw_below_drewN | apply below_drew1) | exact HB.out)) hb); have n1_ := Aside0.mk (hbox); have n2_ := Aside0.mk ((by rw [hg]; exact (below_size (by repeat (first | (with_reducible first | exact HB.out | apply below_alloc | apply pw_below_drewN | apply below_drew1) | exact HB.out))) : w.heap.size ≤ gb148)); have n3_ := Aside0.mk ((by rw [hg]; exact (below_size (by repeat (first | (with_reducible first | exact HB.out | apply below_alloc | apply pw_below_drewN | apply below_drew1) | exact HB.out))) : w.heap.size ≤ gb148)); clear HB; have HB := n0_; have BK148 := n1_; have GW148 := n2_; have GE148 := n3_; clear n0_ n1_ n2_ n3_; clear hb hbox hg) | ((with_reducible refine gate_dst (N := 3) rfl ?_); (try (refine gate_guard (by rfl) ?_; dsimp only)); refine box_event ?hg (N := 3) ?hd (cs := #[.int .u64 a1_0, .int .u64 a1_1, .int .u64 a1_2, .slice A1_3 l1_3.length c1_3, .slice A1_4 l1_4.length c1_4]) (t := 27) ?hr ?_; (case hd => rfl); (case hg => rfl); (case hr => first | (go_simp; done) | (go_simp; rfl)); intro gb149 hg w6 hbox hb; have n0_ := Aside0.mk (blk_below (g := gb148) (o := .cells #[.int .u64 a0_0, .int .u64 a0_1, .int .u64 a0_2, .slice A0_3 l0_3.length c0_3, .slice A0_4 l0_4.length c0_4] 27 (0, 0)) (by (with_reducible repeat (first | refine blk_drewN ?_ _ | refine blk_drew ?_ | refine blk_alloc ?_ _)); exact BK148.out) hb); have n1_ := Aside0.mk (below_step (by repeat (first | (with_reducible first | exact HB.out | apply below_alloc | apply pw_below_drewN | apply below_drew1 | refine below_set ?_ GE148.out) | exact HB.out)) hb); have n2_ := Aside0.mk (hbox); have n3_ := Aside0.mk ((by rw [hg]; exact (below_size (by repeat (first | (with_reducible first | exact HB.out | apply below_alloc | apply pw_below_drewN | apply below_drew1 | refine below_set ?_ GE148.out) | exact HB.out))) : w.heap.size ≤ gb149)); have n4_ := Aside0.mk ((by rw [hg]; exact (below_size (by repeat (first | (with_reducible first | exact HB.out | apply below_alloc | apply pw_below_drewN | apply below_drew1 | refine below_set ?_ GE148.out) | exact HB.out))) : w.heap.size ≤ gb149)); have n5_ := Aside0.mk ((by rw [hg]; exact Nat.ne_of_lt (blk_lt (g := gb148) (o := .cells #[.int .u64 a0_0, .int .u64 a0_1, .int .u64 a0_2, .slice A0_3 l0_3.length c0_3, .slice A0_4 l0_4.length c0_4] 27 (0, 0)) (by (with_reducible repeat (first | refine blk_drewN ?_ _ | refine blk_drew ?_ | refine blk_alloc ?_ _)); exact BK148.out)) : gb148 ≠ gb149)); have n6_ := Aside0.mk ((by rw [hg]; exact Nat.ne_of_gt (blk_lt (g := gb148) (o := .cells #[.int .u64 a0_0, .int .u64 a0_1, .int .u64 a0_2, .slice A0_3 l0_3.length c0_3, .slice A0_4 l0_4.length c0_4] 27 (0, 0)) (by (with_reducible repeat (first | refine blk_drewN ?_ _ | refine blk_drew ?_ | refine blk_alloc ?_ _)); exact BK148.out)) : gb149 ≠ gb148)); clear BK148; clear HB; have BK148 := n0_; have HB := n1_; have BK149 := n2_; have GW149 := n3_; have GE149 := n4_; have NB148_149 := n5_; have NB149_148 := n6_; clear n0_ n1_ n2_ n3_ n4_ n5_ n6_; clear hb hbox hg; have hnb7 := NB148_149.out; have hnc7 := NB149_148.out; have hcz8_0 : w6.cell? ⟨gb148, 0, none⟩ = some (.int .u64 a0_0) := (blk_cell BK148.out 0).trans rfl; have hcz8_1 : w6.cell? ⟨gb148, 1, none⟩ = some (.int .u64 a0_1) := (blk_cell BK148.out 1).trans rfl; have hcz8_2 : w6.cell? ⟨gb148, 2, none⟩ = some (.int .u64 a0_2) := (blk_cell BK148.out 2).trans rfl; have hcz8_3 : w6.cell? ⟨gb148, 3, none⟩ = some (.slice A0_3 l0_3.length c0_3) := (blk_cell BK148.out 3).trans rfl; have hcz8_4 : w6.cell? ⟨gb148, 4, none⟩ = some (.slice A0_4 l0_4.length c0_4) := (blk_cell BK148.out 4).trans rfl; have hfz8_0 := blk_frozen BK148.out 0; have hfz8_1 := blk_frozen BK148.out 1; have hfz8_2 := blk_frozen BK148.out 2; have hfz8_3 := blk_frozen BK148.out 3; have hfz8_4 := blk_frozen BK148.out 4; have hcz9_0 : w6.cell? ⟨gb149, 0, none⟩ = some (.int .u64 a1_0) := (blk_cell BK149.out 0).trans rfl; have hcz9_1 : w6.cell? ⟨gb149, 1, none⟩ = some (.int .u64 a1_1) := (blk_cell BK149.out 1).trans rfl; have hcz9_2 : w6.cell? ⟨gb149, 2, none⟩ = some (.int .u64 a1_2) := (blk_cell BK149.out 2).trans rfl; have hcz9_3 : w6.cell? ⟨gb149, 3, none⟩ = some (.slice A1_3 l1_3.length c1_3) := (blk_cell BK149.out 3).trans rfl; have hcz9_4 : w6.cell? ⟨gb149, 4, none⟩ = some (.slice A1_4 l1_4.length c1_4) := (blk_cell BK149.out 4).trans rfl; have hfz9_0 := blk_frozen BK149.out 0; have hfz9_1 := blk_frozen BK149.out 1; have hfz9_2 := blk_frozen BK149.out 2; have hfz9_3 := blk_frozen BK149.out 3; have hfz9_4 := blk_frozen BK149.out 4) | (go_at_call 23; (with_reducible refine (staddleref13_SameFiles.calls k _ _ l0_4 _ _ l1_4 t150 _ ?side1 ?side2 ?side3 ?side4 A3.out).mono ?_); (case side1 => repeat (first | exact (Kd.C_below HR0_4.out HB.out) | (with_reducible refine Kd.C_alloc ?_ _) | (with_reducible refine Kd.C_drewN ?_ _) | (with_reducible refine Kd.C_drew ?_))); (case side2 => exact HC0_4.out); (case side3 => repeat (first | exact (Kd.C_below HR1_4.out HB.out) | (with_reducible refine Kd.C_alloc ?_ _) | (with_reducible refine Kd.C_drewN ?_ _) | (with_reducible refine Kd.C_drew ?_))); (case side4 => exact HC1_4.out); rintro e w' ⟨rfl, ⟨nd, rfl⟩⟩; (try first | exact ⟨rfl, _, World.drewN_drewN _ _ _⟩ | exact ⟨rfl, _, Eq.trans (World.drewN_drewN _ _ _) (congrArg (World.drewN _) (Nat.add_assoc _ _ _))⟩))))
  (try simp only [Act.put, List.setIfInBounds_toArray, List.set_cons_zero, List.set_cons_succ])
  go_cut [43] (fun v43 wc => ∃ (kq : Nat) (x43_3 : Bool), v43 = .bool x43_3 ∧ Aside0 (staddleref13_Same.j0 kq x43_3 a0_0 a0_1 a0_2 l0_3 l0_4 a1_0 a1_1 a1_2 l1_3 l1_4 = some r) ∧ Aside0 (kq ≤ k) ∧ Aside0 (wc.heap[gb148]? = some (.cells #[.int .u64 a0_0, .int .u64 a0_1, .int .u64 a0_2, (.slice A0_3 l0_3.length c0_3), (.slice A0_4 l0_4.length c0_4)] 27 (0, 0))) ∧ Aside0 (wc.heap[gb149]? = some (.cells #[.int .u64 a1_0, .int .u64 a1_1, .int .u64 a1_2, (.slice A1_3 l1_3.length c1_3), (.slice A1_4 l1_4.length c1_4)] 27 (0, 0))) ∧ Aside0 (Below w.heap.size w wc))
  case first =>
    have H := HC4.out
    clear HC4
    by_cases c10 : t150 = true
    · subst c10
      have H1 : (if a0_0 = a1_0 then (if a0_1 = a1_1 then (if a0_2 = a1_2 then (staddleref13_Same.j0 k ((l0_3.length : Int) != (l1_3.length : Int)) a0_0 a0_1 a0_2 l0_3 l0_4 a1_0 a1_1 a1_2 l1_3 l1_4) else (staddleref13_Same.j0 k true a0_0 a0_1 a0_2 l0_3 l0_4 a1_0 a1_1 a1_2 l1_3 l1_4)) else (staddleref13_Same.j0 k true a0_0 a0_1 a0_2 l0_3 l0_4 a1_0 a1_1 a1_2 l1_3 l1_4)) else (staddleref13_Same.j0 k true a0_0 a0_1 a0_2 l0_3 l0_4 a1_0 a1_1 a1_2 l1_3 l1_4)) = some r := by rw [if_pos rfl] at H; exact H
      clear H
      have H := H1
      clear H1
      by_cases c11 : a0_0 = a1_0
      · rw [if_pos c11] at H
        have c11b0 : (a0_0 == a1_0) = true := beq_iff_eq.mpr c11
        have c11b1 : (a0_0 != a1_0) = false := bne_eq_false_iff_eq.mpr c11
        clear c11
        (first | rw [c11b0] | (simp only [i64_w, i32_w]; rw [c11b0]) | skip)
        by_cases c12 : a0_1 = a1_1
        · rw [if_pos c12] at H
          have c12b0 : (a0_1 == a1_1) = true := beq_iff_eq.mpr c12
          have c12b1 : (a0_1 != a1_1) = false := bne_eq_false_iff_eq.mpr c12
          clear c12
          by_cases c13 : a0_2 = a1_2
          · rw [if_pos c13] at H
            have c13b0 : (a0_2 == a1_2) = true := beq_iff_eq.mpr c13
            have c13b1 : (a0_2 != a1_2) = false := bne_eq_false_iff_eq.mpr c13
            clear c13
            have H' := Aside0.mk H
            clear H
            have hnb14 := NB148_149.out
            have hnc14 := NB149_148.out
            have hcz15_0 : w6.cell? ⟨gb148, 0, none⟩ = some (.int .u64 a0_0) := (blk_cell BK148.out 0).trans rfl
            have hcz15_1 : w6.cell? ⟨gb148, 1, none⟩ = some (.int .u64 a0_1) := (blk_cell BK148.out 1).trans rfl
            have hcz15_2 : w6.cell? ⟨gb148, 2, none⟩ = some (.int .u64 a0_2) := (blk_cell BK148.out 2).trans rfl
            have hcz15_3 : w6.cell? ⟨gb148, 3, none⟩ = some (.slice A0_3 l0_3.length c0_3) := (blk_cell BK148.out 3).trans rfl
            have hcz15_4 : w6.cell? ⟨gb148, 4, none⟩ = some (.slice A0_4 l0_4.length c0_4) := (blk_cell BK148.out 4).trans rfl
            have hfz15_0 := blk_frozen BK148.out 0
            have hfz15_1 := blk_frozen BK148.out 1
            have hfz15_2 := blk_frozen BK148.out 2
            have hfz15_3 := blk_frozen BK148.out 3
            have hfz15_4 := blk_frozen BK148.out 4
            have hcz16_0 : w6.cell? ⟨gb149, 0, none⟩ = some (.int .u64 a1_0) := (blk_cell BK149.out 0).trans rfl
            have hcz16_1 : w6.cell? ⟨gb149, 1, none⟩ = some (.int .u64 a1_1) := (blk_cell BK149.out 1).trans rfl
            have hcz16_2 : w6.cell? ⟨gb149, 2, none⟩ = some (.int .u64 a1_2) := (blk_cell BK149.out 2).trans rfl
            have hcz16_3 : w6.cell? ⟨gb149, 3, none⟩ = some (.slice A1_3 l1_3.length c1_3) := (blk_cell BK149.out 3).trans rfl
            have hcz16_4 : w6.cell? ⟨gb149, 4, none⟩ = some (.slice A1_4 l1_4.length c1_4) := (blk_cell BK149.out 4).trans rfl
            have hfz16_0 := blk_frozen BK149.out 0
            have hfz16_1 := blk_frozen BK149.out 1
            have hfz16_2 := blk_frozen BK149.out 2
            have hfz16_3 := blk_frozen BK149.out 3
            have hfz16_4 := blk_frozen BK149.out 4
            go_wp2
            repeat (go_quiet (fail); try go_wp2)
            go_meet
            case rel => exact ⟨_, (((l0_3.length : Int) != (l1_3.length : Int))), (by first | rfl | (simp; done) | (simp [*]; done) | (simp; omega)), H', ⟨by first | omega | exact Nat.le_refl _⟩, ⟨by (with_reducible repeat (first | refine blk_drewN ?_ _ | refine blk_drew ?_ | refine blk_alloc ?_ _)); exact BK148.out⟩, ⟨by (with_reducible repeat (first | refine blk_drewN ?_ _ | refine blk_drew ?_ | refine blk_alloc ?_ _)); exact BK149.out⟩, ⟨by repeat (first | (with_reducible first | exact HB.out | apply below_alloc | apply pw_below_drewN | apply below_drew1 | refine below_set ?_ GE148.out | refine below_set ?_ GE149.out) | exact HB.out)⟩⟩
          · rw [if_neg c13] at H
            have c13b0 : (a0_2 == a1_2) = false := beq_eq_false_iff_ne.mpr c13
            have c13b1 : (a0_2 != a1_2) = true := bne_iff_ne.mpr c13
            have H' := Aside0.mk H
            clear H
            have hnb17 := NB148_149.out
            have hnc17 := NB149_148.out
            have hcz18_0 : w6.cell? ⟨gb148, 0, none⟩ = some (.int .u64 a0_0) := (blk_cell BK148.out 0).trans rfl
            have hcz18_1 : w6.cell? ⟨gb148, 1, none⟩ = some (.int .u64 a0_1) := (blk_cell BK148.out 1).trans rfl
            have hcz18_2 : w6.cell? ⟨gb148, 2, none⟩ = some (.int .u64 a0_2) := (blk_cell BK148.out 2).trans rfl
            have hcz18_3 : w6.cell? ⟨gb148, 3, none⟩ = some (.slice A0_3 l0_3.length c0_3) := (blk_cell BK148.out 3).trans rfl
            have hcz18_4 : w6.cell? ⟨gb148, 4, none⟩ = some (.slice A0_4 l0_4.length c0_4) := (blk_cell BK148.out 4).trans rfl
            have hfz18_0 := blk_frozen BK148.out 0
            have hfz18_1 := blk_frozen BK148.out 1
            have hfz18_2 := blk_frozen BK148.out 2
            have hfz18_3 := blk_frozen BK148.out 3
            have hfz18_4 := blk_frozen BK148.out 4
            have hcz19_0 : w6.cell? ⟨gb149, 0, none⟩ = some (.int .u64 a1_0) := (blk_cell BK149.out 0).trans rfl
            have hcz19_1 : w6.cell? ⟨gb149, 1, none⟩ = some (.int .u64 a1_1) := (blk_cell BK149.out 1).trans rfl
            have hcz19_2 : w6.cell? ⟨gb149, 2, none⟩ = some (.int .u64 a1_2) := (blk_cell BK149.out 2).trans rfl
            have hcz19_3 : w6.cell? ⟨gb149, 3, none⟩ = some (.slice A1_3 l1_3.length c1_3) := (blk_cell BK149.out 3).trans rfl
            have hcz19_4 : w6.cell? ⟨gb149, 4, none⟩ = some (.slice A1_4 l1_4.length c1_4) := (blk_cell BK149.out 4).trans rfl
            have hfz19_0 := blk_frozen BK149.out 0
            have hfz19_1 := blk_frozen BK149.out 1
            have hfz19_2 := blk_frozen BK149.out 2
            have hfz19_3 := blk_frozen BK149.out 3
            have hfz19_4 := blk_frozen BK149.out 4
            go_wp2
            repeat (go_quiet (fail); try go_wp2)
            go_meet
            case rel => exact ⟨_, (true), (by first | rfl | (simp; done) | (simp [*]; done) | (simp; omega)), H', ⟨by first | omega | exact Nat.le_refl _⟩, ⟨by (with_reducible repeat (first | refine blk_drewN ?_ _ | refine blk_drew ?_ | refine blk_alloc ?_ _)); exact BK148.out⟩, ⟨by (with_reducible repeat (first | refine blk_drewN ?_ _ | refine blk_drew ?_ | refine blk_alloc ?_ _)); exact BK149.out⟩, ⟨by repeat (first | (with_reducible first | exact HB.out | apply below_alloc | apply pw_below_drewN | apply below_drew1 | refine below_set ?_ GE148.out | refine below_set ?_ GE149.out) | exact HB.out)⟩⟩
        · rw [if_neg c12] at H
          have c12b0 : (a0_1 == a1_1) = false := beq_eq_false_iff_ne.mpr c12
          have c12b1 : (a0_1 != a1_1) = true := bne_iff_ne.mpr c12
          have H' := Aside0.mk H
          clear H
          have hnb20 := NB148_149.out
          have hnc20 := NB149_148.out
          have hcz21_0 : w6.cell? ⟨gb148, 0, none⟩ = some (.int .u64 a0_0) := (blk_cell BK148.out 0).trans rfl
          have hcz21_1 : w6.cell? ⟨gb148, 1, none⟩ = some (.int .u64 a0_1) := (blk_cell BK148.out 1).trans rfl
          have hcz21_2 : w6.cell? ⟨gb148, 2, none⟩ = some (.int .u64 a0_2) := (blk_cell BK148.out 2).trans rfl
          have hcz21_3 : w6.cell? ⟨gb148, 3, none⟩ = some (.slice A0_3 l0_3.length c0_3) := (blk_cell BK148.out 3).trans rfl
          have hcz21_4 : w6.cell? ⟨gb148, 4, none⟩ = some (.slice A0_4 l0_4.length c0_4) := (blk_cell BK148.out 4).trans rfl
          have hfz21_0 := blk_frozen BK148.out 0
          have hfz21_1 := blk_frozen BK148.out 1
          have hfz21_2 := blk_frozen BK148.out 2
          have hfz21_3 := blk_frozen BK148.out 3
          have hfz21_4 := blk_frozen BK148.out 4
          have hcz22_0 : w6.cell? ⟨gb149, 0, none⟩ = some (.int .u64 a1_0) := (blk_cell BK149.out 0).trans rfl
          have hcz22_1 : w6.cell? ⟨gb149, 1, none⟩ = some (.int .u64 a1_1) := (blk_cell BK149.out 1).trans rfl
          have hcz22_2 : w6.cell? ⟨gb149, 2, none⟩ = some (.int .u64 a1_2) := (blk_cell BK149.out 2).trans rfl
          have hcz22_3 : w6.cell? ⟨gb149, 3, none⟩ = some (.slice A1_3 l1_3.length c1_3) := (blk_cell BK149.out 3).trans rfl
          have hcz22_4 : w6.cell? ⟨gb149, 4, none⟩ = some (.slice A1_4 l1_4.length c1_4) := (blk_cell BK149.out 4).trans rfl
          have hfz22_0 := blk_frozen BK149.out 0
          have hfz22_1 := blk_frozen BK149.out 1
          have hfz22_2 := blk_frozen BK149.out 2
          have hfz22_3 := blk_frozen BK149.out 3
          have hfz22_4 := blk_frozen BK149.out 4
          go_wp2
          repeat (go_quiet (fail); try go_wp2)
          go_meet
          case rel => exact ⟨_, (true), (by first | rfl | (simp; done) | (simp [*]; done) | (simp; omega)), H', ⟨by first | omega | exact Nat.le_refl _⟩, ⟨by (with_reducible repeat (first | refine blk_drewN ?_ _ | refine blk_drew ?_ | refine blk_alloc ?_ _)); exact BK148.out⟩, ⟨by (with_reducible repeat (first | refine blk_drewN ?_ _ | refine blk_drew ?_ | refine blk_alloc ?_ _)); exact BK149.out⟩, ⟨by repeat (first | (with_reducible first | exact HB.out | apply below_alloc | apply pw_below_drewN | apply below_drew1 | refine below_set ?_ GE148.out | refine below_set ?_ GE149.out) | exact HB.out)⟩⟩
      · rw [if_neg c11] at H
        have c11b0 : (a0_0 == a1_0) = false := beq_eq_false_iff_ne.mpr c11
        have c11b1 : (a0_0 != a1_0) = true := bne_iff_ne.mpr c11
        (first | rw [c11b0] | (simp only [i64_w, i32_w]; rw [c11b0]) | skip)
        have H' := Aside0.mk H
        clear H
        have hnb23 := NB148_149.out
        have hnc23 := NB149_148.out
        have hcz24_0 : w6.cell? ⟨gb148, 0, none⟩ = some (.int .u64 a0_0) := (blk_cell BK148.out 0).trans rfl
        have hcz24_1 : w6.cell? ⟨gb148, 1, none⟩ = some (.int .u64 a0_1) := (blk_cell BK148.out 1).trans rfl
        have hcz24_2 : w6.cell? ⟨gb148, 2, none⟩ = some (.int .u64 a0_2) := (blk_cell BK148.out 2).trans rfl
        have hcz24_3 : w6.cell? ⟨gb148, 3, none⟩ = some (.slice A0_3 l0_3.length c0_3) := (blk_cell BK148.out 3).trans rfl
        have hcz24_4 : w6.cell? ⟨gb148, 4, none⟩ = some (.slice A0_4 l0_4.length c0_4) := (blk_cell BK148.out 4).trans rfl
        have hfz24_0 := blk_frozen BK148.out 0
        have hfz24_1 := blk_frozen BK148.out 1
        have hfz24_2 := blk_frozen BK148.out 2
        have hfz24_3 := blk_frozen BK148.out 3
        have hfz24_4 := blk_frozen BK148.out 4
        have hcz25_0 : w6.cell? ⟨gb149, 0, none⟩ = some (.int .u64 a1_0) := (blk_cell BK149.out 0).trans rfl
        have hcz25_1 : w6.cell? ⟨gb149, 1, none⟩ = some (.int .u64 a1_1) := (blk_cell BK149.out 1).trans rfl
        have hcz25_2 : w6.cell? ⟨gb149, 2, none⟩ = some (.int .u64 a1_2) := (blk_cell BK149.out 2).trans rfl
        have hcz25_3 : w6.cell? ⟨gb149, 3, none⟩ = some (.slice A1_3 l1_3.length c1_3) := (blk_cell BK149.out 3).trans rfl
        have hcz25_4 : w6.cell? ⟨gb149, 4, none⟩ = some (.slice A1_4 l1_4.length c1_4) := (blk_cell BK149.out 4).trans rfl
        have hfz25_0 := blk_frozen BK149.out 0
        have hfz25_1 := blk_frozen BK149.out 1
        have hfz25_2 := blk_frozen BK149.out 2
        have hfz25_3 := blk_frozen BK149.out 3
        have hfz25_4 := blk_frozen BK149.out 4
        go_wp2
        repeat (go_quiet (fail); try go_wp2)
        go_meet
        case rel => exact ⟨_, (true), (by first | rfl | (simp; done) | (simp [*]; done) | (simp; omega)), H', ⟨by first | omega | exact Nat.le_refl _⟩, ⟨by (with_reducible repeat (first | refine blk_drewN ?_ _ | refine blk_drew ?_ | refine blk_alloc ?_ _)); exact BK148.out⟩, ⟨by (with_reducible repeat (first | refine blk_drewN ?_ _ | refine blk_drew ?_ | refine blk_alloc ?_ _)); exact BK149.out⟩, ⟨by repeat (first | (with_reducible first | exact HB.out | apply below_alloc | apply pw_below_drewN | apply below_drew1 | refine below_set ?_ GE148.out | refine below_set ?_ GE149.out) | exact HB.out)⟩⟩
    · replace c10 := Bool.eq_false_iff.mpr c10
      subst c10
      have H1 : (staddleref13_Same.j0 k true a0_0 a0_1 a0_2 l0_3 l0_4 a1_0 a1_1 a1_2 l1_3 l1_4) = some r := by rw [if_neg (show ¬ (false = true) by decide)] at H; exact H
      clear H
      have H := H1
      clear H1
      have H' := Aside0.mk H
      clear H
      go_wp2
      repeat (go_quiet (fail); try go_wp2)
      go_meet
      case rel => exact ⟨_, (true), (by first | rfl | (simp; done) | (simp [*]; done) | (simp; omega)), H', ⟨by first | omega | exact Nat.le_refl _⟩, ⟨by (with_reducible repeat (first | refine blk_drewN ?_ _ | refine blk_drew ?_ | refine blk_alloc ?_ _)); exact BK148.out⟩, ⟨by (with_reducible repeat (first | refine blk_drewN ?_ _ | refine blk_drew ?_ | refine blk_alloc ?_ _)); exact BK149.out⟩, ⟨by repeat (first | (with_reducible first | exact HB.out | apply below_alloc | apply pw_below_drewN | apply below_drew1 | refine below_set ?_ GE148.out | refine below_set ?_ GE149.out) | exact HB.out)⟩⟩
  case rest =>
    clear HC4
    try clear c1
    try clear c2
    try clear p2
    try clear c7
    try clear c10
    try clear c11
    try clear c11b0
    try clear c11b1
    try clear c12
    try clear c12b0
    try clear c12b1
    try clear c13
    try clear c13b0
    try clear c13b1
    try clear c14
    try clear c17
    try clear c20
    try clear c23
    try clear hcz15_0
    try clear hcz15_1
    try clear hcz15_2
    try clear hcz15_3
    try clear hcz15_4
    try clear hcz16_0
    try clear hcz16_1
    try clear hcz16_2
    try clear hcz16_3
    try clear hcz16_4
    try clear hcz18_0
    try clear hcz18_1
    try clear hcz18_2
    try clear hcz18_3
    try clear hcz18_4
    try clear hcz19_0
    try clear hcz19_1
    try clear hcz19_2
    try clear hcz19_3
    try clear hcz19_4
    try clear hcz21_0
    try clear hcz21_1
    try clear hcz21_2
    try clear hcz21_3
    try clear hcz21_4
    try clear hcz22_0
    try clear hcz22_1
    try clear hcz22_2
    try clear hcz22_3
    try clear hcz22_4
    try clear hcz24_0
    try clear hcz24_1
    try clear hcz24_2
    try clear hcz24_3
    try clear hcz24_4
    try clear hcz25_0
    try clear hcz25_1
    try clear hcz25_2
    try clear hcz25_3
    try clear hcz25_4
    try clear hcz8_0
    try clear hcz8_1
    try clear hcz8_2
    try clear hcz8_3
    try clear hcz8_4
    try clear hcz9_0
    try clear hcz9_1
    try clear hcz9_2
    try clear hcz9_3
    try clear hcz9_4
    try clear hfz15_0
    try clear hfz15_1
    try clear hfz15_2
    try clear hfz15_3
    try clear hfz15_4
    try clear hfz16_0
    try clear hfz16_1
    try clear hfz16_2
    try clear hfz16_3
    try clear hfz16_4
    try clear hfz18_0
    try clear hfz18_1
    try clear hfz18_2
    try clear hfz18_3
    try clear hfz18_4
    try clear hfz19_0
    try clear hfz19_1
    try clear hfz19_2
    try clear hfz19_3
    try clear hfz19_4
    try clear hfz21_0
    try clear hfz21_1
    try clear hfz21_2
    try clear hfz21_3
    try clear hfz21_4
    try clear hfz22_0
    try clear hfz22_1
    try clear hfz22_2
    try clear hfz22_3
    try clear hfz22_4
    try clear hfz24_0
    try clear hfz24_1
    try clear hfz24_2
    try clear hfz24_3
    try clear hfz24_4
    try clear hfz25_0
    try clear hfz25_1
    try clear hfz25_2
    try clear hfz25_3
    try clear hfz25_4
    try clear hfz8_0
    try clear hfz8_1
    try clear hfz8_2
    try clear hfz8_3
    try clear hfz8_4
    try clear hfz9_0
    try clear hfz9_1
    try clear hfz9_2
    try clear hfz9_3
    try clear hfz9_4
    obtain ⟨kq, x43_3, rfl, HA, HJ3, BK148, BK149, HB⟩ := hcut
    cases kq with
    | zero => exact absurd HA.out (by simp [staddleref13_Same.j0])
    | succ kj3 =>
      have H := HA.out
      clear HA
      simp only [staddleref13_Same.j0] at H
      by_cases c26 : x43_3 = true
      · subst c26
        have H1 : (some false) = some r := by rw [if_pos rfl] at H; exact H
        clear H
        have H := H1
        clear H1
        obtain rfl := Option.some.inj H
        go_wp2
        repeat (go_quiet (fail); try go_wp2)
        go_ret
        exact ⟨by first | rfl | (simp [errW_none, errW_some] <;> rfl) | (simp [*, errW_none, errW_some] <;> rfl), by repeat (first | (with_reducible first | exact HB.out | apply below_alloc | apply pw_below_drewN | apply below_drew1 | refine below_set ?_ GE148.out | refine below_set ?_ GE149.out) | exact HB.out)⟩
      · replace c26 := Bool.eq_false_iff.mpr c26
        subst c26
        have H1 : (staddleref13_Same.l0 kj3 0 a0_0 a0_1 a0_2 l0_3 l0_4 a1_0 a1_1 a1_2 l1_3 l1_4) = some r := by rw [if_neg (show ¬ (false = true) by decide)] at H; exact H
        clear H
        have H := H1
        clear H1
        have H' := Aside0.mk H
        clear H
        go_wp2
        repeat (go_quiet (fail); try go_wp2)
        go_loopg [6] kj3 (fun kq v6 w' => ∃ (x6_2 : Int), v6 = .int .i64 x6_2 ∧ Aside0 (staddleref13_Same.l0 kq x6_2 a0_0 a0_1 a0_2 l0_3 l0_4 a1_0 a1_1 a1_2 l1_3 l1_4 = some r) ∧ Aside0 (kq ≤ kj3) ∧ Aside0 (w'.heap[gb148]? = some (.cells #[.int .u64 a0_0, .int .u64 a0_1, .int .u64 a0_2, (.slice A0_3 l0_3.length c0_3), (.slice A0_4 l0_4.length c0_4)] 27 (0, 0))) ∧ Aside0 (w'.heap[gb149]? = some (.cells #[.int .u64 a1_0, .int .u64 a1_1, .int .u64 a1_2, (.slice A1_3 l1_3.length c1_3), (.slice A1_4 l1_4.length c1_4)] 27 (0, 0))) ∧ Aside0 (Below w.heap.size w w'))
        case atStart => exact ⟨(0), (by first | rfl | (simp; done) | (simp [*]; done) | (simp; omega)), H', ⟨Nat.le_refl _⟩, ⟨by (with_reducible repeat (first | refine blk_drewN ?_ _ | refine blk_drew ?_ | refine blk_alloc ?_ _)); exact BK148.out⟩, ⟨by (with_reducible repeat (first | refine blk_drewN ?_ _ | refine blk_drew ?_ | refine blk_alloc ?_ _)); exact BK149.out⟩, ⟨by repeat (first | (with_reducible first | exact HB.out | apply below_alloc | apply pw_below_drewN | apply below_drew1 | refine below_set ?_ GE148.out | refine below_set ?_ GE149.out) | exact HB.out)⟩⟩
        case round =>
          clear H'
          try clear c1
          try clear c2
          try clear p2
          try clear c7
          try clear c10
          try clear c11
          try clear c11b0
          try clear c11b1
          try clear c12
          try clear c12b0
          try clear c12b1
          try clear c13
          try clear c13b0
          try clear c13b1
          try clear c14
          try clear c17
          try clear c20
          try clear c23
          try clear c26
          try clear hcz15_0
          try clear hcz15_1
          try clear hcz15_2
          try clear hcz15_3
          try clear hcz15_4
          try clear hcz16_0
          try clear hcz16_1
          try clear hcz16_2
          try clear hcz16_3
          try clear hcz16_4
          try clear hcz18_0
          try clear hcz18_1
          try clear hcz18_2
          try clear hcz18_3
          try clear hcz18_4
          try clear hcz19_0
          try clear hcz19_1
          try clear hcz19_2
          try clear hcz19_3
          try clear hcz19_4
          try clear hcz21_0
          try clear hcz21_1
          try clear hcz21_2
          try clear hcz21_3
          try clear hcz21_4
          try clear hcz22_0
          try clear hcz22_1
          try clear hcz22_2
          try clear hcz22_3
          try clear hcz22_4
          try clear hcz24_0
          try clear hcz24_1
          try clear hcz24_2
          try clear hcz24_3
          try clear hcz24_4
          try clear hcz25_0
          try clear hcz25_1
          try clear hcz25_2
          try clear hcz25_3
          try clear hcz25_4
          try clear hcz8_0
          try clear hcz8_1
          try clear hcz8_2
          try clear hcz8_3
          try clear hcz8_4
          try clear hcz9_0
          try clear hcz9_1
          try clear hcz9_2
          try clear hcz9_3
          try clear hcz9_4
          try clear hfz15_0
          try clear hfz15_1
          try clear hfz15_2
          try clear hfz15_3
          try clear hfz15_4
          try clear hfz16_0
          try clear hfz16_1
          try clear hfz16_2
          try clear hfz16_3
          try clear hfz16_4
          try clear hfz18_0
          try clear hfz18_1
          try clear hfz18_2
          try clear hfz18_3
          try clear hfz18_4
          try clear hfz19_0
          try clear hfz19_1
          try clear hfz19_2
          try clear hfz19_3
          try clear hfz19_4
          try clear hfz21_0
          try clear hfz21_1
          try clear hfz21_2
          try clear hfz21_3
          try clear hfz21_4
          try clear hfz22_0
          try clear hfz22_1
          try clear hfz22_2
          try clear hfz22_3
          try clear hfz22_4
          try clear hfz24_0
          try clear hfz24_1
          try clear hfz24_2
          try clear hfz24_3
          try clear hfz24_4
          try clear hfz25_0
          try clear hfz25_1
          try clear hfz25_2
          try clear hfz25_3
          try clear hfz25_4
          try clear hfz8_0
          try clear hfz8_1
          try clear hfz8_2
          try clear hfz8_3
          try clear hfz8_4
          try clear hfz9_0
          try clear hfz9_1
          try clear hfz9_2
          try clear hfz9_3
          try clear hfz9_4
          try clear p2
          obtain ⟨x6_2, rfl, HA, HK2, BK148, BK149, HB⟩ := hrel
          cases gk with
          | zero => exact absurd HA.out (by simp [staddleref13_Same.l0])
          | succ k2 =>
            have H := HA.out
            clear HA
            simp only [staddleref13_Same.l0] at H
            by_cases c27 : x6_2 < (l0_3.length : Int)
            · rw [if_pos c27] at H
              have c27b0 : decide (x6_2 < (l0_3.length : Int)) = true := decide_eq_true c27
              clear c27
              by_cases c28 : 0 ≤ x6_2
              · rw [if_pos c28] at H
                have c28b0 : decide (0 ≤ x6_2) = true := decide_eq_true c28
                clear c28
                by_cases c29 : x6_2 < (l1_3.length : Int)
                · rw [if_pos c29] at H
                  have c29b0 : decide (x6_2 < (l1_3.length : Int)) = true := decide_eq_true c29
                  clear c29
                  by_cases c30 : (!(((rd_T40 l0_3 x6_2).f0) == ((rd_T40 l1_3 x6_2).f0)) || (!(((rd_T40 l0_3 x6_2).f1) == ((rd_T40 l1_3 x6_2).f1)))) = true
                  · rw [if_pos c30] at H
                    have c30b0 : (!(((rd_T40 l0_3 x6_2).f0) == ((rd_T40 l1_3 x6_2).f0)) || (!(((rd_T40 l0_3 x6_2).f1) == ((rd_T40 l1_3 x6_2).f1)))) = true := c30
                    clear c30
                    obtain rfl := Option.some.inj H
                    have hnb31 := NB148_149.out
                    have hnc31 := NB149_148.out
                    have hcz32_0 : wr.cell? ⟨gb148, 0, none⟩ = some (.int .u64 a0_0) := (blk_cell BK148.out 0).trans rfl
                    have hcz32_1 : wr.cell? ⟨gb148, 1, none⟩ = some (.int .u64 a0_1) := (blk_cell BK148.out 1).trans rfl
                    have hcz32_2 : wr.cell? ⟨gb148, 2, none⟩ = some (.int .u64 a0_2) := (blk_cell BK148.out 2).trans rfl
                    have hcz32_3 : wr.cell? ⟨gb148, 3, none⟩ = some (.slice A0_3 l0_3.length c0_3) := (blk_cell BK148.out 3).trans rfl
                    have hcz32_4 : wr.cell? ⟨gb148, 4, none⟩ = some (.slice A0_4 l0_4.length c0_4) := (blk_cell BK148.out 4).trans rfl
                    have hfz32_0 := blk_frozen BK148.out 0
                    have hfz32_1 := blk_frozen BK148.out 1
                    have hfz32_2 := blk_frozen BK148.out 2
                    have hfz32_3 := blk_frozen BK148.out 3
                    have hfz32_4 := blk_frozen BK148.out 4
                    have p151 : 0 ≤ (x6_2 : Int) := of_decide_eq_true (by first | (with_reducible assumption) | assumption)
                    have q151 : x6_2 < (l0_3.length : Int) := of_decide_eq_true (by first | (with_reducible assumption) | assumption)
                    obtain ⟨ad151, e151, hx151_0, hx151_1⟩ := at_T40 HR0_3.out x6_2 p151 q151
                    cases e151
                    replace hx151_0 := (HB.out.cell (World.block_lt_of_cell? w _ hx151_0)).trans hx151_0
                    replace hx151_1 := (HB.out.cell (World.block_lt_of_cell? w _ hx151_1)).trans hx151_1
                    replace p151 := eq_true p151
                    replace q151 := eq_true q151
                    have hcz33_0 : wr.cell? ⟨gb149, 0, none⟩ = some (.int .u64 a1_0) := (blk_cell BK149.out 0).trans rfl
                    have hcz33_1 : wr.cell? ⟨gb149, 1, none⟩ = some (.int .u64 a1_1) := (blk_cell BK149.out 1).trans rfl
                    have hcz33_2 : wr.cell? ⟨gb149, 2, none⟩ = some (.int .u64 a1_2) := (blk_cell BK149.out 2).trans rfl
                    have hcz33_3 : wr.cell? ⟨gb149, 3, none⟩ = some (.slice A1_3 l1_3.length c1_3) := (blk_cell BK149.out 3).trans rfl
                    have hcz33_4 : wr.cell? ⟨gb149, 4, none⟩ = some (.slice A1_4 l1_4.length c1_4) := (blk_cell BK149.out 4).trans rfl
                    have hfz33_0 := blk_frozen BK149.out 0
                    have hfz33_1 := blk_frozen BK149.out 1
                    have hfz33_2 := blk_frozen BK149.out 2
                    have hfz33_3 := blk_frozen BK149.out 3
                    have hfz33_4 := blk_frozen BK149.out 4
                    have p152 : 0 ≤ (x6_2 : Int) := of_decide_eq_true (by first | (with_reducible assumption) | assumption)
                    have q152 : x6_2 < (l1_3.length : Int) := of_decide_eq_true (by first | (with_reducible assumption) | assumption)
                    obtain ⟨ad152, e152, hx152_0, hx152_1⟩ := at_T40 HR1_3.out x6_2 p152 q152
                    cases e152
                    replace hx152_0 := (HB.out.cell (World.block_lt_of_cell? w _ hx152_0)).trans hx152_0
                    replace hx152_1 := (HB.out.cell (World.block_lt_of_cell? w _ hx152_1)).trans hx152_1
                    replace p152 := eq_true p152
                    replace q152 := eq_true q152
                    go_wp2
                    repeat (go_quiet (fail); try go_wp2)
                    go_ret
                    exact ⟨by first | rfl | (simp [errW_none, errW_some] <;> rfl) | (simp [*, errW_none, errW_some] <;> rfl), by repeat (first | (with_reducible first | exact HB.out | apply below_alloc | apply pw_below_drewN | apply below_drew1 | refine below_set ?_ GE148.out | refine below_set ?_ GE149.out) | exact HB.out)⟩
                  · rw [if_neg c30] at H
                    have c30b0 : (!(((rd_T40 l0_3 x6_2).f0) == ((rd_T40 l1_3 x6_2).f0)) || (!(((rd_T40 l0_3 x6_2).f1) == ((rd_T40 l1_3 x6_2).f1)))) = false := by simpa using c30
                    clear c30
                    have H' := Aside0.mk H
                    clear H
                    have hnb34 := NB148_149.out
                    have hnc34 := NB149_148.out
                    have hcz35_0 : wr.cell? ⟨gb148, 0, none⟩ = some (.int .u64 a0_0) := (blk_cell BK148.out 0).trans rfl
                    have hcz35_1 : wr.cell? ⟨gb148, 1, none⟩ = some (.int .u64 a0_1) := (blk_cell BK148.out 1).trans rfl
                    have hcz35_2 : wr.cell? ⟨gb148, 2, none⟩ = some (.int .u64 a0_2) := (blk_cell BK148.out 2).trans rfl
                    have hcz35_3 : wr.cell? ⟨gb148, 3, none⟩ = some (.slice A0_3 l0_3.length c0_3) := (blk_cell BK148.out 3).trans rfl
                    have hcz35_4 : wr.cell? ⟨gb148, 4, none⟩ = some (.slice A0_4 l0_4.length c0_4) := (blk_cell BK148.out 4).trans rfl
                    have hfz35_0 := blk_frozen BK148.out 0
                    have hfz35_1 := blk_frozen BK148.out 1
                    have hfz35_2 := blk_frozen BK148.out 2
                    have hfz35_3 := blk_frozen BK148.out 3
                    have hfz35_4 := blk_frozen BK148.out 4
                    have p151 : 0 ≤ (x6_2 : Int) := of_decide_eq_true (by first | (with_reducible assumption) | assumption)
                    have q151 : x6_2 < (l0_3.length : Int) := of_decide_eq_true (by first | (with_reducible assumption) | assumption)
                    obtain ⟨ad151, e151, hx151_0, hx151_1⟩ := at_T40 HR0_3.out x6_2 p151 q151
                    cases e151
                    replace hx151_0 := (HB.out.cell (World.block_lt_of_cell? w _ hx151_0)).trans hx151_0
                    replace hx151_1 := (HB.out.cell (World.block_lt_of_cell? w _ hx151_1)).trans hx151_1
                    replace p151 := eq_true p151
                    replace q151 := eq_true q151
                    have hcz36_0 : wr.cell? ⟨gb149, 0, none⟩ = some (.int .u64 a1_0) := (blk_cell BK149.out 0).trans rfl
                    have hcz36_1 : wr.cell? ⟨gb149, 1, none⟩ = some (.int .u64 a1_1) := (blk_cell BK149.out 1).trans rfl
                    have hcz36_2 : wr.cell? ⟨gb149, 2, none⟩ = some (.int .u64 a1_2) := (blk_cell BK149.out 2).trans rfl
                    have hcz36_3 : wr.cell? ⟨gb149, 3, none⟩ = some (.slice A1_3 l1_3.length c1_3) := (blk_cell BK149.out 3).trans rfl
                    have hcz36_4 : wr.cell? ⟨gb149, 4, none⟩ = some (.slice A1_4 l1_4.length c1_4) := (blk_cell BK149.out 4).trans rfl
                    have hfz36_0 := blk_frozen BK149.out 0
                    have hfz36_1 := blk_frozen BK149.out 1
                    have hfz36_2 := blk_frozen BK149.out 2
                    have hfz36_3 := blk_frozen BK149.out 3
                    have hfz36_4 := blk_frozen BK149.out 4
                    have p152 : 0 ≤ (x6_2 : Int) := of_decide_eq_true (by first | (with_reducible assumption) | assumption)
                    have q152 : x6_2 < (l1_3.length : Int) := of_decide_eq_true (by first | (with_reducible assumption) | assumption)
                    obtain ⟨ad152, e152, hx152_0, hx152_1⟩ := at_T40 HR1_3.out x6_2 p152 q152
                    cases e152
                    replace hx152_0 := (HB.out.cell (World.block_lt_of_cell? w _ hx152_0)).trans hx152_0
                    replace hx152_1 := (HB.out.cell (World.block_lt_of_cell? w _ hx152_1)).trans hx152_1
                    replace p152 := eq_true p152
                    replace q152 := eq_true q152
                    go_wp2
                    repeat (go_quiet (fail); try go_wp2)
                    go_roundg k2
                    case measure => have := HJ3.out; have := HK2.out; omega
                    case rel => exact ⟨(wrap64 (x6_2 + 1)), (by first | rfl | (simp; done) | (simp [*]; done) | (simp; omega)), H', ⟨by have := HJ3.out; have := HK2.out; omega⟩, ⟨by (with_reducible repeat (first | refine blk_drewN ?_ _ | refine blk_drew ?_ | refine blk_alloc ?_ _)); exact BK148.out⟩, ⟨by (with_reducible repeat (first | refine blk_drewN ?_ _ | refine blk_drew ?_ | refine blk_alloc ?_ _)); exact BK149.out⟩, ⟨by repeat (first | (with_reducible first | exact HB.out | apply below_alloc | apply pw_below_drewN | apply below_drew1 | refine below_set ?_ GE148.out | refine below_set ?_ GE149.out) | exact HB.out)⟩⟩
                · rw [if_neg c29] at H
                  exact absurd H (by simp)
              · rw [if_neg c28] at H
                exact absurd H (by simp)
            · rw [if_neg c27] at H
              have c27b0 : decide (x6_2 < (l0_3.length : Int)) = false := decide_eq_false c27
              clear c27
              obtain rfl := Option.some.inj H
              have hnb37 := NB148_149.out
              have hnc37 := NB149_148.out
              have hcz38_0 : wr.cell? ⟨gb148, 0, none⟩ = some (.int .u64 a0_0) := (blk_cell BK148.out 0).trans rfl
              have hcz38_1 : wr.cell? ⟨gb148, 1, none⟩ = some (.int .u64 a0_1) := (blk_cell BK148.out 1).trans rfl
              have hcz38_2 : wr.cell? ⟨gb148, 2, none⟩ = some (.int .u64 a0_2) := (blk_cell BK148.out 2).trans rfl
              have hcz38_3 : wr.cell? ⟨gb148, 3, none⟩ = some (.slice A0_3 l0_3.length c0_3) := (blk_cell BK148.out 3).trans rfl
              have hcz38_4 : wr.cell? ⟨gb148, 4, none⟩ = some (.slice A0_4 l0_4.length c0_4) := (blk_cell BK148.out 4).trans rfl
              have hfz38_0 := blk_frozen BK148.out 0
              have hfz38_1 := blk_frozen BK148.out 1
              have hfz38_2 := blk_frozen BK148.out 2
              have hfz38_3 := blk_frozen BK148.out 3
              have hfz38_4 := blk_frozen BK148.out 4
              go_wp2
              repeat (go_quiet (fail); try go_wp2)
              go_ret
              exact ⟨by first | rfl | (simp [errW_none, errW_some] <;> rfl) | (simp [*, errW_none, errW_some] <;> rfl), by repeat (first | (with_reducible first | exact HB.out | apply below_alloc | apply pw_below_drewN | apply below_drew1 | refine below_set ?_ GE148.out | refine below_set ?_ GE149.out) | exact HB.out)⟩

end Go.Proofs.Ythkkbgehmiobaaa.P
