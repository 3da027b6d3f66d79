-- By this session's wip/hprint.py: the kit's print.py with functions by hand beside it. Not trusted: Lean checks it.
import Derived.Test.YtlbnibkmjiapaaaP0
import Derived.Test.YtlbnibkmjiapaaaP1
import Derived.Test.YtlbnibkmjiapaaaP5
import Derived.Test.YtlbnibkmjiapaaaP7
namespace Go.Proofs.Ytlbnibkmjiapaaa.P
open Go.RowKit Go.Proofs.YtlbnibkmjiapaaaW.PrintWords Go.Proofs.YtlbnibkmjiapaaaW.PrintLast Go.Proofs.YtlbnibkmjiapaaaW.PrintMore
attribute [local go_sem] max2_int min2_int max_two min_two max_three min_three max_four min_four   -- for this text's walks alone
set_option linter.unusedVariables false
set_option linter.unusedSimpArgs false

attribute [local go_sem high] eqA25
/-! ### staddlelaw02_IkeyLines: function 7 -/
def staddlelaw02_IkeyLines.j0 : Nat → Bool → Int → Int → Int → Bool → Option (Bool)
  | 0, _, _, _, _, _ => none
  | k + 1, x7, x8, x9, x10, x40 => if x40 = true then (some false) else (if x8 ≤ 0 then (if x9 ≤ 0 then (if x10 > 0 then (some false) else (if x9 < 0 then (if x10 ≥ 0 then (some false) else (if x7 = true then (if x8 ≥ (-1) then (some (decide (x8 ≤ 1))) else (some false)) else (some false))) else (if x7 = true then (if x8 ≥ (-1) then (some (decide (x8 ≤ 1))) else (some false)) else (some false)))) else (if x9 < 0 then (if x10 ≥ 0 then (some false) else (if x7 = true then (if x8 ≥ (-1) then (some (decide (x8 ≤ 1))) else (some false)) else (some false))) else (if x7 = true then (if x8 ≥ (-1) then (some (decide (x8 ≤ 1))) else (some false)) else (some false)))) else (if x7 = true then (if x8 ≥ (-1) then (some (decide (x8 ≤ 1))) else (some false)) else (some false)))
def staddlelaw02_IkeyLines.f (k : Nat) (a0_0 : ByteArray) (a0_1 : Int) (a0_2 : Int) (a1_0 : ByteArray) (a1_1 : Int) (a1_2 : Int) (a2_0 : ByteArray) (a2_1 : Int) (a2_2 : Int) : Option (Bool) := (staddlelaw02_awake.f k).bind fun t235 => ((ikey_Compare.f a0_0 a0_1 a0_2 a1_0 a1_1 a1_2).bind fun t236 => ((ikey_Compare.f a1_0 a1_1 a1_2 a2_0 a2_1 a2_2).bind fun t237 => ((ikey_Compare.f a0_0 a0_1 a0_2 a2_0 a2_1 a2_2).bind fun t238 => ((ikey_Compare.f a0_0 a0_1 a0_2 a0_0 a0_1 a0_2).bind fun t239 => (if t239 = 0 then ((ikey_Compare.f a1_0 a1_1 a1_2 a0_0 a0_1 a0_2).bind fun t240 => (if t240 = (wrap64 (-t236)) then (staddlelaw02_IkeyLines.j0 k t235 t236 t237 t238 ((t236 == 0) != (a0_0.toList == a1_0.toList && (a0_1 == a1_1 && (a0_2 == a1_2))))) else (staddlelaw02_IkeyLines.j0 k t235 t236 t237 t238 true))) else (staddlelaw02_IkeyLines.j0 k t235 t236 t237 t238 true))))))
theorem staddlelaw02_IkeyLines.mono_l : ∀ k, (∀ y0 y1 y2 y3 y4, LeO (staddlelaw02_IkeyLines.j0 k y0 y1 y2 y3 y4) (staddlelaw02_IkeyLines.j0 (k + 1) y0 y1 y2 y3 y4))
  | 0 => fun _ _ _ _ _ r h => by simp [staddlelaw02_IkeyLines.j0] at h
  | k + 1 => by
    have ih0 := staddlelaw02_IkeyLines.mono_l k
    · intro y0 y1 y2 y3 y4
      unfold staddlelaw02_IkeyLines.j0
      repeat' first
      | (with_reducible exact ih0 _ _ _ _ _)
      | (with_reducible exact staddlelaw02_awake.mono _)
      | (with_reducible exact LeO.refl _)
      | (with_reducible exact LeO.none _)
      | (with_reducible refine LeO.ite ?_ ?_)
      | (with_reducible refine LeO.bind ?_ (fun _ => ?_))
      | exact ih0 _ _ _ _ _
      | exact staddlelaw02_awake.mono _
      | exact LeO.none _
      | refine LeO.ite ?_ ?_
      | refine LeO.bind ?_ (fun _ => ?_)
theorem staddlelaw02_IkeyLines.mono : ∀ a0 a1 a2 a3 a4 a5 a6 a7 a8 k, LeO (staddlelaw02_IkeyLines.f k a0 a1 a2 a3 a4 a5 a6 a7 a8) (staddlelaw02_IkeyLines.f (k + 1) a0 a1 a2 a3 a4 a5 a6 a7 a8) := by
  intro a0 a1 a2 a3 a4 a5 a6 a7 a8 k
  have ih0 := staddlelaw02_IkeyLines.mono_l k
  unfold staddlelaw02_IkeyLines.f
  repeat' first
      | (with_reducible exact ih0 _ _ _ _ _)
      | (with_reducible exact staddlelaw02_awake.mono _)
      | (with_reducible exact LeO.refl _)
      | (with_reducible exact LeO.none _)
      | (with_reducible refine LeO.ite ?_ ?_)
      | (with_reducible refine LeO.bind ?_ (fun _ => ?_))
      | exact ih0 _ _ _ _ _
      | exact staddlelaw02_awake.mono _
      | exact LeO.none _
      | refine LeO.ite ?_ ?_
      | refine LeO.bind ?_ (fun _ => ?_)
set_option maxHeartbeats 8000000 in
set_option maxRecDepth 100000 in
theorem staddlelaw02_IkeyLines.calls (k : Nat) (a0_0 : ByteArray) (a0_1 : Int) (a0_2 : Int) (a1_0 : ByteArray) (a1_1 : Int) (a1_2 : Int) (a2_0 : ByteArray) (a2_1 : Int) (a2_2 : Int) (r : Bool) (w : World) (h : staddlelaw02_IkeyLines.f k a0_0 a0_1 a0_2 a1_0 a1_1 a1_2 a2_0 a2_1 a2_2 = some r) :
    Calls Try.prog 7 #[.agg #[.string a0_0, .int .u64 a0_1, .int .i64 a0_2], .agg #[.string a1_0, .int .u64 a1_1, .int .i64 a1_2], .agg #[.string a2_0, .int .u64 a2_1, .int .i64 a2_2]] w fun e w' => e = .returned (.bool r) ∧ Below w.heap.size w w' := by
  have hu25 := Try.underlying25
  have HB := Aside0.mk (Below.refl w.heap.size w)
  have H : ((staddlelaw02_awake.f k).bind fun t235 => ((ikey_Compare.f a0_0 a0_1 a0_2 a1_0 a1_1 a1_2).bind fun t236 => ((ikey_Compare.f a1_0 a1_1 a1_2 a2_0 a2_1 a2_2).bind fun t237 => ((ikey_Compare.f a0_0 a0_1 a0_2 a2_0 a2_1 a2_2).bind fun t238 => ((ikey_Compare.f a0_0 a0_1 a0_2 a0_0 a0_1 a0_2).bind fun t239 => (if t239 = 0 then ((ikey_Compare.f a1_0 a1_1 a1_2 a0_0 a0_1 a0_2).bind fun t240 => (if t240 = (wrap64 (-t236)) then (staddlelaw02_IkeyLines.j0 k t235 t236 t237 t238 ((t236 == 0) != (a0_0.toList == a1_0.toList && (a0_1 == a1_1 && (a0_2 == a1_2))))) else (staddlelaw02_IkeyLines.j0 k t235 t236 t237 t238 true))) else (staddlelaw02_IkeyLines.j0 k t235 t236 t237 t238 true))))))) = some r := h
  clear h
  replace H := Option.bind_eq_some_iff.mp H
  obtain ⟨t235, A40, H⟩ := H
  replace H : ((ikey_Compare.f a0_0 a0_1 a0_2 a1_0 a1_1 a1_2).bind fun t236 => ((ikey_Compare.f a1_0 a1_1 a1_2 a2_0 a2_1 a2_2).bind fun t237 => ((ikey_Compare.f a0_0 a0_1 a0_2 a2_0 a2_1 a2_2).bind fun t238 => ((ikey_Compare.f a0_0 a0_1 a0_2 a0_0 a0_1 a0_2).bind fun t239 => (if t239 = 0 then ((ikey_Compare.f a1_0 a1_1 a1_2 a0_0 a0_1 a0_2).bind fun t240 => (if t240 = (wrap64 (-t236)) then (staddlelaw02_IkeyLines.j0 k t235 t236 t237 t238 ((t236 == 0) != (a0_0.toList == a1_0.toList && (a0_1 == a1_1 && (a0_2 == a1_2))))) else (staddlelaw02_IkeyLines.j0 k t235 t236 t237 t238 true))) else (staddlelaw02_IkeyLines.j0 k t235 t236 t237 t238 true)))))) = some r := H
  have A4 := Aside0.mk A40
  clear A40
  replace H := Option.bind_eq_some_iff.mp H
  obtain ⟨t236, A50, H⟩ := H
  replace H : ((ikey_Compare.f a1_0 a1_1 a1_2 a2_0 a2_1 a2_2).bind fun t237 => ((ikey_Compare.f a0_0 a0_1 a0_2 a2_0 a2_1 a2_2).bind fun t238 => ((ikey_Compare.f a0_0 a0_1 a0_2 a0_0 a0_1 a0_2).bind fun t239 => (if t239 = 0 then ((ikey_Compare.f a1_0 a1_1 a1_2 a0_0 a0_1 a0_2).bind fun t240 => (if t240 = (wrap64 (-t236)) then (staddlelaw02_IkeyLines.j0 k t235 t236 t237 t238 ((t236 == 0) != (a0_0.toList == a1_0.toList && (a0_1 == a1_1 && (a0_2 == a1_2))))) else (staddlelaw02_IkeyLines.j0 k t235 t236 t237 t238 true))) else (staddlelaw02_IkeyLines.j0 k t235 t236 t237 t238 true))))) = some r := H
  have A5 := Aside0.mk A50
  clear A50
  replace H := Option.bind_eq_some_iff.mp H
  obtain ⟨t237, A60, H⟩ := H
  replace H : ((ikey_Compare.f a0_0 a0_1 a0_2 a2_0 a2_1 a2_2).bind fun t238 => ((ikey_Compare.f a0_0 a0_1 a0_2 a0_0 a0_1 a0_2).bind fun t239 => (if t239 = 0 then ((ikey_Compare.f a1_0 a1_1 a1_2 a0_0 a0_1 a0_2).bind fun t240 => (if t240 = (wrap64 (-t236)) then (staddlelaw02_IkeyLines.j0 k t235 t236 t237 t238 ((t236 == 0) != (a0_0.toList == a1_0.toList && (a0_1 == a1_1 && (a0_2 == a1_2))))) else (staddlelaw02_IkeyLines.j0 k t235 t236 t237 t238 true))) else (staddlelaw02_IkeyLines.j0 k t235 t236 t237 t238 true)))) = some r := H
  have A6 := Aside0.mk A60
  clear A60
  replace H := Option.bind_eq_some_iff.mp H
  obtain ⟨t238, A70, H⟩ := H
  replace H : ((ikey_Compare.f a0_0 a0_1 a0_2 a0_0 a0_1 a0_2).bind fun t239 => (if t239 = 0 then ((ikey_Compare.f a1_0 a1_1 a1_2 a0_0 a0_1 a0_2).bind fun t240 => (if t240 = (wrap64 (-t236)) then (staddlelaw02_IkeyLines.j0 k t235 t236 t237 t238 ((t236 == 0) != (a0_0.toList == a1_0.toList && (a0_1 == a1_1 && (a0_2 == a1_2))))) else (staddlelaw02_IkeyLines.j0 k t235 t236 t237 t238 true))) else (staddlelaw02_IkeyLines.j0 k t235 t236 t237 t238 true))) = some r := H
  have A7 := Aside0.mk A70
  clear A70
  have HC8 := Aside0.mk H
  clear H
  go_enter Try.func7, Try.ntmps7
  go_upto_region 5 with (first | ((with_reducible refine gate_dst (N := 3) rfl ?_); refine box_event ?hg (N := 3) ?hd (cs := #[.string a0_0, .int .u64 a0_1, .int .i64 a0_2]) (t := 25) ?hr ?_; (case hd => rfl); (case hg => rfl); (case hr => first | (go_simp; done) | (go_simp; rfl)); intro gb232 hg w9 hbox hb; have n0_ := Aside0.mk (below_step (by repeat (first | (with_reducible first | exact HB.out | apply below_alloc | apply pw_below_drewN | apply below_drew1) | exact HB.out)) hb); have n1_ := Aside0.mk (hbox); have n2_ := Aside0.mk ((by rw [hg]; exact (below_size (by repeat (first | (with_reducible first | exact HB.out | apply below_alloc | apply pw_below_drewN | apply below_drew1) | exact HB.out))) : w.heap.size ≤ gb232)); have n3_ := Aside0.mk ((by rw [hg]; exact (below_size (by repeat (first | (with_reducible first | exact HB.out | apply below_alloc | apply pw_below_drewN | apply below_drew1) | exact HB.out))) : w.heap.size ≤ gb232)); clear HB; have HB := n0_; have BK232 := n1_; have GW232 := n2_; have GE232 := n3_; clear n0_ n1_ n2_ n3_; clear hb hbox hg) | ((with_reducible refine gate_dst (N := 4) rfl ?_); refine box_event ?hg (N := 4) ?hd (cs := #[.string a1_0, .int .u64 a1_1, .int .i64 a1_2]) (t := 25) ?hr ?_; (case hd => rfl); (case hg => rfl); (case hr => first | (go_simp; done) | (go_simp; rfl)); intro gb233 hg w10 hbox hb; have n0_ := Aside0.mk (blk_below (g := gb232) (o := .cells #[.string a0_0, .int .u64 a0_1, .int .i64 a0_2] 25 (0, 0)) (by (with_reducible repeat (first | refine blk_drewN ?_ _ | refine blk_drew ?_ | refine blk_alloc ?_ _)); exact BK232.out) hb); have n1_ := Aside0.mk (below_step (by repeat (first | (with_reducible first | exact HB.out | apply below_alloc | apply pw_below_drewN | apply below_drew1 | refine below_set ?_ GE232.out) | exact HB.out)) hb); have n2_ := Aside0.mk (hbox); have n3_ := Aside0.mk ((by rw [hg]; exact (below_size (by repeat (first | (with_reducible first | exact HB.out | apply below_alloc | apply pw_below_drewN | apply below_drew1 | refine below_set ?_ GE232.out) | exact HB.out))) : w.heap.size ≤ gb233)); have n4_ := Aside0.mk ((by rw [hg]; exact (below_size (by repeat (first | (with_reducible first | exact HB.out | apply below_alloc | apply pw_below_drewN | apply below_drew1 | refine below_set ?_ GE232.out) | exact HB.out))) : w.heap.size ≤ gb233)); have n5_ := Aside0.mk ((by rw [hg]; exact Nat.ne_of_lt (blk_lt (g := gb232) (o := .cells #[.string a0_0, .int .u64 a0_1, .int .i64 a0_2] 25 (0, 0)) (by (with_reducible repeat (first | refine blk_drewN ?_ _ | refine blk_drew ?_ | refine blk_alloc ?_ _)); exact BK232.out)) : gb232 ≠ gb233)); have n6_ := Aside0.mk ((by rw [hg]; exact Nat.ne_of_gt (blk_lt (g := gb232) (o := .cells #[.string a0_0, .int .u64 a0_1, .int .i64 a0_2] 25 (0, 0)) (by (with_reducible repeat (first | refine blk_drewN ?_ _ | refine blk_drew ?_ | refine blk_alloc ?_ _)); exact BK232.out)) : gb233 ≠ gb232)); clear BK232; clear HB; have BK232 := n0_; have HB := n1_; have BK233 := n2_; have GW233 := n3_; have GE233 := n4_; have NB232_233 := n5_; have NB233_232 := n6_; clear n0_ n1_ n2_ n3_ n4_ n5_ n6_; clear hb hbox hg) | ((with_reducible refine gate_dst (N := 5) rfl ?_); refine box_event ?hg (N := 5) ?hd (cs := #[.string a2_0, .int .u64 a2_1, .int .i64 a2_2]) (t := 25) ?hr ?_; (case hd => rfl); (case hg => rfl); (case hr => first | (go_simp; done) | (go_simp; rfl)); intro gb234 hg w11 hbox hb; have n0_ := Aside0.mk (blk_below (g := gb232) (o := .cells #[.string a0_0, .int .u64 a0_1, .int .i64 a0_2] 25 (0, 0)) (by (with_reducible repeat (first | refine blk_drewN ?_ _ | refine blk_drew ?_ | refine blk_alloc ?_ _)); exact BK232.out) hb); have n1_ := Aside0.mk (blk_below (g := gb233) (o := .cells #[.string a1_0, .int .u64 a1_1, .int .i64 a1_2] 25 (0, 0)) (by (with_reducible repeat (first | refine blk_drewN ?_ _ | refine blk_drew ?_ | refine blk_alloc ?_ _)); exact BK233.out) hb); have n2_ := Aside0.mk (below_step (by repeat (first | (with_reducible first | exact HB.out | apply below_alloc | apply pw_below_drewN | apply below_drew1 | refine below_set ?_ GE232.out | refine below_set ?_ GE233.out) | exact HB.out)) hb); have n3_ := Aside0.mk (hbox); have n4_ := Aside0.mk ((by rw [hg]; exact (below_size (by repeat (first | (with_reducible first | exact HB.out | apply below_alloc | apply pw_below_drewN | apply below_drew1 | refine below_set ?_ GE232.out | refine below_set ?_ GE233.out) | exact HB.out))) : w.heap.size ≤ gb234)); have n5_ := Aside0.mk ((by rw [hg]; exact (below_size (by repeat (first | (with_reducible first | exact HB.out | apply below_alloc | apply pw_below_drewN | apply below_drew1 | refine below_set ?_ GE232.out | refine below_set ?_ GE233.out) | exact HB.out))) : w.heap.size ≤ gb234)); have n6_ := Aside0.mk ((by rw [hg]; exact Nat.ne_of_lt (blk_lt (g := gb232) (o := .cells #[.string a0_0, .int .u64 a0_1, .int .i64 a0_2] 25 (0, 0)) (by (with_reducible repeat (first | refine blk_drewN ?_ _ | refine blk_drew ?_ | refine blk_alloc ?_ _)); exact BK232.out)) : gb232 ≠ gb234)); have n7_ := Aside0.mk ((by rw [hg]; exact Nat.ne_of_gt (blk_lt (g := gb232) (o := .cells #[.string a0_0, .int .u64 a0_1, .int .i64 a0_2] 25 (0, 0)) (by (with_reducible repeat (first | refine blk_drewN ?_ _ | refine blk_drew ?_ | refine blk_alloc ?_ _)); exact BK232.out)) : gb234 ≠ gb232)); have n8_ := Aside0.mk ((by rw [hg]; exact Nat.ne_of_lt (blk_lt (g := gb233) (o := .cells #[.string a1_0, .int .u64 a1_1, .int .i64 a1_2] 25 (0, 0)) (by (with_reducible repeat (first | refine blk_drewN ?_ _ | refine blk_drew ?_ | refine blk_alloc ?_ _)); exact BK233.out)) : gb233 ≠ gb234)); have n9_ := Aside0.mk ((by rw [hg]; exact Nat.ne_of_gt (blk_lt (g := gb233) (o := .cells #[.string a1_0, .int .u64 a1_1, .int .i64 a1_2] 25 (0, 0)) (by (with_reducible repeat (first | refine blk_drewN ?_ _ | refine blk_drew ?_ | refine blk_alloc ?_ _)); exact BK233.out)) : gb234 ≠ gb233)); clear BK232; clear BK233; clear HB; have BK232 := n0_; have BK233 := n1_; have HB := n2_; have BK234 := n3_; have GW234 := n4_; have GE234 := n5_; have NB232_234 := n6_; have NB234_232 := n7_; have NB233_234 := n8_; have NB234_233 := n9_; clear n0_ n1_ n2_ n3_ n4_ n5_ n6_ n7_ n8_ n9_; clear hb hbox hg) | ((with_reducible refine gate_callee (f := 10) rfl ?_); refine goesL_ (some 11) rfl rfl Try.func10 (by kernel_rfl) rfl #[] rfl (by (try simp only [List.map_toArray, List.map_cons, List.map_nil]); first | done | rfl | (simp only [List.length_drop, List.length_take]; rfl)) ?_; (with_reducible refine (staddlelaw02_awake.calls k  t235 _ A4.out).mono ?_); rintro e w12 ⟨rfl, hb⟩; refine ⟨_, rfl, ?_⟩; have n0_ := Aside0.mk (blk_below (g := gb232) (o := .cells #[.string a0_0, .int .u64 a0_1, .int .i64 a0_2] 25 (0, 0)) (by (with_reducible repeat (first | refine blk_drewN ?_ _ | refine blk_drew ?_ | refine blk_alloc ?_ _)); exact BK232.out) hb); have n1_ := Aside0.mk (blk_below (g := gb233) (o := .cells #[.string a1_0, .int .u64 a1_1, .int .i64 a1_2] 25 (0, 0)) (by (with_reducible repeat (first | refine blk_drewN ?_ _ | refine blk_drew ?_ | refine blk_alloc ?_ _)); exact BK233.out) hb); have n2_ := Aside0.mk (blk_below (g := gb234) (o := .cells #[.string a2_0, .int .u64 a2_1, .int .i64 a2_2] 25 (0, 0)) (by (with_reducible repeat (first | refine blk_drewN ?_ _ | refine blk_drew ?_ | refine blk_alloc ?_ _)); exact BK234.out) hb); have n3_ := Aside0.mk (below_step (by repeat (first | (with_reducible first | exact HB.out | apply below_alloc | apply pw_below_drewN | apply below_drew1 | refine below_set ?_ GE232.out | refine below_set ?_ GE233.out | refine below_set ?_ GE234.out) | exact HB.out)) hb); clear BK232; clear BK233; clear BK234; clear HB; have BK232 := n0_; have BK233 := n1_; have BK234 := n2_; have HB := n3_; clear n0_ n1_ n2_ n3_; (try clear hb); (try clear hb2); (try clear hk); (try clear hi); have hnb13 := NB232_233.out; have hnc13 := NB233_232.out; have hnb14 := NB232_234.out; have hnc14 := NB234_232.out; have hcz15_0 : w12.cell? ⟨gb232, 0, none⟩ = some (.string a0_0) := (blk_cell BK232.out 0).trans rfl; have hcz15_1 : w12.cell? ⟨gb232, 1, none⟩ = some (.int .u64 a0_1) := (blk_cell BK232.out 1).trans rfl; have hcz15_2 : w12.cell? ⟨gb232, 2, none⟩ = some (.int .i64 a0_2) := (blk_cell BK232.out 2).trans rfl; have hfz15_0 := blk_frozen BK232.out 0; have hfz15_1 := blk_frozen BK232.out 1; have hfz15_2 := blk_frozen BK232.out 2; have hnb16 := NB233_234.out; have hnc16 := NB234_233.out; have hcz17_0 : w12.cell? ⟨gb233, 0, none⟩ = some (.string a1_0) := (blk_cell BK233.out 0).trans rfl; have hcz17_1 : w12.cell? ⟨gb233, 1, none⟩ = some (.int .u64 a1_1) := (blk_cell BK233.out 1).trans rfl; have hcz17_2 : w12.cell? ⟨gb233, 2, none⟩ = some (.int .i64 a1_2) := (blk_cell BK233.out 2).trans rfl; have hfz17_0 := blk_frozen BK233.out 0; have hfz17_1 := blk_frozen BK233.out 1; have hfz17_2 := blk_frozen BK233.out 2) | ((with_reducible refine gate_callee (f := 17) rfl ?_); refine goesL_ (some 14) rfl rfl Try.func17 (by kernel_rfl) rfl #[.agg #[.string a0_0, .int .u64 a0_1, .int .i64 a0_2], .agg #[.string a1_0, .int .u64 a1_1, .int .i64 a1_2]] rfl (by (try simp only [List.map_toArray, List.map_cons, List.map_nil]); first | done | rfl | (simp only [List.length_drop, List.length_take]; rfl)) ?_; (with_reducible refine (ikey_Compare.calls a0_0 a0_1 a0_2 a1_0 a1_1 a1_2 t236 _ A5.out).mono ?_); rintro e w18 ⟨rfl, hb⟩; refine ⟨_, rfl, ?_⟩; have n0_ := Aside0.mk (blk_below (g := gb232) (o := .cells #[.string a0_0, .int .u64 a0_1, .int .i64 a0_2] 25 (0, 0)) (by (with_reducible repeat (first | refine blk_drewN ?_ _ | refine blk_drew ?_ | refine blk_alloc ?_ _)); exact BK232.out) hb); have n1_ := Aside0.mk (blk_below (g := gb233) (o := .cells #[.string a1_0, .int .u64 a1_1, .int .i64 a1_2] 25 (0, 0)) (by (with_reducible repeat (first | refine blk_drewN ?_ _ | refine blk_drew ?_ | refine blk_alloc ?_ _)); exact BK233.out) hb); have n2_ := Aside0.mk (blk_below (g := gb234) (o := .cells #[.string a2_0, .int .u64 a2_1, .int .i64 a2_2] 25 (0, 0)) (by (with_reducible repeat (first | refine blk_drewN ?_ _ | refine blk_drew ?_ | refine blk_alloc ?_ _)); exact BK234.out) hb); have n3_ := Aside0.mk (below_step (by repeat (first | (with_reducible first | exact HB.out | apply below_alloc | apply pw_below_drewN | apply below_drew1 | refine below_set ?_ GE232.out | refine below_set ?_ GE233.out | refine below_set ?_ GE234.out) | exact HB.out)) hb); clear BK232; clear BK233; clear BK234; clear HB; have BK232 := n0_; have BK233 := n1_; have BK234 := n2_; have HB := n3_; clear n0_ n1_ n2_ n3_; (try clear hb); (try clear hb2); (try clear hk); (try clear hi); have hcz19_0 : w18.cell? ⟨gb233, 0, none⟩ = some (.string a1_0) := (blk_cell BK233.out 0).trans rfl; have hcz19_1 : w18.cell? ⟨gb233, 1, none⟩ = some (.int .u64 a1_1) := (blk_cell BK233.out 1).trans rfl; have hcz19_2 : w18.cell? ⟨gb233, 2, none⟩ = some (.int .i64 a1_2) := (blk_cell BK233.out 2).trans rfl; have hfz19_0 := blk_frozen BK233.out 0; have hfz19_1 := blk_frozen BK233.out 1; have hfz19_2 := blk_frozen BK233.out 2; have hcz20_0 : w18.cell? ⟨gb234, 0, none⟩ = some (.string a2_0) := (blk_cell BK234.out 0).trans rfl; have hcz20_1 : w18.cell? ⟨gb234, 1, none⟩ = some (.int .u64 a2_1) := (blk_cell BK234.out 1).trans rfl; have hcz20_2 : w18.cell? ⟨gb234, 2, none⟩ = some (.int .i64 a2_2) := (blk_cell BK234.out 2).trans rfl; have hfz20_0 := blk_frozen BK234.out 0; have hfz20_1 := blk_frozen BK234.out 1; have hfz20_2 := blk_frozen BK234.out 2) | ((with_reducible refine gate_callee (f := 17) rfl ?_); refine goesL_ (some 17) rfl rfl Try.func17 (by kernel_rfl) rfl #[.agg #[.string a1_0, .int .u64 a1_1, .int .i64 a1_2], .agg #[.string a2_0, .int .u64 a2_1, .int .i64 a2_2]] rfl (by (try simp only [List.map_toArray, List.map_cons, List.map_nil]); first | done | rfl | (simp only [List.length_drop, List.length_take]; rfl)) ?_; (with_reducible refine (ikey_Compare.calls a1_0 a1_1 a1_2 a2_0 a2_1 a2_2 t237 _ A6.out).mono ?_); rintro e w21 ⟨rfl, hb⟩; refine ⟨_, rfl, ?_⟩; have n0_ := Aside0.mk (blk_below (g := gb232) (o := .cells #[.string a0_0, .int .u64 a0_1, .int .i64 a0_2] 25 (0, 0)) (by (with_reducible repeat (first | refine blk_drewN ?_ _ | refine blk_drew ?_ | refine blk_alloc ?_ _)); exact BK232.out) hb); have n1_ := Aside0.mk (blk_below (g := gb233) (o := .cells #[.string a1_0, .int .u64 a1_1, .int .i64 a1_2] 25 (0, 0)) (by (with_reducible repeat (first | refine blk_drewN ?_ _ | refine blk_drew ?_ | refine blk_alloc ?_ _)); exact BK233.out) hb); have n2_ := Aside0.mk (blk_below (g := gb234) (o := .cells #[.string a2_0, .int .u64 a2_1, .int .i64 a2_2] 25 (0, 0)) (by (with_reducible repeat (first | refine blk_drewN ?_ _ | refine blk_drew ?_ | refine blk_alloc ?_ _)); exact BK234.out) hb); have n3_ := Aside0.mk (below_step (by repeat (first | (with_reducible first | exact HB.out | apply below_alloc | apply pw_below_drewN | apply below_drew1 | refine below_set ?_ GE232.out | refine below_set ?_ GE233.out | refine below_set ?_ GE234.out) | exact HB.out)) hb); clear BK232; clear BK233; clear BK234; clear HB; have BK232 := n0_; have BK233 := n1_; have BK234 := n2_; have HB := n3_; clear n0_ n1_ n2_ n3_; (try clear hb); (try clear hb2); (try clear hk); (try clear hi); have hcz22_0 : w21.cell? ⟨gb232, 0, none⟩ = some (.string a0_0) := (blk_cell BK232.out 0).trans rfl; have hcz22_1 : w21.cell? ⟨gb232, 1, none⟩ = some (.int .u64 a0_1) := (blk_cell BK232.out 1).trans rfl; have hcz22_2 : w21.cell? ⟨gb232, 2, none⟩ = some (.int .i64 a0_2) := (blk_cell BK232.out 2).trans rfl; have hfz22_0 := blk_frozen BK232.out 0; have hfz22_1 := blk_frozen BK232.out 1; have hfz22_2 := blk_frozen BK232.out 2; have hcz23_0 : w21.cell? ⟨gb234, 0, none⟩ = some (.string a2_0) := (blk_cell BK234.out 0).trans rfl; have hcz23_1 : w21.cell? ⟨gb234, 1, none⟩ = some (.int .u64 a2_1) := (blk_cell BK234.out 1).trans rfl; have hcz23_2 : w21.cell? ⟨gb234, 2, none⟩ = some (.int .i64 a2_2) := (blk_cell BK234.out 2).trans rfl; have hfz23_0 := blk_frozen BK234.out 0; have hfz23_1 := blk_frozen BK234.out 1; have hfz23_2 := blk_frozen BK234.out 2) | ((with_reducible refine gate_callee (f := 17) rfl ?_); refine goesL_ (some 20) rfl rfl Try.func17 (by kernel_rfl) rfl #[.agg #[.string a0_0, .int .u64 a0_1, .int .i64 a0_2], .agg #[.string a2_0, .int .u64 a2_1, .int .i64 a2_2]] rfl (by (try simp only [List.map_toArray, List.map_cons, List.map_nil]); first | done | rfl | (simp only [List.length_drop, List.length_take]; rfl)) ?_; (with_reducible refine (ikey_Compare.calls a0_0 a0_1 a0_2 a2_0 a2_1 a2_2 t238 _ A7.out).mono ?_); rintro e w24 ⟨rfl, hb⟩; refine ⟨_, rfl, ?_⟩; have n0_ := Aside0.mk (blk_below (g := gb232) (o := .cells #[.string a0_0, .int .u64 a0_1, .int .i64 a0_2] 25 (0, 0)) (by (with_reducible repeat (first | refine blk_drewN ?_ _ | refine blk_drew ?_ | refine blk_alloc ?_ _)); exact BK232.out) hb); have n1_ := Aside0.mk (blk_below (g := gb233) (o := .cells #[.string a1_0, .int .u64 a1_1, .int .i64 a1_2] 25 (0, 0)) (by (with_reducible repeat (first | refine blk_drewN ?_ _ | refine blk_drew ?_ | refine blk_alloc ?_ _)); exact BK233.out) hb); have n2_ := Aside0.mk (blk_below (g := gb234) (o := .cells #[.string a2_0, .int .u64 a2_1, .int .i64 a2_2] 25 (0, 0)) (by (with_reducible repeat (first | refine blk_drewN ?_ _ | refine blk_drew ?_ | refine blk_alloc ?_ _)); exact BK234.out) hb); have n3_ := Aside0.mk (below_step (by repeat (first | (with_reducible first | exact HB.out | apply below_alloc | apply pw_below_drewN | apply below_drew1 | refine below_set ?_ GE232.out | refine below_set ?_ GE233.out | refine below_set ?_ GE234.out) | exact HB.out)) hb); clear BK232; clear BK233; clear BK234; clear HB; have BK232 := n0_; have BK233 := n1_; have BK234 := n2_; have HB := n3_; clear n0_ n1_ n2_ n3_; (try clear hb); (try clear hb2); (try clear hk); (try clear hi)))
  (try simp only [Act.put, List.setIfInBounds_toArray, List.set_cons_zero, List.set_cons_succ])
  go_cut [40] (fun v40 wc => ∃ (kq : Nat) (x40_7 : Bool), v40 = .bool x40_7 ∧ Aside0 (staddlelaw02_IkeyLines.j0 kq t235 t236 t237 t238 x40_7 = some r) ∧ Aside0 (kq ≤ k) ∧ Aside0 (wc.heap[gb232]? = some (.cells #[.string a0_0, .int .u64 a0_1, .int .i64 a0_2] 25 (0, 0))) ∧ Aside0 (wc.heap[gb233]? = some (.cells #[.string a1_0, .int .u64 a1_1, .int .i64 a1_2] 25 (0, 0))) ∧ Aside0 (wc.heap[gb234]? = some (.cells #[.string a2_0, .int .u64 a2_1, .int .i64 a2_2] 25 (0, 0))) ∧ Aside0 (Below w.heap.size w wc))
  case first =>
    have H := HC8.out
    clear HC8
    replace H := Option.bind_eq_some_iff.mp H
    obtain ⟨t239, A250, H⟩ := H
    replace H : (if t239 = 0 then ((ikey_Compare.f a1_0 a1_1 a1_2 a0_0 a0_1 a0_2).bind fun t240 => (if t240 = (wrap64 (-t236)) then (staddlelaw02_IkeyLines.j0 k t235 t236 t237 t238 ((t236 == 0) != (a0_0.toList == a1_0.toList && (a0_1 == a1_1 && (a0_2 == a1_2))))) else (staddlelaw02_IkeyLines.j0 k t235 t236 t237 t238 true))) else (staddlelaw02_IkeyLines.j0 k t235 t236 t237 t238 true)) = some r := H
    have A25 := Aside0.mk A250
    clear A250
    by_cases c26 : t239 = 0
    · rw [if_pos c26] at H
      have c26b0 : (t239 == 0) = true := beq_iff_eq.mpr c26
      have c26b1 : (t239 != 0) = false := bne_eq_false_iff_eq.mpr c26
      clear c26
      (first | rw [c26b0] | (simp only [i64_w, i32_w]; rw [c26b0]) | skip)
      replace H := Option.bind_eq_some_iff.mp H
      obtain ⟨t240, A270, H⟩ := H
      replace H : (if t240 = (wrap64 (-t236)) then (staddlelaw02_IkeyLines.j0 k t235 t236 t237 t238 ((t236 == 0) != (a0_0.toList == a1_0.toList && (a0_1 == a1_1 && (a0_2 == a1_2))))) else (staddlelaw02_IkeyLines.j0 k t235 t236 t237 t238 true)) = some r := H
      have A27 := Aside0.mk A270
      clear A270
      by_cases c28 : t240 = (wrap64 (-t236))
      · rw [if_pos c28] at H
        have c28b0 : (t240 == (wrap64 (-t236))) = true := beq_iff_eq.mpr c28
        have c28b1 : (t240 != (wrap64 (-t236))) = false := bne_eq_false_iff_eq.mpr c28
        clear c28
        have H' := Aside0.mk H
        clear H
        have hnb29 := NB232_233.out
        have hnc29 := NB233_232.out
        have hnb30 := NB232_234.out
        have hnc30 := NB234_232.out
        have hcz31_0 : w24.cell? ⟨gb232, 0, none⟩ = some (.string a0_0) := (blk_cell BK232.out 0).trans rfl
        have hcz31_1 : w24.cell? ⟨gb232, 1, none⟩ = some (.int .u64 a0_1) := (blk_cell BK232.out 1).trans rfl
        have hcz31_2 : w24.cell? ⟨gb232, 2, none⟩ = some (.int .i64 a0_2) := (blk_cell BK232.out 2).trans rfl
        have hfz31_0 := blk_frozen BK232.out 0
        have hfz31_1 := blk_frozen BK232.out 1
        have hfz31_2 := blk_frozen BK232.out 2
        go_wp2_with (first | ((with_reducible refine gate_callee (f := 17) rfl ?_); refine goesL_ (some 23) rfl rfl Try.func17 (by kernel_rfl) rfl #[.agg #[.string a0_0, .int .u64 a0_1, .int .i64 a0_2], .agg #[.string a0_0, .int .u64 a0_1, .int .i64 a0_2]] rfl (by (try simp only [List.map_toArray, List.map_cons, List.map_nil]); first | done | rfl | (simp only [List.length_drop, List.length_take]; rfl)) ?_; (with_reducible refine (ikey_Compare.calls a0_0 a0_1 a0_2 a0_0 a0_1 a0_2 t239 _ A25.out).mono ?_); rintro e w32 ⟨rfl, hb⟩; refine ⟨_, rfl, ?_⟩; have n0_ := Aside0.mk (blk_below (g := gb232) (o := .cells #[.string a0_0, .int .u64 a0_1, .int .i64 a0_2] 25 (0, 0)) (by (with_reducible repeat (first | refine blk_drewN ?_ _ | refine blk_drew ?_ | refine blk_alloc ?_ _)); exact BK232.out) hb); have n1_ := Aside0.mk (blk_below (g := gb233) (o := .cells #[.string a1_0, .int .u64 a1_1, .int .i64 a1_2] 25 (0, 0)) (by (with_reducible repeat (first | refine blk_drewN ?_ _ | refine blk_drew ?_ | refine blk_alloc ?_ _)); exact BK233.out) hb); have n2_ := Aside0.mk (blk_below (g := gb234) (o := .cells #[.string a2_0, .int .u64 a2_1, .int .i64 a2_2] 25 (0, 0)) (by (with_reducible repeat (first | refine blk_drewN ?_ _ | refine blk_drew ?_ | refine blk_alloc ?_ _)); exact BK234.out) hb); have n3_ := Aside0.mk (below_step (by repeat (first | (with_reducible first | exact HB.out | apply below_alloc | apply pw_below_drewN | apply below_drew1 | refine below_set ?_ GE232.out | refine below_set ?_ GE233.out | refine below_set ?_ GE234.out) | exact HB.out)) hb); clear BK232; clear BK233; clear BK234; clear HB; have BK232 := n0_; have BK233 := n1_; have BK234 := n2_; have HB := n3_; clear n0_ n1_ n2_ n3_; (try clear hb); (try clear hb2); (try clear hk); (try clear hi); have hnb33 := NB233_234.out; have hnc33 := NB234_233.out; have hcz34_0 : w32.cell? ⟨gb233, 0, none⟩ = some (.string a1_0) := (blk_cell BK233.out 0).trans rfl; have hcz34_1 : w32.cell? ⟨gb233, 1, none⟩ = some (.int .u64 a1_1) := (blk_cell BK233.out 1).trans rfl; have hcz34_2 : w32.cell? ⟨gb233, 2, none⟩ = some (.int .i64 a1_2) := (blk_cell BK233.out 2).trans rfl; have hfz34_0 := blk_frozen BK233.out 0; have hfz34_1 := blk_frozen BK233.out 1; have hfz34_2 := blk_frozen BK233.out 2; have hcz35_0 : w32.cell? ⟨gb232, 0, none⟩ = some (.string a0_0) := (blk_cell BK232.out 0).trans rfl; have hcz35_1 : w32.cell? ⟨gb232, 1, none⟩ = some (.int .u64 a0_1) := (blk_cell BK232.out 1).trans rfl; have hcz35_2 : w32.cell? ⟨gb232, 2, none⟩ = some (.int .i64 a0_2) := (blk_cell BK232.out 2).trans rfl; have hfz35_0 := blk_frozen BK232.out 0; have hfz35_1 := blk_frozen BK232.out 1; have hfz35_2 := blk_frozen BK232.out 2) | (go_at_call 17; (with_reducible refine (ikey_Compare.calls a1_0 a1_1 a1_2 a0_0 a0_1 a0_2 t240 _ A27.out).mono ?_); rintro e w36 ⟨rfl, hb⟩; have n0_ := Aside0.mk (blk_below (g := gb232) (o := .cells #[.string a0_0, .int .u64 a0_1, .int .i64 a0_2] 25 (0, 0)) (by (with_reducible repeat (first | refine blk_drewN ?_ _ | refine blk_drew ?_ | refine blk_alloc ?_ _)); exact BK232.out) hb); have n1_ := Aside0.mk (blk_below (g := gb233) (o := .cells #[.string a1_0, .int .u64 a1_1, .int .i64 a1_2] 25 (0, 0)) (by (with_reducible repeat (first | refine blk_drewN ?_ _ | refine blk_drew ?_ | refine blk_alloc ?_ _)); exact BK233.out) hb); have n2_ := Aside0.mk (blk_below (g := gb234) (o := .cells #[.string a2_0, .int .u64 a2_1, .int .i64 a2_2] 25 (0, 0)) (by (with_reducible repeat (first | refine blk_drewN ?_ _ | refine blk_drew ?_ | refine blk_alloc ?_ _)); exact BK234.out) hb); have n3_ := Aside0.mk (below_step (by repeat (first | (with_reducible first | exact HB.out | apply below_alloc | apply pw_below_drewN | apply below_drew1 | refine below_set ?_ GE232.out | refine below_set ?_ GE233.out | refine below_set ?_ GE234.out) | exact HB.out)) hb); clear BK232; clear BK233; clear BK234; clear HB; have BK232 := n0_; have BK233 := n1_; have BK234 := n2_; have HB := n3_; clear n0_ n1_ n2_ n3_; (try clear hb); (try clear hb2); (try clear hk); (try clear hi); have hcz37_0 : w36.cell? ⟨gb232, 0, none⟩ = some (.string a0_0) := (blk_cell BK232.out 0).trans rfl; have hcz37_1 : w36.cell? ⟨gb232, 1, none⟩ = some (.int .u64 a0_1) := (blk_cell BK232.out 1).trans rfl; have hcz37_2 : w36.cell? ⟨gb232, 2, none⟩ = some (.int .i64 a0_2) := (blk_cell BK232.out 2).trans rfl; have hfz37_0 := blk_frozen BK232.out 0; have hfz37_1 := blk_frozen BK232.out 1; have hfz37_2 := blk_frozen BK232.out 2; have hcz38_0 : w36.cell? ⟨gb233, 0, none⟩ = some (.string a1_0) := (blk_cell BK233.out 0).trans rfl; have hcz38_1 : w36.cell? ⟨gb233, 1, none⟩ = some (.int .u64 a1_1) := (blk_cell BK233.out 1).trans rfl; have hcz38_2 : w36.cell? ⟨gb233, 2, none⟩ = some (.int .i64 a1_2) := (blk_cell BK233.out 2).trans rfl; have hfz38_0 := blk_frozen BK233.out 0; have hfz38_1 := blk_frozen BK233.out 1; have hfz38_2 := blk_frozen BK233.out 2))
        go_meet
        case rel => exact ⟨_, (((t236 == 0) != (a0_0.toList == a1_0.toList && (a0_1 == a1_1 && (a0_2 == a1_2))))), (by first | rfl | (simp; done) | (simp [*]; done) | (simp; omega)), H', ⟨by first | omega | exact Nat.le_refl _⟩, ⟨by (with_reducible repeat (first | refine blk_drewN ?_ _ | refine blk_drew ?_ | refine blk_alloc ?_ _)); exact BK232.out⟩, ⟨by (with_reducible repeat (first | refine blk_drewN ?_ _ | refine blk_drew ?_ | refine blk_alloc ?_ _)); exact BK233.out⟩, ⟨by (with_reducible repeat (first | refine blk_drewN ?_ _ | refine blk_drew ?_ | refine blk_alloc ?_ _)); exact BK234.out⟩, ⟨by repeat (first | (with_reducible first | exact HB.out | apply below_alloc | apply pw_below_drewN | apply below_drew1 | refine below_set ?_ GE232.out | refine below_set ?_ GE233.out | refine below_set ?_ GE234.out) | exact HB.out)⟩⟩
      · rw [if_neg c28] at H
        have c28b0 : (t240 == (wrap64 (-t236))) = false := beq_eq_false_iff_ne.mpr c28
        have c28b1 : (t240 != (wrap64 (-t236))) = true := bne_iff_ne.mpr c28
        have H' := Aside0.mk H
        clear H
        have hnb39 := NB232_233.out
        have hnc39 := NB233_232.out
        have hnb40 := NB232_234.out
        have hnc40 := NB234_232.out
        have hcz41_0 : w24.cell? ⟨gb232, 0, none⟩ = some (.string a0_0) := (blk_cell BK232.out 0).trans rfl
        have hcz41_1 : w24.cell? ⟨gb232, 1, none⟩ = some (.int .u64 a0_1) := (blk_cell BK232.out 1).trans rfl
        have hcz41_2 : w24.cell? ⟨gb232, 2, none⟩ = some (.int .i64 a0_2) := (blk_cell BK232.out 2).trans rfl
        have hfz41_0 := blk_frozen BK232.out 0
        have hfz41_1 := blk_frozen BK232.out 1
        have hfz41_2 := blk_frozen BK232.out 2
        go_wp2_with (first | ((with_reducible refine gate_callee (f := 17) rfl ?_); refine goesL_ (some 23) rfl rfl Try.func17 (by kernel_rfl) rfl #[.agg #[.string a0_0, .int .u64 a0_1, .int .i64 a0_2], .agg #[.string a0_0, .int .u64 a0_1, .int .i64 a0_2]] rfl (by (try simp only [List.map_toArray, List.map_cons, List.map_nil]); first | done | rfl | (simp only [List.length_drop, List.length_take]; rfl)) ?_; (with_reducible refine (ikey_Compare.calls a0_0 a0_1 a0_2 a0_0 a0_1 a0_2 t239 _ A25.out).mono ?_); rintro e w42 ⟨rfl, hb⟩; refine ⟨_, rfl, ?_⟩; have n0_ := Aside0.mk (blk_below (g := gb232) (o := .cells #[.string a0_0, .int .u64 a0_1, .int .i64 a0_2] 25 (0, 0)) (by (with_reducible repeat (first | refine blk_drewN ?_ _ | refine blk_drew ?_ | refine blk_alloc ?_ _)); exact BK232.out) hb); have n1_ := Aside0.mk (blk_below (g := gb233) (o := .cells #[.string a1_0, .int .u64 a1_1, .int .i64 a1_2] 25 (0, 0)) (by (with_reducible repeat (first | refine blk_drewN ?_ _ | refine blk_drew ?_ | refine blk_alloc ?_ _)); exact BK233.out) hb); have n2_ := Aside0.mk (blk_below (g := gb234) (o := .cells #[.string a2_0, .int .u64 a2_1, .int .i64 a2_2] 25 (0, 0)) (by (with_reducible repeat (first | refine blk_drewN ?_ _ | refine blk_drew ?_ | refine blk_alloc ?_ _)); exact BK234.out) hb); have n3_ := Aside0.mk (below_step (by repeat (first | (with_reducible first | exact HB.out | apply below_alloc | apply pw_below_drewN | apply below_drew1 | refine below_set ?_ GE232.out | refine below_set ?_ GE233.out | refine below_set ?_ GE234.out) | exact HB.out)) hb); clear BK232; clear BK233; clear BK234; clear HB; have BK232 := n0_; have BK233 := n1_; have BK234 := n2_; have HB := n3_; clear n0_ n1_ n2_ n3_; (try clear hb); (try clear hb2); (try clear hk); (try clear hi); have hnb43 := NB233_234.out; have hnc43 := NB234_233.out; have hcz44_0 : w42.cell? ⟨gb233, 0, none⟩ = some (.string a1_0) := (blk_cell BK233.out 0).trans rfl; have hcz44_1 : w42.cell? ⟨gb233, 1, none⟩ = some (.int .u64 a1_1) := (blk_cell BK233.out 1).trans rfl; have hcz44_2 : w42.cell? ⟨gb233, 2, none⟩ = some (.int .i64 a1_2) := (blk_cell BK233.out 2).trans rfl; have hfz44_0 := blk_frozen BK233.out 0; have hfz44_1 := blk_frozen BK233.out 1; have hfz44_2 := blk_frozen BK233.out 2; have hcz45_0 : w42.cell? ⟨gb232, 0, none⟩ = some (.string a0_0) := (blk_cell BK232.out 0).trans rfl; have hcz45_1 : w42.cell? ⟨gb232, 1, none⟩ = some (.int .u64 a0_1) := (blk_cell BK232.out 1).trans rfl; have hcz45_2 : w42.cell? ⟨gb232, 2, none⟩ = some (.int .i64 a0_2) := (blk_cell BK232.out 2).trans rfl; have hfz45_0 := blk_frozen BK232.out 0; have hfz45_1 := blk_frozen BK232.out 1; have hfz45_2 := blk_frozen BK232.out 2) | (go_at_call 17; (with_reducible refine (ikey_Compare.calls a1_0 a1_1 a1_2 a0_0 a0_1 a0_2 t240 _ A27.out).mono ?_); rintro e w46 ⟨rfl, hb⟩; have n0_ := Aside0.mk (blk_below (g := gb232) (o := .cells #[.string a0_0, .int .u64 a0_1, .int .i64 a0_2] 25 (0, 0)) (by (with_reducible repeat (first | refine blk_drewN ?_ _ | refine blk_drew ?_ | refine blk_alloc ?_ _)); exact BK232.out) hb); have n1_ := Aside0.mk (blk_below (g := gb233) (o := .cells #[.string a1_0, .int .u64 a1_1, .int .i64 a1_2] 25 (0, 0)) (by (with_reducible repeat (first | refine blk_drewN ?_ _ | refine blk_drew ?_ | refine blk_alloc ?_ _)); exact BK233.out) hb); have n2_ := Aside0.mk (blk_below (g := gb234) (o := .cells #[.string a2_0, .int .u64 a2_1, .int .i64 a2_2] 25 (0, 0)) (by (with_reducible repeat (first | refine blk_drewN ?_ _ | refine blk_drew ?_ | refine blk_alloc ?_ _)); exact BK234.out) hb); have n3_ := Aside0.mk (below_step (by repeat (first | (with_reducible first | exact HB.out | apply below_alloc | apply pw_below_drewN | apply below_drew1 | refine below_set ?_ GE232.out | refine below_set ?_ GE233.out | refine below_set ?_ GE234.out) | exact HB.out)) hb); clear BK232; clear BK233; clear BK234; clear HB; have BK232 := n0_; have BK233 := n1_; have BK234 := n2_; have HB := n3_; clear n0_ n1_ n2_ n3_; (try clear hb); (try clear hb2); (try clear hk); (try clear hi)))
        go_meet
        case rel => exact ⟨_, (true), (by first | rfl | (simp; done) | (simp [*]; done) | (simp; omega)), H', ⟨by first | omega | exact Nat.le_refl _⟩, ⟨by (with_reducible repeat (first | refine blk_drewN ?_ _ | refine blk_drew ?_ | refine blk_alloc ?_ _)); exact BK232.out⟩, ⟨by (with_reducible repeat (first | refine blk_drewN ?_ _ | refine blk_drew ?_ | refine blk_alloc ?_ _)); exact BK233.out⟩, ⟨by (with_reducible repeat (first | refine blk_drewN ?_ _ | refine blk_drew ?_ | refine blk_alloc ?_ _)); exact BK234.out⟩, ⟨by repeat (first | (with_reducible first | exact HB.out | apply below_alloc | apply pw_below_drewN | apply below_drew1 | refine below_set ?_ GE232.out | refine below_set ?_ GE233.out | refine below_set ?_ GE234.out) | exact HB.out)⟩⟩
    · rw [if_neg c26] at H
      have c26b0 : (t239 == 0) = false := beq_eq_false_iff_ne.mpr c26
      have c26b1 : (t239 != 0) = true := bne_iff_ne.mpr c26
      (first | rw [c26b0] | (simp only [i64_w, i32_w]; rw [c26b0]) | skip)
      have H' := Aside0.mk H
      clear H
      have hnb47 := NB232_233.out
      have hnc47 := NB233_232.out
      have hnb48 := NB232_234.out
      have hnc48 := NB234_232.out
      have hcz49_0 : w24.cell? ⟨gb232, 0, none⟩ = some (.string a0_0) := (blk_cell BK232.out 0).trans rfl
      have hcz49_1 : w24.cell? ⟨gb232, 1, none⟩ = some (.int .u64 a0_1) := (blk_cell BK232.out 1).trans rfl
      have hcz49_2 : w24.cell? ⟨gb232, 2, none⟩ = some (.int .i64 a0_2) := (blk_cell BK232.out 2).trans rfl
      have hfz49_0 := blk_frozen BK232.out 0
      have hfz49_1 := blk_frozen BK232.out 1
      have hfz49_2 := blk_frozen BK232.out 2
      go_wp2_with (first | ((with_reducible refine gate_callee (f := 17) rfl ?_); refine goesL_ (some 23) rfl rfl Try.func17 (by kernel_rfl) rfl #[.agg #[.string a0_0, .int .u64 a0_1, .int .i64 a0_2], .agg #[.string a0_0, .int .u64 a0_1, .int .i64 a0_2]] rfl (by (try simp only [List.map_toArray, List.map_cons, List.map_nil]); first | done | rfl | (simp only [List.length_drop, List.length_take]; rfl)) ?_; (with_reducible refine (ikey_Compare.calls a0_0 a0_1 a0_2 a0_0 a0_1 a0_2 t239 _ A25.out).mono ?_); rintro e w50 ⟨rfl, hb⟩; refine ⟨_, rfl, ?_⟩; have n0_ := Aside0.mk (blk_below (g := gb232) (o := .cells #[.string a0_0, .int .u64 a0_1, .int .i64 a0_2] 25 (0, 0)) (by (with_reducible repeat (first | refine blk_drewN ?_ _ | refine blk_drew ?_ | refine blk_alloc ?_ _)); exact BK232.out) hb); have n1_ := Aside0.mk (blk_below (g := gb233) (o := .cells #[.string a1_0, .int .u64 a1_1, .int .i64 a1_2] 25 (0, 0)) (by (with_reducible repeat (first | refine blk_drewN ?_ _ | refine blk_drew ?_ | refine blk_alloc ?_ _)); exact BK233.out) hb); have n2_ := Aside0.mk (blk_below (g := gb234) (o := .cells #[.string a2_0, .int .u64 a2_1, .int .i64 a2_2] 25 (0, 0)) (by (with_reducible repeat (first | refine blk_drewN ?_ _ | refine blk_drew ?_ | refine blk_alloc ?_ _)); exact BK234.out) hb); have n3_ := Aside0.mk (below_step (by repeat (first | (with_reducible first | exact HB.out | apply below_alloc | apply pw_below_drewN | apply below_drew1 | refine below_set ?_ GE232.out | refine below_set ?_ GE233.out | refine below_set ?_ GE234.out) | exact HB.out)) hb); clear BK232; clear BK233; clear BK234; clear HB; have BK232 := n0_; have BK233 := n1_; have BK234 := n2_; have HB := n3_; clear n0_ n1_ n2_ n3_; (try clear hb); (try clear hb2); (try clear hk); (try clear hi)))
      go_meet
      case rel => exact ⟨_, (true), (by first | rfl | (simp; done) | (simp [*]; done) | (simp; omega)), H', ⟨by first | omega | exact Nat.le_refl _⟩, ⟨by (with_reducible repeat (first | refine blk_drewN ?_ _ | refine blk_drew ?_ | refine blk_alloc ?_ _)); exact BK232.out⟩, ⟨by (with_reducible repeat (first | refine blk_drewN ?_ _ | refine blk_drew ?_ | refine blk_alloc ?_ _)); exact BK233.out⟩, ⟨by (with_reducible repeat (first | refine blk_drewN ?_ _ | refine blk_drew ?_ | refine blk_alloc ?_ _)); exact BK234.out⟩, ⟨by repeat (first | (with_reducible first | exact HB.out | apply below_alloc | apply pw_below_drewN | apply below_drew1 | refine below_set ?_ GE232.out | refine below_set ?_ GE233.out | refine below_set ?_ GE234.out) | exact HB.out)⟩⟩
  case rest =>
    clear HC8
    try clear c1
    try clear c2
    try clear p2
    try clear c3
    try clear c4
    try clear p6
    try clear c7
    try clear c10
    try clear c13
    try clear c14
    try clear c16
    try clear c17
    try clear c26
    try clear c26b0
    try clear c26b1
    try clear c28
    try clear c28b0
    try clear c28b1
    try clear c29
    try clear c30
    try clear c33
    try clear c39
    try clear c40
    try clear c43
    try clear c47
    try clear c48
    try clear hcz15_0
    try clear hcz15_1
    try clear hcz15_2
    try clear hcz17_0
    try clear hcz17_1
    try clear hcz17_2
    try clear hcz19_0
    try clear hcz19_1
    try clear hcz19_2
    try clear hcz20_0
    try clear hcz20_1
    try clear hcz20_2
    try clear hcz22_0
    try clear hcz22_1
    try clear hcz22_2
    try clear hcz23_0
    try clear hcz23_1
    try clear hcz23_2
    try clear hcz31_0
    try clear hcz31_1
    try clear hcz31_2
    try clear hcz34_0
    try clear hcz34_1
    try clear hcz34_2
    try clear hcz35_0
    try clear hcz35_1
    try clear hcz35_2
    try clear hcz37_0
    try clear hcz37_1
    try clear hcz37_2
    try clear hcz38_0
    try clear hcz38_1
    try clear hcz38_2
    try clear hcz41_0
    try clear hcz41_1
    try clear hcz41_2
    try clear hcz44_0
    try clear hcz44_1
    try clear hcz44_2
    try clear hcz45_0
    try clear hcz45_1
    try clear hcz45_2
    try clear hcz49_0
    try clear hcz49_1
    try clear hcz49_2
    try clear hfz15_0
    try clear hfz15_1
    try clear hfz15_2
    try clear hfz17_0
    try clear hfz17_1
    try clear hfz17_2
    try clear hfz19_0
    try clear hfz19_1
    try clear hfz19_2
    try clear hfz20_0
    try clear hfz20_1
    try clear hfz20_2
    try clear hfz22_0
    try clear hfz22_1
    try clear hfz22_2
    try clear hfz23_0
    try clear hfz23_1
    try clear hfz23_2
    try clear hfz31_0
    try clear hfz31_1
    try clear hfz31_2
    try clear hfz34_0
    try clear hfz34_1
    try clear hfz34_2
    try clear hfz35_0
    try clear hfz35_1
    try clear hfz35_2
    try clear hfz37_0
    try clear hfz37_1
    try clear hfz37_2
    try clear hfz38_0
    try clear hfz38_1
    try clear hfz38_2
    try clear hfz41_0
    try clear hfz41_1
    try clear hfz41_2
    try clear hfz44_0
    try clear hfz44_1
    try clear hfz44_2
    try clear hfz45_0
    try clear hfz45_1
    try clear hfz45_2
    try clear hfz49_0
    try clear hfz49_1
    try clear hfz49_2
    obtain ⟨kq, x40_7, rfl, HA, HJ7, BK232, BK233, BK234, HB⟩ := hcut
    cases kq with
    | zero => exact absurd HA.out (by simp [staddlelaw02_IkeyLines.j0])
    | succ kj7 =>
      have H := HA.out
      clear HA
      simp only [staddlelaw02_IkeyLines.j0] at H
      by_cases c51 : x40_7 = true
      · subst c51
        have H1 : (some false) = some r := by rw [if_pos rfl] at H; exact H
        clear H
        have H := H1
        clear H1
        obtain rfl := Option.some.inj H
        go_wp2
        go_ret
        exact ⟨by first | rfl | (simp [errW_none, errW_some] <;> rfl) | (simp [*, errW_none, errW_some] <;> rfl), by repeat (first | (with_reducible first | exact HB.out | apply below_alloc | apply pw_below_drewN | apply below_drew1 | refine below_set ?_ GE232.out | refine below_set ?_ GE233.out | refine below_set ?_ GE234.out) | exact HB.out)⟩
      · replace c51 := Bool.eq_false_iff.mpr c51
        subst c51
        have H1 : (if t236 ≤ 0 then (if t237 ≤ 0 then (if t238 > 0 then (some false) else (if t237 < 0 then (if t238 ≥ 0 then (some false) else (if t235 = true then (if t236 ≥ (-1) then (some (decide (t236 ≤ 1))) else (some false)) else (some false))) else (if t235 = true then (if t236 ≥ (-1) then (some (decide (t236 ≤ 1))) else (some false)) else (some false)))) else (if t237 < 0 then (if t238 ≥ 0 then (some false) else (if t235 = true then (if t236 ≥ (-1) then (some (decide (t236 ≤ 1))) else (some false)) else (some false))) else (if t235 = true then (if t236 ≥ (-1) then (some (decide (t236 ≤ 1))) else (some false)) else (some false)))) else (if t235 = true then (if t236 ≥ (-1) then (some (decide (t236 ≤ 1))) else (some false)) else (some false))) = some r := by rw [if_neg (show ¬ (false = true) by decide)] at H; exact H
        clear H
        have H := H1
        clear H1
        by_cases c52 : t236 ≤ 0
        · rw [if_pos c52] at H
          have c52b0 : decide (t236 ≤ 0) = true := decide_eq_true c52
          clear c52
          by_cases c53 : t237 ≤ 0
          · rw [if_pos c53] at H
            have c53b0 : decide (t237 ≤ 0) = true := decide_eq_true c53
            clear c53
            by_cases c54 : t238 > 0
            · rw [if_pos c54] at H
              have c54b0 : decide (0 < t238) = true := decide_eq_true c54
              clear c54
              obtain rfl := Option.some.inj H
              go_wp2
              go_ret
              exact ⟨by first | rfl | (simp [errW_none, errW_some] <;> rfl) | (simp [*, errW_none, errW_some] <;> rfl), by repeat (first | (with_reducible first | exact HB.out | apply below_alloc | apply pw_below_drewN | apply below_drew1 | refine below_set ?_ GE232.out | refine below_set ?_ GE233.out | refine below_set ?_ GE234.out) | exact HB.out)⟩
            · rw [if_neg c54] at H
              have c54b0 : decide (0 < t238) = false := decide_eq_false c54
              clear c54
              by_cases c55 : t237 < 0
              · rw [if_pos c55] at H
                have c55b0 : decide (t237 < 0) = true := decide_eq_true c55
                clear c55
                by_cases c56 : t238 ≥ 0
                · rw [if_pos c56] at H
                  have c56b0 : decide (0 ≤ t238) = true := decide_eq_true c56
                  clear c56
                  obtain rfl := Option.some.inj H
                  go_wp2
                  go_ret
                  exact ⟨by first | rfl | (simp [errW_none, errW_some] <;> rfl) | (simp [*, errW_none, errW_some] <;> rfl), by repeat (first | (with_reducible first | exact HB.out | apply below_alloc | apply pw_below_drewN | apply below_drew1 | refine below_set ?_ GE232.out | refine below_set ?_ GE233.out | refine below_set ?_ GE234.out) | exact HB.out)⟩
                · rw [if_neg c56] at H
                  have c56b0 : decide (0 ≤ t238) = false := decide_eq_false c56
                  clear c56
                  by_cases c57 : t235 = true
                  · subst c57
                    have H1 : (if t236 ≥ (-1) then (some (decide (t236 ≤ 1))) else (some false)) = some r := by rw [if_pos rfl] at H; exact H
                    clear H
                    have H := H1
                    clear H1
                    by_cases c58 : t236 ≥ (-1)
                    · rw [if_pos c58] at H
                      have c58b0 : decide ((-1) ≤ t236) = true := decide_eq_true c58
                      clear c58
                      obtain rfl := Option.some.inj H
                      go_wp2
                      go_ret
                      exact ⟨by first | rfl | (simp [errW_none, errW_some] <;> rfl) | (simp [*, errW_none, errW_some] <;> rfl), by repeat (first | (with_reducible first | exact HB.out | apply below_alloc | apply pw_below_drewN | apply below_drew1 | refine below_set ?_ GE232.out | refine below_set ?_ GE233.out | refine below_set ?_ GE234.out) | exact HB.out)⟩
                    · rw [if_neg c58] at H
                      have c58b0 : decide ((-1) ≤ t236) = false := decide_eq_false c58
                      clear c58
                      obtain rfl := Option.some.inj H
                      go_wp2
                      go_ret
                      exact ⟨by first | rfl | (simp [errW_none, errW_some] <;> rfl) | (simp [*, errW_none, errW_some] <;> rfl), by repeat (first | (with_reducible first | exact HB.out | apply below_alloc | apply pw_below_drewN | apply below_drew1 | refine below_set ?_ GE232.out | refine below_set ?_ GE233.out | refine below_set ?_ GE234.out) | exact HB.out)⟩
                  · replace c57 := Bool.eq_false_iff.mpr c57
                    subst c57
                    have H1 : (some false) = some r := by rw [if_neg (show ¬ (false = true) by decide)] at H; exact H
                    clear H
                    have H := H1
                    clear H1
                    obtain rfl := Option.some.inj H
                    go_wp2
                    go_ret
                    exact ⟨by first | rfl | (simp [errW_none, errW_some] <;> rfl) | (simp [*, errW_none, errW_some] <;> rfl), by repeat (first | (with_reducible first | exact HB.out | apply below_alloc | apply pw_below_drewN | apply below_drew1 | refine below_set ?_ GE232.out | refine below_set ?_ GE233.out | refine below_set ?_ GE234.out) | exact HB.out)⟩
              · rw [if_neg c55] at H
                have c55b0 : decide (t237 < 0) = false := decide_eq_false c55
                clear c55
                by_cases c59 : t235 = true
                · subst c59
                  have H1 : (if t236 ≥ (-1) then (some (decide (t236 ≤ 1))) else (some false)) = some r := by rw [if_pos rfl] at H; exact H
                  clear H
                  have H := H1
                  clear H1
                  by_cases c60 : t236 ≥ (-1)
                  · rw [if_pos c60] at H
                    have c60b0 : decide ((-1) ≤ t236) = true := decide_eq_true c60
                    clear c60
                    obtain rfl := Option.some.inj H
                    go_wp2
                    go_ret
                    exact ⟨by first | rfl | (simp [errW_none, errW_some] <;> rfl) | (simp [*, errW_none, errW_some] <;> rfl), by repeat (first | (with_reducible first | exact HB.out | apply below_alloc | apply pw_below_drewN | apply below_drew1 | refine below_set ?_ GE232.out | refine below_set ?_ GE233.out | refine below_set ?_ GE234.out) | exact HB.out)⟩
                  · rw [if_neg c60] at H
                    have c60b0 : decide ((-1) ≤ t236) = false := decide_eq_false c60
                    clear c60
                    obtain rfl := Option.some.inj H
                    go_wp2
                    go_ret
                    exact ⟨by first | rfl | (simp [errW_none, errW_some] <;> rfl) | (simp [*, errW_none, errW_some] <;> rfl), by repeat (first | (with_reducible first | exact HB.out | apply below_alloc | apply pw_below_drewN | apply below_drew1 | refine below_set ?_ GE232.out | refine below_set ?_ GE233.out | refine below_set ?_ GE234.out) | exact HB.out)⟩
                · replace c59 := Bool.eq_false_iff.mpr c59
                  subst c59
                  have H1 : (some false) = some r := by rw [if_neg (show ¬ (false = true) by decide)] at H; exact H
                  clear H
                  have H := H1
                  clear H1
                  obtain rfl := Option.some.inj H
                  go_wp2
                  go_ret
                  exact ⟨by first | rfl | (simp [errW_none, errW_some] <;> rfl) | (simp [*, errW_none, errW_some] <;> rfl), by repeat (first | (with_reducible first | exact HB.out | apply below_alloc | apply pw_below_drewN | apply below_drew1 | refine below_set ?_ GE232.out | refine below_set ?_ GE233.out | refine below_set ?_ GE234.out) | exact HB.out)⟩
          · rw [if_neg c53] at H
            have c53b0 : decide (t237 ≤ 0) = false := decide_eq_false c53
            clear c53
            by_cases c61 : t237 < 0
            · rw [if_pos c61] at H
              have c61b0 : decide (t237 < 0) = true := decide_eq_true c61
              clear c61
              by_cases c62 : t238 ≥ 0
              · rw [if_pos c62] at H
                have c62b0 : decide (0 ≤ t238) = true := decide_eq_true c62
                clear c62
                obtain rfl := Option.some.inj H
                go_wp2
                go_ret
                exact ⟨by first | rfl | (simp [errW_none, errW_some] <;> rfl) | (simp [*, errW_none, errW_some] <;> rfl), by repeat (first | (with_reducible first | exact HB.out | apply below_alloc | apply pw_below_drewN | apply below_drew1 | refine below_set ?_ GE232.out | refine below_set ?_ GE233.out | refine below_set ?_ GE234.out) | exact HB.out)⟩
              · rw [if_neg c62] at H
                have c62b0 : decide (0 ≤ t238) = false := decide_eq_false c62
                clear c62
                by_cases c63 : t235 = true
                · subst c63
                  have H1 : (if t236 ≥ (-1) then (some (decide (t236 ≤ 1))) else (some false)) = some r := by rw [if_pos rfl] at H; exact H
                  clear H
                  have H := H1
                  clear H1
                  by_cases c64 : t236 ≥ (-1)
                  · rw [if_pos c64] at H
                    have c64b0 : decide ((-1) ≤ t236) = true := decide_eq_true c64
                    clear c64
                    obtain rfl := Option.some.inj H
                    go_wp2
                    go_ret
                    exact ⟨by first | rfl | (simp [errW_none, errW_some] <;> rfl) | (simp [*, errW_none, errW_some] <;> rfl), by repeat (first | (with_reducible first | exact HB.out | apply below_alloc | apply pw_below_drewN | apply below_drew1 | refine below_set ?_ GE232.out | refine below_set ?_ GE233.out | refine below_set ?_ GE234.out) | exact HB.out)⟩
                  · rw [if_neg c64] at H
                    have c64b0 : decide ((-1) ≤ t236) = false := decide_eq_false c64
                    clear c64
                    obtain rfl := Option.some.inj H
                    go_wp2
                    go_ret
                    exact ⟨by first | rfl | (simp [errW_none, errW_some] <;> rfl) | (simp [*, errW_none, errW_some] <;> rfl), by repeat (first | (with_reducible first | exact HB.out | apply below_alloc | apply pw_below_drewN | apply below_drew1 | refine below_set ?_ GE232.out | refine below_set ?_ GE233.out | refine below_set ?_ GE234.out) | exact HB.out)⟩
                · replace c63 := Bool.eq_false_iff.mpr c63
                  subst c63
                  have H1 : (some false) = some r := by rw [if_neg (show ¬ (false = true) by decide)] at H; exact H
                  clear H
                  have H := H1
                  clear H1
                  obtain rfl := Option.some.inj H
                  go_wp2
                  go_ret
                  exact ⟨by first | rfl | (simp [errW_none, errW_some] <;> rfl) | (simp [*, errW_none, errW_some] <;> rfl), by repeat (first | (with_reducible first | exact HB.out | apply below_alloc | apply pw_below_drewN | apply below_drew1 | refine below_set ?_ GE232.out | refine below_set ?_ GE233.out | refine below_set ?_ GE234.out) | exact HB.out)⟩
            · rw [if_neg c61] at H
              have c61b0 : decide (t237 < 0) = false := decide_eq_false c61
              clear c61
              by_cases c65 : t235 = true
              · subst c65
                have H1 : (if t236 ≥ (-1) then (some (decide (t236 ≤ 1))) else (some false)) = some r := by rw [if_pos rfl] at H; exact H
                clear H
                have H := H1
                clear H1
                by_cases c66 : t236 ≥ (-1)
                · rw [if_pos c66] at H
                  have c66b0 : decide ((-1) ≤ t236) = true := decide_eq_true c66
                  clear c66
                  obtain rfl := Option.some.inj H
                  go_wp2
                  go_ret
                  exact ⟨by first | rfl | (simp [errW_none, errW_some] <;> rfl) | (simp [*, errW_none, errW_some] <;> rfl), by repeat (first | (with_reducible first | exact HB.out | apply below_alloc | apply pw_below_drewN | apply below_drew1 | refine below_set ?_ GE232.out | refine below_set ?_ GE233.out | refine below_set ?_ GE234.out) | exact HB.out)⟩
                · rw [if_neg c66] at H
                  have c66b0 : decide ((-1) ≤ t236) = false := decide_eq_false c66
                  clear c66
                  obtain rfl := Option.some.inj H
                  go_wp2
                  go_ret
                  exact ⟨by first | rfl | (simp [errW_none, errW_some] <;> rfl) | (simp [*, errW_none, errW_some] <;> rfl), by repeat (first | (with_reducible first | exact HB.out | apply below_alloc | apply pw_below_drewN | apply below_drew1 | refine below_set ?_ GE232.out | refine below_set ?_ GE233.out | refine below_set ?_ GE234.out) | exact HB.out)⟩
              · replace c65 := Bool.eq_false_iff.mpr c65
                subst c65
                have H1 : (some false) = some r := by rw [if_neg (show ¬ (false = true) by decide)] at H; exact H
                clear H
                have H := H1
                clear H1
                obtain rfl := Option.some.inj H
                go_wp2
                go_ret
                exact ⟨by first | rfl | (simp [errW_none, errW_some] <;> rfl) | (simp [*, errW_none, errW_some] <;> rfl), by repeat (first | (with_reducible first | exact HB.out | apply below_alloc | apply pw_below_drewN | apply below_drew1 | refine below_set ?_ GE232.out | refine below_set ?_ GE233.out | refine below_set ?_ GE234.out) | exact HB.out)⟩
        · rw [if_neg c52] at H
          have c52b0 : decide (t236 ≤ 0) = false := decide_eq_false c52
          clear c52
          by_cases c67 : t235 = true
          · subst c67
            have H1 : (if t236 ≥ (-1) then (some (decide (t236 ≤ 1))) else (some false)) = some r := by rw [if_pos rfl] at H; exact H
            clear H
            have H := H1
            clear H1
            by_cases c68 : t236 ≥ (-1)
            · rw [if_pos c68] at H
              have c68b0 : decide ((-1) ≤ t236) = true := decide_eq_true c68
              clear c68
              obtain rfl := Option.some.inj H
              go_wp2
              go_ret
              exact ⟨by first | rfl | (simp [errW_none, errW_some] <;> rfl) | (simp [*, errW_none, errW_some] <;> rfl), by repeat (first | (with_reducible first | exact HB.out | apply below_alloc | apply pw_below_drewN | apply below_drew1 | refine below_set ?_ GE232.out | refine below_set ?_ GE233.out | refine below_set ?_ GE234.out) | exact HB.out)⟩
            · rw [if_neg c68] at H
              have c68b0 : decide ((-1) ≤ t236) = false := decide_eq_false c68
              clear c68
              obtain rfl := Option.some.inj H
              go_wp2
              go_ret
              exact ⟨by first | rfl | (simp [errW_none, errW_some] <;> rfl) | (simp [*, errW_none, errW_some] <;> rfl), by repeat (first | (with_reducible first | exact HB.out | apply below_alloc | apply pw_below_drewN | apply below_drew1 | refine below_set ?_ GE232.out | refine below_set ?_ GE233.out | refine below_set ?_ GE234.out) | exact HB.out)⟩
          · replace c67 := Bool.eq_false_iff.mpr c67
            subst c67
            have H1 : (some false) = some r := by rw [if_neg (show ¬ (false = true) by decide)] at H; exact H
            clear H
            have H := H1
            clear H1
            obtain rfl := Option.some.inj H
            go_wp2
            go_ret
            exact ⟨by first | rfl | (simp [errW_none, errW_some] <;> rfl) | (simp [*, errW_none, errW_some] <;> rfl), by repeat (first | (with_reducible first | exact HB.out | apply below_alloc | apply pw_below_drewN | apply below_drew1 | refine below_set ?_ GE232.out | refine below_set ?_ GE233.out | refine below_set ?_ GE234.out) | exact HB.out)⟩

end Go.Proofs.Ytlbnibkmjiapaaa.P
