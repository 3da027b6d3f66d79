-- By this session's wip/hprint.py: the kit's print.py with functions by hand beside it. Not trusted: Lean checks it.
import Derived.Test.YtojnhecpjnoipaaP0
namespace Go.Proofs.Ytojnhecpjnoipaa.P
open Go.RowKit Go.Proofs.YtojnhecpjnoipaaW.PrintWords Go.Proofs.YtojnhecpjnoipaaW.PrintLast Go.Proofs.YtojnhecpjnoipaaW.PrintMore
attribute [local go_sem] max2_int min2_int max_two min_two max_three min_three max_four min_four   -- for this text's walks alone
set_option linter.unusedVariables false
set_option linter.unusedSimpArgs false

/-! ### staddleref03_Check: function 14 -/
mutual
def staddleref03_Check.j0 : Nat → List (S39) → Bool → Option (Int)
  | 0, _, _ => none
  | k + 1, x1, x25 => if x25 = true then (some 22) else (staddleref03_Check.l0 k x1 0)
def staddleref03_Check.l0 : Nat → List (S39) → Int → Option (Int)
  | 0, _, _ => none
  | k + 1, x1, x5 => if x5 < (x1.length : Int) then (if 0 ≤ x5 then (if ((rd_T39 x1 x5).f0) = 0 then (staddleref03_Check.j2 k x1 x5 false ((rd_T39 x1 x5).f0) ((rd_T39 x1 x5).f1) ((rd_T39 x1 x5).f2)) else (staddleref03_Check.j2 k x1 x5 (((rd_T39 x1 x5).f0) != 1) ((rd_T39 x1 x5).f0) ((rd_T39 x1 x5).f1) ((rd_T39 x1 x5).f2))) else (none)) else (some 0)
def staddleref03_Check.j2 : Nat → List (S39) → Int → Bool → Int → ByteArray → ByteArray → Option (Int)
  | 0, _, _, _, _, _, _ => none
  | k + 1, x1, x5, x43, x169000, x169001, x169002 => if x43 = true then (some 23) else (if (x169001.size : Int) > 64 then (some 21) else (if (x169002.size : Int) > 1000 then (some 31) else (if x169000 = 0 then (if (x169002.size : Int) > 0 then (some 31) else (staddleref03_Check.l0 k x1 (wrap64 (x5 + 1)))) else (staddleref03_Check.l0 k x1 (wrap64 (x5 + 1))))))
end
def staddleref03_Check.f (k : Nat) (a0 : Int) (l1 : List (S39)) : Option (Int) := if (l1.length : Int) > 64 then (some 30) else (if a0 > 72057594037927935 then (staddleref03_Check.j0 k l1 true) else (if (l1.length : Int) > 0 then (staddleref03_Check.j0 k l1 (decide (a0 > (IntKind.u64.wrap (72057594037927935 - (IntKind.u64.wrap (wrap64 ((l1.length : Int) - 1)))))))) else (staddleref03_Check.j0 k l1 false)))
theorem staddleref03_Check.mono_l : ∀ k, (∀ y0 y1, LeO (staddleref03_Check.j0 k y0 y1) (staddleref03_Check.j0 (k + 1) y0 y1)) ∧ (∀ y0 y1, LeO (staddleref03_Check.l0 k y0 y1) (staddleref03_Check.l0 (k + 1) y0 y1)) ∧ (∀ y0 y1 y2 y3 y4 y5, LeO (staddleref03_Check.j2 k y0 y1 y2 y3 y4 y5) (staddleref03_Check.j2 (k + 1) y0 y1 y2 y3 y4 y5))
  | 0 => ⟨fun _ _ r h => by simp [staddleref03_Check.j0] at h, fun _ _ r h => by simp [staddleref03_Check.l0] at h, fun _ _ _ _ _ _ r h => by simp [staddleref03_Check.j2] at h⟩
  | k + 1 => by
    obtain ⟨ih0, ih1, ih2⟩ := staddleref03_Check.mono_l k
    refine ⟨?_, ?_, ?_⟩
    · intro y0 y1
      unfold staddleref03_Check.j0
      repeat' first
      | (with_reducible exact ih0 _ _)
      | (with_reducible exact ih1 _ _)
      | (with_reducible exact ih2 _ _ _ _ _ _)
      | (with_reducible exact LeO.refl _)
      | (with_reducible exact LeO.none _)
      | (with_reducible refine LeO.ite ?_ ?_)
      | (with_reducible refine LeO.bind ?_ (fun _ => ?_))
      | exact ih0 _ _
      | exact ih1 _ _
      | exact ih2 _ _ _ _ _ _
      | exact LeO.none _
      | refine LeO.ite ?_ ?_
      | refine LeO.bind ?_ (fun _ => ?_)
    · intro y0 y1
      unfold staddleref03_Check.l0
      repeat' first
      | (with_reducible exact ih0 _ _)
      | (with_reducible exact ih1 _ _)
      | (with_reducible exact ih2 _ _ _ _ _ _)
      | (with_reducible exact LeO.refl _)
      | (with_reducible exact LeO.none _)
      | (with_reducible refine LeO.ite ?_ ?_)
      | (with_reducible refine LeO.bind ?_ (fun _ => ?_))
      | exact ih0 _ _
      | exact ih1 _ _
      | exact ih2 _ _ _ _ _ _
      | exact LeO.none _
      | refine LeO.ite ?_ ?_
      | refine LeO.bind ?_ (fun _ => ?_)
    · intro y0 y1 y2 y3 y4 y5
      unfold staddleref03_Check.j2
      repeat' first
      | (with_reducible exact ih0 _ _)
      | (with_reducible exact ih1 _ _)
      | (with_reducible exact ih2 _ _ _ _ _ _)
      | (with_reducible exact LeO.refl _)
      | (with_reducible exact LeO.none _)
      | (with_reducible refine LeO.ite ?_ ?_)
      | (with_reducible refine LeO.bind ?_ (fun _ => ?_))
      | exact ih0 _ _
      | exact ih1 _ _
      | exact ih2 _ _ _ _ _ _
      | exact LeO.none _
      | refine LeO.ite ?_ ?_
      | refine LeO.bind ?_ (fun _ => ?_)
theorem staddleref03_Check.mono : ∀ a0 a1 k, LeO (staddleref03_Check.f k a0 a1) (staddleref03_Check.f (k + 1) a0 a1) := by
  intro a0 a1 k
  obtain ⟨ih0, ih1, ih2⟩ := staddleref03_Check.mono_l k
  unfold staddleref03_Check.f
  repeat' first
      | (with_reducible exact ih0 _ _)
      | (with_reducible exact ih1 _ _)
      | (with_reducible exact ih2 _ _ _ _ _ _)
      | (with_reducible exact LeO.refl _)
      | (with_reducible exact LeO.none _)
      | (with_reducible refine LeO.ite ?_ ?_)
      | (with_reducible refine LeO.bind ?_ (fun _ => ?_))
      | exact ih0 _ _
      | exact ih1 _ _
      | exact ih2 _ _ _ _ _ _
      | exact LeO.none _
      | refine LeO.ite ?_ ?_
      | refine LeO.bind ?_ (fun _ => ?_)
set_option maxHeartbeats 8000000 in
set_option maxRecDepth 100000 in
theorem staddleref03_Check.calls (k : Nat) (a0 : Int) (A1 : Option Addr) (c1 : Nat) (l1 : List (S39)) (r : Int) (w : World) (hr1 : Kd.C k39 w A1 l1.length l1) (hc1 : l1.length ≤ c1) (h : staddleref03_Check.f k a0 l1 = some r) :
    Calls Try.prog 14 #[.int .u64 a0, .slice A1 l1.length c1] w fun e w' => e = .returned (.int .i64 r) ∧ Below w.heap.size w w' := by
  have hu39 := Try.underlying39
  have HR1 := Aside0.mk hr1
  have HC1 := Aside0.mk hc1
  clear hr1 hc1
  have HB := Aside0.mk (Below.refl w.heap.size w)
  have H : (if (l1.length : Int) > 64 then (some 30) else (if a0 > 72057594037927935 then (staddleref03_Check.j0 k l1 true) else (if (l1.length : Int) > 0 then (staddleref03_Check.j0 k l1 (decide (a0 > (IntKind.u64.wrap (72057594037927935 - (IntKind.u64.wrap (wrap64 ((l1.length : Int) - 1)))))))) else (staddleref03_Check.j0 k l1 false)))) = some r := h
  clear h
  by_cases c3 : (l1.length : Int) > 64
  · rw [if_pos c3] at H
    have c3b0 : decide (64 < (l1.length : Int)) = true := decide_eq_true c3
    have c3b1 : decide (64 < l1.length) = true := decide_eq_true (by omega)
    clear c3
    obtain rfl := Option.some.inj H
    go_enter Try.func14, Try.ntmps14
    go_wp2
    go_ret
    exact ⟨by first | rfl | (simp [errW_none, errW_some] <;> rfl) | (simp [*, errW_none, errW_some] <;> rfl), by repeat (first | (with_reducible first | exact HB.out | apply below_alloc | apply pw_below_drewN | apply below_drew1) | exact HB.out)⟩
  · rw [if_neg c3] at H
    have c3b0 : decide (64 < (l1.length : Int)) = false := decide_eq_false c3
    have c3b1 : decide (64 < l1.length) = false := decide_eq_false (by omega)
    clear c3
    have HC4 := Aside0.mk H
    clear H
    go_enter Try.func14, Try.ntmps14
    go_upto_region 3 with (fail)
    go_cut [25] (fun v25 wc => ∃ (kq : Nat) (x25_3 : Bool), v25 = .bool x25_3 ∧ Aside0 (staddleref03_Check.j0 kq l1 x25_3 = some r) ∧ Aside0 (kq ≤ k) ∧ Aside0 (Below w.heap.size w wc))
    case first =>
      have H := HC4.out
      clear HC4
      by_cases c5 : a0 > 72057594037927935
      · rw [if_pos c5] at H
        have c5b0 : decide (72057594037927935 < a0) = true := decide_eq_true c5
        clear c5
        (first | rw [c5b0] | (simp only [i64_w, i32_w]; rw [c5b0]) | skip)
        have H' := Aside0.mk H
        clear H
        go_wp2
        go_meet
        case rel => exact ⟨_, (true), (by first | rfl | (simp; done) | (simp [*]; done) | (simp; omega)), H', ⟨by first | omega | exact Nat.le_refl _⟩, ⟨by repeat (first | (with_reducible first | exact HB.out | apply below_alloc | apply pw_below_drewN | apply below_drew1) | exact HB.out)⟩⟩
      · rw [if_neg c5] at H
        have c5b0 : decide (72057594037927935 < a0) = false := decide_eq_false c5
        clear c5
        (first | rw [c5b0] | (simp only [i64_w, i32_w]; rw [c5b0]) | skip)
        by_cases c6 : (l1.length : Int) > 0
        · rw [if_pos c6] at H
          have c6b0 : decide (0 < (l1.length : Int)) = true := decide_eq_true c6
          have c6b1 : decide (0 < l1.length) = true := decide_eq_true (by omega)
          clear c6
          have H' := Aside0.mk H
          clear H
          go_wp2
          go_meet
          case rel => exact ⟨_, (decide (a0 > (IntKind.u64.wrap (72057594037927935 - (IntKind.u64.wrap (wrap64 ((l1.length : Int) - 1))))))), (by first | rfl | (simp; done) | (simp [*]; done) | (simp; omega)), H', ⟨by first | omega | exact Nat.le_refl _⟩, ⟨by repeat (first | (with_reducible first | exact HB.out | apply below_alloc | apply pw_below_drewN | apply below_drew1) | exact HB.out)⟩⟩
        · rw [if_neg c6] at H
          have c6b0 : decide (0 < (l1.length : Int)) = false := decide_eq_false c6
          have c6b1 : decide (0 < l1.length) = false := decide_eq_false (by omega)
          clear c6
          have H' := Aside0.mk H
          clear H
          go_wp2
          go_meet
          case rel => exact ⟨_, (false), (by first | rfl | (simp; done) | (simp [*]; done) | (simp; omega)), H', ⟨by first | omega | exact Nat.le_refl _⟩, ⟨by repeat (first | (with_reducible first | exact HB.out | apply below_alloc | apply pw_below_drewN | apply below_drew1) | exact HB.out)⟩⟩
    case rest =>
      clear HC4
      try clear c1
      try clear p2
      try clear c3
      try clear c3b0
      try clear c3b1
      try clear c5
      try clear c5b0
      try clear c6
      try clear c6b0
      try clear c6b1
      try clear p6
      obtain ⟨kq, x25_3, rfl, HA, HJ3, HB⟩ := hcut
      cases kq with
      | zero => exact absurd HA.out (by simp [staddleref03_Check.j0])
      | succ kj3 =>
        have H := HA.out
        clear HA
        simp only [staddleref03_Check.j0] at H
        by_cases c7 : x25_3 = true
        · subst c7
          have H1 : (some 22) = some r := by rw [if_pos rfl] at H; exact H
          clear H
          have H := H1
          clear H1
          obtain rfl := Option.some.inj H
          go_wp2
          go_ret
          exact ⟨by first | rfl | (simp [errW_none, errW_some] <;> rfl) | (simp [*, errW_none, errW_some] <;> rfl), by repeat (first | (with_reducible first | exact HB.out | apply below_alloc | apply pw_below_drewN | apply below_drew1) | exact HB.out)⟩
        · replace c7 := Bool.eq_false_iff.mpr c7
          subst c7
          have H1 : (staddleref03_Check.l0 kj3 l1 0) = some r := by rw [if_neg (show ¬ (false = true) by decide)] at H; exact H
          clear H
          have H := H1
          clear H1
          have H' := Aside0.mk H
          clear H
          go_wp2
          go_loopg [5] kj3 (fun kq v5 w' => ∃ (x5_2 : Int), v5 = .int .i64 x5_2 ∧ Aside0 (staddleref03_Check.l0 kq l1 x5_2 = some r) ∧ Aside0 (kq ≤ kj3) ∧ Aside0 (Below w.heap.size w w'))
          case atStart => exact ⟨(0), (by first | rfl | (simp; done) | (simp [*]; done) | (simp; omega)), H', ⟨Nat.le_refl _⟩, ⟨by repeat (first | (with_reducible first | exact HB.out | apply below_alloc | apply pw_below_drewN | apply below_drew1) | exact HB.out)⟩⟩
          case round =>
            clear H'
            try clear c1
            try clear p2
            try clear c3
            try clear c3b0
            try clear c3b1
            try clear c5
            try clear c5b0
            try clear c6
            try clear c6b0
            try clear c6b1
            try clear p6
            try clear c7
            try clear p2
            try clear p6
            obtain ⟨x5_2, rfl, HA, HK2, HB⟩ := hrel
            cases gk with
            | zero => exact absurd HA.out (by simp [staddleref03_Check.l0])
            | succ k2 =>
              have H := HA.out
              clear HA
              simp only [staddleref03_Check.l0] at H
              by_cases c8 : x5_2 < (l1.length : Int)
              · rw [if_pos c8] at H
                have c8b0 : decide (x5_2 < (l1.length : Int)) = true := decide_eq_true c8
                clear c8
                by_cases c9 : 0 ≤ x5_2
                · rw [if_pos c9] at H
                  have c9b0 : decide (0 ≤ x5_2) = true := decide_eq_true c9
                  clear c9
                  have HC10 := Aside0.mk H
                  clear H
                  have p167 : 0 ≤ (x5_2 : Int) := of_decide_eq_true (by first | (with_reducible assumption) | assumption)
                  have q167 : x5_2 < (l1.length : Int) := of_decide_eq_true (by first | (with_reducible assumption) | assumption)
                  obtain ⟨ad167, e167, hx167_0, hx167_1, hx167_2⟩ := at_T39 HR1.out x5_2 p167 q167
                  cases e167
                  replace hx167_0 := (HB.out.cell (World.block_lt_of_cell? w _ hx167_0)).trans hx167_0
                  replace hx167_1 := (HB.out.cell (World.block_lt_of_cell? w _ hx167_1)).trans hx167_1
                  replace hx167_2 := (HB.out.cell (World.block_lt_of_cell? w _ hx167_2)).trans hx167_2
                  replace p167 := eq_true p167
                  replace q167 := eq_true q167
                  go_upto_region 9 with (first | ((with_reducible refine gate_dst (N := 6) rfl ?_); (try (refine gate_guard (by rfl) ?_; dsimp only)); refine box_event ?hg (N := 6) ?hd (cs := #[.int .i64 0, .string (⟨#[]⟩ : ByteArray), .string (⟨#[]⟩ : ByteArray)]) (t := 39) ?hr ?_; (case hd => rfl); (case hg => rfl); (case hr => first | (go_simp; done) | (go_simp; rfl)); intro gb168 hg w11 hbox hb; have n0_ := Aside0.mk (below_step (by repeat (first | (with_reducible first | exact HB.out | apply below_alloc | apply pw_below_drewN | apply below_drew1) | exact HB.out)) hb); have n1_ := Aside0.mk (hbox); have n2_ := Aside0.mk ((by rw [hg]; exact (below_size (by repeat (first | (with_reducible first | exact HB.out | apply below_alloc | apply pw_below_drewN | apply below_drew1) | exact HB.out))) : w.heap.size ≤ gb168)); have n3_ := Aside0.mk ((by rw [hg]; exact (below_size (by repeat (first | (with_reducible first | exact HB.out | apply below_alloc | apply pw_below_drewN | apply below_drew1) | exact HB.out))) : w.heap.size ≤ gb168)); clear HB; have HB := n0_; have BK168 := n1_; have GW168 := n2_; have GE168 := n3_; clear n0_ n1_ n2_ n3_; clear hb hbox hg; have hcz12_0 : w11.cell? ⟨gb168, 0, none⟩ = some (.int .i64 0) := (blk_cell BK168.out 0).trans rfl; have hcz12_1 : w11.cell? ⟨gb168, 1, none⟩ = some (.string (⟨#[]⟩ : ByteArray)) := (blk_cell BK168.out 1).trans rfl; have hcz12_2 : w11.cell? ⟨gb168, 2, none⟩ = some (.string (⟨#[]⟩ : ByteArray)) := (blk_cell BK168.out 2).trans rfl; have hfz12_0 := blk_frozen BK168.out 0; have hfz12_1 := blk_frozen BK168.out 1; have hfz12_2 := blk_frozen BK168.out 2))
                  (try simp only [Act.put, List.setIfInBounds_toArray, List.set_cons_zero, List.set_cons_succ])
                  go_cut [43] (fun v43 wc => ∃ (kq : Nat) (x43_9 : Bool), v43 = .bool x43_9 ∧ Aside0 (staddleref03_Check.j2 kq l1 x5_2 x43_9 ((rd_T39 l1 x5_2).f0) ((rd_T39 l1 x5_2).f1) ((rd_T39 l1 x5_2).f2) = some r) ∧ Aside0 (kq ≤ k2) ∧ Aside0 (wc.heap[gb168]? = some (.cells #[.int .i64 ((rd_T39 l1 x5_2).f0), .string ((rd_T39 l1 x5_2).f1), .string ((rd_T39 l1 x5_2).f2)] 39 (0, 0))) ∧ Aside0 (Below w.heap.size w wc))
                  case first =>
                    have H := HC10.out
                    clear HC10
                    by_cases c13 : ((rd_T39 l1 x5_2).f0) = 0
                    · rw [if_pos c13] at H
                      have c13b0 : (((rd_T39 l1 x5_2).f0) == 0) = true := beq_iff_eq.mpr c13
                      have c13b1 : (((rd_T39 l1 x5_2).f0) != 0) = false := bne_eq_false_iff_eq.mpr c13
                      clear c13
                      (first | rw [c13b0] | (simp only [i64_w, i32_w]; rw [c13b0]) | skip)
                      have H' := Aside0.mk H
                      clear H
                      have hcz14_0 : w11.cell? ⟨gb168, 0, none⟩ = some (.int .i64 0) := (blk_cell BK168.out 0).trans rfl
                      have hcz14_1 : w11.cell? ⟨gb168, 1, none⟩ = some (.string (⟨#[]⟩ : ByteArray)) := (blk_cell BK168.out 1).trans rfl
                      have hcz14_2 : w11.cell? ⟨gb168, 2, none⟩ = some (.string (⟨#[]⟩ : ByteArray)) := (blk_cell BK168.out 2).trans rfl
                      have hfz14_0 := blk_frozen BK168.out 0
                      have hfz14_1 := blk_frozen BK168.out 1
                      have hfz14_2 := blk_frozen BK168.out 2
                      go_wp2
                      go_meet
                      case rel => exact ⟨_, (false), (by first | rfl | (simp; done) | (simp [*]; done) | (simp; omega)), H', ⟨by have := HJ3.out; have := HK2.out; first | omega | exact Nat.le_refl _⟩, ⟨by (with_reducible repeat (first | refine blk_drewN ?_ _ | refine blk_drew ?_ | refine blk_alloc ?_ _)); refine blk_put (cs := #[.int .i64 ((rd_T39 l1 x5_2).f0), .string ((rd_T39 l1 x5_2).f1), .string (⟨#[]⟩ : ByteArray)]) ?_ 2 _ rfl; (with_reducible repeat (first | refine blk_drewN ?_ _ | refine blk_drew ?_ | refine blk_alloc ?_ _)); refine blk_put (cs := #[.int .i64 ((rd_T39 l1 x5_2).f0), .string (⟨#[]⟩ : ByteArray), .string (⟨#[]⟩ : ByteArray)]) ?_ 1 _ rfl; (with_reducible repeat (first | refine blk_drewN ?_ _ | refine blk_drew ?_ | refine blk_alloc ?_ _)); refine blk_put (cs := #[.int .i64 0, .string (⟨#[]⟩ : ByteArray), .string (⟨#[]⟩ : ByteArray)]) ?_ 0 _ rfl; (with_reducible repeat (first | refine blk_drewN ?_ _ | refine blk_drew ?_ | refine blk_alloc ?_ _)); exact BK168.out⟩, ⟨by repeat (first | (with_reducible first | exact HB.out | apply below_alloc | apply pw_below_drewN | apply below_drew1 | refine below_set ?_ GE168.out) | exact HB.out)⟩⟩
                    · rw [if_neg c13] at H
                      have c13b0 : (((rd_T39 l1 x5_2).f0) == 0) = false := beq_eq_false_iff_ne.mpr c13
                      have c13b1 : (((rd_T39 l1 x5_2).f0) != 0) = true := bne_iff_ne.mpr c13
                      (first | rw [c13b0] | (simp only [i64_w, i32_w]; rw [c13b0]) | skip)
                      have H' := Aside0.mk H
                      clear H
                      have hcz15_0 : w11.cell? ⟨gb168, 0, none⟩ = some (.int .i64 0) := (blk_cell BK168.out 0).trans rfl
                      have hcz15_1 : w11.cell? ⟨gb168, 1, none⟩ = some (.string (⟨#[]⟩ : ByteArray)) := (blk_cell BK168.out 1).trans rfl
                      have hcz15_2 : w11.cell? ⟨gb168, 2, none⟩ = some (.string (⟨#[]⟩ : ByteArray)) := (blk_cell BK168.out 2).trans rfl
                      have hfz15_0 := blk_frozen BK168.out 0
                      have hfz15_1 := blk_frozen BK168.out 1
                      have hfz15_2 := blk_frozen BK168.out 2
                      go_wp2
                      go_meet
                      case rel => exact ⟨_, ((((rd_T39 l1 x5_2).f0) != 1)), (by first | rfl | (simp; done) | (simp [*]; done) | (simp; omega)), H', ⟨by have := HJ3.out; have := HK2.out; first | omega | exact Nat.le_refl _⟩, ⟨by (with_reducible repeat (first | refine blk_drewN ?_ _ | refine blk_drew ?_ | refine blk_alloc ?_ _)); refine blk_put (cs := #[.int .i64 ((rd_T39 l1 x5_2).f0), .string ((rd_T39 l1 x5_2).f1), .string (⟨#[]⟩ : ByteArray)]) ?_ 2 _ rfl; (with_reducible repeat (first | refine blk_drewN ?_ _ | refine blk_drew ?_ | refine blk_alloc ?_ _)); refine blk_put (cs := #[.int .i64 ((rd_T39 l1 x5_2).f0), .string (⟨#[]⟩ : ByteArray), .string (⟨#[]⟩ : ByteArray)]) ?_ 1 _ rfl; (with_reducible repeat (first | refine blk_drewN ?_ _ | refine blk_drew ?_ | refine blk_alloc ?_ _)); refine blk_put (cs := #[.int .i64 0, .string (⟨#[]⟩ : ByteArray), .string (⟨#[]⟩ : ByteArray)]) ?_ 0 _ rfl; (with_reducible repeat (first | refine blk_drewN ?_ _ | refine blk_drew ?_ | refine blk_alloc ?_ _)); exact BK168.out⟩, ⟨by repeat (first | (with_reducible first | exact HB.out | apply below_alloc | apply pw_below_drewN | apply below_drew1 | refine below_set ?_ GE168.out) | exact HB.out)⟩⟩
                  case rest =>
                    clear HC10
                    try clear c1
                    try clear p1
                    try clear q1
                    try clear hx1
                    try clear p2
                    try clear c3
                    try clear c3b0
                    try clear c3b1
                    try clear c5
                    try clear c5b0
                    try clear c6
                    try clear c6b0
                    try clear c6b1
                    try clear p6
                    try clear c7
                    try clear c8
                    try clear c8b0
                    try clear c9
                    try clear c9b0
                    try clear c13
                    try clear c13b0
                    try clear c13b1
                    try clear c14
                    try clear hcz12_0
                    try clear hcz12_1
                    try clear hcz12_2
                    try clear hcz14_0
                    try clear hcz14_1
                    try clear hcz14_2
                    try clear hcz15_0
                    try clear hcz15_1
                    try clear hcz15_2
                    try clear hfz12_0
                    try clear hfz12_1
                    try clear hfz12_2
                    try clear hfz14_0
                    try clear hfz14_1
                    try clear hfz14_2
                    try clear hfz15_0
                    try clear hfz15_1
                    try clear hfz15_2
                    try clear hx167_0
                    try clear hx167_1
                    try clear hx167_2
                    try clear p167
                    try clear p2
                    try clear p6
                    try clear q167
                    obtain ⟨kq, x43_9, rfl, HA, HJ9, BK168, HB⟩ := hcut
                    cases kq with
                    | zero => exact absurd HA.out (by simp [staddleref03_Check.j2])
                    | succ kj9 =>
                      have H := HA.out
                      clear HA
                      simp only [staddleref03_Check.j2] at H
                      by_cases c16 : x43_9 = true
                      · subst c16
                        have H1 : (some 23) = some r := by rw [if_pos rfl] at H; exact H
                        clear H
                        have H := H1
                        clear H1
                        obtain rfl := Option.some.inj H
                        go_wp2
                        go_ret
                        exact ⟨by first | rfl | (simp [errW_none, errW_some] <;> rfl) | (simp [*, errW_none, errW_some] <;> rfl), by repeat (first | (with_reducible first | exact HB.out | apply below_alloc | apply pw_below_drewN | apply below_drew1 | refine below_set ?_ GE168.out) | exact HB.out)⟩
                      · replace c16 := Bool.eq_false_iff.mpr c16
                        subst c16
                        have H1 : (if (((rd_T39 l1 x5_2).f1).size : Int) > 64 then (some 21) else (if (((rd_T39 l1 x5_2).f2).size : Int) > 1000 then (some 31) else (if ((rd_T39 l1 x5_2).f0) = 0 then (if (((rd_T39 l1 x5_2).f2).size : Int) > 0 then (some 31) else (staddleref03_Check.l0 kj9 l1 (wrap64 (x5_2 + 1)))) else (staddleref03_Check.l0 kj9 l1 (wrap64 (x5_2 + 1)))))) = some r := by rw [if_neg (show ¬ (false = true) by decide)] at H; exact H
                        clear H
                        have H := H1
                        clear H1
                        by_cases c17 : (((rd_T39 l1 x5_2).f1).size : Int) > 64
                        · rw [if_pos c17] at H
                          have c17b0 : decide (64 < (((rd_T39 l1 x5_2).f1).size : Int)) = true := decide_eq_true c17
                          have c17b1 : decide (64 < ((rd_T39 l1 x5_2).f1).size) = true := decide_eq_true (by omega)
                          clear c17
                          obtain rfl := Option.some.inj H
                          have hcz18_0 : wc.cell? ⟨gb168, 0, none⟩ = some (.int .i64 ((rd_T39 l1 x5_2).f0)) := (blk_cell BK168.out 0).trans rfl
                          have hcz18_1 : wc.cell? ⟨gb168, 1, none⟩ = some (.string ((rd_T39 l1 x5_2).f1)) := (blk_cell BK168.out 1).trans rfl
                          have hcz18_2 : wc.cell? ⟨gb168, 2, none⟩ = some (.string ((rd_T39 l1 x5_2).f2)) := (blk_cell BK168.out 2).trans rfl
                          have hfz18_0 := blk_frozen BK168.out 0
                          have hfz18_1 := blk_frozen BK168.out 1
                          have hfz18_2 := blk_frozen BK168.out 2
                          go_wp2
                          go_ret
                          exact ⟨by first | rfl | (simp [errW_none, errW_some] <;> rfl) | (simp [*, errW_none, errW_some] <;> rfl), by repeat (first | (with_reducible first | exact HB.out | apply below_alloc | apply pw_below_drewN | apply below_drew1 | refine below_set ?_ GE168.out) | exact HB.out)⟩
                        · rw [if_neg c17] at H
                          have c17b0 : decide (64 < (((rd_T39 l1 x5_2).f1).size : Int)) = false := decide_eq_false c17
                          have c17b1 : decide (64 < ((rd_T39 l1 x5_2).f1).size) = false := decide_eq_false (by omega)
                          clear c17
                          by_cases c19 : (((rd_T39 l1 x5_2).f2).size : Int) > 1000
                          · rw [if_pos c19] at H
                            have c19b0 : decide (1000 < (((rd_T39 l1 x5_2).f2).size : Int)) = true := decide_eq_true c19
                            have c19b1 : decide (1000 < ((rd_T39 l1 x5_2).f2).size) = true := decide_eq_true (by omega)
                            clear c19
                            obtain rfl := Option.some.inj H
                            have hcz20_0 : wc.cell? ⟨gb168, 0, none⟩ = some (.int .i64 ((rd_T39 l1 x5_2).f0)) := (blk_cell BK168.out 0).trans rfl
                            have hcz20_1 : wc.cell? ⟨gb168, 1, none⟩ = some (.string ((rd_T39 l1 x5_2).f1)) := (blk_cell BK168.out 1).trans rfl
                            have hcz20_2 : wc.cell? ⟨gb168, 2, none⟩ = some (.string ((rd_T39 l1 x5_2).f2)) := (blk_cell BK168.out 2).trans rfl
                            have hfz20_0 := blk_frozen BK168.out 0
                            have hfz20_1 := blk_frozen BK168.out 1
                            have hfz20_2 := blk_frozen BK168.out 2
                            go_wp2
                            go_ret
                            exact ⟨by first | rfl | (simp [errW_none, errW_some] <;> rfl) | (simp [*, errW_none, errW_some] <;> rfl), by repeat (first | (with_reducible first | exact HB.out | apply below_alloc | apply pw_below_drewN | apply below_drew1 | refine below_set ?_ GE168.out) | exact HB.out)⟩
                          · rw [if_neg c19] at H
                            have c19b0 : decide (1000 < (((rd_T39 l1 x5_2).f2).size : Int)) = false := decide_eq_false c19
                            have c19b1 : decide (1000 < ((rd_T39 l1 x5_2).f2).size) = false := decide_eq_false (by omega)
                            clear c19
                            by_cases c21 : ((rd_T39 l1 x5_2).f0) = 0
                            · rw [if_pos c21] at H
                              have c21b0 : (((rd_T39 l1 x5_2).f0) == 0) = true := beq_iff_eq.mpr c21
                              have c21b1 : (((rd_T39 l1 x5_2).f0) != 0) = false := bne_eq_false_iff_eq.mpr c21
                              clear c21
                              by_cases c22 : (((rd_T39 l1 x5_2).f2).size : Int) > 0
                              · rw [if_pos c22] at H
                                have c22b0 : decide (0 < (((rd_T39 l1 x5_2).f2).size : Int)) = true := decide_eq_true c22
                                have c22b1 : decide (0 < ((rd_T39 l1 x5_2).f2).size) = true := decide_eq_true (by omega)
                                clear c22
                                obtain rfl := Option.some.inj H
                                have hcz23_0 : wc.cell? ⟨gb168, 0, none⟩ = some (.int .i64 ((rd_T39 l1 x5_2).f0)) := (blk_cell BK168.out 0).trans rfl
                                have hcz23_1 : wc.cell? ⟨gb168, 1, none⟩ = some (.string ((rd_T39 l1 x5_2).f1)) := (blk_cell BK168.out 1).trans rfl
                                have hcz23_2 : wc.cell? ⟨gb168, 2, none⟩ = some (.string ((rd_T39 l1 x5_2).f2)) := (blk_cell BK168.out 2).trans rfl
                                have hfz23_0 := blk_frozen BK168.out 0
                                have hfz23_1 := blk_frozen BK168.out 1
                                have hfz23_2 := blk_frozen BK168.out 2
                                go_wp2
                                go_ret
                                exact ⟨by first | rfl | (simp [errW_none, errW_some] <;> rfl) | (simp [*, errW_none, errW_some] <;> rfl), by repeat (first | (with_reducible first | exact HB.out | apply below_alloc | apply pw_below_drewN | apply below_drew1 | refine below_set ?_ GE168.out) | exact HB.out)⟩
                              · rw [if_neg c22] at H
                                have c22b0 : decide (0 < (((rd_T39 l1 x5_2).f2).size : Int)) = false := decide_eq_false c22
                                have c22b1 : decide (0 < ((rd_T39 l1 x5_2).f2).size) = false := decide_eq_false (by omega)
                                clear c22
                                have H' := Aside0.mk H
                                clear H
                                have hcz24_0 : wc.cell? ⟨gb168, 0, none⟩ = some (.int .i64 ((rd_T39 l1 x5_2).f0)) := (blk_cell BK168.out 0).trans rfl
                                have hcz24_1 : wc.cell? ⟨gb168, 1, none⟩ = some (.string ((rd_T39 l1 x5_2).f1)) := (blk_cell BK168.out 1).trans rfl
                                have hcz24_2 : wc.cell? ⟨gb168, 2, none⟩ = some (.string ((rd_T39 l1 x5_2).f2)) := (blk_cell BK168.out 2).trans rfl
                                have hfz24_0 := blk_frozen BK168.out 0
                                have hfz24_1 := blk_frozen BK168.out 1
                                have hfz24_2 := blk_frozen BK168.out 2
                                go_wp2
                                go_roundg kj9
                                case measure => have := HJ3.out; have := HK2.out; have := HJ9.out; omega
                                case rel => exact ⟨(wrap64 (x5_2 + 1)), (by first | rfl | (simp; done) | (simp [*]; done) | (simp; omega)), H', ⟨by have := HJ3.out; have := HK2.out; have := HJ9.out; omega⟩, ⟨by repeat (first | (with_reducible first | exact HB.out | apply below_alloc | apply pw_below_drewN | apply below_drew1 | refine below_set ?_ GE168.out) | exact HB.out)⟩⟩
                            · rw [if_neg c21] at H
                              have c21b0 : (((rd_T39 l1 x5_2).f0) == 0) = false := beq_eq_false_iff_ne.mpr c21
                              have c21b1 : (((rd_T39 l1 x5_2).f0) != 0) = true := bne_iff_ne.mpr c21
                              have H' := Aside0.mk H
                              clear H
                              have hcz25_0 : wc.cell? ⟨gb168, 0, none⟩ = some (.int .i64 ((rd_T39 l1 x5_2).f0)) := (blk_cell BK168.out 0).trans rfl
                              have hcz25_1 : wc.cell? ⟨gb168, 1, none⟩ = some (.string ((rd_T39 l1 x5_2).f1)) := (blk_cell BK168.out 1).trans rfl
                              have hcz25_2 : wc.cell? ⟨gb168, 2, none⟩ = some (.string ((rd_T39 l1 x5_2).f2)) := (blk_cell BK168.out 2).trans rfl
                              have hfz25_0 := blk_frozen BK168.out 0
                              have hfz25_1 := blk_frozen BK168.out 1
                              have hfz25_2 := blk_frozen BK168.out 2
                              go_wp2
                              go_roundg kj9
                              case measure => have := HJ3.out; have := HK2.out; have := HJ9.out; omega
                              case rel => exact ⟨(wrap64 (x5_2 + 1)), (by first | rfl | (simp; done) | (simp [*]; done) | (simp; omega)), H', ⟨by have := HJ3.out; have := HK2.out; have := HJ9.out; omega⟩, ⟨by repeat (first | (with_reducible first | exact HB.out | apply below_alloc | apply pw_below_drewN | apply below_drew1 | refine below_set ?_ GE168.out) | exact HB.out)⟩⟩
                · rw [if_neg c9] at H
                  exact absurd H (by simp)
              · rw [if_neg c8] at H
                have c8b0 : decide (x5_2 < (l1.length : Int)) = false := decide_eq_false c8
                clear c8
                obtain rfl := Option.some.inj H
                go_wp2
                go_ret
                exact ⟨by first | rfl | (simp [errW_none, errW_some] <;> rfl) | (simp [*, errW_none, errW_some] <;> rfl), by repeat (first | (with_reducible first | exact HB.out | apply below_alloc | apply pw_below_drewN | apply below_drew1) | exact HB.out)⟩

end Go.Proofs.Ytojnhecpjnoipaa.P
