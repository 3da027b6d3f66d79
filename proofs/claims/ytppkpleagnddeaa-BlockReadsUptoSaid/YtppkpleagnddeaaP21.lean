-- By this session's wip/hprint.py: the kit's print.py with functions by hand beside it. Not trusted: Lean checks it.
import Derived.Test.YtppkpleagnddeaaP0
import Derived.Test.YtppkpleagnddeaaP12
namespace Go.Proofs.Ytppkpleagnddeaa.P
open Go.RowKit Go.Proofs.YtppkpleagnddeaaW.PrintWords Go.Proofs.YtppkpleagnddeaaW.PrintLast Go.Proofs.YtppkpleagnddeaaW.PrintMore
attribute [local go_sem] max2_int min2_int max_two min_two max_three min_three max_four min_four   -- for this text's walks alone
set_option linter.unusedVariables false
set_option linter.unusedSimpArgs false

/-! ### staddleref11_Find: function 18 -/
def staddleref11_Find.l0 : Nat → List (S42) → Int → ByteArray → Int → Int → Option (Int)
 | 0, _, _, _, _, _ => none
 | k + 1, x0, x5, x435000, x435001, x435002 => if x5 < (x0.length : Int) then (if 0 ≤ x5 then ((staddleref02_Compare.f k ((rd_T42 x0 x5).f0.f0) ((rd_T42 x0 x5).f0.f1) ((rd_T42 x0 x5).f0.f2) x435000 x435001 x435002).bind fun t436 => (if t436 ≥ 0 then (some x5) else (staddleref11_Find.l0 k x0 (wrap64 (x5 + 1)) x435000 x435001 x435002))) else (none)) else (some (x0.length : Int))
def staddleref11_Find.f (k : Nat) (l0 : List (S42)) (a1_0 : ByteArray) (a1_1 : Int) (a1_2 : Int) : Option (Int) := staddleref11_Find.l0 k l0 0 a1_0 a1_1 a1_2
def staddleref11_Find.T4 : Bool × List (List Nat × List Nat) := (true, [([], []), ([], []), ([0, 1], [0, 1]), ([2], [2]), ([3], [3]), ([], []), ([4, 5], [4, 5]), ([6], [6])])
def staddleref11_Find.B4 : List Nat := [0, 0, 3, 7, 15, 0, 63, 127]
theorem staddleref11_Find.tab4 : rtab .any (opsOf Try.f18 4) = staddleref11_Find.T4 := by kernel_rfl
theorem staddleref11_Find.bits4 : waitsOk staddleref11_Find.T4.2 staddleref11_Find.B4 = true := by kernel_rfl
set_option maxHeartbeats 8000000 in
set_option maxRecDepth 100000 in
theorem staddleref11_Find.calls (k : Nat) (A0 : Option Addr) (c0 : Nat) (l0 : List (S42)) (a1_0 : ByteArray) (a1_1 : Int) (a1_2 : Int) (r : Int) (w : World) (hr0 : Kd.C k42 w A0 l0.length l0) (hc0 : l0.length ≤ c0) (h : staddleref11_Find.f k l0 a1_0 a1_1 a1_2 = some r) :
  Calls Try.prog 18 #[.slice A0 l0.length c0, .agg #[.string a1_0, .int .u64 a1_1, .int .i64 a1_2]] w fun e w' => e = .returned (.int .i64 r) ∧ Below w.heap.size w w' := by
 have hu32 := Try.underlying32
 have HR0 := Aside0.mk hr0
 have HC0 := Aside0.mk hc0
 clear hr0 hc0
 have HB := Aside0.mk (Below.refl w.heap.size w)
 have H : (staddleref11_Find.l0 k l0 0 a1_0 a1_1 a1_2) = some r := h
 clear h
 have H' := Aside0.mk H
 clear H
 go_enter Try.func18, Try.ntmps18
 go_wp2_with (first | ((with_reducible refine gate_dst (N := 3) rfl ?_); refine box_event ?hg (N := 3) ?hd (cs := #[.string a1_0, .int .u64 a1_1, .int .i64 a1_2]) (t := 32) ?hr ?_; (case hd => rfl); (case hg => rfl); (case hr => first | (go_simp; done) | (go_simp; rfl)); intro gb434 hg w3 hbox hb; have n0_ := Aside0.mk (below_step (by repeat (first | (with_reducible first | exact HB.out | apply below_alloc | apply pw_below_drewN | apply below_drew1) | exact HB.out)) hb); have n1_ := Aside0.mk (hbox); have n2_ := Aside0.mk ((by rw [hg]; exact (below_size (by repeat (first | (with_reducible first | exact HB.out | apply below_alloc | apply pw_below_drewN | apply below_drew1) | exact HB.out))) : w.heap.size ≤ gb434)); have n3_ := Aside0.mk ((by rw [hg]; exact (below_size (by repeat (first | (with_reducible first | exact HB.out | apply below_alloc | apply pw_below_drewN | apply below_drew1) | exact HB.out))) : w.heap.size ≤ gb434)); clear HB; have HB := n0_; have BK434 := n1_; have GW434 := n2_; have GE434 := n3_; clear n0_ n1_ n2_ n3_; clear hb hbox hg))
 go_loopg [5] k (fun kq v5 w' => ∃ (x5_1 : Int), v5 = .int .i64 x5_1 ∧ Aside0 (staddleref11_Find.l0 kq l0 x5_1 a1_0 a1_1 a1_2 = some r) ∧ Aside0 (kq ≤ k) ∧ Aside0 (w'.heap[gb434]? = some (.cells #[.string a1_0, .int .u64 a1_1, .int .i64 a1_2] 32 (0, 0))) ∧ Aside0 (Below w.heap.size w w'))
 case atStart => exact ⟨(0), (by first | rfl | (simp; done) | (simp [*]; done) | (simp; omega)), H', ⟨Nat.le_refl _⟩, ⟨by (with_reducible repeat (first | refine blk_drewN ?_ _ | refine blk_drew ?_ | refine blk_alloc ?_ _)); exact BK434.out⟩, ⟨by repeat (first | (with_reducible first | exact HB.out | apply below_alloc | apply pw_below_drewN | apply below_drew1 | refine below_set ?_ GE434.out) | exact HB.out)⟩⟩
 case round =>
  clear H'
  try clear c1
  try clear p2
  obtain ⟨x5_1, rfl, HA, HK1, BK434, HB⟩ := hrel
  cases gk with
  | zero => exact absurd HA.out (by simp [staddleref11_Find.l0])
  | succ k1 =>
   have H := HA.out
   clear HA
   simp only [staddleref11_Find.l0] at H
   by_cases c4 : x5_1 < (l0.length : Int)
   ·
    rw [if_pos c4] at H
    have c4b0 : decide (x5_1 < (l0.length : Int)) = true := decide_eq_true c4
    clear c4
    by_cases c5 : 0 ≤ x5_1
    ·
     rw [if_pos c5] at H
     have c5b0 : decide (0 ≤ x5_1) = true := decide_eq_true c5
     clear c5
     replace H := Option.bind_eq_some_iff.mp H
     obtain ⟨t436, A60, H⟩ := H
     replace H : (if t436 ≥ 0 then (some x5_1) else (staddleref11_Find.l0 k1 l0 (wrap64 (x5_1 + 1)) a1_0 a1_1 a1_2)) = some r := H
     have A6 := Aside0.mk A60
     clear A60
     by_cases c7 : t436 ≥ 0
     ·
      rw [if_pos c7] at H
      have c7b0 : decide (0 ≤ t436) = true := decide_eq_true c7
      clear c7
      obtain rfl := Option.some.inj H
      try go_wp2
      have n0_ := Aside0.mk (blk_drew BK434.out)
      have n1_ := Aside0.mk (below_drew1 HB.out)
      clear BK434
      clear HB
      have BK434 := n0_
      have HB := n1_
      clear n0_ n1_
      have p435 : 0 ≤ (x5_1 : Int) := of_decide_eq_true (by first | (with_reducible assumption) | assumption)
      have q435 : x5_1 < (l0.length : Int) := of_decide_eq_true (by first | (with_reducible assumption) | assumption)
      obtain ⟨ad435, e435, hx435_0, hx435_1, hx435_2, hx435_3⟩ := at_T42 HR0.out x5_1 p435 q435
      have hw435_3 := hx435_3
      have hw435_2 := hx435_2
      have hw435_1 := hx435_1
      have hw435_0 := hx435_0
      cases e435
      replace hx435_0 := (HB.out.cell (World.block_lt_of_cell? w _ hx435_0)).trans hx435_0
      replace hx435_1 := (HB.out.cell (World.block_lt_of_cell? w _ hx435_1)).trans hx435_1
      replace hx435_2 := (HB.out.cell (World.block_lt_of_cell? w _ hx435_2)).trans hx435_2
      replace hx435_3 := (HB.out.cell (World.block_lt_of_cell? w _ hx435_3)).trans hx435_3
      replace p435 := eq_true p435
      replace q435 := eq_true q435
      refine start_ (n := 8) (S := fun w' => w'.cell? ⟨gb434, 0, none⟩ = some (.string a1_0) ∧ w'.cell? ⟨gb434, 1, none⟩ = some (.int .u64 a1_1) ∧ w'.cell? ⟨gb434, 2, none⟩ = some (.int .i64 a1_2) ∧ w'.cell? (ad435.add ((x5_1).toNat * 4)) = some (.string ((rd_T42 l0 x5_1).f0.f0)) ∧ w'.cell? ⟨(ad435.add ((x5_1).toNat * 4)).block, (ad435.add ((x5_1).toNat * 4)).off + 1, none⟩ = some (.int .u64 ((rd_T42 l0 x5_1).f0.f1)) ∧ w'.cell? ⟨(ad435.add ((x5_1).toNat * 4)).block, (ad435.add ((x5_1).toNat * 4)).off + 2, none⟩ = some (.int .i64 ((rd_T42 l0 x5_1).f0.f2)) ∧ w'.cell? ⟨(ad435.add ((x5_1).toNat * 4)).block, (ad435.add ((x5_1).toNat * 4)).off + 3, none⟩ = some (.string ((rd_T42 l0 x5_1).f1))) (ds := []) #[false, false, false, false, false, false, false, false] (by kernel_rfl) rfl rfl ⟨(blk_cell BK434.out 0).trans rfl, (blk_cell BK434.out 1).trans rfl, (blk_cell BK434.out 2).trans rfl, ((HB.out.cell (World.block_lt_of_cell? w _ hw435_0)).trans hw435_0), ((HB.out.cell (World.block_lt_of_cell? w _ hw435_1)).trans hw435_1), ((HB.out.cell (World.block_lt_of_cell? w _ hw435_2)).trans hw435_2), ((HB.out.cell (World.block_lt_of_cell? w _ hw435_3)).trans hw435_3)⟩ (fun hHeld => ?_); refine with_tabW staddleref11_Find.tab4 staddleref11_Find.bits4 (fun HT_ HW_ => ?_)
      generalize wr.drew = w8 at BK434 HB hx435_0 hx435_1 hx435_2 hx435_3 hHeld ⊢
      refine pure_ (i := 0) (N := some 12) (v := ?_) (a' := ?_) #[true, false, false, false, false, false, false, false] rfl rfl (any_of HT_.out (by kernel_rfl)) (fun _ _ _ h => h) (Or.inl ⟨by rfl, ?_⟩) ?_ ?_
      rotate_left
      ·
       intro w'
       go_simp
       with_reducible rfl
      rotate_left
      ·
       simp only [Act.put, List.setIfInBounds_toArray, List.set_cons_zero, List.set_cons_succ, i64_w, i32_w]
       rfl
      refine pure_ (i := 1) (N := some 13) (v := ?_) (a' := ?_) #[true, true, false, false, false, false, false, false] rfl rfl (any_of HT_.out (by kernel_rfl)) (fun _ _ _ h => h) (Or.inl ⟨by rfl, ?_⟩) ?_ ?_
      rotate_left
      ·
       intro w'
       go_simp
       with_reducible rfl
      rotate_left
      ·
       simp only [Act.put, List.setIfInBounds_toArray, List.set_cons_zero, List.set_cons_succ, i64_w, i32_w]
       rfl
      refine pure_ (i := 2) (N := some 14) (v := ?_) (a' := ?_) #[true, true, true, false, false, false, false, false] rfl rfl (any_of HT_.out (by kernel_rfl)) (fun _ _ _ h => h) (Or.inl ⟨by rfl, ?_⟩) ?_ ?_
      rotate_left
      ·
       intro w'
       go_simp
       with_reducible rfl
      rotate_left
      ·
       simp only [Act.put, List.setIfInBounds_toArray, List.set_cons_zero, List.set_cons_succ, i64_w, i32_w]
       rfl
      refine pure_ (i := 3) (N := some 15) (v := ?_) (a' := ?_) #[true, true, true, true, false, false, false, false] rfl rfl (any_of HT_.out (by kernel_rfl)) (fun _ _ _ h => h) (Or.inl ⟨by rfl, ?_⟩) ?_ ?_
      rotate_left
      ·
       intro w'
       go_simp
       with_reducible rfl
      rotate_left
      ·
       simp only [Act.put, List.setIfInBounds_toArray, List.set_cons_zero, List.set_cons_succ, i64_w, i32_w]
       rfl
      refine take_ (i := 4) (N := some 16) (v := ?_) (a' := ?_) #[true, true, true, true, true, false, false, false] rfl rfl (take_ofW HT_.out HW_.out (by kernel_rfl)) (fun _ _ _ h => h) (Or.inl ⟨by rfl, ?_⟩) hHeld ?_ ?_
      rotate_left
      ·
       rintro w' ⟨s0, s1, s2, s3, s4, s5, s6⟩
       go_simp
       with_reducible rfl
      rotate_left
      ·
       simp only [Act.put, List.setIfInBounds_toArray, List.set_cons_zero, List.set_cons_succ, i64_w, i32_w]
       rfl
      refine take_ (i := 5) (N := some 17) (v := ?_) (a' := ?_) #[true, true, true, true, true, true, false, false] rfl rfl (take_ofW HT_.out HW_.out (by kernel_rfl)) (fun _ _ _ h => h) (Or.inl ⟨by rfl, ?_⟩) hHeld ?_ ?_
      rotate_left
      ·
       rintro w' ⟨s0, s1, s2, s3, s4, s5, s6⟩
       go_simp
       with_reducible rfl
      rotate_left
      ·
       simp only [Act.put, List.setIfInBounds_toArray, List.set_cons_zero, List.set_cons_succ, i64_w, i32_w]
       rfl
      refine one_ (i := 6) (N := some 18) #[true, true, true, true, true, true, true, false] rfl rfl (one_of HT_.out (by kernel_rfl)) (by decide) (fun K hK => ?_)
      refine goes_ Try.func36 (by kernel_rfl) rfl #[.agg #[.string ((rd_T42 l0 x5_1).f0.f0), .int .u64 ((rd_T42 l0 x5_1).f0.f1), .int .i64 ((rd_T42 l0 x5_1).f0.f2)], .agg #[.string a1_0, .int .u64 a1_1, .int .i64 a1_2]] (by rfl) rfl rfl (by (try simp only [List.map_toArray, List.map_cons, List.map_nil]); first | done | rfl | (simp only [List.length_drop, List.length_take]; rfl)) ?_
      with_reducible refine (staddleref02_Compare.calls k1 ((rd_T42 l0 x5_1).f0.f0) ((rd_T42 l0 x5_1).f0.f1) ((rd_T42 l0 x5_1).f0.f2) a1_0 a1_1 a1_2 t436 _ A6.out).mono ?_
      rintro e w9 ⟨rfl, hb⟩
      refine ⟨_, rfl, ?_⟩
      have n0_ := Aside0.mk (blk_below (g := gb434) (o := .cells #[.string a1_0, .int .u64 a1_1, .int .i64 a1_2] 32 (0, 0)) (by (with_reducible repeat (first | refine blk_drewN ?_ _ | refine blk_drew ?_ | refine blk_alloc ?_ _)); exact BK434.out) hb)
      have n1_ := Aside0.mk (below_step (by repeat (first | (with_reducible first | exact HB.out | apply below_alloc | apply pw_below_drewN | apply below_drew1 | refine below_set ?_ GE434.out) | exact HB.out)) hb)
      clear BK434
      clear HB
      have BK434 := n0_
      have HB := n1_
      clear n0_ n1_
      (try clear hb)
      (try clear hb2)
      (try clear hk)
      (try clear hi)
      refine hK.out _ _ ⟨(blk_cell BK434.out 0).trans rfl, (blk_cell BK434.out 1).trans rfl, (blk_cell BK434.out 2).trans rfl, ((HB.out.cell (World.block_lt_of_cell? w _ hw435_0)).trans hw435_0), ((HB.out.cell (World.block_lt_of_cell? w _ hw435_1)).trans hw435_1), ((HB.out.cell (World.block_lt_of_cell? w _ hw435_2)).trans hw435_2), ((HB.out.cell (World.block_lt_of_cell? w _ hw435_3)).trans hw435_3)⟩ (fun hHeld => ?_)
      clear hK K
      refine norm_ (a' := ?_) ?_ ?_
      rotate_left
      ·
       show Act.put _ (some 18) _ = _
       simp only [Act.put, List.setIfInBounds_toArray, List.set_cons_zero, List.set_cons_succ, i64_w, i32_w]
       rfl
      refine pure_ (i := 7) (N := some 19) (v := ?_) (a' := ?_) #[true, true, true, true, true, true, true, true] rfl rfl (any_of HT_.out (by kernel_rfl)) (fun _ _ _ h => h) (Or.inl ⟨by rfl, ?_⟩) ?_ ?_
      rotate_left
      ·
       intro w'
       go_simp
       with_reducible rfl
      rotate_left
      ·
       simp only [Act.put, List.setIfInBounds_toArray, List.set_cons_zero, List.set_cons_succ, i64_w, i32_w]
       rfl
      refine done_ (done_of HT_.out (by kernel_rfl)) ?_
      try go_wp2
      go_ret
      exact ⟨by first | rfl | (simp [errW_none, errW_some] <;> rfl) | (simp [*, errW_none, errW_some] <;> rfl), by repeat (first | (with_reducible first | exact HB.out | apply below_alloc | apply pw_below_drewN | apply below_drew1 | refine below_set ?_ GE434.out) | exact HB.out)⟩
     ·
      rw [if_neg c7] at H
      have c7b0 : decide (0 ≤ t436) = false := decide_eq_false c7
      clear c7
      have H' := Aside0.mk H
      clear H
      try go_wp2
      have n0_ := Aside0.mk (blk_drew BK434.out)
      have n1_ := Aside0.mk (below_drew1 HB.out)
      clear BK434
      clear HB
      have BK434 := n0_
      have HB := n1_
      clear n0_ n1_
      have p435 : 0 ≤ (x5_1 : Int) := of_decide_eq_true (by first | (with_reducible assumption) | assumption)
      have q435 : x5_1 < (l0.length : Int) := of_decide_eq_true (by first | (with_reducible assumption) | assumption)
      obtain ⟨ad435, e435, hx435_0, hx435_1, hx435_2, hx435_3⟩ := at_T42 HR0.out x5_1 p435 q435
      have hw435_3 := hx435_3
      have hw435_2 := hx435_2
      have hw435_1 := hx435_1
      have hw435_0 := hx435_0
      cases e435
      replace hx435_0 := (HB.out.cell (World.block_lt_of_cell? w _ hx435_0)).trans hx435_0
      replace hx435_1 := (HB.out.cell (World.block_lt_of_cell? w _ hx435_1)).trans hx435_1
      replace hx435_2 := (HB.out.cell (World.block_lt_of_cell? w _ hx435_2)).trans hx435_2
      replace hx435_3 := (HB.out.cell (World.block_lt_of_cell? w _ hx435_3)).trans hx435_3
      replace p435 := eq_true p435
      replace q435 := eq_true q435
      refine start_ (n := 8) (S := fun w' => w'.cell? ⟨gb434, 0, none⟩ = some (.string a1_0) ∧ w'.cell? ⟨gb434, 1, none⟩ = some (.int .u64 a1_1) ∧ w'.cell? ⟨gb434, 2, none⟩ = some (.int .i64 a1_2) ∧ w'.cell? (ad435.add ((x5_1).toNat * 4)) = some (.string ((rd_T42 l0 x5_1).f0.f0)) ∧ w'.cell? ⟨(ad435.add ((x5_1).toNat * 4)).block, (ad435.add ((x5_1).toNat * 4)).off + 1, none⟩ = some (.int .u64 ((rd_T42 l0 x5_1).f0.f1)) ∧ w'.cell? ⟨(ad435.add ((x5_1).toNat * 4)).block, (ad435.add ((x5_1).toNat * 4)).off + 2, none⟩ = some (.int .i64 ((rd_T42 l0 x5_1).f0.f2)) ∧ w'.cell? ⟨(ad435.add ((x5_1).toNat * 4)).block, (ad435.add ((x5_1).toNat * 4)).off + 3, none⟩ = some (.string ((rd_T42 l0 x5_1).f1))) (ds := []) #[false, false, false, false, false, false, false, false] (by kernel_rfl) rfl rfl ⟨(blk_cell BK434.out 0).trans rfl, (blk_cell BK434.out 1).trans rfl, (blk_cell BK434.out 2).trans rfl, ((HB.out.cell (World.block_lt_of_cell? w _ hw435_0)).trans hw435_0), ((HB.out.cell (World.block_lt_of_cell? w _ hw435_1)).trans hw435_1), ((HB.out.cell (World.block_lt_of_cell? w _ hw435_2)).trans hw435_2), ((HB.out.cell (World.block_lt_of_cell? w _ hw435_3)).trans hw435_3)⟩ (fun hHeld => ?_); refine with_tabW staddleref11_Find.tab4 staddleref11_Find.bits4 (fun HT_ HW_ => ?_)
      generalize wr.drew = w10 at BK434 HB hx435_0 hx435_1 hx435_2 hx435_3 hHeld ⊢
      refine pure_ (i := 0) (N := some 12) (v := ?_) (a' := ?_) #[true, false, false, false, false, false, false, false] rfl rfl (any_of HT_.out (by kernel_rfl)) (fun _ _ _ h => h) (Or.inl ⟨by rfl, ?_⟩) ?_ ?_
      rotate_left
      ·
       intro w'
       go_simp
       with_reducible rfl
      rotate_left
      ·
       simp only [Act.put, List.setIfInBounds_toArray, List.set_cons_zero, List.set_cons_succ, i64_w, i32_w]
       rfl
      refine pure_ (i := 1) (N := some 13) (v := ?_) (a' := ?_) #[true, true, false, false, false, false, false, false] rfl rfl (any_of HT_.out (by kernel_rfl)) (fun _ _ _ h => h) (Or.inl ⟨by rfl, ?_⟩) ?_ ?_
      rotate_left
      ·
       intro w'
       go_simp
       with_reducible rfl
      rotate_left
      ·
       simp only [Act.put, List.setIfInBounds_toArray, List.set_cons_zero, List.set_cons_succ, i64_w, i32_w]
       rfl
      refine pure_ (i := 2) (N := some 14) (v := ?_) (a' := ?_) #[true, true, true, false, false, false, false, false] rfl rfl (any_of HT_.out (by kernel_rfl)) (fun _ _ _ h => h) (Or.inl ⟨by rfl, ?_⟩) ?_ ?_
      rotate_left
      ·
       intro w'
       go_simp
       with_reducible rfl
      rotate_left
      ·
       simp only [Act.put, List.setIfInBounds_toArray, List.set_cons_zero, List.set_cons_succ, i64_w, i32_w]
       rfl
      refine pure_ (i := 3) (N := some 15) (v := ?_) (a' := ?_) #[true, true, true, true, false, false, false, false] rfl rfl (any_of HT_.out (by kernel_rfl)) (fun _ _ _ h => h) (Or.inl ⟨by rfl, ?_⟩) ?_ ?_
      rotate_left
      ·
       intro w'
       go_simp
       with_reducible rfl
      rotate_left
      ·
       simp only [Act.put, List.setIfInBounds_toArray, List.set_cons_zero, List.set_cons_succ, i64_w, i32_w]
       rfl
      refine take_ (i := 4) (N := some 16) (v := ?_) (a' := ?_) #[true, true, true, true, true, false, false, false] rfl rfl (take_ofW HT_.out HW_.out (by kernel_rfl)) (fun _ _ _ h => h) (Or.inl ⟨by rfl, ?_⟩) hHeld ?_ ?_
      rotate_left
      ·
       rintro w' ⟨s0, s1, s2, s3, s4, s5, s6⟩
       go_simp
       with_reducible rfl
      rotate_left
      ·
       simp only [Act.put, List.setIfInBounds_toArray, List.set_cons_zero, List.set_cons_succ, i64_w, i32_w]
       rfl
      refine take_ (i := 5) (N := some 17) (v := ?_) (a' := ?_) #[true, true, true, true, true, true, false, false] rfl rfl (take_ofW HT_.out HW_.out (by kernel_rfl)) (fun _ _ _ h => h) (Or.inl ⟨by rfl, ?_⟩) hHeld ?_ ?_
      rotate_left
      ·
       rintro w' ⟨s0, s1, s2, s3, s4, s5, s6⟩
       go_simp
       with_reducible rfl
      rotate_left
      ·
       simp only [Act.put, List.setIfInBounds_toArray, List.set_cons_zero, List.set_cons_succ, i64_w, i32_w]
       rfl
      refine one_ (i := 6) (N := some 18) #[true, true, true, true, true, true, true, false] rfl rfl (one_of HT_.out (by kernel_rfl)) (by decide) (fun K hK => ?_)
      refine goes_ Try.func36 (by kernel_rfl) rfl #[.agg #[.string ((rd_T42 l0 x5_1).f0.f0), .int .u64 ((rd_T42 l0 x5_1).f0.f1), .int .i64 ((rd_T42 l0 x5_1).f0.f2)], .agg #[.string a1_0, .int .u64 a1_1, .int .i64 a1_2]] (by rfl) rfl rfl (by (try simp only [List.map_toArray, List.map_cons, List.map_nil]); first | done | rfl | (simp only [List.length_drop, List.length_take]; rfl)) ?_
      with_reducible refine (staddleref02_Compare.calls k1 ((rd_T42 l0 x5_1).f0.f0) ((rd_T42 l0 x5_1).f0.f1) ((rd_T42 l0 x5_1).f0.f2) a1_0 a1_1 a1_2 t436 _ A6.out).mono ?_
      rintro e w11 ⟨rfl, hb⟩
      refine ⟨_, rfl, ?_⟩
      have n0_ := Aside0.mk (blk_below (g := gb434) (o := .cells #[.string a1_0, .int .u64 a1_1, .int .i64 a1_2] 32 (0, 0)) (by (with_reducible repeat (first | refine blk_drewN ?_ _ | refine blk_drew ?_ | refine blk_alloc ?_ _)); exact BK434.out) hb)
      have n1_ := Aside0.mk (below_step (by repeat (first | (with_reducible first | exact HB.out | apply below_alloc | apply pw_below_drewN | apply below_drew1 | refine below_set ?_ GE434.out) | exact HB.out)) hb)
      clear BK434
      clear HB
      have BK434 := n0_
      have HB := n1_
      clear n0_ n1_
      (try clear hb)
      (try clear hb2)
      (try clear hk)
      (try clear hi)
      refine hK.out _ _ ⟨(blk_cell BK434.out 0).trans rfl, (blk_cell BK434.out 1).trans rfl, (blk_cell BK434.out 2).trans rfl, ((HB.out.cell (World.block_lt_of_cell? w _ hw435_0)).trans hw435_0), ((HB.out.cell (World.block_lt_of_cell? w _ hw435_1)).trans hw435_1), ((HB.out.cell (World.block_lt_of_cell? w _ hw435_2)).trans hw435_2), ((HB.out.cell (World.block_lt_of_cell? w _ hw435_3)).trans hw435_3)⟩ (fun hHeld => ?_)
      clear hK K
      refine norm_ (a' := ?_) ?_ ?_
      rotate_left
      ·
       show Act.put _ (some 18) _ = _
       simp only [Act.put, List.setIfInBounds_toArray, List.set_cons_zero, List.set_cons_succ, i64_w, i32_w]
       rfl
      refine pure_ (i := 7) (N := some 19) (v := ?_) (a' := ?_) #[true, true, true, true, true, true, true, true] rfl rfl (any_of HT_.out (by kernel_rfl)) (fun _ _ _ h => h) (Or.inl ⟨by rfl, ?_⟩) ?_ ?_
      rotate_left
      ·
       intro w'
       go_simp
       with_reducible rfl
      rotate_left
      ·
       simp only [Act.put, List.setIfInBounds_toArray, List.set_cons_zero, List.set_cons_succ, i64_w, i32_w]
       rfl
      refine done_ (done_of HT_.out (by kernel_rfl)) ?_
      try go_wp2
      go_roundg k1
      case measure => have := HK1.out; omega
      case rel => exact ⟨(wrap64 (x5_1 + 1)), (by first | rfl | (simp; done) | (simp [*]; done) | (simp; omega)), H', ⟨by have := HK1.out; omega⟩, ⟨by (with_reducible repeat (first | refine blk_drewN ?_ _ | refine blk_drew ?_ | refine blk_alloc ?_ _)); exact BK434.out⟩, ⟨by repeat (first | (with_reducible first | exact HB.out | apply below_alloc | apply pw_below_drewN | apply below_drew1 | refine below_set ?_ GE434.out) | exact HB.out)⟩⟩
    ·
     rw [if_neg c5] at H
     exact absurd H (by simp)
   ·
    rw [if_neg c4] at H
    have c4b0 : decide (x5_1 < (l0.length : Int)) = false := decide_eq_false c4
    clear c4
    obtain rfl := Option.some.inj H
    go_wp2
    go_ret
    exact ⟨by first | rfl | (simp [errW_none, errW_some] <;> rfl) | (simp [*, errW_none, errW_some] <;> rfl), by repeat (first | (with_reducible first | exact HB.out | apply below_alloc | apply pw_below_drewN | apply below_drew1 | refine below_set ?_ GE434.out) | exact HB.out)⟩

-- NOT PRINTED: function 5 (staddlelaw11_BlockReads)

-- NOT PRINTED: function 6 (staddlelaw11_BlockBack)

-- NOT PRINTED: function 7 (staddlelaw11_BlockCuts)

-- NOT PRINTED: function 8 (staddlelaw11_BlockNil)

-- NOT PRINTED: function 9 (staddlelaw11_BlockIntervals)

end Go.Proofs.Ytppkpleagnddeaa.P
