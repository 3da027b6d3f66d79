-- By this session's wip/hprint.py: the kit's print.py with functions by hand beside it. Not trusted: Lean checks it.
import Derived.Test.YtojnhecpjnoipaaP0
import Derived.Test.YtojnhecpjnoipaaP6
import Derived.Test.YtojnhecpjnoipaaP9
namespace Go.Proofs.Ytojnhecpjnoipaa.P
open Go.RowKit Go.Proofs.YtojnhecpjnoipaaW.PrintWords Go.Proofs.YtojnhecpjnoipaaW.PrintLast Go.Proofs.YtojnhecpjnoipaaW.PrintMore
attribute [local go_sem] max2_int min2_int max_two min_two max_three min_three max_four min_four   -- for this text's walks alone
set_option linter.unusedVariables false
set_option linter.unusedSimpArgs false

/-! ### staddlelaw03_BatchNumbers: function 8 -/
mutual
def staddlelaw03_BatchNumbers.j0 : Nat → Int → Int → Bool → List Int → Int → List Int → Int → Int → Option (Bool)
  | 0, _, _, _, _, _, _, _, _ => none
  | k + 1, x0, x1, x7, x8, x9, x10, x11, x14 => if ((x9 == 0) != (decide (x0 ≤ (IntKind.u64.wrap (72057594037927935 - x14))))) = true then (staddlelaw03_BatchNumbers.j1 k x0 x1 x7 x8 x9 x10 x11 true) else (if (x0 ≤ (IntKind.u64.wrap (72057594037927935 - x14))) then (staddlelaw03_BatchNumbers.j1 k x0 x1 x7 x8 x9 x10 x11 false) else (staddlelaw03_BatchNumbers.j1 k x0 x1 x7 x8 x9 x10 x11 (x9 != 22)))
def staddlelaw03_BatchNumbers.j1 : Nat → Int → Int → Bool → List Int → Int → List Int → Int → Bool → Option (Bool)
  | 0, _, _, _, _, _, _, _, _ => none
  | k + 1, x0, x1, x7, x8, x9, x10, x11, x67 => if x67 = true then (some false) else (if x9 = 0 then (if x11 = 0 then (if x7 = true then (if 8 ≤ (x8.length : Int) then (if 8 ≤ (x10.length : Int) then (if (strOfNums (x8.drop 8)).toList = (strOfNums (x10.drop 8)).toList then (some (((strOfNums (x8.take 8)).toList == (strOfNums (x10.take 8)).toList) == (x0 == x1))) else (some false)) else (none)) else (none)) else (some false)) else (some x7)) else (some x7))
end
def staddlelaw03_BatchNumbers.f (k : Nat) (a0 : Int) (a1 : Int) (l2 : List (S39)) : Option (Bool) := (staddlelaw03_awake.f k).bind fun t413 => ((batch_Encode.f k a0 l2).bind fun bt414 => ((batch_Encode.f k a1 l2).bind fun bt418 => ((batch_Encode.f k 0 l2).bind fun bt422 => (if bt422.2 = 0 then (if (IntKind.u64.wrap ((l2.length : Int))) > 0 then (staddlelaw03_BatchNumbers.j0 k a0 a1 t413 bt414.1 bt414.2 bt418.1 bt418.2 (IntKind.u64.wrap ((IntKind.u64.wrap ((l2.length : Int))) - 1))) else (staddlelaw03_BatchNumbers.j0 k a0 a1 t413 bt414.1 bt414.2 bt418.1 bt418.2 (IntKind.u64.wrap ((l2.length : Int))))) else (if t413 = true then (if bt414.2 = 0 then (some false) else (some (bt418.2 != 0))) else (some false))))))
theorem staddlelaw03_BatchNumbers.mono_l : ∀ k, (∀ y0 y1 y2 y3 y4 y5 y6 y7, LeO (staddlelaw03_BatchNumbers.j0 k y0 y1 y2 y3 y4 y5 y6 y7) (staddlelaw03_BatchNumbers.j0 (k + 1) y0 y1 y2 y3 y4 y5 y6 y7)) ∧ (∀ y0 y1 y2 y3 y4 y5 y6 y7, LeO (staddlelaw03_BatchNumbers.j1 k y0 y1 y2 y3 y4 y5 y6 y7) (staddlelaw03_BatchNumbers.j1 (k + 1) y0 y1 y2 y3 y4 y5 y6 y7))
  | 0 => ⟨fun _ _ _ _ _ _ _ _ r h => by simp [staddlelaw03_BatchNumbers.j0] at h, fun _ _ _ _ _ _ _ _ r h => by simp [staddlelaw03_BatchNumbers.j1] at h⟩
  | k + 1 => by
    obtain ⟨ih0, ih1⟩ := staddlelaw03_BatchNumbers.mono_l k
    refine ⟨?_, ?_⟩
    · intro y0 y1 y2 y3 y4 y5 y6 y7
      unfold staddlelaw03_BatchNumbers.j0
      repeat' first
      | (with_reducible exact ih0 _ _ _ _ _ _ _ _)
      | (with_reducible exact ih1 _ _ _ _ _ _ _ _)
      | (with_reducible exact batch_Encode.mono _ _ _)
      | (with_reducible exact staddlelaw03_awake.mono _)
      | (with_reducible exact LeO.refl _)
      | (with_reducible exact LeO.none _)
      | (with_reducible refine LeO.ite ?_ ?_)
      | (with_reducible refine LeO.bind ?_ (fun _ => ?_))
      | exact ih0 _ _ _ _ _ _ _ _
      | exact ih1 _ _ _ _ _ _ _ _
      | exact batch_Encode.mono _ _ _
      | exact staddlelaw03_awake.mono _
      | exact LeO.none _
      | refine LeO.ite ?_ ?_
      | refine LeO.bind ?_ (fun _ => ?_)
    · intro y0 y1 y2 y3 y4 y5 y6 y7
      unfold staddlelaw03_BatchNumbers.j1
      repeat' first
      | (with_reducible exact ih0 _ _ _ _ _ _ _ _)
      | (with_reducible exact ih1 _ _ _ _ _ _ _ _)
      | (with_reducible exact batch_Encode.mono _ _ _)
      | (with_reducible exact staddlelaw03_awake.mono _)
      | (with_reducible exact LeO.refl _)
      | (with_reducible exact LeO.none _)
      | (with_reducible refine LeO.ite ?_ ?_)
      | (with_reducible refine LeO.bind ?_ (fun _ => ?_))
      | exact ih0 _ _ _ _ _ _ _ _
      | exact ih1 _ _ _ _ _ _ _ _
      | exact batch_Encode.mono _ _ _
      | exact staddlelaw03_awake.mono _
      | exact LeO.none _
      | refine LeO.ite ?_ ?_
      | refine LeO.bind ?_ (fun _ => ?_)
theorem staddlelaw03_BatchNumbers.mono : ∀ a0 a1 a2 k, LeO (staddlelaw03_BatchNumbers.f k a0 a1 a2) (staddlelaw03_BatchNumbers.f (k + 1) a0 a1 a2) := by
  intro a0 a1 a2 k
  obtain ⟨ih0, ih1⟩ := staddlelaw03_BatchNumbers.mono_l k
  unfold staddlelaw03_BatchNumbers.f
  repeat' first
      | (with_reducible exact ih0 _ _ _ _ _ _ _ _)
      | (with_reducible exact ih1 _ _ _ _ _ _ _ _)
      | (with_reducible exact batch_Encode.mono _ _ _)
      | (with_reducible exact staddlelaw03_awake.mono _)
      | (with_reducible exact LeO.refl _)
      | (with_reducible exact LeO.none _)
      | (with_reducible refine LeO.ite ?_ ?_)
      | (with_reducible refine LeO.bind ?_ (fun _ => ?_))
      | exact ih0 _ _ _ _ _ _ _ _
      | exact ih1 _ _ _ _ _ _ _ _
      | exact batch_Encode.mono _ _ _
      | exact staddlelaw03_awake.mono _
      | exact LeO.none _
      | refine LeO.ite ?_ ?_
      | refine LeO.bind ?_ (fun _ => ?_)
set_option maxHeartbeats 8000000 in
set_option maxRecDepth 100000 in
theorem staddlelaw03_BatchNumbers.calls (k : Nat) (a0 : Int) (a1 : Int) (A2 : Option Addr) (c2 : Nat) (l2 : List (S39)) (r : Bool) (w : World) (hr2 : Kd.C k39 w A2 l2.length l2) (hc2 : l2.length ≤ c2) (h : staddlelaw03_BatchNumbers.f k a0 a1 l2 = some r) :
    Calls Try.prog 8 #[.int .u64 a0, .int .u64 a1, .slice A2 l2.length c2] w fun e w' => e = .returned (.bool r) ∧ Below w.heap.size w w' := by
  have HR2 := Aside0.mk hr2
  have HC2 := Aside0.mk hc2
  clear hr2 hc2
  have HB := Aside0.mk (Below.refl w.heap.size w)
  have H : ((staddlelaw03_awake.f k).bind fun t413 => ((batch_Encode.f k a0 l2).bind fun bt414 => ((batch_Encode.f k a1 l2).bind fun bt418 => ((batch_Encode.f k 0 l2).bind fun bt422 => (if bt422.2 = 0 then (if (IntKind.u64.wrap ((l2.length : Int))) > 0 then (staddlelaw03_BatchNumbers.j0 k a0 a1 t413 bt414.1 bt414.2 bt418.1 bt418.2 (IntKind.u64.wrap ((IntKind.u64.wrap ((l2.length : Int))) - 1))) else (staddlelaw03_BatchNumbers.j0 k a0 a1 t413 bt414.1 bt414.2 bt418.1 bt418.2 (IntKind.u64.wrap ((l2.length : Int))))) else (if t413 = true then (if bt414.2 = 0 then (some false) else (some (bt418.2 != 0))) else (some false))))))) = some r := h
  clear h
  replace H := Option.bind_eq_some_iff.mp H
  obtain ⟨t413, A40, H⟩ := H
  replace H : ((batch_Encode.f k a0 l2).bind fun bt414 => ((batch_Encode.f k a1 l2).bind fun bt418 => ((batch_Encode.f k 0 l2).bind fun bt422 => (if bt422.2 = 0 then (if (IntKind.u64.wrap ((l2.length : Int))) > 0 then (staddlelaw03_BatchNumbers.j0 k a0 a1 t413 bt414.1 bt414.2 bt418.1 bt418.2 (IntKind.u64.wrap ((IntKind.u64.wrap ((l2.length : Int))) - 1))) else (staddlelaw03_BatchNumbers.j0 k a0 a1 t413 bt414.1 bt414.2 bt418.1 bt418.2 (IntKind.u64.wrap ((l2.length : Int))))) else (if t413 = true then (if bt414.2 = 0 then (some false) else (some (bt418.2 != 0))) else (some false)))))) = some r := H
  have A4 := Aside0.mk A40
  clear A40
  replace H := Option.bind_eq_some_iff.mp H
  obtain ⟨⟨t414, t415⟩, A50, H⟩ := H
  replace H : ((batch_Encode.f k a1 l2).bind fun bt418 => ((batch_Encode.f k 0 l2).bind fun bt422 => (if bt422.2 = 0 then (if (IntKind.u64.wrap ((l2.length : Int))) > 0 then (staddlelaw03_BatchNumbers.j0 k a0 a1 t413 t414 t415 bt418.1 bt418.2 (IntKind.u64.wrap ((IntKind.u64.wrap ((l2.length : Int))) - 1))) else (staddlelaw03_BatchNumbers.j0 k a0 a1 t413 t414 t415 bt418.1 bt418.2 (IntKind.u64.wrap ((l2.length : Int))))) else (if t413 = true then (if t415 = 0 then (some false) else (some (bt418.2 != 0))) else (some false))))) = some r := H
  have A5 := Aside0.mk A50
  clear A50
  replace H := Option.bind_eq_some_iff.mp H
  obtain ⟨⟨t418, t419⟩, A60, H⟩ := H
  replace H : ((batch_Encode.f k 0 l2).bind fun bt422 => (if bt422.2 = 0 then (if (IntKind.u64.wrap ((l2.length : Int))) > 0 then (staddlelaw03_BatchNumbers.j0 k a0 a1 t413 t414 t415 t418 t419 (IntKind.u64.wrap ((IntKind.u64.wrap ((l2.length : Int))) - 1))) else (staddlelaw03_BatchNumbers.j0 k a0 a1 t413 t414 t415 t418 t419 (IntKind.u64.wrap ((l2.length : Int))))) else (if t413 = true then (if t415 = 0 then (some false) else (some (t419 != 0))) else (some false)))) = some r := H
  have A6 := Aside0.mk A60
  clear A60
  replace H := Option.bind_eq_some_iff.mp H
  obtain ⟨⟨t422, t423⟩, A70, H⟩ := H
  replace H : (if t423 = 0 then (if (IntKind.u64.wrap ((l2.length : Int))) > 0 then (staddlelaw03_BatchNumbers.j0 k a0 a1 t413 t414 t415 t418 t419 (IntKind.u64.wrap ((IntKind.u64.wrap ((l2.length : Int))) - 1))) else (staddlelaw03_BatchNumbers.j0 k a0 a1 t413 t414 t415 t418 t419 (IntKind.u64.wrap ((l2.length : Int))))) else (if t413 = true then (if t415 = 0 then (some false) else (some (t419 != 0))) else (some false))) = some r := H
  have A7 := Aside0.mk A70
  clear A70
  by_cases c8 : t423 = 0
  · rw [if_pos c8] at H
    have c8b0 : (t423 == 0) = true := beq_iff_eq.mpr c8
    have c8b1 : (t423 != 0) = false := bne_eq_false_iff_eq.mpr c8
    clear c8
    have HC9 := Aside0.mk H
    clear H
    go_enter Try.func8, Try.ntmps8
    go_upto_if 49 with (first | (go_at_call 9; (with_reducible refine (staddlelaw03_awake.calls k  t413 _ A4.out).mono ?_); rintro e w10 ⟨rfl, hb⟩; have n0_ := Aside0.mk (below_step (by repeat (first | (with_reducible first | exact HB.out | apply below_alloc | apply pw_below_drewN | apply below_drew1) | exact HB.out)) hb); clear HB; have HB := n0_; clear n0_; (try clear hb); (try clear hb2); (try clear hk); (try clear hi)) | (go_at_call 10; (with_reducible refine (batch_Encode.calls k a0 _ _ l2 t414 t415 _ ?side1 ?side2 A5.out).mono ?_); (case side1 => repeat (first | exact (Kd.C_below HR2.out HB.out) | (with_reducible refine Kd.C_alloc ?_ _) | (with_reducible refine Kd.C_drewN ?_ _) | (with_reducible refine Kd.C_drew ?_))); (case side2 => exact HC2.out); rintro e w11 ⟨v416, rfl, ho0, hb⟩; have n0_ := Aside0.mk (Kd.R_lower ho0 (below_size (by repeat (first | (with_reducible first | exact HB.out | apply below_alloc | apply pw_below_drewN | apply below_drew1) | exact HB.out)))); have n1_ := Aside0.mk (below_step (by repeat (first | (with_reducible first | exact HB.out | apply below_alloc | apply pw_below_drewN | apply below_drew1) | exact HB.out)) hb); clear HB; have HO417 := n0_; have HB := n1_; clear n0_ n1_; (try clear hb); (try clear hb2); (try clear hk); (try clear hi); (try clear ho0)) | (go_at_call 10; (with_reducible refine (batch_Encode.calls k a1 _ _ l2 t418 t419 _ ?side1 ?side2 A6.out).mono ?_); (case side1 => repeat (first | exact (Kd.C_below HR2.out HB.out) | (with_reducible refine Kd.C_alloc ?_ _) | (with_reducible refine Kd.C_drewN ?_ _) | (with_reducible refine Kd.C_drew ?_))); (case side2 => exact HC2.out); rintro e w12 ⟨v420, rfl, ho0, hb⟩; have n0_ := Aside0.mk (Kd.R_elder' (by (with_reducible repeat (first | apply Kd.R_alloc | apply Kd.R_drewN | apply Kd.R_drew)); exact HO417.out) (Kd.R_base ho0) hb); have n1_ := Aside0.mk (Kd.R_lower (Kd.R_new' ho0 (Kd.R_lt (by (with_reducible repeat (first | apply Kd.R_alloc | apply Kd.R_drewN | apply Kd.R_drew)); exact HO417.out))) (below_size (by repeat (first | (with_reducible first | exact HB.out | apply below_alloc | apply pw_below_drewN | apply below_drew1) | exact HB.out)))); have n2_ := Aside0.mk (below_step (by repeat (first | (with_reducible first | exact HB.out | apply below_alloc | apply pw_below_drewN | apply below_drew1) | exact HB.out)) hb); clear HO417; clear HB; have HO417 := n0_; have HO421 := n1_; have HB := n2_; clear n0_ n1_ n2_; (try clear hb); (try clear hb2); (try clear hk); (try clear hi); (try clear ho0)) | (go_at_call 10; (with_reducible refine (batch_Encode.calls k 0 _ _ l2 t422 t423 _ ?side1 ?side2 A7.out).mono ?_); (case side1 => repeat (first | exact (Kd.C_below HR2.out HB.out) | (with_reducible refine Kd.C_alloc ?_ _) | (with_reducible refine Kd.C_drewN ?_ _) | (with_reducible refine Kd.C_drew ?_))); (case side2 => exact HC2.out); rintro e w13 ⟨v424, rfl, ho0, hb⟩; have n0_ := Aside0.mk (Kd.R_elder' (by (with_reducible repeat (first | apply Kd.R_alloc | apply Kd.R_drewN | apply Kd.R_drew)); exact HO417.out) (Kd.R_base ho0) hb); have n1_ := Aside0.mk (Kd.R_elder' (by (with_reducible repeat (first | apply Kd.R_alloc | apply Kd.R_drewN | apply Kd.R_drew)); exact HO421.out) (Kd.R_base ho0) hb); have n2_ := Aside0.mk (Kd.R_lower (Kd.R_new' (Kd.R_new' ho0 (Kd.R_lt (by (with_reducible repeat (first | apply Kd.R_alloc | apply Kd.R_drewN | apply Kd.R_drew)); exact HO417.out))) (Kd.R_lt (by (with_reducible repeat (first | apply Kd.R_alloc | apply Kd.R_drewN | apply Kd.R_drew)); exact HO421.out))) (below_size (by repeat (first | (with_reducible first | exact HB.out | apply below_alloc | apply pw_below_drewN | apply below_drew1) | exact HB.out)))); have n3_ := Aside0.mk (below_step (by repeat (first | (with_reducible first | exact HB.out | apply below_alloc | apply pw_below_drewN | apply below_drew1) | exact HB.out)) hb); clear HO417; clear HO421; clear HB; have HO417 := n0_; have HO421 := n1_; have HO425 := n2_; have HB := n3_; clear n0_ n1_ n2_ n3_; (try clear hb); (try clear hb2); (try clear hk); (try clear hi); (try clear ho0)))
    repeat (go_quiet (first | (go_at_call 9; (with_reducible refine (staddlelaw03_awake.calls k  t413 _ A4.out).mono ?_); rintro e w10 ⟨rfl, hb⟩; have n0_ := Aside0.mk (below_step (by repeat (first | (with_reducible first | exact HB.out | apply below_alloc | apply pw_below_drewN | apply below_drew1) | exact HB.out)) hb); clear HB; have HB := n0_; clear n0_; (try clear hb); (try clear hb2); (try clear hk); (try clear hi)) | (go_at_call 10; (with_reducible refine (batch_Encode.calls k a0 _ _ l2 t414 t415 _ ?side1 ?side2 A5.out).mono ?_); (case side1 => repeat (first | exact (Kd.C_below HR2.out HB.out) | (with_reducible refine Kd.C_alloc ?_ _) | (with_reducible refine Kd.C_drewN ?_ _) | (with_reducible refine Kd.C_drew ?_))); (case side2 => exact HC2.out); rintro e w11 ⟨v416, rfl, ho0, hb⟩; have n0_ := Aside0.mk (Kd.R_lower ho0 (below_size (by repeat (first | (with_reducible first | exact HB.out | apply below_alloc | apply pw_below_drewN | apply below_drew1) | exact HB.out)))); have n1_ := Aside0.mk (below_step (by repeat (first | (with_reducible first | exact HB.out | apply below_alloc | apply pw_below_drewN | apply below_drew1) | exact HB.out)) hb); clear HB; have HO417 := n0_; have HB := n1_; clear n0_ n1_; (try clear hb); (try clear hb2); (try clear hk); (try clear hi); (try clear ho0)) | (go_at_call 10; (with_reducible refine (batch_Encode.calls k a1 _ _ l2 t418 t419 _ ?side1 ?side2 A6.out).mono ?_); (case side1 => repeat (first | exact (Kd.C_below HR2.out HB.out) | (with_reducible refine Kd.C_alloc ?_ _) | (with_reducible refine Kd.C_drewN ?_ _) | (with_reducible refine Kd.C_drew ?_))); (case side2 => exact HC2.out); rintro e w12 ⟨v420, rfl, ho0, hb⟩; have n0_ := Aside0.mk (Kd.R_elder' (by (with_reducible repeat (first | apply Kd.R_alloc | apply Kd.R_drewN | apply Kd.R_drew)); exact HO417.out) (Kd.R_base ho0) hb); have n1_ := Aside0.mk (Kd.R_lower (Kd.R_new' ho0 (Kd.R_lt (by (with_reducible repeat (first | apply Kd.R_alloc | apply Kd.R_drewN | apply Kd.R_drew)); exact HO417.out))) (below_size (by repeat (first | (with_reducible first | exact HB.out | apply below_alloc | apply pw_below_drewN | apply below_drew1) | exact HB.out)))); have n2_ := Aside0.mk (below_step (by repeat (first | (with_reducible first | exact HB.out | apply below_alloc | apply pw_below_drewN | apply below_drew1) | exact HB.out)) hb); clear HO417; clear HB; have HO417 := n0_; have HO421 := n1_; have HB := n2_; clear n0_ n1_ n2_; (try clear hb); (try clear hb2); (try clear hk); (try clear hi); (try clear ho0)) | (go_at_call 10; (with_reducible refine (batch_Encode.calls k 0 _ _ l2 t422 t423 _ ?side1 ?side2 A7.out).mono ?_); (case side1 => repeat (first | exact (Kd.C_below HR2.out HB.out) | (with_reducible refine Kd.C_alloc ?_ _) | (with_reducible refine Kd.C_drewN ?_ _) | (with_reducible refine Kd.C_drew ?_))); (case side2 => exact HC2.out); rintro e w13 ⟨v424, rfl, ho0, hb⟩; have n0_ := Aside0.mk (Kd.R_elder' (by (with_reducible repeat (first | apply Kd.R_alloc | apply Kd.R_drewN | apply Kd.R_drew)); exact HO417.out) (Kd.R_base ho0) hb); have n1_ := Aside0.mk (Kd.R_elder' (by (with_reducible repeat (first | apply Kd.R_alloc | apply Kd.R_drewN | apply Kd.R_drew)); exact HO421.out) (Kd.R_base ho0) hb); have n2_ := Aside0.mk (Kd.R_lower (Kd.R_new' (Kd.R_new' ho0 (Kd.R_lt (by (with_reducible repeat (first | apply Kd.R_alloc | apply Kd.R_drewN | apply Kd.R_drew)); exact HO417.out))) (Kd.R_lt (by (with_reducible repeat (first | apply Kd.R_alloc | apply Kd.R_drewN | apply Kd.R_drew)); exact HO421.out))) (below_size (by repeat (first | (with_reducible first | exact HB.out | apply below_alloc | apply pw_below_drewN | apply below_drew1) | exact HB.out)))); have n3_ := Aside0.mk (below_step (by repeat (first | (with_reducible first | exact HB.out | apply below_alloc | apply pw_below_drewN | apply below_drew1) | exact HB.out)) hb); clear HO417; clear HO421; clear HB; have HO417 := n0_; have HO421 := n1_; have HO425 := n2_; have HB := n3_; clear n0_ n1_ n2_ n3_; (try clear hb); (try clear hb2); (try clear hk); (try clear hi); (try clear ho0))); go_upto_if 49 with (first | (go_at_call 9; (with_reducible refine (staddlelaw03_awake.calls k  t413 _ A4.out).mono ?_); rintro e w10 ⟨rfl, hb⟩; have n0_ := Aside0.mk (below_step (by repeat (first | (with_reducible first | exact HB.out | apply below_alloc | apply pw_below_drewN | apply below_drew1) | exact HB.out)) hb); clear HB; have HB := n0_; clear n0_; (try clear hb); (try clear hb2); (try clear hk); (try clear hi)) | (go_at_call 10; (with_reducible refine (batch_Encode.calls k a0 _ _ l2 t414 t415 _ ?side1 ?side2 A5.out).mono ?_); (case side1 => repeat (first | exact (Kd.C_below HR2.out HB.out) | (with_reducible refine Kd.C_alloc ?_ _) | (with_reducible refine Kd.C_drewN ?_ _) | (with_reducible refine Kd.C_drew ?_))); (case side2 => exact HC2.out); rintro e w11 ⟨v416, rfl, ho0, hb⟩; have n0_ := Aside0.mk (Kd.R_lower ho0 (below_size (by repeat (first | (with_reducible first | exact HB.out | apply below_alloc | apply pw_below_drewN | apply below_drew1) | exact HB.out)))); have n1_ := Aside0.mk (below_step (by repeat (first | (with_reducible first | exact HB.out | apply below_alloc | apply pw_below_drewN | apply below_drew1) | exact HB.out)) hb); clear HB; have HO417 := n0_; have HB := n1_; clear n0_ n1_; (try clear hb); (try clear hb2); (try clear hk); (try clear hi); (try clear ho0)) | (go_at_call 10; (with_reducible refine (batch_Encode.calls k a1 _ _ l2 t418 t419 _ ?side1 ?side2 A6.out).mono ?_); (case side1 => repeat (first | exact (Kd.C_below HR2.out HB.out) | (with_reducible refine Kd.C_alloc ?_ _) | (with_reducible refine Kd.C_drewN ?_ _) | (with_reducible refine Kd.C_drew ?_))); (case side2 => exact HC2.out); rintro e w12 ⟨v420, rfl, ho0, hb⟩; have n0_ := Aside0.mk (Kd.R_elder' (by (with_reducible repeat (first | apply Kd.R_alloc | apply Kd.R_drewN | apply Kd.R_drew)); exact HO417.out) (Kd.R_base ho0) hb); have n1_ := Aside0.mk (Kd.R_lower (Kd.R_new' ho0 (Kd.R_lt (by (with_reducible repeat (first | apply Kd.R_alloc | apply Kd.R_drewN | apply Kd.R_drew)); exact HO417.out))) (below_size (by repeat (first | (with_reducible first | exact HB.out | apply below_alloc | apply pw_below_drewN | apply below_drew1) | exact HB.out)))); have n2_ := Aside0.mk (below_step (by repeat (first | (with_reducible first | exact HB.out | apply below_alloc | apply pw_below_drewN | apply below_drew1) | exact HB.out)) hb); clear HO417; clear HB; have HO417 := n0_; have HO421 := n1_; have HB := n2_; clear n0_ n1_ n2_; (try clear hb); (try clear hb2); (try clear hk); (try clear hi); (try clear ho0)) | (go_at_call 10; (with_reducible refine (batch_Encode.calls k 0 _ _ l2 t422 t423 _ ?side1 ?side2 A7.out).mono ?_); (case side1 => repeat (first | exact (Kd.C_below HR2.out HB.out) | (with_reducible refine Kd.C_alloc ?_ _) | (with_reducible refine Kd.C_drewN ?_ _) | (with_reducible refine Kd.C_drew ?_))); (case side2 => exact HC2.out); rintro e w13 ⟨v424, rfl, ho0, hb⟩; have n0_ := Aside0.mk (Kd.R_elder' (by (with_reducible repeat (first | apply Kd.R_alloc | apply Kd.R_drewN | apply Kd.R_drew)); exact HO417.out) (Kd.R_base ho0) hb); have n1_ := Aside0.mk (Kd.R_elder' (by (with_reducible repeat (first | apply Kd.R_alloc | apply Kd.R_drewN | apply Kd.R_drew)); exact HO421.out) (Kd.R_base ho0) hb); have n2_ := Aside0.mk (Kd.R_lower (Kd.R_new' (Kd.R_new' ho0 (Kd.R_lt (by (with_reducible repeat (first | apply Kd.R_alloc | apply Kd.R_drewN | apply Kd.R_drew)); exact HO417.out))) (Kd.R_lt (by (with_reducible repeat (first | apply Kd.R_alloc | apply Kd.R_drewN | apply Kd.R_drew)); exact HO421.out))) (below_size (by repeat (first | (with_reducible first | exact HB.out | apply below_alloc | apply pw_below_drewN | apply below_drew1) | exact HB.out)))); have n3_ := Aside0.mk (below_step (by repeat (first | (with_reducible first | exact HB.out | apply below_alloc | apply pw_below_drewN | apply below_drew1) | exact HB.out)) hb); clear HO417; clear HO421; clear HB; have HO417 := n0_; have HO421 := n1_; have HO425 := n2_; have HB := n3_; clear n0_ n1_ n2_ n3_; (try clear hb); (try clear hb2); (try clear hk); (try clear hi); (try clear ho0))))
    (try simp only [Act.put, List.setIfInBounds_toArray, List.set_cons_zero, List.set_cons_succ])
    go_cut [14] (fun v14 wc => ∃ (kq : Nat) (x14_8 : Int), v14 = .int .u64 x14_8 ∧ Aside0 (staddlelaw03_BatchNumbers.j0 kq a0 a1 t413 t414 t415 t418 t419 x14_8 = some r) ∧ Aside0 (kq ≤ k) ∧ Aside0 (Kd.R (Kd.int .u8) 5 wc w.heap.size (fun k_ => some k_ ≠ (v420 : Value).ownBlock) v416 t414) ∧ Aside0 (Kd.R (Kd.int .u8) 5 wc w.heap.size (fun k_ => some k_ ≠ (v416 : Value).ownBlock) v420 t418) ∧ Aside0 (Below w.heap.size w wc))
    case first =>
      have H := HC9.out
      clear HC9
      by_cases c14 : (IntKind.u64.wrap ((l2.length : Int))) > 0
      · rw [if_pos c14] at H
        have c14b0 : decide (0 < (IntKind.u64.wrap ((l2.length : Int)))) = true := decide_eq_true c14
        clear c14
        (first | rw [c14b0] | (simp only [i64_w, i32_w]; rw [c14b0]) | skip)
        have H' := Aside0.mk H
        clear H
        go_wp2
        repeat (go_quiet (fail); try go_wp2)
        go_meet
        case rel => exact ⟨_, (IntKind.u64.wrap ((IntKind.u64.wrap ((l2.length : Int))) - 1)), (by first | rfl | (simp; done) | (simp [*]; done) | (simp; omega)), H', ⟨by first | omega | exact Nat.le_refl _⟩, ⟨by (with_reducible repeat (first | apply Kd.R_alloc | apply Kd.R_drewN | apply Kd.R_drew)); exact Kd.R_mono HO417.out (fun _ hk => hk.1.2)⟩, ⟨by (with_reducible repeat (first | apply Kd.R_alloc | apply Kd.R_drewN | apply Kd.R_drew)); exact Kd.R_mono HO421.out (fun _ hk => hk.1.2)⟩, ⟨by repeat (first | (with_reducible first | exact HB.out | apply below_alloc | apply pw_below_drewN | apply below_drew1) | exact HB.out)⟩⟩
      · rw [if_neg c14] at H
        have c14b0 : decide (0 < (IntKind.u64.wrap ((l2.length : Int)))) = false := decide_eq_false c14
        clear c14
        (first | rw [c14b0] | (simp only [i64_w, i32_w]; rw [c14b0]) | skip)
        have H' := Aside0.mk H
        clear H
        go_wp2
        repeat (go_quiet (fail); try go_wp2)
        go_meet
        case rel => exact ⟨_, (IntKind.u64.wrap ((l2.length : Int))), (by first | rfl | (simp; done) | (simp [*]; done) | (simp; omega)), H', ⟨by first | omega | exact Nat.le_refl _⟩, ⟨by (with_reducible repeat (first | apply Kd.R_alloc | apply Kd.R_drewN | apply Kd.R_drew)); exact Kd.R_mono HO417.out (fun _ hk => hk.1.2)⟩, ⟨by (with_reducible repeat (first | apply Kd.R_alloc | apply Kd.R_drewN | apply Kd.R_drew)); exact Kd.R_mono HO421.out (fun _ hk => hk.1.2)⟩, ⟨by repeat (first | (with_reducible first | exact HB.out | apply below_alloc | apply pw_below_drewN | apply below_drew1) | exact HB.out)⟩⟩
    case rest =>
      clear HC9
      try clear c1
      try clear c2
      try clear p2
      try clear c8
      try clear c8b0
      try clear c8b1
      try clear c14
      try clear c14b0
      obtain ⟨kq, x14_8, rfl, HA, HJ8, HO_8, HO_10, HB⟩ := hcut
      cases kq with
      | zero => exact absurd HA.out (by simp [staddlelaw03_BatchNumbers.j0])
      | succ kj8 =>
        have H := HA.out
        clear HA
        simp only [staddlelaw03_BatchNumbers.j0] at H
        have HC15 := Aside0.mk H
        clear H
        go_upto_region 11 with (fail)
        repeat (go_quiet (fail); go_upto_region 11 with (fail))
        go_cut [67] (fun v67 wc => ∃ (kq : Nat) (x67_14 : Bool), v67 = .bool x67_14 ∧ Aside0 (staddlelaw03_BatchNumbers.j1 kq a0 a1 t413 t414 t415 t418 t419 x67_14 = some r) ∧ Aside0 (kq ≤ kj8) ∧ Aside0 (Kd.R (Kd.int .u8) 5 wc w.heap.size (fun k_ => some k_ ≠ (v420 : Value).ownBlock) v416 t414) ∧ Aside0 (Kd.R (Kd.int .u8) 5 wc w.heap.size (fun k_ => some k_ ≠ (v416 : Value).ownBlock) v420 t418) ∧ Aside0 (Below w.heap.size w wc))
        case first =>
          have H := HC15.out
          clear HC15
          by_cases c16 : ((t415 == 0) != (decide (a0 ≤ (IntKind.u64.wrap (72057594037927935 - x14_8))))) = true
          · rw [if_pos c16] at H
            have c16b0 : ((t415 == 0) != (decide (a0 ≤ (IntKind.u64.wrap (72057594037927935 - x14_8))))) = true := c16
            (try (have c16b1 : decide ((t415 == 0) = (decide (a0 ≤ (IntKind.u64.wrap (72057594037927935 - x14_8))))) = false := by simpa using c16))
            (try (have c16b2 : ((t415 == 0) == (decide (a0 ≤ (IntKind.u64.wrap (72057594037927935 - x14_8))))) = false := by simpa using c16))
            (try (have c16b3 : ¬ ((t415 == 0) = (decide (a0 ≤ (IntKind.u64.wrap (72057594037927935 - x14_8))))) := by simpa using c16))
            clear c16
            (first | rw [c16b0] | (simp only [i64_w, i32_w]; rw [c16b0]) | skip)
            have H' := Aside0.mk H
            clear H
            go_wp2
            repeat (go_quiet (fail); try go_wp2)
            go_meet
            case rel => exact ⟨_, (true), (by first | rfl | (simp; done) | (simp [*]; done) | (simp; omega)), H', ⟨by have := HJ8.out; first | omega | exact Nat.le_refl _⟩, ⟨by (with_reducible repeat (first | apply Kd.R_alloc | apply Kd.R_drewN | apply Kd.R_drew)); exact HO_8.out⟩, ⟨by (with_reducible repeat (first | apply Kd.R_alloc | apply Kd.R_drewN | apply Kd.R_drew)); exact HO_10.out⟩, ⟨by repeat (first | (with_reducible first | exact HB.out | apply below_alloc | apply pw_below_drewN | apply below_drew1) | exact HB.out)⟩⟩
          · rw [if_neg c16] at H
            have c16b0 : ((t415 == 0) != (decide (a0 ≤ (IntKind.u64.wrap (72057594037927935 - x14_8))))) = false := by simpa using c16
            (try (have c16b1 : decide ((t415 == 0) = (decide (a0 ≤ (IntKind.u64.wrap (72057594037927935 - x14_8))))) = true := by simpa using c16))
            (try (have c16b2 : ((t415 == 0) == (decide (a0 ≤ (IntKind.u64.wrap (72057594037927935 - x14_8))))) = true := by simpa using c16))
            clear c16
            (first | rw [c16b0] | (simp only [i64_w, i32_w]; rw [c16b0]) | skip)
            by_cases c17 : (a0 ≤ (IntKind.u64.wrap (72057594037927935 - x14_8)))
            · rw [if_pos c17] at H
              have c17b0 : decide (a0 ≤ (IntKind.u64.wrap (72057594037927935 - x14_8))) = true := decide_eq_true c17
              clear c17
              have z_ : t415 = 0 := by simpa [c17b0] using c16b0
              generalize decide (a0 ≤ (IntKind.u64.wrap (72057594037927935 - x14_8))) = bb at *
              subst c17b0
              subst z_
              have H' := Aside0.mk H
              clear H
              go_wp2
              repeat (go_quiet (fail); try go_wp2)
              go_meet
              case rel => exact ⟨_, (false), (by first | rfl | (simp; done) | (simp [*]; done) | (simp; omega)), H', ⟨by have := HJ8.out; first | omega | exact Nat.le_refl _⟩, ⟨by (with_reducible repeat (first | apply Kd.R_alloc | apply Kd.R_drewN | apply Kd.R_drew)); exact HO_8.out⟩, ⟨by (with_reducible repeat (first | apply Kd.R_alloc | apply Kd.R_drewN | apply Kd.R_drew)); exact HO_10.out⟩, ⟨by repeat (first | (with_reducible first | exact HB.out | apply below_alloc | apply pw_below_drewN | apply below_drew1) | exact HB.out)⟩⟩
            · rw [if_neg c17] at H
              have c17b0 : decide (a0 ≤ (IntKind.u64.wrap (72057594037927935 - x14_8))) = false := decide_eq_false c17
              clear c17
              have z_ : (t415 == 0) = false := by simpa [c17b0] using c16b0
              generalize decide (a0 ≤ (IntKind.u64.wrap (72057594037927935 - x14_8))) = bb at *
              subst c17b0
              have H' := Aside0.mk H
              clear H
              go_wp2
              repeat (go_quiet (fail); try go_wp2)
              go_meet
              case rel => exact ⟨_, ((t415 != 22)), (by first | rfl | (simp; done) | (simp [*]; done) | (simp; omega)), H', ⟨by have := HJ8.out; first | omega | exact Nat.le_refl _⟩, ⟨by (with_reducible repeat (first | apply Kd.R_alloc | apply Kd.R_drewN | apply Kd.R_drew)); exact HO_8.out⟩, ⟨by (with_reducible repeat (first | apply Kd.R_alloc | apply Kd.R_drewN | apply Kd.R_drew)); exact HO_10.out⟩, ⟨by repeat (first | (with_reducible first | exact HB.out | apply below_alloc | apply pw_below_drewN | apply below_drew1) | exact HB.out)⟩⟩
        case rest =>
          clear HC15
          try clear c1
          try clear c2
          try clear p2
          try clear c8
          try clear c8b0
          try clear c8b1
          try clear c14
          try clear c14b0
          try clear c16
          try clear c16b0
          try clear c16b1
          try clear c16b2
          try clear c17
          try clear c17b0
          try clear p2
          obtain ⟨kq, x67_14, rfl, HA, HJ14, HO_8, HO_10, HB⟩ := hcut
          cases kq with
          | zero => exact absurd HA.out (by simp [staddlelaw03_BatchNumbers.j1])
          | succ kj14 =>
            have H := HA.out
            clear HA
            simp only [staddlelaw03_BatchNumbers.j1] at H
            by_cases c18 : x67_14 = true
            · subst c18
              have H1 : (some false) = some r := by rw [if_pos rfl] at H; exact H
              clear H
              have H := H1
              clear H1
              obtain rfl := Option.some.inj H
              go_wp2
              repeat (go_quiet (fail); try go_wp2)
              go_ret
              exact ⟨by first | rfl | (simp [errW_none, errW_some] <;> rfl) | (simp [*, errW_none, errW_some] <;> rfl), by repeat (first | (with_reducible first | exact HB.out | apply below_alloc | apply pw_below_drewN | apply below_drew1) | exact HB.out)⟩
            · replace c18 := Bool.eq_false_iff.mpr c18
              subst c18
              have H1 : (if t415 = 0 then (if t419 = 0 then (if t413 = true then (if 8 ≤ (t414.length : Int) then (if 8 ≤ (t418.length : Int) then (if (strOfNums (t414.drop 8)).toList = (strOfNums (t418.drop 8)).toList then (some (((strOfNums (t414.take 8)).toList == (strOfNums (t418.take 8)).toList) == (a0 == a1))) else (some false)) else (none)) else (none)) else (some false)) else (some t413)) else (some t413)) = some r := by rw [if_neg (show ¬ (false = true) by decide)] at H; exact H
              clear H
              have H := H1
              clear H1
              by_cases c19 : t415 = 0
              · rw [if_pos c19] at H
                have c19b0 : (t415 == 0) = true := beq_iff_eq.mpr c19
                have c19b1 : (t415 != 0) = false := bne_eq_false_iff_eq.mpr c19
                clear c19
                by_cases c20 : t419 = 0
                · rw [if_pos c20] at H
                  have c20b0 : (t419 == 0) = true := beq_iff_eq.mpr c20
                  have c20b1 : (t419 != 0) = false := bne_eq_false_iff_eq.mpr c20
                  clear c20
                  by_cases c21 : t413 = true
                  · subst c21
                    have H1 : (if 8 ≤ (t414.length : Int) then (if 8 ≤ (t418.length : Int) then (if (strOfNums (t414.drop 8)).toList = (strOfNums (t418.drop 8)).toList then (some (((strOfNums (t414.take 8)).toList == (strOfNums (t418.take 8)).toList) == (a0 == a1))) else (some false)) else (none)) else (none)) = some r := by rw [if_pos rfl] at H; exact H
                    clear H
                    have H := H1
                    clear H1
                    by_cases c22 : 8 ≤ (t414.length : Int)
                    · rw [if_pos c22] at H
                      have c22b0 := eq_true c22
                      have c22b1 : decide (8 ≤ (t414.length : Int)) = true := decide_eq_true c22
                      clear c22
                      obtain ⟨y426, hy426⟩ : ∃ y_ : List Int, y_ = (t414.drop 8) := ⟨_, rfl⟩
                      replace H : (if 8 ≤ (t418.length : Int) then (if (strOfNums y426).toList = (strOfNums (t418.drop 8)).toList then (some (((strOfNums (t414.take 8)).toList == (strOfNums (t418.take 8)).toList) == (a0 == a1))) else (some false)) else (none)) = some r := by first | (rw [hy426]; with_reducible exact H) | (have H2_ := (Option.bind_some _ _).symm.trans H; rw [hy426]; with_reducible exact H2_) | (have H2_ := (Option.bind_some _ _).symm.trans H; with_reducible exact H2_) | with_reducible exact H | (rw [hy426]; exact H) | exact H
                      have Ny426 := Aside0.mk hy426
                      clear hy426
                      by_cases c23 : 8 ≤ (t418.length : Int)
                      · rw [if_pos c23] at H
                        have c23b0 := eq_true c23
                        have c23b1 : decide (8 ≤ (t418.length : Int)) = true := decide_eq_true c23
                        clear c23
                        obtain ⟨y430, hy430⟩ : ∃ y_ : List Int, y_ = (t418.drop 8) := ⟨_, rfl⟩
                        replace H : (if (strOfNums y426).toList = (strOfNums y430).toList then (some (((strOfNums (t414.take 8)).toList == (strOfNums (t418.take 8)).toList) == (a0 == a1))) else (some false)) = some r := by first | (rw [hy430]; with_reducible exact H) | (have H2_ := (Option.bind_some _ _).symm.trans H; rw [hy430]; with_reducible exact H2_) | (have H2_ := (Option.bind_some _ _).symm.trans H; with_reducible exact H2_) | with_reducible exact H | (rw [hy430]; exact H) | exact H
                        have Ny430 := Aside0.mk hy430
                        clear hy430
                        by_cases c24 : (strOfNums y426).toList = (strOfNums y430).toList
                        · rw [if_pos c24] at H
                          have c24b0 : ((strOfNums y426).toList == (strOfNums y430).toList) = true := beq_iff_eq.mpr c24
                          have c24b1 : ((strOfNums y426).toList != (strOfNums y430).toList) = false := bne_eq_false_iff_eq.mpr c24
                          clear c24
                          have c25b0 := eq_true (of_decide_eq_true (by first | (with_reducible assumption) | assumption) : 8 ≤ (t414.length : Int))
                          obtain ⟨y434, hy434⟩ : ∃ y_ : List Int, y_ = (t414.take 8) := ⟨_, rfl⟩
                          replace H : (some (((strOfNums y434).toList == (strOfNums (t418.take 8)).toList) == (a0 == a1))) = some r := by first | (rw [hy434]; with_reducible exact H) | (have H2_ := (Option.bind_some _ _).symm.trans H; rw [hy434]; with_reducible exact H2_) | (have H2_ := (Option.bind_some _ _).symm.trans H; with_reducible exact H2_) | with_reducible exact H | (rw [hy434]; exact H) | exact H
                          have Ny434 := Aside0.mk hy434
                          clear hy434
                          have c26b0 := eq_true (of_decide_eq_true (by first | (with_reducible assumption) | assumption) : 8 ≤ (t418.length : Int))
                          obtain ⟨y438, hy438⟩ : ∃ y_ : List Int, y_ = (t418.take 8) := ⟨_, rfl⟩
                          replace H : (some (((strOfNums y434).toList == (strOfNums y438).toList) == (a0 == a1))) = some r := by first | (rw [hy438]; with_reducible exact H) | (have H2_ := (Option.bind_some _ _).symm.trans H; rw [hy438]; with_reducible exact H2_) | (have H2_ := (Option.bind_some _ _).symm.trans H; with_reducible exact H2_) | with_reducible exact H | (rw [hy438]; exact H) | exact H
                          have Ny438 := Aside0.mk hy438
                          clear hy438
                          obtain rfl := Option.some.inj H
                          obtain ⟨Ao28, co28, eo28⟩ := Kd.R_slice HO_8.out
                          subst eo28
                          have q27 : (8 : Int) ≤ ((t414.length : Int) : Int) := of_decide_eq_true (by first | (with_reducible assumption) | assumption)
                          obtain ⟨i027, hi027, _, hsz27, _⟩ := info_parts info5
                          have hroom27 : t414.length ≤ co28 := (Kd.R_reads' HO_8.out).2.1
                          have hC27 : Kd.C (Kd.int .u8) _ Ao28 t414.length t414 := (Kd.R_reads' HO_8.out).2.2
                          have hcut27 := cut_from (P := Try.prog) 25 5 .i64 Try.underlying25 hi027 1 hsz27 Ao28 t414.length co28 8 (by omega) q27
                          have hr27 := Kd.C_drop (m := (8 : Int).toNat) (c := co28) hC27 (by omega) hroom27
                          obtain ⟨A27, hA27⟩ : ∃ A1, A1 = (if co28 = (8 : Int).toNat then Ao28 else (Ao28 : Option Addr).map (·.add ((8 : Int).toNat * 1))) := ⟨_, rfl⟩
                          obtain ⟨c27, hc27⟩ : ∃ c1, c1 = co28 - (8 : Int).toNat := ⟨_, rfl⟩
                          have hy27 : y426.length = t414.length - (8 : Int).toNat := (by rw [Ny426.out, List.length_drop] <;> omega)
                          rw [show (t414).drop (8 : Int).toNat = y426 from Ny426.out.symm] at hr27
                          replace hr27 : Kd.C (Kd.int .u8) _ A27 y426.length y426 := (by rw [hA27]; exact hr27)
                          rw [← hy27, ← hA27, ← hc27] at hcut27
                          have HR429 := Aside0.mk hr27
                          have HC429 := Aside0.mk (show y426.length ≤ c27 from by rw [hy27, hc27]; exact Nat.sub_le_sub_right hroom27 _)
                          clear hr27 hC27 hroom27 hi027 hsz27 hc27
                          have KY27 := Aside0.mk hy27
                          have KA27 := Aside0.mk hA27
                          clear hy27 hA27
                          have KL27 := Aside0.mk (show 8 ≤ t414.length from by omega)
                          replace q27 := eq_true q27
                          have hcv29 := Kd.C_string (P := Try.prog) (A := A27) (c := c27) Try.underlying25 Try.underlying5 Try.underlying9 (by repeat (first | (with_reducible exact HR429.out) | (with_reducible refine Kd.C_alloc ?_ _) | (with_reducible refine Kd.C_drewN ?_ _) | (with_reducible refine Kd.C_drew ?_) | exact HR429.out))
                          have hcd29 := fun (n_ : Nat) => Kd.C_string (P := Try.prog) (A := A27) (c := c27) Try.underlying25 Try.underlying5 Try.underlying9 (Kd.C_drewN (by repeat (first | (with_reducible exact HR429.out) | (with_reducible refine Kd.C_alloc ?_ _) | (with_reducible refine Kd.C_drewN ?_ _) | (with_reducible refine Kd.C_drew ?_) | exact HR429.out)) n_)
                          obtain ⟨Ao31, co31, eo31⟩ := Kd.R_slice HO_10.out
                          subst eo31
                          have q30 : (8 : Int) ≤ ((t418.length : Int) : Int) := of_decide_eq_true (by first | (with_reducible assumption) | assumption)
                          obtain ⟨i030, hi030, _, hsz30, _⟩ := info_parts info5
                          have hroom30 : t418.length ≤ co31 := (Kd.R_reads' HO_10.out).2.1
                          have hC30 : Kd.C (Kd.int .u8) _ Ao31 t418.length t418 := (Kd.R_reads' HO_10.out).2.2
                          have hcut30 := cut_from (P := Try.prog) 25 5 .i64 Try.underlying25 hi030 1 hsz30 Ao31 t418.length co31 8 (by omega) q30
                          have hr30 := Kd.C_drop (m := (8 : Int).toNat) (c := co31) hC30 (by omega) hroom30
                          obtain ⟨A30, hA30⟩ : ∃ A1, A1 = (if co31 = (8 : Int).toNat then Ao31 else (Ao31 : Option Addr).map (·.add ((8 : Int).toNat * 1))) := ⟨_, rfl⟩
                          obtain ⟨c30, hc30⟩ : ∃ c1, c1 = co31 - (8 : Int).toNat := ⟨_, rfl⟩
                          have hy30 : y430.length = t418.length - (8 : Int).toNat := (by rw [Ny430.out, List.length_drop] <;> omega)
                          rw [show (t418).drop (8 : Int).toNat = y430 from Ny430.out.symm] at hr30
                          replace hr30 : Kd.C (Kd.int .u8) _ A30 y430.length y430 := (by rw [hA30]; exact hr30)
                          rw [← hy30, ← hA30, ← hc30] at hcut30
                          have HR433 := Aside0.mk hr30
                          have HC433 := Aside0.mk (show y430.length ≤ c30 from by rw [hy30, hc30]; exact Nat.sub_le_sub_right hroom30 _)
                          clear hr30 hC30 hroom30 hi030 hsz30 hc30
                          have KY30 := Aside0.mk hy30
                          have KA30 := Aside0.mk hA30
                          clear hy30 hA30
                          have KL30 := Aside0.mk (show 8 ≤ t418.length from by omega)
                          replace q30 := eq_true q30
                          have hcv32 := Kd.C_string (P := Try.prog) (A := A30) (c := c30) Try.underlying25 Try.underlying5 Try.underlying9 (by repeat (first | (with_reducible exact HR433.out) | (with_reducible refine Kd.C_alloc ?_ _) | (with_reducible refine Kd.C_drewN ?_ _) | (with_reducible refine Kd.C_drew ?_) | exact HR433.out))
                          have hcd32 := fun (n_ : Nat) => Kd.C_string (P := Try.prog) (A := A30) (c := c30) Try.underlying25 Try.underlying5 Try.underlying9 (Kd.C_drewN (by repeat (first | (with_reducible exact HR433.out) | (with_reducible refine Kd.C_alloc ?_ _) | (with_reducible refine Kd.C_drewN ?_ _) | (with_reducible refine Kd.C_drew ?_) | exact HR433.out)) n_)
                          have q33 : (8 : Int) ≤ ((t414.length : Int) : Int) := of_decide_eq_true (by first | (with_reducible assumption) | assumption)
                          obtain ⟨i033, hi033, _, hsz33, _⟩ := info_parts info5
                          have hroom33 : t414.length ≤ co28 := (Kd.R_reads' HO_8.out).2.1
                          have hC33 : Kd.C (Kd.int .u8) _ Ao28 t414.length t414 := (Kd.R_reads' HO_8.out).2.2
                          have hcut33 := cut_to (P := Try.prog) 25 5 .i64 Try.underlying25 hi033 Ao28 t414.length co28 8 (by omega) q33 hroom33
                          have hr33 := Kd.C_take (m := 8) hC33 (by omega)
                          have hy33 : y434.length = (8 : Int).toNat := (by rw [Ny434.out, List.length_take]; omega)
                          rw [← Ny434.out] at hr33
                          rw [← hy33] at hcut33
                          have HR437 := Aside0.mk hr33
                          have HC437 := Aside0.mk (show y434.length ≤ co28 from by omega)
                          clear hr33 hC33 hroom33 hi033 hsz33
                          have KY33 := Aside0.mk hy33
                          clear hy33
                          have KL33 := Aside0.mk (show 8 ≤ t414.length from by omega)
                          replace q33 := eq_true q33
                          have hcv34 := Kd.C_string (P := Try.prog) (A := Ao28) (c := co28) Try.underlying25 Try.underlying5 Try.underlying9 (by repeat (first | (with_reducible exact HR437.out) | (with_reducible refine Kd.C_alloc ?_ _) | (with_reducible refine Kd.C_drewN ?_ _) | (with_reducible refine Kd.C_drew ?_) | exact HR437.out))
                          have hcd34 := fun (n_ : Nat) => Kd.C_string (P := Try.prog) (A := Ao28) (c := co28) Try.underlying25 Try.underlying5 Try.underlying9 (Kd.C_drewN (by repeat (first | (with_reducible exact HR437.out) | (with_reducible refine Kd.C_alloc ?_ _) | (with_reducible refine Kd.C_drewN ?_ _) | (with_reducible refine Kd.C_drew ?_) | exact HR437.out)) n_)
                          have q35 : (8 : Int) ≤ ((t418.length : Int) : Int) := of_decide_eq_true (by first | (with_reducible assumption) | assumption)
                          obtain ⟨i035, hi035, _, hsz35, _⟩ := info_parts info5
                          have hroom35 : t418.length ≤ co31 := (Kd.R_reads' HO_10.out).2.1
                          have hC35 : Kd.C (Kd.int .u8) _ Ao31 t418.length t418 := (Kd.R_reads' HO_10.out).2.2
                          have hcut35 := cut_to (P := Try.prog) 25 5 .i64 Try.underlying25 hi035 Ao31 t418.length co31 8 (by omega) q35 hroom35
                          have hr35 := Kd.C_take (m := 8) hC35 (by omega)
                          have hy35 : y438.length = (8 : Int).toNat := (by rw [Ny438.out, List.length_take]; omega)
                          rw [← Ny438.out] at hr35
                          rw [← hy35] at hcut35
                          have HR441 := Aside0.mk hr35
                          have HC441 := Aside0.mk (show y438.length ≤ co31 from by omega)
                          clear hr35 hC35 hroom35 hi035 hsz35
                          have KY35 := Aside0.mk hy35
                          clear hy35
                          have KL35 := Aside0.mk (show 8 ≤ t418.length from by omega)
                          replace q35 := eq_true q35
                          have hcv36 := Kd.C_string (P := Try.prog) (A := Ao31) (c := co31) Try.underlying25 Try.underlying5 Try.underlying9 (by repeat (first | (with_reducible exact HR441.out) | (with_reducible refine Kd.C_alloc ?_ _) | (with_reducible refine Kd.C_drewN ?_ _) | (with_reducible refine Kd.C_drew ?_) | exact HR441.out))
                          have hcd36 := fun (n_ : Nat) => Kd.C_string (P := Try.prog) (A := Ao31) (c := co31) Try.underlying25 Try.underlying5 Try.underlying9 (Kd.C_drewN (by repeat (first | (with_reducible exact HR441.out) | (with_reducible refine Kd.C_alloc ?_ _) | (with_reducible refine Kd.C_drewN ?_ _) | (with_reducible refine Kd.C_drew ?_) | exact HR441.out)) n_)
                          go_wp2
                          repeat (go_quiet (fail); try go_wp2)
                          go_ret
                          exact ⟨by first | rfl | (simp [errW_none, errW_some] <;> rfl) | (simp [*, errW_none, errW_some] <;> rfl), by repeat (first | (with_reducible first | exact HB.out | apply below_alloc | apply pw_below_drewN | apply below_drew1) | exact HB.out)⟩
                        · rw [if_neg c24] at H
                          have c24b0 : ((strOfNums y426).toList == (strOfNums y430).toList) = false := beq_eq_false_iff_ne.mpr c24
                          have c24b1 : ((strOfNums y426).toList != (strOfNums y430).toList) = true := bne_iff_ne.mpr c24
                          obtain rfl := Option.some.inj H
                          obtain ⟨Ao38, co38, eo38⟩ := Kd.R_slice HO_8.out
                          subst eo38
                          have q37 : (8 : Int) ≤ ((t414.length : Int) : Int) := of_decide_eq_true (by first | (with_reducible assumption) | assumption)
                          obtain ⟨i037, hi037, _, hsz37, _⟩ := info_parts info5
                          have hroom37 : t414.length ≤ co38 := (Kd.R_reads' HO_8.out).2.1
                          have hC37 : Kd.C (Kd.int .u8) _ Ao38 t414.length t414 := (Kd.R_reads' HO_8.out).2.2
                          have hcut37 := cut_from (P := Try.prog) 25 5 .i64 Try.underlying25 hi037 1 hsz37 Ao38 t414.length co38 8 (by omega) q37
                          have hr37 := Kd.C_drop (m := (8 : Int).toNat) (c := co38) hC37 (by omega) hroom37
                          obtain ⟨A37, hA37⟩ : ∃ A1, A1 = (if co38 = (8 : Int).toNat then Ao38 else (Ao38 : Option Addr).map (·.add ((8 : Int).toNat * 1))) := ⟨_, rfl⟩
                          obtain ⟨c37, hc37⟩ : ∃ c1, c1 = co38 - (8 : Int).toNat := ⟨_, rfl⟩
                          have hy37 : y426.length = t414.length - (8 : Int).toNat := (by rw [Ny426.out, List.length_drop] <;> omega)
                          rw [show (t414).drop (8 : Int).toNat = y426 from Ny426.out.symm] at hr37
                          replace hr37 : Kd.C (Kd.int .u8) _ A37 y426.length y426 := (by rw [hA37]; exact hr37)
                          rw [← hy37, ← hA37, ← hc37] at hcut37
                          have HR429 := Aside0.mk hr37
                          have HC429 := Aside0.mk (show y426.length ≤ c37 from by rw [hy37, hc37]; exact Nat.sub_le_sub_right hroom37 _)
                          clear hr37 hC37 hroom37 hi037 hsz37 hc37
                          have KY37 := Aside0.mk hy37
                          have KA37 := Aside0.mk hA37
                          clear hy37 hA37
                          have KL37 := Aside0.mk (show 8 ≤ t414.length from by omega)
                          replace q37 := eq_true q37
                          have hcv39 := Kd.C_string (P := Try.prog) (A := A37) (c := c37) Try.underlying25 Try.underlying5 Try.underlying9 (by repeat (first | (with_reducible exact HR429.out) | (with_reducible refine Kd.C_alloc ?_ _) | (with_reducible refine Kd.C_drewN ?_ _) | (with_reducible refine Kd.C_drew ?_) | exact HR429.out))
                          have hcd39 := fun (n_ : Nat) => Kd.C_string (P := Try.prog) (A := A37) (c := c37) Try.underlying25 Try.underlying5 Try.underlying9 (Kd.C_drewN (by repeat (first | (with_reducible exact HR429.out) | (with_reducible refine Kd.C_alloc ?_ _) | (with_reducible refine Kd.C_drewN ?_ _) | (with_reducible refine Kd.C_drew ?_) | exact HR429.out)) n_)
                          obtain ⟨Ao41, co41, eo41⟩ := Kd.R_slice HO_10.out
                          subst eo41
                          have q40 : (8 : Int) ≤ ((t418.length : Int) : Int) := of_decide_eq_true (by first | (with_reducible assumption) | assumption)
                          obtain ⟨i040, hi040, _, hsz40, _⟩ := info_parts info5
                          have hroom40 : t418.length ≤ co41 := (Kd.R_reads' HO_10.out).2.1
                          have hC40 : Kd.C (Kd.int .u8) _ Ao41 t418.length t418 := (Kd.R_reads' HO_10.out).2.2
                          have hcut40 := cut_from (P := Try.prog) 25 5 .i64 Try.underlying25 hi040 1 hsz40 Ao41 t418.length co41 8 (by omega) q40
                          have hr40 := Kd.C_drop (m := (8 : Int).toNat) (c := co41) hC40 (by omega) hroom40
                          obtain ⟨A40, hA40⟩ : ∃ A1, A1 = (if co41 = (8 : Int).toNat then Ao41 else (Ao41 : Option Addr).map (·.add ((8 : Int).toNat * 1))) := ⟨_, rfl⟩
                          obtain ⟨c40, hc40⟩ : ∃ c1, c1 = co41 - (8 : Int).toNat := ⟨_, rfl⟩
                          have hy40 : y430.length = t418.length - (8 : Int).toNat := (by rw [Ny430.out, List.length_drop] <;> omega)
                          rw [show (t418).drop (8 : Int).toNat = y430 from Ny430.out.symm] at hr40
                          replace hr40 : Kd.C (Kd.int .u8) _ A40 y430.length y430 := (by rw [hA40]; exact hr40)
                          rw [← hy40, ← hA40, ← hc40] at hcut40
                          have HR433 := Aside0.mk hr40
                          have HC433 := Aside0.mk (show y430.length ≤ c40 from by rw [hy40, hc40]; exact Nat.sub_le_sub_right hroom40 _)
                          clear hr40 hC40 hroom40 hi040 hsz40 hc40
                          have KY40 := Aside0.mk hy40
                          have KA40 := Aside0.mk hA40
                          clear hy40 hA40
                          have KL40 := Aside0.mk (show 8 ≤ t418.length from by omega)
                          replace q40 := eq_true q40
                          have hcv42 := Kd.C_string (P := Try.prog) (A := A40) (c := c40) Try.underlying25 Try.underlying5 Try.underlying9 (by repeat (first | (with_reducible exact HR433.out) | (with_reducible refine Kd.C_alloc ?_ _) | (with_reducible refine Kd.C_drewN ?_ _) | (with_reducible refine Kd.C_drew ?_) | exact HR433.out))
                          have hcd42 := fun (n_ : Nat) => Kd.C_string (P := Try.prog) (A := A40) (c := c40) Try.underlying25 Try.underlying5 Try.underlying9 (Kd.C_drewN (by repeat (first | (with_reducible exact HR433.out) | (with_reducible refine Kd.C_alloc ?_ _) | (with_reducible refine Kd.C_drewN ?_ _) | (with_reducible refine Kd.C_drew ?_) | exact HR433.out)) n_)
                          go_wp2
                          repeat (go_quiet (fail); try go_wp2)
                          go_ret
                          exact ⟨by first | rfl | (simp [errW_none, errW_some] <;> rfl) | (simp [*, errW_none, errW_some] <;> rfl), by repeat (first | (with_reducible first | exact HB.out | apply below_alloc | apply pw_below_drewN | apply below_drew1) | exact HB.out)⟩
                      · rw [if_neg c23] at H
                        exact absurd H (by simp)
                    · rw [if_neg c22] at H
                      exact absurd H (by simp)
                  · replace c21 := Bool.eq_false_iff.mpr c21
                    subst c21
                    have H1 : (some false) = some r := by rw [if_neg (show ¬ (false = true) by decide)] at H; exact H
                    clear H
                    have H := H1
                    clear H1
                    obtain rfl := Option.some.inj H
                    go_wp2
                    repeat (go_quiet (fail); try go_wp2)
                    go_ret
                    exact ⟨by first | rfl | (simp [errW_none, errW_some] <;> rfl) | (simp [*, errW_none, errW_some] <;> rfl), by repeat (first | (with_reducible first | exact HB.out | apply below_alloc | apply pw_below_drewN | apply below_drew1) | exact HB.out)⟩
                · rw [if_neg c20] at H
                  have c20b0 : (t419 == 0) = false := beq_eq_false_iff_ne.mpr c20
                  have c20b1 : (t419 != 0) = true := bne_iff_ne.mpr c20
                  obtain rfl := Option.some.inj H
                  go_wp2
                  repeat (go_quiet (fail); try go_wp2)
                  go_ret
                  exact ⟨by first | rfl | (simp [errW_none, errW_some] <;> rfl) | (simp [*, errW_none, errW_some] <;> rfl), by repeat (first | (with_reducible first | exact HB.out | apply below_alloc | apply pw_below_drewN | apply below_drew1) | exact HB.out)⟩
              · rw [if_neg c19] at H
                have c19b0 : (t415 == 0) = false := beq_eq_false_iff_ne.mpr c19
                have c19b1 : (t415 != 0) = true := bne_iff_ne.mpr c19
                obtain rfl := Option.some.inj H
                go_wp2
                repeat (go_quiet (fail); try go_wp2)
                go_ret
                exact ⟨by first | rfl | (simp [errW_none, errW_some] <;> rfl) | (simp [*, errW_none, errW_some] <;> rfl), by repeat (first | (with_reducible first | exact HB.out | apply below_alloc | apply pw_below_drewN | apply below_drew1) | exact HB.out)⟩
  · rw [if_neg c8] at H
    have c8b0 : (t423 == 0) = false := beq_eq_false_iff_ne.mpr c8
    have c8b1 : (t423 != 0) = true := bne_iff_ne.mpr c8
    by_cases c43 : t413 = true
    · subst c43
      have H1 : (if t415 = 0 then (some false) else (some (t419 != 0))) = some r := by rw [if_pos rfl] at H; exact H
      clear H
      have H := H1
      clear H1
      by_cases c44 : t415 = 0
      · rw [if_pos c44] at H
        have c44b0 : (t415 == 0) = true := beq_iff_eq.mpr c44
        have c44b1 : (t415 != 0) = false := bne_eq_false_iff_eq.mpr c44
        clear c44
        obtain rfl := Option.some.inj H
        go_enter Try.func8, Try.ntmps8
        go_wp2_with (first | (go_at_call 9; (with_reducible refine (staddlelaw03_awake.calls k  true _ A4.out).mono ?_); rintro e w45 ⟨rfl, hb⟩; have n0_ := Aside0.mk (below_step (by repeat (first | (with_reducible first | exact HB.out | apply below_alloc | apply pw_below_drewN | apply below_drew1) | exact HB.out)) hb); clear HB; have HB := n0_; clear n0_; (try clear hb); (try clear hb2); (try clear hk); (try clear hi)) | (go_at_call 10; (with_reducible refine (batch_Encode.calls k a0 _ _ l2 t414 t415 _ ?side1 ?side2 A5.out).mono ?_); (case side1 => repeat (first | exact (Kd.C_below HR2.out HB.out) | (with_reducible refine Kd.C_alloc ?_ _) | (with_reducible refine Kd.C_drewN ?_ _) | (with_reducible refine Kd.C_drew ?_))); (case side2 => exact HC2.out); rintro e w46 ⟨v416, rfl, ho0, hb⟩; have n0_ := Aside0.mk (Kd.R_lower ho0 (below_size (by repeat (first | (with_reducible first | exact HB.out | apply below_alloc | apply pw_below_drewN | apply below_drew1) | exact HB.out)))); have n1_ := Aside0.mk (below_step (by repeat (first | (with_reducible first | exact HB.out | apply below_alloc | apply pw_below_drewN | apply below_drew1) | exact HB.out)) hb); clear HB; have HO417 := n0_; have HB := n1_; clear n0_ n1_; (try clear hb); (try clear hb2); (try clear hk); (try clear hi); (try clear ho0)) | (go_at_call 10; (with_reducible refine (batch_Encode.calls k a1 _ _ l2 t418 t419 _ ?side1 ?side2 A6.out).mono ?_); (case side1 => repeat (first | exact (Kd.C_below HR2.out HB.out) | (with_reducible refine Kd.C_alloc ?_ _) | (with_reducible refine Kd.C_drewN ?_ _) | (with_reducible refine Kd.C_drew ?_))); (case side2 => exact HC2.out); rintro e w47 ⟨v420, rfl, ho0, hb⟩; have n0_ := Aside0.mk (Kd.R_elder' (by (with_reducible repeat (first | apply Kd.R_alloc | apply Kd.R_drewN | apply Kd.R_drew)); exact HO417.out) (Kd.R_base ho0) hb); have n1_ := Aside0.mk (Kd.R_lower (Kd.R_new' ho0 (Kd.R_lt (by (with_reducible repeat (first | apply Kd.R_alloc | apply Kd.R_drewN | apply Kd.R_drew)); exact HO417.out))) (below_size (by repeat (first | (with_reducible first | exact HB.out | apply below_alloc | apply pw_below_drewN | apply below_drew1) | exact HB.out)))); have n2_ := Aside0.mk (below_step (by repeat (first | (with_reducible first | exact HB.out | apply below_alloc | apply pw_below_drewN | apply below_drew1) | exact HB.out)) hb); clear HO417; clear HB; have HO417 := n0_; have HO421 := n1_; have HB := n2_; clear n0_ n1_ n2_; (try clear hb); (try clear hb2); (try clear hk); (try clear hi); (try clear ho0)) | (go_at_call 10; (with_reducible refine (batch_Encode.calls k 0 _ _ l2 t422 t423 _ ?side1 ?side2 A7.out).mono ?_); (case side1 => repeat (first | exact (Kd.C_below HR2.out HB.out) | (with_reducible refine Kd.C_alloc ?_ _) | (with_reducible refine Kd.C_drewN ?_ _) | (with_reducible refine Kd.C_drew ?_))); (case side2 => exact HC2.out); rintro e w48 ⟨v424, rfl, ho0, hb⟩; have n0_ := Aside0.mk (Kd.R_elder' (by (with_reducible repeat (first | apply Kd.R_alloc | apply Kd.R_drewN | apply Kd.R_drew)); exact HO417.out) (Kd.R_base ho0) hb); have n1_ := Aside0.mk (Kd.R_elder' (by (with_reducible repeat (first | apply Kd.R_alloc | apply Kd.R_drewN | apply Kd.R_drew)); exact HO421.out) (Kd.R_base ho0) hb); have n2_ := Aside0.mk (Kd.R_lower (Kd.R_new' (Kd.R_new' ho0 (Kd.R_lt (by (with_reducible repeat (first | apply Kd.R_alloc | apply Kd.R_drewN | apply Kd.R_drew)); exact HO417.out))) (Kd.R_lt (by (with_reducible repeat (first | apply Kd.R_alloc | apply Kd.R_drewN | apply Kd.R_drew)); exact HO421.out))) (below_size (by repeat (first | (with_reducible first | exact HB.out | apply below_alloc | apply pw_below_drewN | apply below_drew1) | exact HB.out)))); have n3_ := Aside0.mk (below_step (by repeat (first | (with_reducible first | exact HB.out | apply below_alloc | apply pw_below_drewN | apply below_drew1) | exact HB.out)) hb); clear HO417; clear HO421; clear HB; have HO417 := n0_; have HO421 := n1_; have HO425 := n2_; have HB := n3_; clear n0_ n1_ n2_ n3_; (try clear hb); (try clear hb2); (try clear hk); (try clear hi); (try clear ho0)))
        repeat (go_quiet (first | (go_at_call 9; (with_reducible refine (staddlelaw03_awake.calls k  true _ A4.out).mono ?_); rintro e w45 ⟨rfl, hb⟩; have n0_ := Aside0.mk (below_step (by repeat (first | (with_reducible first | exact HB.out | apply below_alloc | apply pw_below_drewN | apply below_drew1) | exact HB.out)) hb); clear HB; have HB := n0_; clear n0_; (try clear hb); (try clear hb2); (try clear hk); (try clear hi)) | (go_at_call 10; (with_reducible refine (batch_Encode.calls k a0 _ _ l2 t414 t415 _ ?side1 ?side2 A5.out).mono ?_); (case side1 => repeat (first | exact (Kd.C_below HR2.out HB.out) | (with_reducible refine Kd.C_alloc ?_ _) | (with_reducible refine Kd.C_drewN ?_ _) | (with_reducible refine Kd.C_drew ?_))); (case side2 => exact HC2.out); rintro e w46 ⟨v416, rfl, ho0, hb⟩; have n0_ := Aside0.mk (Kd.R_lower ho0 (below_size (by repeat (first | (with_reducible first | exact HB.out | apply below_alloc | apply pw_below_drewN | apply below_drew1) | exact HB.out)))); have n1_ := Aside0.mk (below_step (by repeat (first | (with_reducible first | exact HB.out | apply below_alloc | apply pw_below_drewN | apply below_drew1) | exact HB.out)) hb); clear HB; have HO417 := n0_; have HB := n1_; clear n0_ n1_; (try clear hb); (try clear hb2); (try clear hk); (try clear hi); (try clear ho0)) | (go_at_call 10; (with_reducible refine (batch_Encode.calls k a1 _ _ l2 t418 t419 _ ?side1 ?side2 A6.out).mono ?_); (case side1 => repeat (first | exact (Kd.C_below HR2.out HB.out) | (with_reducible refine Kd.C_alloc ?_ _) | (with_reducible refine Kd.C_drewN ?_ _) | (with_reducible refine Kd.C_drew ?_))); (case side2 => exact HC2.out); rintro e w47 ⟨v420, rfl, ho0, hb⟩; have n0_ := Aside0.mk (Kd.R_elder' (by (with_reducible repeat (first | apply Kd.R_alloc | apply Kd.R_drewN | apply Kd.R_drew)); exact HO417.out) (Kd.R_base ho0) hb); have n1_ := Aside0.mk (Kd.R_lower (Kd.R_new' ho0 (Kd.R_lt (by (with_reducible repeat (first | apply Kd.R_alloc | apply Kd.R_drewN | apply Kd.R_drew)); exact HO417.out))) (below_size (by repeat (first | (with_reducible first | exact HB.out | apply below_alloc | apply pw_below_drewN | apply below_drew1) | exact HB.out)))); have n2_ := Aside0.mk (below_step (by repeat (first | (with_reducible first | exact HB.out | apply below_alloc | apply pw_below_drewN | apply below_drew1) | exact HB.out)) hb); clear HO417; clear HB; have HO417 := n0_; have HO421 := n1_; have HB := n2_; clear n0_ n1_ n2_; (try clear hb); (try clear hb2); (try clear hk); (try clear hi); (try clear ho0)) | (go_at_call 10; (with_reducible refine (batch_Encode.calls k 0 _ _ l2 t422 t423 _ ?side1 ?side2 A7.out).mono ?_); (case side1 => repeat (first | exact (Kd.C_below HR2.out HB.out) | (with_reducible refine Kd.C_alloc ?_ _) | (with_reducible refine Kd.C_drewN ?_ _) | (with_reducible refine Kd.C_drew ?_))); (case side2 => exact HC2.out); rintro e w48 ⟨v424, rfl, ho0, hb⟩; have n0_ := Aside0.mk (Kd.R_elder' (by (with_reducible repeat (first | apply Kd.R_alloc | apply Kd.R_drewN | apply Kd.R_drew)); exact HO417.out) (Kd.R_base ho0) hb); have n1_ := Aside0.mk (Kd.R_elder' (by (with_reducible repeat (first | apply Kd.R_alloc | apply Kd.R_drewN | apply Kd.R_drew)); exact HO421.out) (Kd.R_base ho0) hb); have n2_ := Aside0.mk (Kd.R_lower (Kd.R_new' (Kd.R_new' ho0 (Kd.R_lt (by (with_reducible repeat (first | apply Kd.R_alloc | apply Kd.R_drewN | apply Kd.R_drew)); exact HO417.out))) (Kd.R_lt (by (with_reducible repeat (first | apply Kd.R_alloc | apply Kd.R_drewN | apply Kd.R_drew)); exact HO421.out))) (below_size (by repeat (first | (with_reducible first | exact HB.out | apply below_alloc | apply pw_below_drewN | apply below_drew1) | exact HB.out)))); have n3_ := Aside0.mk (below_step (by repeat (first | (with_reducible first | exact HB.out | apply below_alloc | apply pw_below_drewN | apply below_drew1) | exact HB.out)) hb); clear HO417; clear HO421; clear HB; have HO417 := n0_; have HO421 := n1_; have HO425 := n2_; have HB := n3_; clear n0_ n1_ n2_ n3_; (try clear hb); (try clear hb2); (try clear hk); (try clear hi); (try clear ho0))); try go_wp2_with (first | (go_at_call 9; (with_reducible refine (staddlelaw03_awake.calls k  true _ A4.out).mono ?_); rintro e w45 ⟨rfl, hb⟩; have n0_ := Aside0.mk (below_step (by repeat (first | (with_reducible first | exact HB.out | apply below_alloc | apply pw_below_drewN | apply below_drew1) | exact HB.out)) hb); clear HB; have HB := n0_; clear n0_; (try clear hb); (try clear hb2); (try clear hk); (try clear hi)) | (go_at_call 10; (with_reducible refine (batch_Encode.calls k a0 _ _ l2 t414 t415 _ ?side1 ?side2 A5.out).mono ?_); (case side1 => repeat (first | exact (Kd.C_below HR2.out HB.out) | (with_reducible refine Kd.C_alloc ?_ _) | (with_reducible refine Kd.C_drewN ?_ _) | (with_reducible refine Kd.C_drew ?_))); (case side2 => exact HC2.out); rintro e w46 ⟨v416, rfl, ho0, hb⟩; have n0_ := Aside0.mk (Kd.R_lower ho0 (below_size (by repeat (first | (with_reducible first | exact HB.out | apply below_alloc | apply pw_below_drewN | apply below_drew1) | exact HB.out)))); have n1_ := Aside0.mk (below_step (by repeat (first | (with_reducible first | exact HB.out | apply below_alloc | apply pw_below_drewN | apply below_drew1) | exact HB.out)) hb); clear HB; have HO417 := n0_; have HB := n1_; clear n0_ n1_; (try clear hb); (try clear hb2); (try clear hk); (try clear hi); (try clear ho0)) | (go_at_call 10; (with_reducible refine (batch_Encode.calls k a1 _ _ l2 t418 t419 _ ?side1 ?side2 A6.out).mono ?_); (case side1 => repeat (first | exact (Kd.C_below HR2.out HB.out) | (with_reducible refine Kd.C_alloc ?_ _) | (with_reducible refine Kd.C_drewN ?_ _) | (with_reducible refine Kd.C_drew ?_))); (case side2 => exact HC2.out); rintro e w47 ⟨v420, rfl, ho0, hb⟩; have n0_ := Aside0.mk (Kd.R_elder' (by (with_reducible repeat (first | apply Kd.R_alloc | apply Kd.R_drewN | apply Kd.R_drew)); exact HO417.out) (Kd.R_base ho0) hb); have n1_ := Aside0.mk (Kd.R_lower (Kd.R_new' ho0 (Kd.R_lt (by (with_reducible repeat (first | apply Kd.R_alloc | apply Kd.R_drewN | apply Kd.R_drew)); exact HO417.out))) (below_size (by repeat (first | (with_reducible first | exact HB.out | apply below_alloc | apply pw_below_drewN | apply below_drew1) | exact HB.out)))); have n2_ := Aside0.mk (below_step (by repeat (first | (with_reducible first | exact HB.out | apply below_alloc | apply pw_below_drewN | apply below_drew1) | exact HB.out)) hb); clear HO417; clear HB; have HO417 := n0_; have HO421 := n1_; have HB := n2_; clear n0_ n1_ n2_; (try clear hb); (try clear hb2); (try clear hk); (try clear hi); (try clear ho0)) | (go_at_call 10; (with_reducible refine (batch_Encode.calls k 0 _ _ l2 t422 t423 _ ?side1 ?side2 A7.out).mono ?_); (case side1 => repeat (first | exact (Kd.C_below HR2.out HB.out) | (with_reducible refine Kd.C_alloc ?_ _) | (with_reducible refine Kd.C_drewN ?_ _) | (with_reducible refine Kd.C_drew ?_))); (case side2 => exact HC2.out); rintro e w48 ⟨v424, rfl, ho0, hb⟩; have n0_ := Aside0.mk (Kd.R_elder' (by (with_reducible repeat (first | apply Kd.R_alloc | apply Kd.R_drewN | apply Kd.R_drew)); exact HO417.out) (Kd.R_base ho0) hb); have n1_ := Aside0.mk (Kd.R_elder' (by (with_reducible repeat (first | apply Kd.R_alloc | apply Kd.R_drewN | apply Kd.R_drew)); exact HO421.out) (Kd.R_base ho0) hb); have n2_ := Aside0.mk (Kd.R_lower (Kd.R_new' (Kd.R_new' ho0 (Kd.R_lt (by (with_reducible repeat (first | apply Kd.R_alloc | apply Kd.R_drewN | apply Kd.R_drew)); exact HO417.out))) (Kd.R_lt (by (with_reducible repeat (first | apply Kd.R_alloc | apply Kd.R_drewN | apply Kd.R_drew)); exact HO421.out))) (below_size (by repeat (first | (with_reducible first | exact HB.out | apply below_alloc | apply pw_below_drewN | apply below_drew1) | exact HB.out)))); have n3_ := Aside0.mk (below_step (by repeat (first | (with_reducible first | exact HB.out | apply below_alloc | apply pw_below_drewN | apply below_drew1) | exact HB.out)) hb); clear HO417; clear HO421; clear HB; have HO417 := n0_; have HO421 := n1_; have HO425 := n2_; have HB := n3_; clear n0_ n1_ n2_ n3_; (try clear hb); (try clear hb2); (try clear hk); (try clear hi); (try clear ho0))))
        go_ret
        exact ⟨by first | rfl | (simp [errW_none, errW_some] <;> rfl) | (simp [*, errW_none, errW_some] <;> rfl), by repeat (first | (with_reducible first | exact HB.out | apply below_alloc | apply pw_below_drewN | apply below_drew1) | exact HB.out)⟩
      · rw [if_neg c44] at H
        have c44b0 : (t415 == 0) = false := beq_eq_false_iff_ne.mpr c44
        have c44b1 : (t415 != 0) = true := bne_iff_ne.mpr c44
        obtain rfl := Option.some.inj H
        go_enter Try.func8, Try.ntmps8
        go_wp2_with (first | (go_at_call 9; (with_reducible refine (staddlelaw03_awake.calls k  true _ A4.out).mono ?_); rintro e w49 ⟨rfl, hb⟩; have n0_ := Aside0.mk (below_step (by repeat (first | (with_reducible first | exact HB.out | apply below_alloc | apply pw_below_drewN | apply below_drew1) | exact HB.out)) hb); clear HB; have HB := n0_; clear n0_; (try clear hb); (try clear hb2); (try clear hk); (try clear hi)) | (go_at_call 10; (with_reducible refine (batch_Encode.calls k a0 _ _ l2 t414 t415 _ ?side1 ?side2 A5.out).mono ?_); (case side1 => repeat (first | exact (Kd.C_below HR2.out HB.out) | (with_reducible refine Kd.C_alloc ?_ _) | (with_reducible refine Kd.C_drewN ?_ _) | (with_reducible refine Kd.C_drew ?_))); (case side2 => exact HC2.out); rintro e w50 ⟨v416, rfl, ho0, hb⟩; have n0_ := Aside0.mk (Kd.R_lower ho0 (below_size (by repeat (first | (with_reducible first | exact HB.out | apply below_alloc | apply pw_below_drewN | apply below_drew1) | exact HB.out)))); have n1_ := Aside0.mk (below_step (by repeat (first | (with_reducible first | exact HB.out | apply below_alloc | apply pw_below_drewN | apply below_drew1) | exact HB.out)) hb); clear HB; have HO417 := n0_; have HB := n1_; clear n0_ n1_; (try clear hb); (try clear hb2); (try clear hk); (try clear hi); (try clear ho0)) | (go_at_call 10; (with_reducible refine (batch_Encode.calls k a1 _ _ l2 t418 t419 _ ?side1 ?side2 A6.out).mono ?_); (case side1 => repeat (first | exact (Kd.C_below HR2.out HB.out) | (with_reducible refine Kd.C_alloc ?_ _) | (with_reducible refine Kd.C_drewN ?_ _) | (with_reducible refine Kd.C_drew ?_))); (case side2 => exact HC2.out); rintro e w51 ⟨v420, rfl, ho0, hb⟩; have n0_ := Aside0.mk (Kd.R_elder' (by (with_reducible repeat (first | apply Kd.R_alloc | apply Kd.R_drewN | apply Kd.R_drew)); exact HO417.out) (Kd.R_base ho0) hb); have n1_ := Aside0.mk (Kd.R_lower (Kd.R_new' ho0 (Kd.R_lt (by (with_reducible repeat (first | apply Kd.R_alloc | apply Kd.R_drewN | apply Kd.R_drew)); exact HO417.out))) (below_size (by repeat (first | (with_reducible first | exact HB.out | apply below_alloc | apply pw_below_drewN | apply below_drew1) | exact HB.out)))); have n2_ := Aside0.mk (below_step (by repeat (first | (with_reducible first | exact HB.out | apply below_alloc | apply pw_below_drewN | apply below_drew1) | exact HB.out)) hb); clear HO417; clear HB; have HO417 := n0_; have HO421 := n1_; have HB := n2_; clear n0_ n1_ n2_; (try clear hb); (try clear hb2); (try clear hk); (try clear hi); (try clear ho0)) | (go_at_call 10; (with_reducible refine (batch_Encode.calls k 0 _ _ l2 t422 t423 _ ?side1 ?side2 A7.out).mono ?_); (case side1 => repeat (first | exact (Kd.C_below HR2.out HB.out) | (with_reducible refine Kd.C_alloc ?_ _) | (with_reducible refine Kd.C_drewN ?_ _) | (with_reducible refine Kd.C_drew ?_))); (case side2 => exact HC2.out); rintro e w52 ⟨v424, rfl, ho0, hb⟩; have n0_ := Aside0.mk (Kd.R_elder' (by (with_reducible repeat (first | apply Kd.R_alloc | apply Kd.R_drewN | apply Kd.R_drew)); exact HO417.out) (Kd.R_base ho0) hb); have n1_ := Aside0.mk (Kd.R_elder' (by (with_reducible repeat (first | apply Kd.R_alloc | apply Kd.R_drewN | apply Kd.R_drew)); exact HO421.out) (Kd.R_base ho0) hb); have n2_ := Aside0.mk (Kd.R_lower (Kd.R_new' (Kd.R_new' ho0 (Kd.R_lt (by (with_reducible repeat (first | apply Kd.R_alloc | apply Kd.R_drewN | apply Kd.R_drew)); exact HO417.out))) (Kd.R_lt (by (with_reducible repeat (first | apply Kd.R_alloc | apply Kd.R_drewN | apply Kd.R_drew)); exact HO421.out))) (below_size (by repeat (first | (with_reducible first | exact HB.out | apply below_alloc | apply pw_below_drewN | apply below_drew1) | exact HB.out)))); have n3_ := Aside0.mk (below_step (by repeat (first | (with_reducible first | exact HB.out | apply below_alloc | apply pw_below_drewN | apply below_drew1) | exact HB.out)) hb); clear HO417; clear HO421; clear HB; have HO417 := n0_; have HO421 := n1_; have HO425 := n2_; have HB := n3_; clear n0_ n1_ n2_ n3_; (try clear hb); (try clear hb2); (try clear hk); (try clear hi); (try clear ho0)))
        repeat (go_quiet (first | (go_at_call 9; (with_reducible refine (staddlelaw03_awake.calls k  true _ A4.out).mono ?_); rintro e w49 ⟨rfl, hb⟩; have n0_ := Aside0.mk (below_step (by repeat (first | (with_reducible first | exact HB.out | apply below_alloc | apply pw_below_drewN | apply below_drew1) | exact HB.out)) hb); clear HB; have HB := n0_; clear n0_; (try clear hb); (try clear hb2); (try clear hk); (try clear hi)) | (go_at_call 10; (with_reducible refine (batch_Encode.calls k a0 _ _ l2 t414 t415 _ ?side1 ?side2 A5.out).mono ?_); (case side1 => repeat (first | exact (Kd.C_below HR2.out HB.out) | (with_reducible refine Kd.C_alloc ?_ _) | (with_reducible refine Kd.C_drewN ?_ _) | (with_reducible refine Kd.C_drew ?_))); (case side2 => exact HC2.out); rintro e w50 ⟨v416, rfl, ho0, hb⟩; have n0_ := Aside0.mk (Kd.R_lower ho0 (below_size (by repeat (first | (with_reducible first | exact HB.out | apply below_alloc | apply pw_below_drewN | apply below_drew1) | exact HB.out)))); have n1_ := Aside0.mk (below_step (by repeat (first | (with_reducible first | exact HB.out | apply below_alloc | apply pw_below_drewN | apply below_drew1) | exact HB.out)) hb); clear HB; have HO417 := n0_; have HB := n1_; clear n0_ n1_; (try clear hb); (try clear hb2); (try clear hk); (try clear hi); (try clear ho0)) | (go_at_call 10; (with_reducible refine (batch_Encode.calls k a1 _ _ l2 t418 t419 _ ?side1 ?side2 A6.out).mono ?_); (case side1 => repeat (first | exact (Kd.C_below HR2.out HB.out) | (with_reducible refine Kd.C_alloc ?_ _) | (with_reducible refine Kd.C_drewN ?_ _) | (with_reducible refine Kd.C_drew ?_))); (case side2 => exact HC2.out); rintro e w51 ⟨v420, rfl, ho0, hb⟩; have n0_ := Aside0.mk (Kd.R_elder' (by (with_reducible repeat (first | apply Kd.R_alloc | apply Kd.R_drewN | apply Kd.R_drew)); exact HO417.out) (Kd.R_base ho0) hb); have n1_ := Aside0.mk (Kd.R_lower (Kd.R_new' ho0 (Kd.R_lt (by (with_reducible repeat (first | apply Kd.R_alloc | apply Kd.R_drewN | apply Kd.R_drew)); exact HO417.out))) (below_size (by repeat (first | (with_reducible first | exact HB.out | apply below_alloc | apply pw_below_drewN | apply below_drew1) | exact HB.out)))); have n2_ := Aside0.mk (below_step (by repeat (first | (with_reducible first | exact HB.out | apply below_alloc | apply pw_below_drewN | apply below_drew1) | exact HB.out)) hb); clear HO417; clear HB; have HO417 := n0_; have HO421 := n1_; have HB := n2_; clear n0_ n1_ n2_; (try clear hb); (try clear hb2); (try clear hk); (try clear hi); (try clear ho0)) | (go_at_call 10; (with_reducible refine (batch_Encode.calls k 0 _ _ l2 t422 t423 _ ?side1 ?side2 A7.out).mono ?_); (case side1 => repeat (first | exact (Kd.C_below HR2.out HB.out) | (with_reducible refine Kd.C_alloc ?_ _) | (with_reducible refine Kd.C_drewN ?_ _) | (with_reducible refine Kd.C_drew ?_))); (case side2 => exact HC2.out); rintro e w52 ⟨v424, rfl, ho0, hb⟩; have n0_ := Aside0.mk (Kd.R_elder' (by (with_reducible repeat (first | apply Kd.R_alloc | apply Kd.R_drewN | apply Kd.R_drew)); exact HO417.out) (Kd.R_base ho0) hb); have n1_ := Aside0.mk (Kd.R_elder' (by (with_reducible repeat (first | apply Kd.R_alloc | apply Kd.R_drewN | apply Kd.R_drew)); exact HO421.out) (Kd.R_base ho0) hb); have n2_ := Aside0.mk (Kd.R_lower (Kd.R_new' (Kd.R_new' ho0 (Kd.R_lt (by (with_reducible repeat (first | apply Kd.R_alloc | apply Kd.R_drewN | apply Kd.R_drew)); exact HO417.out))) (Kd.R_lt (by (with_reducible repeat (first | apply Kd.R_alloc | apply Kd.R_drewN | apply Kd.R_drew)); exact HO421.out))) (below_size (by repeat (first | (with_reducible first | exact HB.out | apply below_alloc | apply pw_below_drewN | apply below_drew1) | exact HB.out)))); have n3_ := Aside0.mk (below_step (by repeat (first | (with_reducible first | exact HB.out | apply below_alloc | apply pw_below_drewN | apply below_drew1) | exact HB.out)) hb); clear HO417; clear HO421; clear HB; have HO417 := n0_; have HO421 := n1_; have HO425 := n2_; have HB := n3_; clear n0_ n1_ n2_ n3_; (try clear hb); (try clear hb2); (try clear hk); (try clear hi); (try clear ho0))); try go_wp2_with (first | (go_at_call 9; (with_reducible refine (staddlelaw03_awake.calls k  true _ A4.out).mono ?_); rintro e w49 ⟨rfl, hb⟩; have n0_ := Aside0.mk (below_step (by repeat (first | (with_reducible first | exact HB.out | apply below_alloc | apply pw_below_drewN | apply below_drew1) | exact HB.out)) hb); clear HB; have HB := n0_; clear n0_; (try clear hb); (try clear hb2); (try clear hk); (try clear hi)) | (go_at_call 10; (with_reducible refine (batch_Encode.calls k a0 _ _ l2 t414 t415 _ ?side1 ?side2 A5.out).mono ?_); (case side1 => repeat (first | exact (Kd.C_below HR2.out HB.out) | (with_reducible refine Kd.C_alloc ?_ _) | (with_reducible refine Kd.C_drewN ?_ _) | (with_reducible refine Kd.C_drew ?_))); (case side2 => exact HC2.out); rintro e w50 ⟨v416, rfl, ho0, hb⟩; have n0_ := Aside0.mk (Kd.R_lower ho0 (below_size (by repeat (first | (with_reducible first | exact HB.out | apply below_alloc | apply pw_below_drewN | apply below_drew1) | exact HB.out)))); have n1_ := Aside0.mk (below_step (by repeat (first | (with_reducible first | exact HB.out | apply below_alloc | apply pw_below_drewN | apply below_drew1) | exact HB.out)) hb); clear HB; have HO417 := n0_; have HB := n1_; clear n0_ n1_; (try clear hb); (try clear hb2); (try clear hk); (try clear hi); (try clear ho0)) | (go_at_call 10; (with_reducible refine (batch_Encode.calls k a1 _ _ l2 t418 t419 _ ?side1 ?side2 A6.out).mono ?_); (case side1 => repeat (first | exact (Kd.C_below HR2.out HB.out) | (with_reducible refine Kd.C_alloc ?_ _) | (with_reducible refine Kd.C_drewN ?_ _) | (with_reducible refine Kd.C_drew ?_))); (case side2 => exact HC2.out); rintro e w51 ⟨v420, rfl, ho0, hb⟩; have n0_ := Aside0.mk (Kd.R_elder' (by (with_reducible repeat (first | apply Kd.R_alloc | apply Kd.R_drewN | apply Kd.R_drew)); exact HO417.out) (Kd.R_base ho0) hb); have n1_ := Aside0.mk (Kd.R_lower (Kd.R_new' ho0 (Kd.R_lt (by (with_reducible repeat (first | apply Kd.R_alloc | apply Kd.R_drewN | apply Kd.R_drew)); exact HO417.out))) (below_size (by repeat (first | (with_reducible first | exact HB.out | apply below_alloc | apply pw_below_drewN | apply below_drew1) | exact HB.out)))); have n2_ := Aside0.mk (below_step (by repeat (first | (with_reducible first | exact HB.out | apply below_alloc | apply pw_below_drewN | apply below_drew1) | exact HB.out)) hb); clear HO417; clear HB; have HO417 := n0_; have HO421 := n1_; have HB := n2_; clear n0_ n1_ n2_; (try clear hb); (try clear hb2); (try clear hk); (try clear hi); (try clear ho0)) | (go_at_call 10; (with_reducible refine (batch_Encode.calls k 0 _ _ l2 t422 t423 _ ?side1 ?side2 A7.out).mono ?_); (case side1 => repeat (first | exact (Kd.C_below HR2.out HB.out) | (with_reducible refine Kd.C_alloc ?_ _) | (with_reducible refine Kd.C_drewN ?_ _) | (with_reducible refine Kd.C_drew ?_))); (case side2 => exact HC2.out); rintro e w52 ⟨v424, rfl, ho0, hb⟩; have n0_ := Aside0.mk (Kd.R_elder' (by (with_reducible repeat (first | apply Kd.R_alloc | apply Kd.R_drewN | apply Kd.R_drew)); exact HO417.out) (Kd.R_base ho0) hb); have n1_ := Aside0.mk (Kd.R_elder' (by (with_reducible repeat (first | apply Kd.R_alloc | apply Kd.R_drewN | apply Kd.R_drew)); exact HO421.out) (Kd.R_base ho0) hb); have n2_ := Aside0.mk (Kd.R_lower (Kd.R_new' (Kd.R_new' ho0 (Kd.R_lt (by (with_reducible repeat (first | apply Kd.R_alloc | apply Kd.R_drewN | apply Kd.R_drew)); exact HO417.out))) (Kd.R_lt (by (with_reducible repeat (first | apply Kd.R_alloc | apply Kd.R_drewN | apply Kd.R_drew)); exact HO421.out))) (below_size (by repeat (first | (with_reducible first | exact HB.out | apply below_alloc | apply pw_below_drewN | apply below_drew1) | exact HB.out)))); have n3_ := Aside0.mk (below_step (by repeat (first | (with_reducible first | exact HB.out | apply below_alloc | apply pw_below_drewN | apply below_drew1) | exact HB.out)) hb); clear HO417; clear HO421; clear HB; have HO417 := n0_; have HO421 := n1_; have HO425 := n2_; have HB := n3_; clear n0_ n1_ n2_ n3_; (try clear hb); (try clear hb2); (try clear hk); (try clear hi); (try clear ho0))))
        go_ret
        exact ⟨by first | rfl | (simp [errW_none, errW_some] <;> rfl) | (simp [*, errW_none, errW_some] <;> rfl), by repeat (first | (with_reducible first | exact HB.out | apply below_alloc | apply pw_below_drewN | apply below_drew1) | exact HB.out)⟩
    · replace c43 := Bool.eq_false_iff.mpr c43
      subst c43
      have H1 : (some false) = some r := by rw [if_neg (show ¬ (false = true) by decide)] at H; exact H
      clear H
      have H := H1
      clear H1
      obtain rfl := Option.some.inj H
      go_enter Try.func8, Try.ntmps8
      go_wp2_with (first | (go_at_call 9; (with_reducible refine (staddlelaw03_awake.calls k  false _ A4.out).mono ?_); rintro e w53 ⟨rfl, hb⟩; have n0_ := Aside0.mk (below_step (by repeat (first | (with_reducible first | exact HB.out | apply below_alloc | apply pw_below_drewN | apply below_drew1) | exact HB.out)) hb); clear HB; have HB := n0_; clear n0_; (try clear hb); (try clear hb2); (try clear hk); (try clear hi)) | (go_at_call 10; (with_reducible refine (batch_Encode.calls k a0 _ _ l2 t414 t415 _ ?side1 ?side2 A5.out).mono ?_); (case side1 => repeat (first | exact (Kd.C_below HR2.out HB.out) | (with_reducible refine Kd.C_alloc ?_ _) | (with_reducible refine Kd.C_drewN ?_ _) | (with_reducible refine Kd.C_drew ?_))); (case side2 => exact HC2.out); rintro e w54 ⟨v416, rfl, ho0, hb⟩; have n0_ := Aside0.mk (Kd.R_lower ho0 (below_size (by repeat (first | (with_reducible first | exact HB.out | apply below_alloc | apply pw_below_drewN | apply below_drew1) | exact HB.out)))); have n1_ := Aside0.mk (below_step (by repeat (first | (with_reducible first | exact HB.out | apply below_alloc | apply pw_below_drewN | apply below_drew1) | exact HB.out)) hb); clear HB; have HO417 := n0_; have HB := n1_; clear n0_ n1_; (try clear hb); (try clear hb2); (try clear hk); (try clear hi); (try clear ho0)) | (go_at_call 10; (with_reducible refine (batch_Encode.calls k a1 _ _ l2 t418 t419 _ ?side1 ?side2 A6.out).mono ?_); (case side1 => repeat (first | exact (Kd.C_below HR2.out HB.out) | (with_reducible refine Kd.C_alloc ?_ _) | (with_reducible refine Kd.C_drewN ?_ _) | (with_reducible refine Kd.C_drew ?_))); (case side2 => exact HC2.out); rintro e w55 ⟨v420, rfl, ho0, hb⟩; have n0_ := Aside0.mk (Kd.R_elder' (by (with_reducible repeat (first | apply Kd.R_alloc | apply Kd.R_drewN | apply Kd.R_drew)); exact HO417.out) (Kd.R_base ho0) hb); have n1_ := Aside0.mk (Kd.R_lower (Kd.R_new' ho0 (Kd.R_lt (by (with_reducible repeat (first | apply Kd.R_alloc | apply Kd.R_drewN | apply Kd.R_drew)); exact HO417.out))) (below_size (by repeat (first | (with_reducible first | exact HB.out | apply below_alloc | apply pw_below_drewN | apply below_drew1) | exact HB.out)))); have n2_ := Aside0.mk (below_step (by repeat (first | (with_reducible first | exact HB.out | apply below_alloc | apply pw_below_drewN | apply below_drew1) | exact HB.out)) hb); clear HO417; clear HB; have HO417 := n0_; have HO421 := n1_; have HB := n2_; clear n0_ n1_ n2_; (try clear hb); (try clear hb2); (try clear hk); (try clear hi); (try clear ho0)) | (go_at_call 10; (with_reducible refine (batch_Encode.calls k 0 _ _ l2 t422 t423 _ ?side1 ?side2 A7.out).mono ?_); (case side1 => repeat (first | exact (Kd.C_below HR2.out HB.out) | (with_reducible refine Kd.C_alloc ?_ _) | (with_reducible refine Kd.C_drewN ?_ _) | (with_reducible refine Kd.C_drew ?_))); (case side2 => exact HC2.out); rintro e w56 ⟨v424, rfl, ho0, hb⟩; have n0_ := Aside0.mk (Kd.R_elder' (by (with_reducible repeat (first | apply Kd.R_alloc | apply Kd.R_drewN | apply Kd.R_drew)); exact HO417.out) (Kd.R_base ho0) hb); have n1_ := Aside0.mk (Kd.R_elder' (by (with_reducible repeat (first | apply Kd.R_alloc | apply Kd.R_drewN | apply Kd.R_drew)); exact HO421.out) (Kd.R_base ho0) hb); have n2_ := Aside0.mk (Kd.R_lower (Kd.R_new' (Kd.R_new' ho0 (Kd.R_lt (by (with_reducible repeat (first | apply Kd.R_alloc | apply Kd.R_drewN | apply Kd.R_drew)); exact HO417.out))) (Kd.R_lt (by (with_reducible repeat (first | apply Kd.R_alloc | apply Kd.R_drewN | apply Kd.R_drew)); exact HO421.out))) (below_size (by repeat (first | (with_reducible first | exact HB.out | apply below_alloc | apply pw_below_drewN | apply below_drew1) | exact HB.out)))); have n3_ := Aside0.mk (below_step (by repeat (first | (with_reducible first | exact HB.out | apply below_alloc | apply pw_below_drewN | apply below_drew1) | exact HB.out)) hb); clear HO417; clear HO421; clear HB; have HO417 := n0_; have HO421 := n1_; have HO425 := n2_; have HB := n3_; clear n0_ n1_ n2_ n3_; (try clear hb); (try clear hb2); (try clear hk); (try clear hi); (try clear ho0)))
      repeat (go_quiet (first | (go_at_call 9; (with_reducible refine (staddlelaw03_awake.calls k  false _ A4.out).mono ?_); rintro e w53 ⟨rfl, hb⟩; have n0_ := Aside0.mk (below_step (by repeat (first | (with_reducible first | exact HB.out | apply below_alloc | apply pw_below_drewN | apply below_drew1) | exact HB.out)) hb); clear HB; have HB := n0_; clear n0_; (try clear hb); (try clear hb2); (try clear hk); (try clear hi)) | (go_at_call 10; (with_reducible refine (batch_Encode.calls k a0 _ _ l2 t414 t415 _ ?side1 ?side2 A5.out).mono ?_); (case side1 => repeat (first | exact (Kd.C_below HR2.out HB.out) | (with_reducible refine Kd.C_alloc ?_ _) | (with_reducible refine Kd.C_drewN ?_ _) | (with_reducible refine Kd.C_drew ?_))); (case side2 => exact HC2.out); rintro e w54 ⟨v416, rfl, ho0, hb⟩; have n0_ := Aside0.mk (Kd.R_lower ho0 (below_size (by repeat (first | (with_reducible first | exact HB.out | apply below_alloc | apply pw_below_drewN | apply below_drew1) | exact HB.out)))); have n1_ := Aside0.mk (below_step (by repeat (first | (with_reducible first | exact HB.out | apply below_alloc | apply pw_below_drewN | apply below_drew1) | exact HB.out)) hb); clear HB; have HO417 := n0_; have HB := n1_; clear n0_ n1_; (try clear hb); (try clear hb2); (try clear hk); (try clear hi); (try clear ho0)) | (go_at_call 10; (with_reducible refine (batch_Encode.calls k a1 _ _ l2 t418 t419 _ ?side1 ?side2 A6.out).mono ?_); (case side1 => repeat (first | exact (Kd.C_below HR2.out HB.out) | (with_reducible refine Kd.C_alloc ?_ _) | (with_reducible refine Kd.C_drewN ?_ _) | (with_reducible refine Kd.C_drew ?_))); (case side2 => exact HC2.out); rintro e w55 ⟨v420, rfl, ho0, hb⟩; have n0_ := Aside0.mk (Kd.R_elder' (by (with_reducible repeat (first | apply Kd.R_alloc | apply Kd.R_drewN | apply Kd.R_drew)); exact HO417.out) (Kd.R_base ho0) hb); have n1_ := Aside0.mk (Kd.R_lower (Kd.R_new' ho0 (Kd.R_lt (by (with_reducible repeat (first | apply Kd.R_alloc | apply Kd.R_drewN | apply Kd.R_drew)); exact HO417.out))) (below_size (by repeat (first | (with_reducible first | exact HB.out | apply below_alloc | apply pw_below_drewN | apply below_drew1) | exact HB.out)))); have n2_ := Aside0.mk (below_step (by repeat (first | (with_reducible first | exact HB.out | apply below_alloc | apply pw_below_drewN | apply below_drew1) | exact HB.out)) hb); clear HO417; clear HB; have HO417 := n0_; have HO421 := n1_; have HB := n2_; clear n0_ n1_ n2_; (try clear hb); (try clear hb2); (try clear hk); (try clear hi); (try clear ho0)) | (go_at_call 10; (with_reducible refine (batch_Encode.calls k 0 _ _ l2 t422 t423 _ ?side1 ?side2 A7.out).mono ?_); (case side1 => repeat (first | exact (Kd.C_below HR2.out HB.out) | (with_reducible refine Kd.C_alloc ?_ _) | (with_reducible refine Kd.C_drewN ?_ _) | (with_reducible refine Kd.C_drew ?_))); (case side2 => exact HC2.out); rintro e w56 ⟨v424, rfl, ho0, hb⟩; have n0_ := Aside0.mk (Kd.R_elder' (by (with_reducible repeat (first | apply Kd.R_alloc | apply Kd.R_drewN | apply Kd.R_drew)); exact HO417.out) (Kd.R_base ho0) hb); have n1_ := Aside0.mk (Kd.R_elder' (by (with_reducible repeat (first | apply Kd.R_alloc | apply Kd.R_drewN | apply Kd.R_drew)); exact HO421.out) (Kd.R_base ho0) hb); have n2_ := Aside0.mk (Kd.R_lower (Kd.R_new' (Kd.R_new' ho0 (Kd.R_lt (by (with_reducible repeat (first | apply Kd.R_alloc | apply Kd.R_drewN | apply Kd.R_drew)); exact HO417.out))) (Kd.R_lt (by (with_reducible repeat (first | apply Kd.R_alloc | apply Kd.R_drewN | apply Kd.R_drew)); exact HO421.out))) (below_size (by repeat (first | (with_reducible first | exact HB.out | apply below_alloc | apply pw_below_drewN | apply below_drew1) | exact HB.out)))); have n3_ := Aside0.mk (below_step (by repeat (first | (with_reducible first | exact HB.out | apply below_alloc | apply pw_below_drewN | apply below_drew1) | exact HB.out)) hb); clear HO417; clear HO421; clear HB; have HO417 := n0_; have HO421 := n1_; have HO425 := n2_; have HB := n3_; clear n0_ n1_ n2_ n3_; (try clear hb); (try clear hb2); (try clear hk); (try clear hi); (try clear ho0))); try go_wp2_with (first | (go_at_call 9; (with_reducible refine (staddlelaw03_awake.calls k  false _ A4.out).mono ?_); rintro e w53 ⟨rfl, hb⟩; have n0_ := Aside0.mk (below_step (by repeat (first | (with_reducible first | exact HB.out | apply below_alloc | apply pw_below_drewN | apply below_drew1) | exact HB.out)) hb); clear HB; have HB := n0_; clear n0_; (try clear hb); (try clear hb2); (try clear hk); (try clear hi)) | (go_at_call 10; (with_reducible refine (batch_Encode.calls k a0 _ _ l2 t414 t415 _ ?side1 ?side2 A5.out).mono ?_); (case side1 => repeat (first | exact (Kd.C_below HR2.out HB.out) | (with_reducible refine Kd.C_alloc ?_ _) | (with_reducible refine Kd.C_drewN ?_ _) | (with_reducible refine Kd.C_drew ?_))); (case side2 => exact HC2.out); rintro e w54 ⟨v416, rfl, ho0, hb⟩; have n0_ := Aside0.mk (Kd.R_lower ho0 (below_size (by repeat (first | (with_reducible first | exact HB.out | apply below_alloc | apply pw_below_drewN | apply below_drew1) | exact HB.out)))); have n1_ := Aside0.mk (below_step (by repeat (first | (with_reducible first | exact HB.out | apply below_alloc | apply pw_below_drewN | apply below_drew1) | exact HB.out)) hb); clear HB; have HO417 := n0_; have HB := n1_; clear n0_ n1_; (try clear hb); (try clear hb2); (try clear hk); (try clear hi); (try clear ho0)) | (go_at_call 10; (with_reducible refine (batch_Encode.calls k a1 _ _ l2 t418 t419 _ ?side1 ?side2 A6.out).mono ?_); (case side1 => repeat (first | exact (Kd.C_below HR2.out HB.out) | (with_reducible refine Kd.C_alloc ?_ _) | (with_reducible refine Kd.C_drewN ?_ _) | (with_reducible refine Kd.C_drew ?_))); (case side2 => exact HC2.out); rintro e w55 ⟨v420, rfl, ho0, hb⟩; have n0_ := Aside0.mk (Kd.R_elder' (by (with_reducible repeat (first | apply Kd.R_alloc | apply Kd.R_drewN | apply Kd.R_drew)); exact HO417.out) (Kd.R_base ho0) hb); have n1_ := Aside0.mk (Kd.R_lower (Kd.R_new' ho0 (Kd.R_lt (by (with_reducible repeat (first | apply Kd.R_alloc | apply Kd.R_drewN | apply Kd.R_drew)); exact HO417.out))) (below_size (by repeat (first | (with_reducible first | exact HB.out | apply below_alloc | apply pw_below_drewN | apply below_drew1) | exact HB.out)))); have n2_ := Aside0.mk (below_step (by repeat (first | (with_reducible first | exact HB.out | apply below_alloc | apply pw_below_drewN | apply below_drew1) | exact HB.out)) hb); clear HO417; clear HB; have HO417 := n0_; have HO421 := n1_; have HB := n2_; clear n0_ n1_ n2_; (try clear hb); (try clear hb2); (try clear hk); (try clear hi); (try clear ho0)) | (go_at_call 10; (with_reducible refine (batch_Encode.calls k 0 _ _ l2 t422 t423 _ ?side1 ?side2 A7.out).mono ?_); (case side1 => repeat (first | exact (Kd.C_below HR2.out HB.out) | (with_reducible refine Kd.C_alloc ?_ _) | (with_reducible refine Kd.C_drewN ?_ _) | (with_reducible refine Kd.C_drew ?_))); (case side2 => exact HC2.out); rintro e w56 ⟨v424, rfl, ho0, hb⟩; have n0_ := Aside0.mk (Kd.R_elder' (by (with_reducible repeat (first | apply Kd.R_alloc | apply Kd.R_drewN | apply Kd.R_drew)); exact HO417.out) (Kd.R_base ho0) hb); have n1_ := Aside0.mk (Kd.R_elder' (by (with_reducible repeat (first | apply Kd.R_alloc | apply Kd.R_drewN | apply Kd.R_drew)); exact HO421.out) (Kd.R_base ho0) hb); have n2_ := Aside0.mk (Kd.R_lower (Kd.R_new' (Kd.R_new' ho0 (Kd.R_lt (by (with_reducible repeat (first | apply Kd.R_alloc | apply Kd.R_drewN | apply Kd.R_drew)); exact HO417.out))) (Kd.R_lt (by (with_reducible repeat (first | apply Kd.R_alloc | apply Kd.R_drewN | apply Kd.R_drew)); exact HO421.out))) (below_size (by repeat (first | (with_reducible first | exact HB.out | apply below_alloc | apply pw_below_drewN | apply below_drew1) | exact HB.out)))); have n3_ := Aside0.mk (below_step (by repeat (first | (with_reducible first | exact HB.out | apply below_alloc | apply pw_below_drewN | apply below_drew1) | exact HB.out)) hb); clear HO417; clear HO421; clear HB; have HO417 := n0_; have HO421 := n1_; have HO425 := n2_; have HB := n3_; clear n0_ n1_ n2_ n3_; (try clear hb); (try clear hb2); (try clear hk); (try clear hi); (try clear ho0))))
      go_ret
      exact ⟨by first | rfl | (simp [errW_none, errW_some] <;> rfl) | (simp [*, errW_none, errW_some] <;> rfl), by repeat (first | (with_reducible first | exact HB.out | apply below_alloc | apply pw_below_drewN | apply below_drew1) | exact HB.out)⟩

end Go.Proofs.Ytojnhecpjnoipaa.P
