-- By this session's wip/hprint.py: the kit's print.py with functions by hand beside it. Not trusted: Lean checks it.
import Derived.Test.YtppkpleagnddeaaP0
import Derived.Test.YtppkpleagnddeaaP16
import Derived.Test.YtppkpleagnddeaaP18
import Derived.Test.YtppkpleagnddeaaP19
namespace Go.Proofs.Ytppkpleagnddeaa.P
open Go.RowKit Go.Proofs.YtppkpleagnddeaaW.PrintWords Go.Proofs.YtppkpleagnddeaaW.PrintLast Go.Proofs.YtppkpleagnddeaaW.PrintMore
attribute [local go_sem] max2_int min2_int max_two min_two max_three min_three max_four min_four   -- for this text's walks alone
set_option linter.unusedVariables false
set_option linter.unusedSimpArgs false

-- a80
/-! ### staddleref11_Read: function 15 -/
mutual
def staddleref11_Read.j0 : Nat → List Int → Int → Bool → Option ((List (S42)) × Int)
 | 0, _, _, _ => none
 | k + 1, x0, x4, x49 => if x49 = true then (some (([] : List (S42)), 111)) else (if 0 ≤ (wrap64 ((x0.length : Int) - 5)) then (if (wrap64 ((x0.length : Int) - 5)) < (x0.length : Int) then (if 0 ≤ (wrap64 ((wrap64 ((x0.length : Int) - 5)) - (wrap64 (4 * (wrap64 (x4)))))) then (if (wrap64 ((wrap64 ((x0.length : Int) - 5)) - (wrap64 (4 * (wrap64 (x4)))))) ≤ (x0.length : Int) then (staddleref11_Read.l0 k x0 (wrap64 (rd x0 (wrap64 ((x0.length : Int) - 5)))) (x0.take ((wrap64 ((wrap64 ((x0.length : Int) - 5)) - (wrap64 (4 * (wrap64 (x4)))))) : Int).toNat) ([] : List (S42)) ([] : List Int)) else (none)) else (none)) else (none)) else (none))
def staddleref11_Read.l0 : Nat → List Int → Int → List Int → List (S42) → List Int → Option ((List (S42)) × Int)
 | 0, _, _, _, _, _ => none
 | k + 1, x0, x6, x7, x8, x9 => if (x7.length : Int) > 0 then ((staddleref01_Uvarint.f k x7).bind fun bt374 => (if 0 ≤ bt374.2.1 then (if bt374.2.1 ≤ (x7.length : Int) then ((staddleref01_Uvarint.f k (x7.drop (bt374.2.1 : Int).toNat)).bind fun bt382 => (if 0 ≤ (wrap64 (bt374.2.1 + bt382.2.1)) then (if (wrap64 (bt374.2.1 + bt382.2.1)) ≤ (x7.length : Int) then ((staddleref01_Uvarint.f k (x7.drop ((wrap64 (bt374.2.1 + bt382.2.1)) : Int).toNat)).bind fun bt390 => (if bt374.2.2 = 0 then (if bt382.2.2 = 0 then (staddleref11_Read.j2 k x0 x6 x7 x8 x9 bt374.1 bt374.2.1 bt382.1 bt382.2.1 bt390.1 bt390.2.1 (bt390.2.2 != 0)) else (staddleref11_Read.j2 k x0 x6 x7 x8 x9 bt374.1 bt374.2.1 bt382.1 bt382.2.1 bt390.1 bt390.2.1 true)) else (staddleref11_Read.j2 k x0 x6 x7 x8 x9 bt374.1 bt374.2.1 bt382.1 bt382.2.1 bt390.1 bt390.2.1 true))) else (none)) else (none))) else (none)) else (none))) else ((staddleref11_Build.f k x8 x6).bind fun bt370 => (if bt370.2 = 0 then (if (strOfNums bt370.1).toList = (strOfNums x0).toList then (some (x8, 0)) else (some (([] : List (S42)), 111))) else (some (([] : List (S42)), 111))))
def staddleref11_Read.j2 : Nat → List Int → Int → List Int → List (S42) → List Int → Int → Int → Int → Int → Int → Int → Bool → Option ((List (S42)) × Int)
 | 0, _, _, _, _, _, _, _, _, _, _, _, _ => none
 | k + 1, x0, x6, x7, x8, x9, x10, x11, x13, x14, x16, x17, x102 => if x102 = true then (some (([] : List (S42)), 111)) else (if 0 ≤ (wrap64 ((wrap64 (x11 + x14)) + x17)) then (if (wrap64 ((wrap64 (x11 + x14)) + x17)) ≤ (x7.length : Int) then ((some (x7.drop ((wrap64 ((wrap64 (x11 + x14)) + x17)) : Int).toNat : List Int)).bind fun y393 => (if x10 > (IntKind.u64.wrap ((x9.length : Int))) then (staddleref11_Read.j3 k x0 x6 y393 x8 x9 x10 x13 x16 true) else (if x13 > (IntKind.u64.wrap ((y393.length : Int))) then (staddleref11_Read.j3 k x0 x6 y393 x8 x9 x10 x13 x16 true) else (staddleref11_Read.j3 k x0 x6 y393 x8 x9 x10 x13 x16 (decide (x16 > (IntKind.u64.wrap ((IntKind.u64.wrap ((y393.length : Int))) - x13)))))))) else (none)) else (none))
def staddleref11_Read.j3 : Nat → List Int → Int → List Int → List (S42) → List Int → Int → Int → Int → Bool → Option ((List (S42)) × Int)
 | 0, _, _, _, _, _, _, _, _, _ => none
 | k + 1, x0, x6, x7, x8, x9, x10, x13, x16, x130 => if x130 = true then (some (([] : List (S42)), 111)) else ((some (([] : List Int) : List Int)).bind fun y398 => (if 0 ≤ x10 then (if x10 ≤ (x9.length : Int) then ((some (x9.take (x10 : Int).toNat : List Int)).bind fun y401 => (if y398.length + y401.length < 140737488355328 then ((some (y398 ++ y401 : List Int)).bind fun y405 => (if 0 ≤ x13 then (if x13 ≤ (x7.length : Int) then ((some (x7.take (x13 : Int).toNat : List Int)).bind fun y408 => (if y405.length + y408.length < 140737488355328 then ((some (y405 ++ y408 : List Int)).bind fun y413 => ((staddleref02_Decode.f k y413).bind fun bt416 => (if bt416.2.2.2 = 0 then (if x13 ≤ (IntKind.u64.wrap (x13 + x16)) then (if (IntKind.u64.wrap (x13 + x16)) ≤ (x7.length : Int) then (if x8.length < 2932031007402 then (if 0 ≤ (IntKind.u64.wrap (x13 + x16)) then (staddleref11_Read.l0 k x0 x6 (x7.drop ((IntKind.u64.wrap (x13 + x16)) : Int).toNat) (x8 ++ [(⟨(⟨bt416.1, bt416.2.1, bt416.2.2.1⟩ : S32), strOfNums ((x7.take ((IntKind.u64.wrap (x13 + x16)) : Int).toNat).drop (x13 : Int).toNat)⟩ : S42)]) y413) else (none)) else (none)) else (none)) else (none)) else (some (([] : List (S42)), 111))))) else (none))) else (none)) else (none))) else (none))) else (none)) else (none)))
end
def staddleref11_Read.f (k : Nat) (l0 : List Int) : Option ((List (S42)) × Int) := if (l0.length : Int) < 5 then (some (([] : List (S42)), 111)) else (if 0 ≤ (wrap64 ((l0.length : Int) - 4)) then (if (wrap64 ((l0.length : Int) - 4)) ≤ (l0.length : Int) then ((staddleref01_Fixed.f k (l0.drop ((wrap64 ((l0.length : Int) - 4)) : Int).toNat) 4).bind fun bt362 => (if bt362.1 > (IntKind.u64.wrap ((l0.length : Int))) then (staddleref11_Read.j0 k l0 bt362.1 true) else (staddleref11_Read.j0 k l0 bt362.1 (decide ((l0.length : Int) < (wrap64 (5 + (wrap64 (4 * (wrap64 (bt362.1))))))))))) else (none)) else (none))
def staddleref11_Read.T19 : Bool × List (List Nat × List Nat) := (true, [([], []), ([], []), ([], []), ([1, 2], [1, 2]), ([0, 3], [0, 3]), ([], []), ([], []), ([5, 6], [5, 6]), ([4, 7, 4], [4, 7]), ([8, 8, 0, 1, 2, 3, 4, 5, 6, 7, 8], [8])])
def staddleref11_Read.B19 : List Nat := [0, 0, 0, 6, 15, 0, 0, 96, 255, 511]
theorem staddleref11_Read.tab19 : rtab .any (opsOf Try.f15 19) = staddleref11_Read.T19 := by kernel_rfl
theorem staddleref11_Read.bits19 : waitsOk staddleref11_Read.T19.2 staddleref11_Read.B19 = true := by kernel_rfl
def staddleref11_Read.T23 : Bool × List (List Nat × List Nat) := (true, [([], []), ([], []), ([], []), ([], []), ([], []), ([], []), ([4, 5], [4, 5]), ([2, 3, 6], [2, 3, 6]), ([7], [7]), ([1, 8], [1, 8]), ([9], [9]), ([0, 10], [0, 10]), ([11, 11, 0, 1, 2, 3, 4, 5, 6, 7, 8, 9, 10, 11], [0, 11])])
def staddleref11_Read.B23 : List Nat := [0, 0, 0, 0, 0, 0, 48, 124, 252, 510, 1022, 2047, 4095]
theorem staddleref11_Read.tab23 : rtab .any (opsOf Try.f15 23) = staddleref11_Read.T23 := by kernel_rfl
theorem staddleref11_Read.bits23 : waitsOk staddleref11_Read.T23.2 staddleref11_Read.B23 = true := by kernel_rfl
set_option maxHeartbeats 8000000 in
set_option maxRecDepth 100000 in
theorem staddleref11_Read.calls (k : Nat) (P0_ : Nat → Prop) (A0 : Option Addr) (c0 : Nat) (l0 : List Int) (r1 : List (S42)) (r2 : Int) (w : World) (hs0 : Kd.V (Kd.int .u8) 5 w w.heap.size (fun k_ => P0_ k_) (.slice A0 l0.length c0) l0) (h : staddleref11_Read.f k l0 = some (r1, r2)) :
  Calls Try.prog 15 #[.slice A0 l0.length c0] w fun e w' => ∃ v0_ : Value, e = .returned (.tuple #[v0_, .int .i64 r2]) ∧ Kd.R k42 42 w' w.heap.size (fun k_ => (w.heap.size ≤ k_)) v0_ r1 ∧ Below w.heap.size w w' := by
 have hu32 := Try.underlying32
 have hu42 := Try.underlying42
 have HO0 := Aside0.mk (show Kd.V (Kd.int .u8) 5 w w.heap.size (fun k_ => (P0_ k_ ∨ w.heap.size ≤ k_)) (.slice A0 l0.length c0) l0 from Kd.V_mono hs0 (fun k_ hk => .inl hk))
 have HB := Aside0.mk (Below.refl w.heap.size w)
 have H : (if (l0.length : Int) < 5 then (some (([] : List (S42)), 111)) else (if 0 ≤ (wrap64 ((l0.length : Int) - 4)) then (if (wrap64 ((l0.length : Int) - 4)) ≤ (l0.length : Int) then ((staddleref01_Fixed.f k (l0.drop ((wrap64 ((l0.length : Int) - 4)) : Int).toNat) 4).bind fun bt362 => (if bt362.1 > (IntKind.u64.wrap ((l0.length : Int))) then (staddleref11_Read.j0 k l0 bt362.1 true) else (staddleref11_Read.j0 k l0 bt362.1 (decide ((l0.length : Int) < (wrap64 (5 + (wrap64 (4 * (wrap64 (bt362.1))))))))))) else (none)) else (none))) = some (r1, r2) := h
 clear h
 by_cases c2 : (l0.length : Int) < 5
 ·
  rw [if_pos c2] at H
  have c2b0 : decide ((l0.length : Int) < 5) = true := decide_eq_true c2
  have c2b1 : decide (l0.length < 5) = true := decide_eq_true (by omega)
  clear c2
  simp only [Option.some.injEq, Prod.mk.injEq] at H
  obtain ⟨rfl, rfl⟩ := H
  go_enter Try.func15, Try.ntmps15
  go_wp2
  go_ret2
  exact ⟨_, by first | rfl | (simp [errW_none, errW_some] <;> rfl) | (simp [*, errW_none, errW_some] <;> rfl), by first | exact Kd.R_nil _ _ _ _ _ | exact Kd.N_nil _ _ _ _ _ | exact Kd.V_nil _ _ _ _ _ | exact Kd.Q_nil _ _ _ _ _ | exact Kd.S_nil _ _ _ _ _, by repeat (first | (with_reducible first | exact HB.out | apply below_alloc | apply pw_below_drewN | apply below_drew1) | exact HB.out)⟩
 ·
  rw [if_neg c2] at H
  have c2b0 : decide ((l0.length : Int) < 5) = false := decide_eq_false c2
  have c2b1 : decide (l0.length < 5) = false := decide_eq_false (by omega)
  clear c2
  obtain ⟨ji3, hji3⟩ : ∃ j_ : Int, (wrap64 ((l0.length : Int) - 4)) = j_ := ⟨_, rfl⟩
  replace H : (if 0 ≤ (ji3) then (if (ji3) ≤ (l0.length : Int) then ((staddleref01_Fixed.f k (l0.drop ((ji3) : Int).toNat) 4).bind fun bt362 => (if bt362.1 > (IntKind.u64.wrap ((l0.length : Int))) then (staddleref11_Read.j0 k l0 bt362.1 true) else (staddleref11_Read.j0 k l0 bt362.1 (decide ((l0.length : Int) < (wrap64 (5 + (wrap64 (4 * (wrap64 (bt362.1))))))))))) else (none)) else (none)) = some (r1, r2) := by first | (rw [hji3] at H; exact H) | (simp only [hji3] at H ⊢; exact H)
  have hji3w : (IntKind.i64.wrap ((l0.length : Int) - 4)) = ji3 := (i64_w _).trans hji3
  by_cases c4 : 0 ≤ (ji3)
  ·
   rw [if_pos c4] at H
   have c4b0 := eq_true c4
   have c4b1 : decide (0 ≤ (ji3)) = true := decide_eq_true c4
   clear c4
   by_cases c5 : (ji3) ≤ (l0.length : Int)
   ·
    rw [if_pos c5] at H
    have c5b0 := eq_true c5
    have c5b1 : decide ((ji3) ≤ (l0.length : Int)) = true := decide_eq_true c5
    clear c5
    obtain ⟨y357, hy357⟩ : ∃ y_ : List Int, y_ = (l0.drop ((ji3) : Int).toNat) := ⟨_, rfl⟩
    replace H : ((staddleref01_Fixed.f k y357 4).bind fun bt362 => (if bt362.1 > (IntKind.u64.wrap ((l0.length : Int))) then (staddleref11_Read.j0 k l0 bt362.1 true) else (staddleref11_Read.j0 k l0 bt362.1 (decide ((l0.length : Int) < (wrap64 (5 + (wrap64 (4 * (wrap64 (bt362.1))))))))))) = some (r1, r2) := by first | (rw [hy357]; with_reducible exact H) | (have H2_ := (Option.bind_some _ _).symm.trans H; rw [hy357]; with_reducible exact H2_) | (have H2_ := (Option.bind_some _ _).symm.trans H; with_reducible exact H2_) | with_reducible exact H | (rw [hy357]; exact H) | exact H
    have Ny357 := Aside0.mk hy357
    clear hy357
    replace H := Option.bind_eq_some_iff.mp H
    obtain ⟨⟨t362, t363⟩, A60, H⟩ := H
    replace H : (if t362 > (IntKind.u64.wrap ((l0.length : Int))) then (staddleref11_Read.j0 k l0 t362 true) else (staddleref11_Read.j0 k l0 t362 (decide ((l0.length : Int) < (wrap64 (5 + (wrap64 (4 * (wrap64 (t362)))))))))) = some (r1, r2) := H
    have A6 := Aside0.mk A60
    clear A60
    have HC7 := Aside0.mk H
    clear H
    have q8 : ((ji3) : Int) ≤ ((l0.length : Int) : Int) := of_decide_eq_true (by first | (with_reducible assumption) | assumption)
    obtain ⟨i08, hi08, _, hsz8, _⟩ := info_parts info5
    have hroom8 : l0.length ≤ c0 := (Kd.V_reads' HO0.out).2.1
    have hC8 : Kd.F (Kd.int .u8) _ _ A0 l0.length l0 := (Kd.V_at (base := w.heap.size) HO0.out).2.2
    have q08 : (0 : Int) ≤ ((ji3) : Int) := of_decide_eq_true (by first | (with_reducible assumption) | assumption)
    have hcut8 := cut_from (P := Try.prog) 24 5 .i64 Try.underlying24 hi08 1 hsz8 A0 l0.length c0 (ji3) q08 q8
    have hr8 := Kd.F_cut (m := ((ji3) : Int).toNat) (c := c0) hC8 (by omega) hroom8
    obtain ⟨A8, hA8⟩ : ∃ A1, A1 = (if c0 = ((ji3) : Int).toNat then A0 else (A0 : Option Addr).map (·.add (((ji3) : Int).toNat * 1))) := ⟨_, rfl⟩
    obtain ⟨c8, hc8⟩ : ∃ c1, c1 = c0 - ((ji3) : Int).toNat := ⟨_, rfl⟩
    have hy8 : y357.length = l0.length - ((ji3) : Int).toNat := (by rw [Ny357.out, List.length_drop] <;> omega)
    rw [show (l0).drop ((ji3) : Int).toNat = y357 from Ny357.out.symm] at hr8
    replace hr8 : Kd.F (Kd.int .u8) _ _ A8 y357.length y357 := (by rw [hA8]; exact hr8)
    rw [← hy8, ← hA8, ← hc8] at hcut8
    have HO361 := Aside0.mk (show Kd.V (Kd.int .u8) 5 _ w.heap.size _ (.slice A8 y357.length c8) y357 from Kd.V_mk (by rw [hy8, hc8]; exact Nat.sub_le_sub_right hroom8 _) hr8)
    have HC361 := Aside0.mk (show y357.length ≤ c8 from by rw [hy8, hc8]; exact Nat.sub_le_sub_right hroom8 _)
    clear hr8 hC8 hroom8 hi08 hsz8 hc8
    have KY8 := Aside0.mk hy8
    have KA8 := Aside0.mk hA8
    clear hy8 hA8
    replace q8 := eq_true q8
    go_enter Try.func15, Try.ntmps15
    go_upto_region 4 with (first | ((with_reducible refine gate_callee (f := 32) rfl ?_); refine goesL_ (some 33) rfl rfl Try.func32 (by kernel_rfl) rfl #[.slice A8 y357.length c8, .int .i64 4] rfl (by (try simp only [List.map_toArray, List.map_cons, List.map_nil]); first | done | rfl | (simp only [List.length_drop, List.length_take]; rfl)) ?_; (with_reducible refine (staddleref01_Fixed.calls k _ _ y357 4 t362 t363 _ ?side1 ?side2 A6.out).mono ?_); (case side1 => exact (Kd.V_reads' HO361.out).2.2); (case side2 => exact (Kd.V_reads' HO361.out).2.1); rintro e w' ⟨rfl, ⟨nd, rfl⟩⟩; refine ⟨_, rfl, ?_⟩))
    (try simp only [Act.put, List.setIfInBounds_toArray, List.set_cons_zero, List.set_cons_succ])
    go_cut [49] (fun v49 wc => ∃ (kq : Nat) (x49_6 : Bool), v49 = .bool x49_6 ∧ Aside0 (staddleref11_Read.j0 kq l0 t362 x49_6 = some (r1, r2)) ∧ Aside0 (kq ≤ k) ∧ Aside0 (Kd.V (Kd.int .u8) 5 wc w.heap.size (fun k_ => (P0_ k_ ∨ w.heap.size ≤ k_)) (.slice A0 l0.length c0) l0) ∧ Aside0 (Below w.heap.size w wc))
    case first =>
     have H := HC7.out
     clear HC7
     by_cases c9 : t362 > (IntKind.u64.wrap ((l0.length : Int)))
     ·
      rw [if_pos c9] at H
      have c9b0 : decide ((IntKind.u64.wrap ((l0.length : Int))) < t362) = true := decide_eq_true c9
      clear c9
      (first | rw [c9b0] | (simp only [i64_w, i32_w]; rw [c9b0]) | skip)
      have H' := Aside0.mk H
      clear H
      go_wp2
      go_meet
      case rel => exact ⟨_, (true), (by first | rfl | (simp; done) | (simp [*]; done) | (simp; omega)), H', ⟨by first | omega | exact Nat.le_refl _⟩, ⟨by (with_reducible repeat (first | apply Kd.V_alloc | apply Kd.V_drewN | apply Kd.V_drew)); exact HO0.out⟩, ⟨by repeat (first | (with_reducible first | exact HB.out | apply below_alloc | apply pw_below_drewN | apply below_drew1) | exact HB.out)⟩⟩
     ·
      rw [if_neg c9] at H
      have c9b0 : decide ((IntKind.u64.wrap ((l0.length : Int))) < t362) = false := decide_eq_false c9
      clear c9
      (first | rw [c9b0] | (simp only [i64_w, i32_w]; rw [c9b0]) | skip)
      have H' := Aside0.mk H
      clear H
      go_wp2
      go_meet
      case rel => exact ⟨_, (decide ((l0.length : Int) < (wrap64 (5 + (wrap64 (4 * (wrap64 (t362)))))))), (by first | rfl | (simp; done) | (simp [*]; done) | (simp; omega)), H', ⟨by first | omega | exact Nat.le_refl _⟩, ⟨by (with_reducible repeat (first | apply Kd.V_alloc | apply Kd.V_drewN | apply Kd.V_drew)); exact HO0.out⟩, ⟨by repeat (first | (with_reducible first | exact HB.out | apply below_alloc | apply pw_below_drewN | apply below_drew1) | exact HB.out)⟩⟩
    case rest =>
     clear HC7
     try clear c1
     try clear c2
     try clear c2b0
     try clear c2b1
     try clear p2
     try clear c3
     try clear c4
     try clear c4b0
     try clear c4b1
     try clear c5
     try clear c5b0
     try clear c5b1
     try clear p6
     try clear c8
     try clear q8
     try clear c9
     try clear c9b0
     try clear q08
     try clear q8
     obtain ⟨kq, x49_6, rfl, HA, HJ6, HO_0, HB⟩ := hcut
     cases kq with
     | zero => exact absurd HA.out (by simp [staddleref11_Read.j0])
     | succ kj6 =>
      have H := HA.out
      clear HA
      simp only [staddleref11_Read.j0] at H
      by_cases c10 : x49_6 = true
      ·
       subst c10
       have H1 : (some (([] : List (S42)), 111)) = some (r1, r2) := by rw [if_pos rfl] at H; exact H
       clear H
       have H := H1
       clear H1
       simp only [Option.some.injEq, Prod.mk.injEq] at H
       obtain ⟨rfl, rfl⟩ := H
       go_wp2
       go_ret2
       exact ⟨_, by first | rfl | (simp [errW_none, errW_some] <;> rfl) | (simp only [← hji3]; first | rfl | (simp [errW_none, errW_some] <;> rfl)) | (simp [*, errW_none, errW_some] <;> rfl), by first | exact Kd.R_nil _ _ _ _ _ | exact Kd.N_nil _ _ _ _ _ | exact Kd.V_nil _ _ _ _ _ | exact Kd.Q_nil _ _ _ _ _ | exact Kd.S_nil _ _ _ _ _, by repeat (first | (with_reducible first | exact HB.out | apply below_alloc | apply pw_below_drewN | apply below_drew1) | exact HB.out)⟩
      ·
       replace c10 := Bool.eq_false_iff.mpr c10
       subst c10
       have H1 : (if 0 ≤ (wrap64 ((l0.length : Int) - 5)) then (if (wrap64 ((l0.length : Int) - 5)) < (l0.length : Int) then (if 0 ≤ (wrap64 ((wrap64 ((l0.length : Int) - 5)) - (wrap64 (4 * (wrap64 (t362)))))) then (if (wrap64 ((wrap64 ((l0.length : Int) - 5)) - (wrap64 (4 * (wrap64 (t362)))))) ≤ (l0.length : Int) then (staddleref11_Read.l0 kj6 l0 (wrap64 (rd l0 (wrap64 ((l0.length : Int) - 5)))) (l0.take ((wrap64 ((wrap64 ((l0.length : Int) - 5)) - (wrap64 (4 * (wrap64 (t362)))))) : Int).toNat) ([] : List (S42)) ([] : List Int)) else (none)) else (none)) else (none)) else (none)) = some (r1, r2) := by rw [if_neg (show ¬ (false = true) by decide)] at H; exact H
       clear H
       have H := H1
       clear H1
       obtain ⟨ji11, hji11⟩ : ∃ j_ : Int, (wrap64 ((l0.length : Int) - 5)) = j_ := ⟨_, rfl⟩
       replace H : (if 0 ≤ (ji11) then (if (ji11) < (l0.length : Int) then (if 0 ≤ (wrap64 ((ji11) - (wrap64 (4 * (wrap64 (t362)))))) then (if (wrap64 ((ji11) - (wrap64 (4 * (wrap64 (t362)))))) ≤ (l0.length : Int) then (staddleref11_Read.l0 kj6 l0 (wrap64 (rd l0 (ji11))) (l0.take ((wrap64 ((ji11) - (wrap64 (4 * (wrap64 (t362)))))) : Int).toNat) ([] : List (S42)) ([] : List Int)) else (none)) else (none)) else (none)) else (none)) = some (r1, r2) := by first | (rw [hji11] at H; exact H) | (simp only [hji11] at H ⊢; exact H)
       have hji11w : (IntKind.i64.wrap ((l0.length : Int) - 5)) = ji11 := (i64_w _).trans hji11
       by_cases c12 : 0 ≤ (ji11)
       ·
        rw [if_pos c12] at H
        have c12b0 : decide (0 ≤ (ji11)) = true := decide_eq_true c12
        clear c12
        by_cases c13 : (ji11) < (l0.length : Int)
        ·
         rw [if_pos c13] at H
         have c13b0 : decide ((ji11) < (l0.length : Int)) = true := decide_eq_true c13
         clear c13
         obtain ⟨ji14, hji14⟩ : ∃ j_ : Int, (wrap64 ((ji11) - (wrap64 (4 * (wrap64 (t362)))))) = j_ := ⟨_, rfl⟩
         replace H : (if 0 ≤ (ji14) then (if (ji14) ≤ (l0.length : Int) then (staddleref11_Read.l0 kj6 l0 (wrap64 (rd l0 (ji11))) (l0.take ((ji14) : Int).toNat) ([] : List (S42)) ([] : List Int)) else (none)) else (none)) = some (r1, r2) := by first | (rw [hji14] at H; exact H) | (simp only [hji14] at H ⊢; exact H)
         have hji14w : (IntKind.i64.wrap ((ji11) - (wrap64 (4 * (wrap64 (t362)))))) = ji14 := (i64_w _).trans hji14
         by_cases c15 : 0 ≤ (ji14)
         ·
          rw [if_pos c15] at H
          have c15b0 := eq_true c15
          have c15b1 : decide (0 ≤ (ji14)) = true := decide_eq_true c15
          clear c15
          by_cases c16 : (ji14) ≤ (l0.length : Int)
          ·
           rw [if_pos c16] at H
           have c16b0 := eq_true c16
           have c16b1 : decide ((ji14) ≤ (l0.length : Int)) = true := decide_eq_true c16
           clear c16
           obtain ⟨y365, hy365⟩ : ∃ y_ : List Int, y_ = (l0.take ((ji14) : Int).toNat) := ⟨_, rfl⟩
           replace H : (staddleref11_Read.l0 kj6 l0 (wrap64 (rd l0 (ji11))) y365 ([] : List (S42)) ([] : List Int)) = some (r1, r2) := by first | (rw [hy365]; with_reducible exact H) | (have H2_ := (Option.bind_some _ _).symm.trans H; rw [hy365]; with_reducible exact H2_) | (have H2_ := (Option.bind_some _ _).symm.trans H; with_reducible exact H2_) | with_reducible exact H | (rw [hy365]; exact H) | exact H
           have Ny365 := Aside0.mk hy365
           clear hy365
           have H' := Aside0.mk H
           clear H
           have p364 : 0 ≤ ((ji11) : Int) := of_decide_eq_true (by first | (with_reducible assumption) | assumption)
           have q364 : (ji11) < (l0.length : Int) := of_decide_eq_true (by first | (with_reducible assumption) | assumption)
           obtain ⟨ad364, e364, hx364_0⟩ := Kd.at_int (Kd.V_reads' HO_0.out).2.2 (ji11) p364 q364
           cases e364
           replace p364 := eq_true p364
           replace q364 := eq_true q364
           have q17 : ((ji14) : Int) ≤ ((l0.length : Int) : Int) := of_decide_eq_true (by first | (with_reducible assumption) | assumption)
           obtain ⟨i017, hi017, _, hsz17, _⟩ := info_parts info5
           have hroom17 : l0.length ≤ c0 := (Kd.V_reads' HO_0.out).2.1
           have hC17 : Kd.F (Kd.int .u8) _ _ (some ad364) l0.length l0 := (Kd.V_at (base := w.heap.size) HO_0.out).2.2
           have hcut17 := cut_to (P := Try.prog) 24 5 .i64 Try.underlying24 hi017 (some ad364) l0.length c0 (ji14) (of_decide_eq_true (by first | (with_reducible assumption) | assumption)) q17 hroom17
           have hr17 := Kd.F_take (m := ((ji14) : Int).toNat) hC17 (by omega)
           have hy17 : y365.length = ((ji14) : Int).toNat := (by rw [Ny365.out, List.length_take]; omega)
           rw [← Ny365.out] at hr17
           rw [← hy17] at hcut17
           have HO369 := Aside0.mk (show Kd.V (Kd.int .u8) 5 _ w.heap.size _ (.slice (some ad364) y365.length c0) y365 from Kd.V_mk (by omega) hr17)
           have HC369 := Aside0.mk (show y365.length ≤ c0 from by omega)
           clear hr17 hC17 hroom17 hi017 hsz17
           have KY17 := Aside0.mk hy17
           clear hy17
           replace q17 := eq_true q17
           go_wp2
           go_loopg [7, 8, 9] kj6 (fun kq v7 v8 v9 w' => ∃ (x7_2 : List Int) (x8_2 : List (S42)) (x9_2 : List Int), Aside0 (staddleref11_Read.l0 kq l0 (wrap64 (rd l0 (ji11))) x7_2 x8_2 x9_2 = some (r1, r2)) ∧ Aside0 (kq ≤ kj6) ∧ Aside0 (Kd.V (Kd.int .u8) 5 w' w.heap.size (fun k_ => (P0_ k_ ∨ w.heap.size ≤ k_) ∧ some k_ ≠ (v8 : Value).ownBlock ∧ some k_ ≠ (v9 : Value).ownBlock) (.slice (some ad364) l0.length c0) l0) ∧ Aside0 (Kd.V (Kd.int .u8) 5 w' w.heap.size (fun k_ => (P0_ k_ ∨ w.heap.size ≤ k_) ∧ some k_ ≠ (v8 : Value).ownBlock ∧ some k_ ≠ (v9 : Value).ownBlock) v7 x7_2) ∧ Aside0 (Kd.R k42 42 w' w.heap.size (fun k_ => (w.heap.size ≤ k_)) v8 x8_2) ∧ Aside0 (Kd.R (Kd.int .u8) 5 w' w.heap.size (fun k_ => (w.heap.size ≤ k_)) v9 x9_2) ∧ Aside0 (Below w.heap.size w w'))
           case atStart => exact ⟨(y365), (([] : List (S42))), (([] : List Int)), H', ⟨Nat.le_refl _⟩, ⟨by (with_reducible repeat (first | apply Kd.V_alloc | apply Kd.V_drewN | apply Kd.V_drew)); exact Kd.V_mono HO_0.out (fun _ hk => ⟨hk, ⟨(by simp [Value.ownBlock]), (by simp [Value.ownBlock])⟩⟩)⟩, ⟨by (with_reducible repeat (first | apply Kd.V_alloc | apply Kd.V_drewN | apply Kd.V_drew)); exact Kd.V_mono HO369.out (fun _ hk => ⟨hk, ⟨(by simp [Value.ownBlock]), (by simp [Value.ownBlock])⟩⟩)⟩, ⟨by first | exact Kd.R_nil _ _ _ _ _ | exact Kd.N_nil _ _ _ _ _ | exact Kd.V_nil _ _ _ _ _ | exact Kd.Q_nil _ _ _ _ _ | exact Kd.S_nil _ _ _ _ _⟩, ⟨by first | exact Kd.R_nil _ _ _ _ _ | exact Kd.N_nil _ _ _ _ _ | exact Kd.V_nil _ _ _ _ _ | exact Kd.Q_nil _ _ _ _ _ | exact Kd.S_nil _ _ _ _ _⟩, ⟨HB.out⟩⟩
           case round =>
            clear H'
            try clear c1
            try clear q1
            try clear c2
            try clear c2b0
            try clear c2b1
            try clear p2
            try clear c3
            try clear p3
            try clear q3
            try clear hx3
            try clear c4
            try clear c4b0
            try clear c4b1
            try clear c5
            try clear c5b0
            try clear c5b1
            try clear p6
            try clear c8
            try clear q8
            try clear c9
            try clear c9b0
            try clear c10
            try clear c12
            try clear c12b0
            try clear c13
            try clear c13b0
            try clear c15
            try clear c15b0
            try clear c15b1
            try clear c16
            try clear c16b0
            try clear c16b1
            try clear q17
            try clear hx364_0
            try clear p2
            try clear p364
            try clear p6
            try clear q08
            try clear q17
            try clear q364
            try clear q8
            obtain ⟨x7_2, x8_2, x9_2, HA, HK2, HO_0, HO_7, HO_8, HO_9, HB⟩ := hrel
            cases gk with
            | zero => exact absurd HA.out (by simp [staddleref11_Read.l0])
            | succ k2 =>
             have H := HA.out
             clear HA
             simp only [staddleref11_Read.l0] at H
             by_cases c18 : (x7_2.length : Int) > 0
             ·
              rw [if_pos c18] at H
              have c18b0 : decide (0 < (x7_2.length : Int)) = true := decide_eq_true c18
              have c18b1 : decide (0 < x7_2.length) = true := decide_eq_true (by omega)
              clear c18
              replace H := Option.bind_eq_some_iff.mp H
              obtain ⟨⟨t374, t375, t376⟩, A190, H⟩ := H
              replace H : (if 0 ≤ t375 then (if t375 ≤ (x7_2.length : Int) then ((staddleref01_Uvarint.f k2 (x7_2.drop (t375 : Int).toNat)).bind fun bt382 => (if 0 ≤ (wrap64 (t375 + bt382.2.1)) then (if (wrap64 (t375 + bt382.2.1)) ≤ (x7_2.length : Int) then ((staddleref01_Uvarint.f k2 (x7_2.drop ((wrap64 (t375 + bt382.2.1)) : Int).toNat)).bind fun bt390 => (if t376 = 0 then (if bt382.2.2 = 0 then (staddleref11_Read.j2 k2 l0 (wrap64 (rd l0 (ji11))) x7_2 x8_2 x9_2 t374 t375 bt382.1 bt382.2.1 bt390.1 bt390.2.1 (bt390.2.2 != 0)) else (staddleref11_Read.j2 k2 l0 (wrap64 (rd l0 (ji11))) x7_2 x8_2 x9_2 t374 t375 bt382.1 bt382.2.1 bt390.1 bt390.2.1 true)) else (staddleref11_Read.j2 k2 l0 (wrap64 (rd l0 (ji11))) x7_2 x8_2 x9_2 t374 t375 bt382.1 bt382.2.1 bt390.1 bt390.2.1 true))) else (none)) else (none))) else (none)) else (none)) = some (r1, r2) := H
              have A19 := Aside0.mk A190
              clear A190
              by_cases c20 : 0 ≤ t375
              ·
               rw [if_pos c20] at H
               have c20b0 := eq_true c20
               have c20b1 : decide (0 ≤ t375) = true := decide_eq_true c20
               clear c20
               by_cases c21 : t375 ≤ (x7_2.length : Int)
               ·
                rw [if_pos c21] at H
                have c21b0 := eq_true c21
                have c21b1 : decide (t375 ≤ (x7_2.length : Int)) = true := decide_eq_true c21
                clear c21
                obtain ⟨y377, hy377⟩ : ∃ y_ : List Int, y_ = (x7_2.drop (t375 : Int).toNat) := ⟨_, rfl⟩
                replace H : ((staddleref01_Uvarint.f k2 y377).bind fun bt382 => (if 0 ≤ (wrap64 (t375 + bt382.2.1)) then (if (wrap64 (t375 + bt382.2.1)) ≤ (x7_2.length : Int) then ((staddleref01_Uvarint.f k2 (x7_2.drop ((wrap64 (t375 + bt382.2.1)) : Int).toNat)).bind fun bt390 => (if t376 = 0 then (if bt382.2.2 = 0 then (staddleref11_Read.j2 k2 l0 (wrap64 (rd l0 (ji11))) x7_2 x8_2 x9_2 t374 t375 bt382.1 bt382.2.1 bt390.1 bt390.2.1 (bt390.2.2 != 0)) else (staddleref11_Read.j2 k2 l0 (wrap64 (rd l0 (ji11))) x7_2 x8_2 x9_2 t374 t375 bt382.1 bt382.2.1 bt390.1 bt390.2.1 true)) else (staddleref11_Read.j2 k2 l0 (wrap64 (rd l0 (ji11))) x7_2 x8_2 x9_2 t374 t375 bt382.1 bt382.2.1 bt390.1 bt390.2.1 true))) else (none)) else (none))) = some (r1, r2) := by first | (rw [hy377]; with_reducible exact H) | (have H2_ := (Option.bind_some _ _).symm.trans H; rw [hy377]; with_reducible exact H2_) | (have H2_ := (Option.bind_some _ _).symm.trans H; with_reducible exact H2_) | with_reducible exact H | (rw [hy377]; exact H) | exact H
                have Ny377 := Aside0.mk hy377
                clear hy377
                replace H := Option.bind_eq_some_iff.mp H
                obtain ⟨⟨t382, t383, t384⟩, A220, H⟩ := H
                replace H : (if 0 ≤ (wrap64 (t375 + t383)) then (if (wrap64 (t375 + t383)) ≤ (x7_2.length : Int) then ((staddleref01_Uvarint.f k2 (x7_2.drop ((wrap64 (t375 + t383)) : Int).toNat)).bind fun bt390 => (if t376 = 0 then (if t384 = 0 then (staddleref11_Read.j2 k2 l0 (wrap64 (rd l0 (ji11))) x7_2 x8_2 x9_2 t374 t375 t382 t383 bt390.1 bt390.2.1 (bt390.2.2 != 0)) else (staddleref11_Read.j2 k2 l0 (wrap64 (rd l0 (ji11))) x7_2 x8_2 x9_2 t374 t375 t382 t383 bt390.1 bt390.2.1 true)) else (staddleref11_Read.j2 k2 l0 (wrap64 (rd l0 (ji11))) x7_2 x8_2 x9_2 t374 t375 t382 t383 bt390.1 bt390.2.1 true))) else (none)) else (none)) = some (r1, r2) := H
                have A22 := Aside0.mk A220
                clear A220
                obtain ⟨ji23, hji23⟩ : ∃ j_ : Int, (wrap64 (t375 + t383)) = j_ := ⟨_, rfl⟩
                replace H : (if 0 ≤ (ji23) then (if (ji23) ≤ (x7_2.length : Int) then ((staddleref01_Uvarint.f k2 (x7_2.drop ((ji23) : Int).toNat)).bind fun bt390 => (if t376 = 0 then (if t384 = 0 then (staddleref11_Read.j2 k2 l0 (wrap64 (rd l0 (ji11))) x7_2 x8_2 x9_2 t374 t375 t382 t383 bt390.1 bt390.2.1 (bt390.2.2 != 0)) else (staddleref11_Read.j2 k2 l0 (wrap64 (rd l0 (ji11))) x7_2 x8_2 x9_2 t374 t375 t382 t383 bt390.1 bt390.2.1 true)) else (staddleref11_Read.j2 k2 l0 (wrap64 (rd l0 (ji11))) x7_2 x8_2 x9_2 t374 t375 t382 t383 bt390.1 bt390.2.1 true))) else (none)) else (none)) = some (r1, r2) := by first | (rw [hji23] at H; exact H) | (simp only [hji23] at H ⊢; exact H)
                (try rw [hji23] at A19)
                (try rw [hji23] at A22)
                have hji23w : (IntKind.i64.wrap (t375 + t383)) = ji23 := (i64_w _).trans hji23
                by_cases c24 : 0 ≤ (ji23)
                ·
                 rw [if_pos c24] at H
                 have c24b0 := eq_true c24
                 have c24b1 : decide (0 ≤ (ji23)) = true := decide_eq_true c24
                 clear c24
                 by_cases c25 : (ji23) ≤ (x7_2.length : Int)
                 ·
                  rw [if_pos c25] at H
                  have c25b0 := eq_true c25
                  have c25b1 : decide ((ji23) ≤ (x7_2.length : Int)) = true := decide_eq_true c25
                  clear c25
                  obtain ⟨y385, hy385⟩ : ∃ y_ : List Int, y_ = (x7_2.drop ((ji23) : Int).toNat) := ⟨_, rfl⟩
                  replace H : ((staddleref01_Uvarint.f k2 y385).bind fun bt390 => (if t376 = 0 then (if t384 = 0 then (staddleref11_Read.j2 k2 l0 (wrap64 (rd l0 (ji11))) x7_2 x8_2 x9_2 t374 t375 t382 t383 bt390.1 bt390.2.1 (bt390.2.2 != 0)) else (staddleref11_Read.j2 k2 l0 (wrap64 (rd l0 (ji11))) x7_2 x8_2 x9_2 t374 t375 t382 t383 bt390.1 bt390.2.1 true)) else (staddleref11_Read.j2 k2 l0 (wrap64 (rd l0 (ji11))) x7_2 x8_2 x9_2 t374 t375 t382 t383 bt390.1 bt390.2.1 true))) = some (r1, r2) := by first | (rw [hy385]; with_reducible exact H) | (have H2_ := (Option.bind_some _ _).symm.trans H; rw [hy385]; with_reducible exact H2_) | (have H2_ := (Option.bind_some _ _).symm.trans H; with_reducible exact H2_) | with_reducible exact H | (rw [hy385]; exact H) | exact H
                  have Ny385 := Aside0.mk hy385
                  clear hy385
                  replace H := Option.bind_eq_some_iff.mp H
                  obtain ⟨⟨t390, t391, t392⟩, A260, H⟩ := H
                  replace H : (if t376 = 0 then (if t384 = 0 then (staddleref11_Read.j2 k2 l0 (wrap64 (rd l0 (ji11))) x7_2 x8_2 x9_2 t374 t375 t382 t383 t390 t391 (t392 != 0)) else (staddleref11_Read.j2 k2 l0 (wrap64 (rd l0 (ji11))) x7_2 x8_2 x9_2 t374 t375 t382 t383 t390 t391 true)) else (staddleref11_Read.j2 k2 l0 (wrap64 (rd l0 (ji11))) x7_2 x8_2 x9_2 t374 t375 t382 t383 t390 t391 true)) = some (r1, r2) := H
                  have A26 := Aside0.mk A260
                  clear A260
                  have HC27 := Aside0.mk H
                  clear H
                  obtain ⟨Ao28, co28, eo28⟩ := Kd.V_slice HO_7.out
                  subst eo28
                  go_upto_region 14 with (first | ((with_reducible refine gate_callee (f := 33) rfl ?_); refine goesL_ (some 71) rfl rfl Try.func33 (by kernel_rfl) rfl #[.slice Ao28 x7_2.length co28] rfl (by (try simp only [List.map_toArray, List.map_cons, List.map_nil]); first | done | rfl | (simp only [List.length_drop, List.length_take]; rfl)) ?_; (with_reducible refine (staddleref01_Uvarint.calls k2 _ _ x7_2 t374 t375 t376 _ ?side1 ?side2 A19.out).mono ?_); (case side1 => exact (Kd.V_reads' HO_7.out).2.2); (case side2 => exact (Kd.V_reads' HO_7.out).2.1); rintro e w' ⟨rfl, ⟨nd, rfl⟩⟩; refine ⟨_, rfl, ?_⟩; have q29 : (t375 : Int) ≤ ((x7_2.length : Int) : Int) := of_decide_eq_true (by first | (with_reducible assumption) | assumption); obtain ⟨i029, hi029, _, hsz29, _⟩ := info_parts info5; have hroom29 : x7_2.length ≤ co28 := (Kd.V_reads' HO_7.out).2.1; have hC29 : Kd.F (Kd.int .u8) _ _ Ao28 x7_2.length x7_2 := (Kd.V_at (base := w.heap.size) HO_7.out).2.2; have q029 : (0 : Int) ≤ (t375 : Int) := of_decide_eq_true (by first | (with_reducible assumption) | assumption); have hcut29 := cut_from (P := Try.prog) 24 5 .i64 Try.underlying24 hi029 1 hsz29 Ao28 x7_2.length co28 t375 q029 q29; have hr29 := Kd.F_cut (m := (t375 : Int).toNat) (c := co28) hC29 (by omega) hroom29; obtain ⟨A29, hA29⟩ : ∃ A1, A1 = (if co28 = (t375 : Int).toNat then Ao28 else (Ao28 : Option Addr).map (·.add ((t375 : Int).toNat * 1))) := ⟨_, rfl⟩; obtain ⟨c29, hc29⟩ : ∃ c1, c1 = co28 - (t375 : Int).toNat := ⟨_, rfl⟩; have hy29 : y377.length = x7_2.length - (t375 : Int).toNat := (by rw [Ny377.out, List.length_drop] <;> omega); rw [show (x7_2).drop (t375 : Int).toNat = y377 from Ny377.out.symm] at hr29; replace hr29 : Kd.F (Kd.int .u8) _ _ A29 y377.length y377 := (by rw [hA29]; exact hr29); rw [← hy29, ← hA29, ← hc29] at hcut29; have HO381 := Aside0.mk (show Kd.V (Kd.int .u8) 5 _ w.heap.size _ (.slice A29 y377.length c29) y377 from Kd.V_mk (by rw [hy29, hc29]; exact Nat.sub_le_sub_right hroom29 _) hr29); have HC381 := Aside0.mk (show y377.length ≤ c29 from by rw [hy29, hc29]; exact Nat.sub_le_sub_right hroom29 _); clear hr29 hC29 hroom29 hi029 hsz29 hc29; have KY29 := Aside0.mk hy29; have KA29 := Aside0.mk hA29; clear hy29 hA29; replace q29 := eq_true q29) | ((with_reducible refine gate_callee (f := 33) rfl ?_); refine goesL_ (some 79) rfl rfl Try.func33 (by kernel_rfl) rfl #[.slice A29 y377.length c29] rfl (by (try simp only [List.map_toArray, List.map_cons, List.map_nil]); first | done | rfl | (simp only [List.length_drop, List.length_take]; rfl)) ?_; (with_reducible refine (staddleref01_Uvarint.calls k2 _ _ y377 t382 t383 t384 _ ?side1 ?side2 A22.out).mono ?_); (case side1 => exact (Kd.V_reads' HO381.out).2.2); (case side2 => exact (Kd.V_reads' HO381.out).2.1); rintro e w' ⟨rfl, ⟨nd, rfl⟩⟩; refine ⟨_, rfl, ?_⟩; have q30 : ((ji23) : Int) ≤ ((x7_2.length : Int) : Int) := of_decide_eq_true (by first | (with_reducible assumption) | assumption); obtain ⟨i030, hi030, _, hsz30, _⟩ := info_parts info5; have hroom30 : x7_2.length ≤ co28 := (Kd.V_reads' HO_7.out).2.1; have hC30 : Kd.F (Kd.int .u8) _ _ Ao28 x7_2.length x7_2 := (Kd.V_at (base := w.heap.size) HO_7.out).2.2; have q030 : (0 : Int) ≤ ((ji23) : Int) := of_decide_eq_true (by first | (with_reducible assumption) | assumption); have hcut30 := cut_from (P := Try.prog) 24 5 .i64 Try.underlying24 hi030 1 hsz30 Ao28 x7_2.length co28 (ji23) q030 q30; have hr30 := Kd.F_cut (m := ((ji23) : Int).toNat) (c := co28) hC30 (by omega) hroom30; obtain ⟨A30, hA30⟩ : ∃ A1, A1 = (if co28 = ((ji23) : Int).toNat then Ao28 else (Ao28 : Option Addr).map (·.add (((ji23) : Int).toNat * 1))) := ⟨_, rfl⟩; obtain ⟨c30, hc30⟩ : ∃ c1, c1 = co28 - ((ji23) : Int).toNat := ⟨_, rfl⟩; have hy30 : y385.length = x7_2.length - ((ji23) : Int).toNat := (by rw [Ny385.out, List.length_drop] <;> omega); rw [show (x7_2).drop ((ji23) : Int).toNat = y385 from Ny385.out.symm] at hr30; replace hr30 : Kd.F (Kd.int .u8) _ _ A30 y385.length y385 := (by rw [hA30]; exact hr30); rw [← hy30, ← hA30, ← hc30] at hcut30; have HO389 := Aside0.mk (show Kd.V (Kd.int .u8) 5 _ w.heap.size _ (.slice A30 y385.length c30) y385 from Kd.V_mk (by rw [hy30, hc30]; exact Nat.sub_le_sub_right hroom30 _) hr30); have HC389 := Aside0.mk (show y385.length ≤ c30 from by rw [hy30, hc30]; exact Nat.sub_le_sub_right hroom30 _); clear hr30 hC30 hroom30 hi030 hsz30 hc30; have KY30 := Aside0.mk hy30; have KA30 := Aside0.mk hA30; clear hy30 hA30; replace q30 := eq_true q30) | ((with_reducible refine gate_callee (f := 33) rfl ?_); refine goesL_ (some 89) rfl rfl Try.func33 (by kernel_rfl) rfl #[.slice A30 y385.length c30] rfl (by (try simp only [List.map_toArray, List.map_cons, List.map_nil]); first | done | rfl | (simp only [List.length_drop, List.length_take]; rfl)) ?_; (with_reducible refine (staddleref01_Uvarint.calls k2 _ _ y385 t390 t391 t392 _ ?side1 ?side2 A26.out).mono ?_); (case side1 => exact (Kd.V_reads' HO389.out).2.2); (case side2 => exact (Kd.V_reads' HO389.out).2.1); rintro e w' ⟨rfl, ⟨nd, rfl⟩⟩; refine ⟨_, rfl, ?_⟩))
                  (try simp only [Act.put, List.setIfInBounds_toArray, List.set_cons_zero, List.set_cons_succ])
                  go_cut [102] (fun v102 wc => ∃ (kq : Nat) (x102_26 : Bool), v102 = .bool x102_26 ∧ Aside0 (staddleref11_Read.j2 kq l0 (wrap64 (rd l0 (ji11))) x7_2 x8_2 x9_2 t374 t375 t382 t383 t390 t391 x102_26 = some (r1, r2)) ∧ Aside0 (kq ≤ k2) ∧ Aside0 (Kd.V (Kd.int .u8) 5 wc w.heap.size (fun k_ => (P0_ k_ ∨ w.heap.size ≤ k_) ∧ some k_ ≠ (u8 : Value).ownBlock ∧ some k_ ≠ (u9 : Value).ownBlock) (.slice (some ad364) l0.length c0) l0) ∧ Aside0 (Kd.V (Kd.int .u8) 5 wc w.heap.size (fun k_ => (P0_ k_ ∨ w.heap.size ≤ k_) ∧ some k_ ≠ (u8 : Value).ownBlock ∧ some k_ ≠ (u9 : Value).ownBlock) (.slice Ao28 x7_2.length co28) x7_2) ∧ Aside0 (Kd.R k42 42 wc w.heap.size (fun k_ => (w.heap.size ≤ k_)) u8 x8_2) ∧ Aside0 (Kd.R (Kd.int .u8) 5 wc w.heap.size (fun k_ => (w.heap.size ≤ k_)) u9 x9_2) ∧ Aside0 (Below w.heap.size w wc))
                  case first =>
                   have H := HC27.out
                   clear HC27
                   by_cases c31 : t376 = 0
                   ·
                    rw [if_pos c31] at H
                    have c31b0 : (t376 == 0) = true := beq_iff_eq.mpr c31
                    have c31b1 : (t376 != 0) = false := bne_eq_false_iff_eq.mpr c31
                    clear c31
                    (first | rw [c31b0] | (simp only [i64_w, i32_w]; rw [c31b0]) | skip)
                    by_cases c32 : t384 = 0
                    ·
                     rw [if_pos c32] at H
                     have c32b0 : (t384 == 0) = true := beq_iff_eq.mpr c32
                     have c32b1 : (t384 != 0) = false := bne_eq_false_iff_eq.mpr c32
                     clear c32
                     have H' := Aside0.mk H
                     clear H
                     go_wp2
                     go_meet
                     case rel => exact ⟨_, ((t392 != 0)), (by first | rfl | (simp; done) | (simp [*]; done) | (simp; omega)), H', ⟨by have := HJ6.out; have := HK2.out; first | omega | exact Nat.le_refl _⟩, ⟨by (with_reducible repeat (first | apply Kd.V_alloc | apply Kd.V_drewN | apply Kd.V_drew)); exact HO_0.out⟩, ⟨by (with_reducible repeat (first | apply Kd.V_alloc | apply Kd.V_drewN | apply Kd.V_drew)); exact HO_7.out⟩, ⟨by (with_reducible repeat (first | apply Kd.R_alloc | apply Kd.R_drewN | apply Kd.R_drew)); exact HO_8.out⟩, ⟨by (with_reducible repeat (first | apply Kd.R_alloc | apply Kd.R_drewN | apply Kd.R_drew)); exact HO_9.out⟩, ⟨by repeat (first | (with_reducible first | exact HB.out | apply below_alloc | apply pw_below_drewN | apply below_drew1) | exact HB.out)⟩⟩
                    ·
                     rw [if_neg c32] at H
                     have c32b0 : (t384 == 0) = false := beq_eq_false_iff_ne.mpr c32
                     have c32b1 : (t384 != 0) = true := bne_iff_ne.mpr c32
                     have H' := Aside0.mk H
                     clear H
                     go_wp2
                     go_meet
                     case rel => exact ⟨_, (true), (by first | rfl | (simp; done) | (simp [*]; done) | (simp; omega)), H', ⟨by have := HJ6.out; have := HK2.out; first | omega | exact Nat.le_refl _⟩, ⟨by (with_reducible repeat (first | apply Kd.V_alloc | apply Kd.V_drewN | apply Kd.V_drew)); exact HO_0.out⟩, ⟨by (with_reducible repeat (first | apply Kd.V_alloc | apply Kd.V_drewN | apply Kd.V_drew)); exact HO_7.out⟩, ⟨by (with_reducible repeat (first | apply Kd.R_alloc | apply Kd.R_drewN | apply Kd.R_drew)); exact HO_8.out⟩, ⟨by (with_reducible repeat (first | apply Kd.R_alloc | apply Kd.R_drewN | apply Kd.R_drew)); exact HO_9.out⟩, ⟨by repeat (first | (with_reducible first | exact HB.out | apply below_alloc | apply pw_below_drewN | apply below_drew1) | exact HB.out)⟩⟩
                   ·
                    rw [if_neg c31] at H
                    have c31b0 : (t376 == 0) = false := beq_eq_false_iff_ne.mpr c31
                    have c31b1 : (t376 != 0) = true := bne_iff_ne.mpr c31
                    (first | rw [c31b0] | (simp only [i64_w, i32_w]; rw [c31b0]) | skip)
                    have H' := Aside0.mk H
                    clear H
                    go_wp2
                    go_meet
                    case rel => exact ⟨_, (true), (by first | rfl | (simp; done) | (simp [*]; done) | (simp; omega)), H', ⟨by have := HJ6.out; have := HK2.out; first | omega | exact Nat.le_refl _⟩, ⟨by (with_reducible repeat (first | apply Kd.V_alloc | apply Kd.V_drewN | apply Kd.V_drew)); exact HO_0.out⟩, ⟨by (with_reducible repeat (first | apply Kd.V_alloc | apply Kd.V_drewN | apply Kd.V_drew)); exact HO_7.out⟩, ⟨by (with_reducible repeat (first | apply Kd.R_alloc | apply Kd.R_drewN | apply Kd.R_drew)); exact HO_8.out⟩, ⟨by (with_reducible repeat (first | apply Kd.R_alloc | apply Kd.R_drewN | apply Kd.R_drew)); exact HO_9.out⟩, ⟨by repeat (first | (with_reducible first | exact HB.out | apply below_alloc | apply pw_below_drewN | apply below_drew1) | exact HB.out)⟩⟩
                  case rest =>
                   clear HC27
                   try clear c1
                   try clear q1
                   try clear c2
                   try clear c2b0
                   try clear c2b1
                   try clear p2
                   try clear q2
                   try clear c3
                   try clear p3
                   try clear q3
                   try clear hx3
                   try clear c4
                   try clear c4b0
                   try clear c4b1
                   try clear c5
                   try clear c5b0
                   try clear c5b1
                   try clear p6
                   try clear c8
                   try clear q8
                   try clear c9
                   try clear c9b0
                   try clear c10
                   try clear c12
                   try clear c12b0
                   try clear c13
                   try clear c13b0
                   try clear c15
                   try clear c15b0
                   try clear c15b1
                   try clear c16
                   try clear c16b0
                   try clear c16b1
                   try clear q17
                   try clear c18
                   try clear c18b0
                   try clear c18b1
                   try clear c20
                   try clear c20b0
                   try clear c20b1
                   try clear c21
                   try clear c21b0
                   try clear c21b1
                   try clear c24
                   try clear c24b0
                   try clear c24b1
                   try clear c25
                   try clear c25b0
                   try clear c25b1
                   try clear c29
                   try clear q29
                   try clear c30
                   try clear q30
                   try clear c31
                   try clear c31b0
                   try clear c31b1
                   try clear c32
                   try clear c32b0
                   try clear c32b1
                   try clear hx364_0
                   try clear p2
                   try clear p3
                   try clear p364
                   try clear p6
                   try clear q029
                   try clear q030
                   try clear q08
                   try clear q1
                   try clear q17
                   try clear q29
                   try clear q3
                   try clear q30
                   try clear q364
                   try clear q8
                   obtain ⟨kq, x102_26, rfl, HA, HJ26, HO_0, HO_7, HO_8, HO_9, HB⟩ := hcut
                   cases kq with
                   | zero => exact absurd HA.out (by simp [staddleref11_Read.j2])
                   | succ kj26 =>
                    have H := HA.out
                    clear HA
                    simp only [staddleref11_Read.j2] at H
                    by_cases c33 : x102_26 = true
                    ·
                     subst c33
                     have H1 : (some (([] : List (S42)), 111)) = some (r1, r2) := by rw [if_pos rfl] at H; exact H
                     clear H
                     have H := H1
                     clear H1
                     simp only [Option.some.injEq, Prod.mk.injEq] at H
                     obtain ⟨rfl, rfl⟩ := H
                     go_wp2
                     go_ret2
                     exact ⟨_, by first | rfl | (simp [errW_none, errW_some] <;> rfl) | (simp only [← hji3, ← hji11, ← hji14, ← hji23]; first | rfl | (simp [errW_none, errW_some] <;> rfl)) | (simp [*, errW_none, errW_some] <;> rfl), by first | exact Kd.R_nil _ _ _ _ _ | exact Kd.N_nil _ _ _ _ _ | exact Kd.V_nil _ _ _ _ _ | exact Kd.Q_nil _ _ _ _ _ | exact Kd.S_nil _ _ _ _ _, by repeat (first | (with_reducible first | exact HB.out | apply below_alloc | apply pw_below_drewN | apply below_drew1) | exact HB.out)⟩
                    ·
                     replace c33 := Bool.eq_false_iff.mpr c33
                     subst c33
                     have H1 : (if 0 ≤ (wrap64 ((wrap64 (t375 + t383)) + t391)) then (if (wrap64 ((wrap64 (t375 + t383)) + t391)) ≤ (x7_2.length : Int) then ((some (x7_2.drop ((wrap64 ((wrap64 (t375 + t383)) + t391)) : Int).toNat : List Int)).bind fun y393 => (if t374 > (IntKind.u64.wrap ((x9_2.length : Int))) then (staddleref11_Read.j3 kj26 l0 (wrap64 (rd l0 (ji11))) y393 x8_2 x9_2 t374 t382 t390 true) else (if t382 > (IntKind.u64.wrap ((y393.length : Int))) then (staddleref11_Read.j3 kj26 l0 (wrap64 (rd l0 (ji11))) y393 x8_2 x9_2 t374 t382 t390 true) else (staddleref11_Read.j3 kj26 l0 (wrap64 (rd l0 (ji11))) y393 x8_2 x9_2 t374 t382 t390 (decide (t390 > (IntKind.u64.wrap ((IntKind.u64.wrap ((y393.length : Int))) - t382)))))))) else (none)) else (none)) = some (r1, r2) := by rw [if_neg (show ¬ (false = true) by decide)] at H; exact H
                     clear H
                     have H := H1
                     clear H1
                     obtain ⟨ji34, hji34⟩ : ∃ j_ : Int, (wrap64 ((wrap64 (t375 + t383)) + t391)) = j_ := ⟨_, rfl⟩
                     replace H : (if 0 ≤ (ji34) then (if (ji34) ≤ (x7_2.length : Int) then ((some (x7_2.drop ((ji34) : Int).toNat : List Int)).bind fun y393 => (if t374 > (IntKind.u64.wrap ((x9_2.length : Int))) then (staddleref11_Read.j3 kj26 l0 (wrap64 (rd l0 (ji11))) y393 x8_2 x9_2 t374 t382 t390 true) else (if t382 > (IntKind.u64.wrap ((y393.length : Int))) then (staddleref11_Read.j3 kj26 l0 (wrap64 (rd l0 (ji11))) y393 x8_2 x9_2 t374 t382 t390 true) else (staddleref11_Read.j3 kj26 l0 (wrap64 (rd l0 (ji11))) y393 x8_2 x9_2 t374 t382 t390 (decide (t390 > (IntKind.u64.wrap ((IntKind.u64.wrap ((y393.length : Int))) - t382)))))))) else (none)) else (none)) = some (r1, r2) := by first | (rw [hji34] at H; exact H) | (simp only [hji34] at H ⊢; exact H)
                     have hji34w : (IntKind.i64.wrap ((wrap64 (t375 + t383)) + t391)) = ji34 := (i64_w _).trans hji34
                     (try rw [hji23] at hji34)
                     (try rw [hji23] at hji34w)
                     by_cases c35 : 0 ≤ (ji34)
                     ·
                      rw [if_pos c35] at H
                      have c35b0 := eq_true c35
                      have c35b1 : decide (0 ≤ (ji34)) = true := decide_eq_true c35
                      clear c35
                      by_cases c36 : (ji34) ≤ (x7_2.length : Int)
                      ·
                       rw [if_pos c36] at H
                       have c36b0 := eq_true c36
                       have c36b1 : decide ((ji34) ≤ (x7_2.length : Int)) = true := decide_eq_true c36
                       clear c36
                       obtain ⟨y393, hy393⟩ : ∃ y_ : List Int, y_ = (x7_2.drop ((ji34) : Int).toNat) := ⟨_, rfl⟩
                       replace H : (if t374 > (IntKind.u64.wrap ((x9_2.length : Int))) then (staddleref11_Read.j3 kj26 l0 (wrap64 (rd l0 (ji11))) y393 x8_2 x9_2 t374 t382 t390 true) else (if t382 > (IntKind.u64.wrap ((y393.length : Int))) then (staddleref11_Read.j3 kj26 l0 (wrap64 (rd l0 (ji11))) y393 x8_2 x9_2 t374 t382 t390 true) else (staddleref11_Read.j3 kj26 l0 (wrap64 (rd l0 (ji11))) y393 x8_2 x9_2 t374 t382 t390 (decide (t390 > (IntKind.u64.wrap ((IntKind.u64.wrap ((y393.length : Int))) - t382))))))) = some (r1, r2) := by first | (rw [hy393]; with_reducible exact H) | (have H2_ := (Option.bind_some _ _).symm.trans H; rw [hy393]; with_reducible exact H2_) | (have H2_ := (Option.bind_some _ _).symm.trans H; with_reducible exact H2_) | with_reducible exact H | (rw [hy393]; exact H) | exact H
                       have Ny393 := Aside0.mk hy393
                       clear hy393
                       have HC37 := Aside0.mk H
                       clear H
                       have q38 : ((ji34) : Int) ≤ ((x7_2.length : Int) : Int) := of_decide_eq_true (by first | (with_reducible assumption) | assumption)
                       obtain ⟨i038, hi038, _, hsz38, _⟩ := info_parts info5
                       have hroom38 : x7_2.length ≤ co28 := (Kd.V_reads' HO_7.out).2.1
                       have hC38 : Kd.F (Kd.int .u8) _ _ Ao28 x7_2.length x7_2 := (Kd.V_at (base := w.heap.size) HO_7.out).2.2
                       have q038 : (0 : Int) ≤ ((ji34) : Int) := of_decide_eq_true (by first | (with_reducible assumption) | assumption)
                       have hcut38 := cut_from (P := Try.prog) 24 5 .i64 Try.underlying24 hi038 1 hsz38 Ao28 x7_2.length co28 (ji34) q038 q38
                       have hr38 := Kd.F_cut (m := ((ji34) : Int).toNat) (c := co28) hC38 (by omega) hroom38
                       obtain ⟨A38, hA38⟩ : ∃ A1, A1 = (if co28 = ((ji34) : Int).toNat then Ao28 else (Ao28 : Option Addr).map (·.add (((ji34) : Int).toNat * 1))) := ⟨_, rfl⟩
                       obtain ⟨c38, hc38⟩ : ∃ c1, c1 = co28 - ((ji34) : Int).toNat := ⟨_, rfl⟩
                       have hy38 : y393.length = x7_2.length - ((ji34) : Int).toNat := (by rw [Ny393.out, List.length_drop] <;> omega)
                       rw [show (x7_2).drop ((ji34) : Int).toNat = y393 from Ny393.out.symm] at hr38
                       replace hr38 : Kd.F (Kd.int .u8) _ _ A38 y393.length y393 := (by rw [hA38]; exact hr38)
                       rw [← hy38, ← hA38, ← hc38] at hcut38
                       have HO397 := Aside0.mk (show Kd.V (Kd.int .u8) 5 _ w.heap.size _ (.slice A38 y393.length c38) y393 from Kd.V_mk (by rw [hy38, hc38]; exact Nat.sub_le_sub_right hroom38 _) hr38)
                       have HC397 := Aside0.mk (show y393.length ≤ c38 from by rw [hy38, hc38]; exact Nat.sub_le_sub_right hroom38 _)
                       clear hr38 hC38 hroom38 hi038 hsz38 hc38
                       have KY38 := Aside0.mk hy38
                       have KA38 := Aside0.mk hA38
                       clear hy38 hA38
                       replace q38 := eq_true q38
                       go_upto_region 17 with (fail)
                       go_cut [130] (fun v130 wc => ∃ (kq : Nat) (x130_36 : Bool), v130 = .bool x130_36 ∧ Aside0 (staddleref11_Read.j3 kq l0 (wrap64 (rd l0 (ji11))) y393 x8_2 x9_2 t374 t382 t390 x130_36 = some (r1, r2)) ∧ Aside0 (kq ≤ kj26) ∧ Aside0 (Kd.V (Kd.int .u8) 5 wc w.heap.size (fun k_ => (P0_ k_ ∨ w.heap.size ≤ k_) ∧ some k_ ≠ (u8 : Value).ownBlock ∧ some k_ ≠ (u9 : Value).ownBlock) (.slice (some ad364) l0.length c0) l0) ∧ Aside0 (Kd.V (Kd.int .u8) 5 wc w.heap.size (fun k_ => (P0_ k_ ∨ w.heap.size ≤ k_) ∧ some k_ ≠ (u8 : Value).ownBlock ∧ some k_ ≠ (u9 : Value).ownBlock) (.slice A38 y393.length c38) y393) ∧ Aside0 (Kd.R k42 42 wc w.heap.size (fun k_ => (w.heap.size ≤ k_)) u8 x8_2) ∧ Aside0 (Kd.R (Kd.int .u8) 5 wc w.heap.size (fun k_ => (w.heap.size ≤ k_)) u9 x9_2) ∧ Aside0 (Below w.heap.size w wc))
                       case first =>
                        have H := HC37.out
                        clear HC37
                        by_cases c39 : t374 > (IntKind.u64.wrap ((x9_2.length : Int)))
                        ·
                         rw [if_pos c39] at H
                         have c39b0 : decide ((IntKind.u64.wrap ((x9_2.length : Int))) < t374) = true := decide_eq_true c39
                         clear c39
                         (first | rw [c39b0] | (simp only [i64_w, i32_w]; rw [c39b0]) | skip)
                         have H' := Aside0.mk H
                         clear H
                         obtain ⟨Ao40, co40, eo40⟩ := Kd.R_slice HO_9.out
                         subst eo40
                         go_wp2
                         go_meet
                         case rel => exact ⟨_, (true), rfl, H', ⟨by have := HJ6.out; have := HK2.out; have := HJ26.out; first | omega | exact Nat.le_refl _⟩, ⟨HO_0.out⟩, ⟨HO397.out⟩, ⟨HO_8.out⟩, ⟨HO_9.out⟩, ⟨HB.out⟩⟩
                        ·
                         rw [if_neg c39] at H
                         have c39b0 : decide ((IntKind.u64.wrap ((x9_2.length : Int))) < t374) = false := decide_eq_false c39
                         clear c39
                         (first | rw [c39b0] | (simp only [i64_w, i32_w]; rw [c39b0]) | skip)
                         by_cases c41 : t382 > (IntKind.u64.wrap ((y393.length : Int)))
                         ·
                          rw [if_pos c41] at H
                          have c41b0 : decide ((IntKind.u64.wrap ((y393.length : Int))) < t382) = true := decide_eq_true c41
                          clear c41
                          have H' := Aside0.mk H
                          clear H
                          obtain ⟨Ao42, co42, eo42⟩ := Kd.R_slice HO_9.out
                          subst eo42
                          go_wp2
                          go_meet
                          case rel => exact ⟨_, (true), rfl, H', ⟨by have := HJ6.out; have := HK2.out; have := HJ26.out; first | omega | exact Nat.le_refl _⟩, ⟨HO_0.out⟩, ⟨HO397.out⟩, ⟨HO_8.out⟩, ⟨HO_9.out⟩, ⟨HB.out⟩⟩
                         ·
                          rw [if_neg c41] at H
                          have c41b0 : decide ((IntKind.u64.wrap ((y393.length : Int))) < t382) = false := decide_eq_false c41
                          clear c41
                          have H' := Aside0.mk H
                          clear H
                          obtain ⟨Ao43, co43, eo43⟩ := Kd.R_slice HO_9.out
                          subst eo43
                          go_wp2
                          go_meet
                          case rel => exact ⟨_, (decide (t390 > (IntKind.u64.wrap ((IntKind.u64.wrap ((y393.length : Int))) - t382)))), rfl, H', ⟨by have := HJ6.out; have := HK2.out; have := HJ26.out; first | omega | exact Nat.le_refl _⟩, ⟨HO_0.out⟩, ⟨HO397.out⟩, ⟨HO_8.out⟩, ⟨HO_9.out⟩, ⟨HB.out⟩⟩
                       case rest =>
                        clear HC37
                        try clear c1
                        try clear q1
                        try clear c2
                        try clear c2b0
                        try clear c2b1
                        try clear p2
                        try clear q2
                        try clear c3
                        try clear p3
                        try clear q3
                        try clear hx3
                        try clear c4
                        try clear c4b0
                        try clear c4b1
                        try clear c5
                        try clear c5b0
                        try clear c5b1
                        try clear p6
                        try clear c8
                        try clear q8
                        try clear c9
                        try clear c9b0
                        try clear c10
                        try clear c12
                        try clear c12b0
                        try clear c13
                        try clear c13b0
                        try clear c15
                        try clear c15b0
                        try clear c15b1
                        try clear c16
                        try clear c16b0
                        try clear c16b1
                        try clear q17
                        try clear c18
                        try clear c18b0
                        try clear c18b1
                        try clear c20
                        try clear c20b0
                        try clear c20b1
                        try clear c21
                        try clear c21b0
                        try clear c21b1
                        try clear c24
                        try clear c24b0
                        try clear c24b1
                        try clear c25
                        try clear c25b0
                        try clear c25b1
                        try clear c29
                        try clear q29
                        try clear c30
                        try clear q30
                        try clear c31
                        try clear c31b0
                        try clear c31b1
                        try clear c32
                        try clear c32b0
                        try clear c32b1
                        try clear c33
                        try clear c35
                        try clear c35b0
                        try clear c35b1
                        try clear c36
                        try clear c36b0
                        try clear c36b1
                        try clear p36
                        try clear q36
                        try clear hx36
                        try clear c38
                        try clear q38
                        try clear c39
                        try clear c39b0
                        try clear c41
                        try clear c41b0
                        try clear hx364_0
                        try clear p2
                        try clear p3
                        try clear p364
                        try clear p6
                        try clear q029
                        try clear q030
                        try clear q038
                        try clear q08
                        try clear q1
                        try clear q17
                        try clear q2
                        try clear q29
                        try clear q3
                        try clear q30
                        try clear q364
                        try clear q38
                        try clear q8
                        obtain ⟨kq, x130_36, rfl, HA, HJ36, HO_0, HO_7, HO_8, HO_9, HB⟩ := hcut
                        cases kq with
                        | zero => exact absurd HA.out (by simp [staddleref11_Read.j3])
                        | succ kj36 =>
                         have H := HA.out
                         clear HA
                         simp only [staddleref11_Read.j3] at H
                         by_cases c44 : x130_36 = true
                         ·
                          subst c44
                          have H1 : (some (([] : List (S42)), 111)) = some (r1, r2) := by rw [if_pos rfl] at H; exact H
                          clear H
                          have H := H1
                          clear H1
                          simp only [Option.some.injEq, Prod.mk.injEq] at H
                          obtain ⟨rfl, rfl⟩ := H
                          go_wp2
                          go_ret2
                          exact ⟨_, by first | rfl | (simp [errW_none, errW_some] <;> rfl) | (simp only [← hji3, ← hji11, ← hji14, ← hji23, ← hji34]; first | rfl | (simp [errW_none, errW_some] <;> rfl)) | (simp [*, errW_none, errW_some] <;> rfl), by first | exact Kd.R_nil _ _ _ _ _ | exact Kd.N_nil _ _ _ _ _ | exact Kd.V_nil _ _ _ _ _ | exact Kd.Q_nil _ _ _ _ _ | exact Kd.S_nil _ _ _ _ _, by repeat (first | (with_reducible first | exact HB.out | apply below_alloc | apply pw_below_drewN | apply below_drew1) | exact HB.out)⟩
                         ·
                          replace c44 := Bool.eq_false_iff.mpr c44
                          subst c44
                          have H1 : ((some (([] : List Int) : List Int)).bind fun y398 => (if 0 ≤ t374 then (if t374 ≤ (x9_2.length : Int) then ((some (x9_2.take (t374 : Int).toNat : List Int)).bind fun y401 => (if y398.length + y401.length < 140737488355328 then ((some (y398 ++ y401 : List Int)).bind fun y405 => (if 0 ≤ t382 then (if t382 ≤ (y393.length : Int) then ((some (y393.take (t382 : Int).toNat : List Int)).bind fun y408 => (if y405.length + y408.length < 140737488355328 then ((some (y405 ++ y408 : List Int)).bind fun y413 => ((staddleref02_Decode.f kj36 y413).bind fun bt416 => (if bt416.2.2.2 = 0 then (if t382 ≤ (IntKind.u64.wrap (t382 + t390)) then (if (IntKind.u64.wrap (t382 + t390)) ≤ (y393.length : Int) then (if x8_2.length < 2932031007402 then (if 0 ≤ (IntKind.u64.wrap (t382 + t390)) then (staddleref11_Read.l0 kj36 l0 (wrap64 (rd l0 (ji11))) (y393.drop ((IntKind.u64.wrap (t382 + t390)) : Int).toNat) (x8_2 ++ [(⟨(⟨bt416.1, bt416.2.1, bt416.2.2.1⟩ : S32), strOfNums ((y393.take ((IntKind.u64.wrap (t382 + t390)) : Int).toNat).drop (t382 : Int).toNat)⟩ : S42)]) y413) else (none)) else (none)) else (none)) else (none)) else (some (([] : List (S42)), 111))))) else (none))) else (none)) else (none))) else (none))) else (none)) else (none))) = some (r1, r2) := by rw [if_neg (show ¬ (false = true) by decide)] at H; exact H
                          clear H
                          have H := H1
                          clear H1
                          obtain ⟨y398, hy398⟩ : ∃ y_ : List Int, y_ = (([] : List Int)) := ⟨_, rfl⟩
                          replace H : (if 0 ≤ t374 then (if t374 ≤ (x9_2.length : Int) then ((some (x9_2.take (t374 : Int).toNat : List Int)).bind fun y401 => (if y398.length + y401.length < 140737488355328 then ((some (y398 ++ y401 : List Int)).bind fun y405 => (if 0 ≤ t382 then (if t382 ≤ (y393.length : Int) then ((some (y393.take (t382 : Int).toNat : List Int)).bind fun y408 => (if y405.length + y408.length < 140737488355328 then ((some (y405 ++ y408 : List Int)).bind fun y413 => ((staddleref02_Decode.f kj36 y413).bind fun bt416 => (if bt416.2.2.2 = 0 then (if t382 ≤ (IntKind.u64.wrap (t382 + t390)) then (if (IntKind.u64.wrap (t382 + t390)) ≤ (y393.length : Int) then (if x8_2.length < 2932031007402 then (if 0 ≤ (IntKind.u64.wrap (t382 + t390)) then (staddleref11_Read.l0 kj36 l0 (wrap64 (rd l0 (ji11))) (y393.drop ((IntKind.u64.wrap (t382 + t390)) : Int).toNat) (x8_2 ++ [(⟨(⟨bt416.1, bt416.2.1, bt416.2.2.1⟩ : S32), strOfNums ((y393.take ((IntKind.u64.wrap (t382 + t390)) : Int).toNat).drop (t382 : Int).toNat)⟩ : S42)]) y413) else (none)) else (none)) else (none)) else (none)) else (some (([] : List (S42)), 111))))) else (none))) else (none)) else (none))) else (none))) else (none)) else (none)) = some (r1, r2) := by first | (rw [hy398]; with_reducible exact H) | (have H2_ := (Option.bind_some _ _).symm.trans H; rw [hy398]; with_reducible exact H2_) | (have H2_ := (Option.bind_some _ _).symm.trans H; with_reducible exact H2_) | with_reducible exact H | (rw [hy398]; exact H) | exact H
                          have Ny398 := Aside0.mk hy398
                          clear hy398
                          by_cases c45 : 0 ≤ t374
                          ·
                           rw [if_pos c45] at H
                           have c45b0 := eq_true c45
                           have c45b1 : decide (0 ≤ t374) = true := decide_eq_true c45
                           clear c45
                           by_cases c46 : t374 ≤ (x9_2.length : Int)
                           ·
                            rw [if_pos c46] at H
                            have c46b0 := eq_true c46
                            have c46b1 : decide (t374 ≤ (x9_2.length : Int)) = true := decide_eq_true c46
                            clear c46
                            obtain ⟨y401, hy401⟩ : ∃ y_ : List Int, y_ = (x9_2.take (t374 : Int).toNat) := ⟨_, rfl⟩
                            replace H : (if y398.length + y401.length < 140737488355328 then ((some (y398 ++ y401 : List Int)).bind fun y405 => (if 0 ≤ t382 then (if t382 ≤ (y393.length : Int) then ((some (y393.take (t382 : Int).toNat : List Int)).bind fun y408 => (if y405.length + y408.length < 140737488355328 then ((some (y405 ++ y408 : List Int)).bind fun y413 => ((staddleref02_Decode.f kj36 y413).bind fun bt416 => (if bt416.2.2.2 = 0 then (if t382 ≤ (IntKind.u64.wrap (t382 + t390)) then (if (IntKind.u64.wrap (t382 + t390)) ≤ (y393.length : Int) then (if x8_2.length < 2932031007402 then (if 0 ≤ (IntKind.u64.wrap (t382 + t390)) then (staddleref11_Read.l0 kj36 l0 (wrap64 (rd l0 (ji11))) (y393.drop ((IntKind.u64.wrap (t382 + t390)) : Int).toNat) (x8_2 ++ [(⟨(⟨bt416.1, bt416.2.1, bt416.2.2.1⟩ : S32), strOfNums ((y393.take ((IntKind.u64.wrap (t382 + t390)) : Int).toNat).drop (t382 : Int).toNat)⟩ : S42)]) y413) else (none)) else (none)) else (none)) else (none)) else (some (([] : List (S42)), 111))))) else (none))) else (none)) else (none))) else (none)) = some (r1, r2) := by first | (rw [hy401]; with_reducible exact H) | (have H2_ := (Option.bind_some _ _).symm.trans H; rw [hy401]; with_reducible exact H2_) | (have H2_ := (Option.bind_some _ _).symm.trans H; with_reducible exact H2_) | with_reducible exact H | (rw [hy401]; exact H) | exact H
                            have Ny401 := Aside0.mk hy401
                            clear hy401
                            by_cases c47 : y398.length + y401.length < 140737488355328
                            ·
                             rw [if_pos c47] at H
                             have LMc47 := Aside0.mk c47
                             clear c47
                             obtain ⟨y405, hy405⟩ : ∃ y_ : List Int, y_ = (y398 ++ y401) := ⟨_, rfl⟩
                             replace H : (if 0 ≤ t382 then (if t382 ≤ (y393.length : Int) then ((some (y393.take (t382 : Int).toNat : List Int)).bind fun y408 => (if y405.length + y408.length < 140737488355328 then ((some (y405 ++ y408 : List Int)).bind fun y413 => ((staddleref02_Decode.f kj36 y413).bind fun bt416 => (if bt416.2.2.2 = 0 then (if t382 ≤ (IntKind.u64.wrap (t382 + t390)) then (if (IntKind.u64.wrap (t382 + t390)) ≤ (y393.length : Int) then (if x8_2.length < 2932031007402 then (if 0 ≤ (IntKind.u64.wrap (t382 + t390)) then (staddleref11_Read.l0 kj36 l0 (wrap64 (rd l0 (ji11))) (y393.drop ((IntKind.u64.wrap (t382 + t390)) : Int).toNat) (x8_2 ++ [(⟨(⟨bt416.1, bt416.2.1, bt416.2.2.1⟩ : S32), strOfNums ((y393.take ((IntKind.u64.wrap (t382 + t390)) : Int).toNat).drop (t382 : Int).toNat)⟩ : S42)]) y413) else (none)) else (none)) else (none)) else (none)) else (some (([] : List (S42)), 111))))) else (none))) else (none)) else (none)) = some (r1, r2) := by first | (rw [hy405]; with_reducible exact H) | (have H2_ := (Option.bind_some _ _).symm.trans H; rw [hy405]; with_reducible exact H2_) | (have H2_ := (Option.bind_some _ _).symm.trans H; with_reducible exact H2_) | with_reducible exact H | (rw [hy405]; exact H) | exact H
                             have Ny405 := Aside0.mk hy405
                             clear hy405
                             by_cases c48 : 0 ≤ t382
                             ·
                              rw [if_pos c48] at H
                              have c48b0 := eq_true c48
                              have c48b1 : decide (0 ≤ t382) = true := decide_eq_true c48
                              clear c48
                              by_cases c49 : t382 ≤ (y393.length : Int)
                              ·
                               rw [if_pos c49] at H
                               have c49b0 := eq_true c49
                               have c49b1 : decide (t382 ≤ (y393.length : Int)) = true := decide_eq_true c49
                               clear c49
                               obtain ⟨y408, hy408⟩ : ∃ y_ : List Int, y_ = (y393.take (t382 : Int).toNat) := ⟨_, rfl⟩
                               replace H : (if y405.length + y408.length < 140737488355328 then ((some (y405 ++ y408 : List Int)).bind fun y413 => ((staddleref02_Decode.f kj36 y413).bind fun bt416 => (if bt416.2.2.2 = 0 then (if t382 ≤ (IntKind.u64.wrap (t382 + t390)) then (if (IntKind.u64.wrap (t382 + t390)) ≤ (y393.length : Int) then (if x8_2.length < 2932031007402 then (if 0 ≤ (IntKind.u64.wrap (t382 + t390)) then (staddleref11_Read.l0 kj36 l0 (wrap64 (rd l0 (ji11))) (y393.drop ((IntKind.u64.wrap (t382 + t390)) : Int).toNat) (x8_2 ++ [(⟨(⟨bt416.1, bt416.2.1, bt416.2.2.1⟩ : S32), strOfNums ((y393.take ((IntKind.u64.wrap (t382 + t390)) : Int).toNat).drop (t382 : Int).toNat)⟩ : S42)]) y413) else (none)) else (none)) else (none)) else (none)) else (some (([] : List (S42)), 111))))) else (none)) = some (r1, r2) := by first | (rw [hy408]; with_reducible exact H) | (have H2_ := (Option.bind_some _ _).symm.trans H; rw [hy408]; with_reducible exact H2_) | (have H2_ := (Option.bind_some _ _).symm.trans H; with_reducible exact H2_) | with_reducible exact H | (rw [hy408]; exact H) | exact H
                               have Ny408 := Aside0.mk hy408
                               clear hy408
                               by_cases c50 : y405.length + y408.length < 140737488355328
                               ·
                                rw [if_pos c50] at H
                                have LMc50 := Aside0.mk c50
                                clear c50
                                obtain ⟨y413, hy413⟩ : ∃ y_ : List Int, y_ = (y405 ++ y408) := ⟨_, rfl⟩
                                replace H : ((staddleref02_Decode.f kj36 y413).bind fun bt416 => (if bt416.2.2.2 = 0 then (if t382 ≤ (IntKind.u64.wrap (t382 + t390)) then (if (IntKind.u64.wrap (t382 + t390)) ≤ (y393.length : Int) then (if x8_2.length < 2932031007402 then (if 0 ≤ (IntKind.u64.wrap (t382 + t390)) then (staddleref11_Read.l0 kj36 l0 (wrap64 (rd l0 (ji11))) (y393.drop ((IntKind.u64.wrap (t382 + t390)) : Int).toNat) (x8_2 ++ [(⟨(⟨bt416.1, bt416.2.1, bt416.2.2.1⟩ : S32), strOfNums ((y393.take ((IntKind.u64.wrap (t382 + t390)) : Int).toNat).drop (t382 : Int).toNat)⟩ : S42)]) y413) else (none)) else (none)) else (none)) else (none)) else (some (([] : List (S42)), 111)))) = some (r1, r2) := by first | (rw [hy413]; with_reducible exact H) | (have H2_ := (Option.bind_some _ _).symm.trans H; rw [hy413]; with_reducible exact H2_) | (have H2_ := (Option.bind_some _ _).symm.trans H; with_reducible exact H2_) | with_reducible exact H | (rw [hy413]; exact H) | exact H
                                have Ny413 := Aside0.mk hy413
                                clear hy413
                                replace H := Option.bind_eq_some_iff.mp H
                                obtain ⟨⟨t416, t417, t418, t419⟩, A510, H⟩ := H
                                replace H : (if t419 = 0 then (if t382 ≤ (IntKind.u64.wrap (t382 + t390)) then (if (IntKind.u64.wrap (t382 + t390)) ≤ (y393.length : Int) then (if x8_2.length < 2932031007402 then (if 0 ≤ (IntKind.u64.wrap (t382 + t390)) then (staddleref11_Read.l0 kj36 l0 (wrap64 (rd l0 (ji11))) (y393.drop ((IntKind.u64.wrap (t382 + t390)) : Int).toNat) (x8_2 ++ [(⟨(⟨t416, t417, t418⟩ : S32), strOfNums ((y393.take ((IntKind.u64.wrap (t382 + t390)) : Int).toNat).drop (t382 : Int).toNat)⟩ : S42)]) y413) else (none)) else (none)) else (none)) else (none)) else (some (([] : List (S42)), 111))) = some (r1, r2) := H
                                have A51 := Aside0.mk A510
                                clear A510
                                by_cases c52 : t419 = 0
                                ·
                                 rw [if_pos c52] at H
                                 have c52b0 : (t419 == 0) = true := beq_iff_eq.mpr c52
                                 have c52b1 : (t419 != 0) = false := bne_eq_false_iff_eq.mpr c52
                                 clear c52
                                 have c53b0 := eq_true (of_decide_eq_true (by first | (with_reducible assumption) | assumption) : 0 ≤ t382)
                                 by_cases c54 : t382 ≤ (IntKind.u64.wrap (t382 + t390))
                                 ·
                                  rw [if_pos c54] at H
                                  have c54b0 := eq_true c54
                                  have c54b1 : decide (t382 ≤ (IntKind.u64.wrap (t382 + t390))) = true := decide_eq_true c54
                                  by_cases c55 : (IntKind.u64.wrap (t382 + t390)) ≤ (y393.length : Int)
                                  ·
                                   rw [if_pos c55] at H
                                   have c55b0 := eq_true c55
                                   have c55b1 : decide ((IntKind.u64.wrap (t382 + t390)) ≤ (y393.length : Int)) = true := decide_eq_true c55
                                   obtain ⟨y421, hy421⟩ : ∃ y_ : List Int, y_ = ((y393.take ((IntKind.u64.wrap (t382 + t390)) : Int).toNat).drop (t382 : Int).toNat) := ⟨_, rfl⟩
                                   replace H : (if x8_2.length < 2932031007402 then (if 0 ≤ (IntKind.u64.wrap (t382 + t390)) then (staddleref11_Read.l0 kj36 l0 (wrap64 (rd l0 (ji11))) (y393.drop ((IntKind.u64.wrap (t382 + t390)) : Int).toNat) (x8_2 ++ [(⟨(⟨t416, t417, t418⟩ : S32), strOfNums y421⟩ : S42)]) y413) else (none)) else (none)) = some (r1, r2) := by first | (rw [hy421]; with_reducible exact H) | (have H2_ := (Option.bind_some _ _).symm.trans H; rw [hy421]; with_reducible exact H2_) | (have H2_ := (Option.bind_some _ _).symm.trans H; with_reducible exact H2_) | with_reducible exact H | (rw [hy421]; exact H) | exact H
                                   have Ny421 := Aside0.mk hy421
                                   clear hy421
                                   by_cases c56 : x8_2.length < 2932031007402
                                   ·
                                    rw [if_pos c56] at H
                                    have LMc56 := Aside0.mk c56
                                    clear c56
                                    obtain ⟨y426, hy426⟩ : ∃ y_ : List (S42), y_ = (x8_2 ++ [(⟨(⟨t416, t417, t418⟩ : S32), strOfNums y421⟩ : S42)]) := ⟨_, rfl⟩
                                    replace H : (if 0 ≤ (IntKind.u64.wrap (t382 + t390)) then (staddleref11_Read.l0 kj36 l0 (wrap64 (rd l0 (ji11))) (y393.drop ((IntKind.u64.wrap (t382 + t390)) : Int).toNat) y426 y413) else (none)) = some (r1, r2) := by first | (rw [hy426]; with_reducible exact H) | (have H2_ := (Option.bind_some _ _).symm.trans H; rw [hy426]; with_reducible exact H2_) | (have H2_ := (Option.bind_some _ _).symm.trans H; with_reducible exact H2_) | with_reducible exact H | (rw [hy426]; exact H) | exact H
                                    have Ny426 := Aside0.mk hy426
                                    clear hy426
                                    obtain ⟨ji57, hji57⟩ : ∃ j_ : Int, (IntKind.u64.wrap (t382 + t390)) = j_ := ⟨_, rfl⟩
                                    replace H : (if 0 ≤ (ji57) then (staddleref11_Read.l0 kj36 l0 (wrap64 (rd l0 (ji11))) (y393.drop ((ji57) : Int).toNat) y426 y413) else (none)) = some (r1, r2) := by first | (rw [hji57] at H; exact H) | (simp only [hji57] at H ⊢; exact H)
                                    (try rw [hji57] at c54b0)
                                    (try rw [hji57] at c54b1)
                                    (try rw [hji57] at c54)
                                    (try rw [hji57] at c55b0)
                                    (try rw [hji57] at c55b1)
                                    (try rw [hji57] at c55)
                                    (try rw [hji57] at A51)
                                    (try rw [hji57] at Ny421)
                                    (try rw [hji57] at Ny421)
                                    by_cases c58 : 0 ≤ (ji57)
                                    ·
                                     rw [if_pos c58] at H
                                     have c58b0 := eq_true c58
                                     have c58b1 : decide (0 ≤ (ji57)) = true := decide_eq_true c58
                                     clear c58
                                     have c59b0 := eq_true (of_decide_eq_true (by first | (with_reducible assumption) | assumption) : (ji57) ≤ (y393.length : Int))
                                     obtain ⟨y429, hy429⟩ : ∃ y_ : List Int, y_ = (y393.drop ((ji57) : Int).toNat) := ⟨_, rfl⟩
                                     replace H : (staddleref11_Read.l0 kj36 l0 (wrap64 (rd l0 (ji11))) y429 y426 y413) = some (r1, r2) := by first | (rw [hy429]; with_reducible exact H) | (have H2_ := (Option.bind_some _ _).symm.trans H; rw [hy429]; with_reducible exact H2_) | (have H2_ := (Option.bind_some _ _).symm.trans H; with_reducible exact H2_) | with_reducible exact H | (rw [hy429]; exact H) | exact H
                                     have Ny429 := Aside0.mk hy429
                                     clear hy429
                                     have H' := Aside0.mk H
                                     clear H
                                     try go_wp2
                                     have n0_ := Aside0.mk (Kd.V_drew HO_0.out)
                                     have n1_ := Aside0.mk (Kd.V_drew HO_7.out)
                                     have n2_ := Aside0.mk (Kd.R_drew HO_8.out)
                                     have n3_ := Aside0.mk (Kd.R_drew HO_9.out)
                                     have n4_ := Aside0.mk (below_drew1 HB.out)
                                     clear HO_0
                                     clear HO_7
                                     clear HO_8
                                     clear HO_9
                                     clear HB
                                     have HO_0 := n0_
                                     have HO_7 := n1_
                                     have HO_8 := n2_
                                     have HO_9 := n3_
                                     have HB := n4_
                                     clear n0_ n1_ n2_ n3_ n4_
                                     obtain ⟨Ao62, co62, eo62⟩ := Kd.R_slice HO_9.out
                                     (first | subst eo62 | (injection eo62 with f1_ f2_ f3_; have f4_ := f1_.symm; have f5_ := f3_.symm; clear f1_ f2_ f3_; subst f4_; subst f5_))
                                     have q61 : (t374 : Int) ≤ ((x9_2.length : Int) : Int) := of_decide_eq_true (by first | (with_reducible assumption) | assumption)
                                     obtain ⟨i061, hi061, _, hsz61, _⟩ := info_parts info5
                                     have hroom61 : x9_2.length ≤ co62 := (Kd.R_reads' HO_9.out).2.1
                                     have hC61 : Kd.C (Kd.int .u8) _ Ao62 x9_2.length x9_2 := (Kd.R_reads' HO_9.out).2.2
                                     have hcut61 := cut_to (P := Try.prog) 24 5 .u64 Try.underlying24 hi061 Ao62 x9_2.length co62 t374 (of_decide_eq_true (by first | (with_reducible assumption) | assumption)) q61 hroom61
                                     have hr61 := Kd.C_take (m := (t374 : Int).toNat) hC61 (by omega)
                                     have hy61 : y401.length = (t374 : Int).toNat := (by rw [Ny401.out, List.length_take]; omega)
                                     rw [← Ny401.out] at hr61
                                     rw [← hy61] at hcut61
                                     have HR404 := Aside0.mk hr61
                                     have HC404 := Aside0.mk (show y401.length ≤ co62 from by omega)
                                     clear hr61 hC61 hroom61 hi061 hsz61
                                     have KY61 := Aside0.mk hy61
                                     clear hy61
                                     have KL61 := Aside0.mk (show (t374 : Int).toNat ≤ x9_2.length from by omega)
                                     replace q61 := eq_true q61
                                     have q63 : (t382 : Int) ≤ ((y393.length : Int) : Int) := of_decide_eq_true (by first | (with_reducible assumption) | assumption)
                                     obtain ⟨i063, hi063, _, hsz63, _⟩ := info_parts info5
                                     have hroom63 : y393.length ≤ c38 := (Kd.V_reads' HO_7.out).2.1
                                     have hC63 : Kd.F (Kd.int .u8) _ _ A38 y393.length y393 := (Kd.V_at (base := w.heap.size) HO_7.out).2.2
                                     have hcut63 := cut_to (P := Try.prog) 24 5 .u64 Try.underlying24 hi063 A38 y393.length c38 t382 (of_decide_eq_true (by first | (with_reducible assumption) | assumption)) q63 hroom63
                                     have hr63 := Kd.F_take (m := (t382 : Int).toNat) hC63 (by omega)
                                     have hy63 : y408.length = (t382 : Int).toNat := (by rw [Ny408.out, List.length_take]; omega)
                                     rw [← Ny408.out] at hr63
                                     rw [← hy63] at hcut63
                                     have HO412 := Aside0.mk (show Kd.V (Kd.int .u8) 5 _ w.heap.size _ (.slice A38 y408.length c38) y408 from Kd.V_mk (by omega) hr63)
                                     have HC412 := Aside0.mk (show y408.length ≤ c38 from by omega)
                                     clear hr63 hC63 hroom63 hi063 hsz63
                                     have KY63 := Aside0.mk hy63
                                     clear hy63
                                     replace q63 := eq_true q63
                                     refine start_ (n := 10) (S := fun w' => True) (ds := []) #[false, false, false, false, false, false, false, false, false, false] (by kernel_rfl) rfl rfl trivial (fun hHeld => ?_); refine with_tabW staddleref11_Read.tab19 staddleref11_Read.bits19 (fun HT_ HW_ => ?_)
                                     generalize wc.drew = w60 at HO_0 HO_7 HO_8 HO_9 HB HO412 HR404 hHeld ⊢
                                     refine pure_ (i := 1) (N := some 132) (v := ?_) (a' := ?_) #[false, true, false, false, false, false, false, false, false, false] rfl rfl (any_of HT_.out (by kernel_rfl)) (fun _ _ _ h => h) (Or.inl ⟨by rfl, ?_⟩) ?_ ?_
                                     rotate_left
                                     ·
                                      intro w'
                                      go_simp
                                      with_reducible rfl
                                     rotate_left
                                     ·
                                      simp only [Act.put, List.setIfInBounds_toArray, List.set_cons_zero, List.set_cons_succ, i64_w, i32_w]
                                      rfl
                                     refine pure_ (i := 2) (N := some 133) (v := ?_) (a' := ?_) #[false, true, true, false, false, false, false, false, false, false] rfl rfl (any_of HT_.out (by kernel_rfl)) (fun _ _ _ h => h) (Or.inl ⟨by rfl, ?_⟩) ?_ ?_
                                     rotate_left
                                     ·
                                      intro w'
                                      go_simp
                                      with_reducible rfl
                                     rotate_left
                                     ·
                                      simp only [Act.put, List.setIfInBounds_toArray, List.set_cons_zero, List.set_cons_succ, i64_w, i32_w]
                                      rfl
                                     refine pure_ (i := 3) (N := some 134) (v := ?_) (a' := ?_) #[false, true, true, true, false, false, false, false, false, false] rfl rfl (any_of HT_.out (by kernel_rfl)) (fun _ _ _ h => h) (Or.inl ⟨by rfl, ?_⟩) ?_ ?_
                                     rotate_left
                                     ·
                                      intro w'
                                      go_simp
                                      with_reducible rfl
                                     rotate_left
                                     ·
                                      simp only [Act.put, List.setIfInBounds_toArray, List.set_cons_zero, List.set_cons_succ, i64_w, i32_w]
                                      rfl
                                     refine pure_ (i := 5) (N := some 136) (v := ?_) (a' := ?_) #[false, true, true, true, false, true, false, false, false, false] rfl rfl (any_of HT_.out (by kernel_rfl)) (fun _ _ _ h => h) (Or.inl ⟨by rfl, ?_⟩) ?_ ?_
                                     rotate_left
                                     ·
                                      intro w'
                                      go_simp
                                      with_reducible rfl
                                     rotate_left
                                     ·
                                      simp only [Act.put, List.setIfInBounds_toArray, List.set_cons_zero, List.set_cons_succ, i64_w, i32_w]
                                      rfl
                                     refine pure_ (i := 6) (N := some 137) (v := ?_) (a' := ?_) #[false, true, true, true, false, true, true, false, false, false] rfl rfl (any_of HT_.out (by kernel_rfl)) (fun _ _ _ h => h) (Or.inl ⟨by rfl, ?_⟩) ?_ ?_
                                     rotate_left
                                     ·
                                      intro w'
                                      go_simp
                                      with_reducible rfl
                                     rotate_left
                                     ·
                                      simp only [Act.put, List.setIfInBounds_toArray, List.set_cons_zero, List.set_cons_succ, i64_w, i32_w]
                                      rfl
                                     refine pure_ (i := 7) (N := some 138) (v := ?_) (a' := ?_) #[false, true, true, true, false, true, true, true, false, false] rfl rfl (any_of HT_.out (by kernel_rfl)) (fun _ _ _ h => h) (Or.inl ⟨by rfl, ?_⟩) ?_ ?_
                                     rotate_left
                                     ·
                                      intro w'
                                      go_simp
                                      with_reducible rfl
                                     rotate_left
                                     ·
                                      simp only [Act.put, List.setIfInBounds_toArray, List.set_cons_zero, List.set_cons_succ, i64_w, i32_w]
                                      rfl
                                     refine one_ (i := 0) (N := some 131) #[true, true, true, true, false, true, true, true, false, false] rfl rfl (one_of HT_.out (by kernel_rfl)) (by decide) (fun K hK => ?_)
                                     refine Kd.R_lit_step (Kd.int .u8) _ 5 ?hg (N := 131) ?hd (xs := ([] : List Int)) (inner := []) (ok := fun _ => True) (okp := fun _ => True) ?hr ?hp (fun _ hk => hk) trivial (Below.refl _ _) (Nat.le_refl _) (by simp) ?_; (case hd => rfl); (case hg => rfl); (case hr => first | (go_simp; done) | (go_simp; rfl)); (case hp => exact (Reps.none _ _))
                                     intro v399 w64 ho65 hb hg_ hnew_
                                     clear hg_ hnew_
                                     (first | rw [← Ny398.out] at ho65 | (simp only [Int.reduceToNat] at ho65; rw [← Ny398.out] at ho65))
                                     have n0_ := Aside0.mk (Kd.V_elder' HO_0.out (Kd.R_base ho65) hb)
                                     have n1_ := Aside0.mk (Kd.V_elder' HO_7.out (Kd.R_base ho65) hb)
                                     have n2_ := Aside0.mk (Kd.R_below HO_8.out hb)
                                     have n3_ := Aside0.mk (Kd.R_elder' HO_9.out (Kd.R_base ho65) hb)
                                     have n4_ := Aside0.mk (Kd.V_elder' HO412.out (Kd.R_base ho65) hb)
                                     have n5_ := Aside0.mk (Kd.R_lower (Kd.R_new' (Kd.R_newM (M := fun k_ => (w.heap.size ≤ k_)) ho65 (below_size HB.out) (fun k_ h_ => h_)) (Kd.R_lt HO_9.out)) (below_size HB.out))
                                     have n6_ := Aside0.mk (Kd.C_below (by repeat (first | (with_reducible exact HR404.out) | (with_reducible refine Kd.C_alloc ?_ _) | (with_reducible refine Kd.C_drewN ?_ _) | (with_reducible refine Kd.C_drew ?_) | exact HR404.out)) hb)
                                     have n7_ := Aside0.mk (below_step HB.out hb)
                                     clear HO_0
                                     clear HO_7
                                     clear HO_8
                                     clear HO_9
                                     clear HO412
                                     clear HR404
                                     clear HB
                                     have HO_0 := n0_
                                     have HO_7 := n1_
                                     have HO_8 := n2_
                                     have HO_9 := n3_
                                     have HO412 := n4_
                                     have HO400 := n5_
                                     have HR404 := n6_
                                     have HB := n7_
                                     clear n0_ n1_ n2_ n3_ n4_ n5_ n6_ n7_
                                     clear hb ho65
                                     refine hK.out _ _ trivial (fun hHeld => ?_)
                                     clear hK K
                                     refine norm_ (a' := ?_) ?_ ?_
                                     rotate_left
                                     ·
                                      show Act.put _ (some 131) _ = _
                                      simp only [Act.put, List.setIfInBounds_toArray, List.set_cons_zero, List.set_cons_succ, i64_w, i32_w]
                                      rfl
                                     refine one_ (i := 4) (N := some 135) #[true, true, true, true, true, true, true, true, false, false] rfl rfl (one_of HT_.out (by kernel_rfl)) (by decide) (fun K hK => ?_)
                                     refine Kd.R_append_rows_step (Kd.int .u8) (w0 := w) w.heap.size (by rfl) (.tmp 131) (.tmp 134) 24 5 (.int .u8 0) 1 rfl Try.underlying24 info5 rfl (by decide) (by omega) v399 y398 y401 _ _ _ (fun k_ => (w.heap.size ≤ k_) ∧ some k_ ≠ (.slice Ao62 x9_2.length co62 : Value).ownBlock) (fun _ => False) rfl rfl ?aO ?aR (fun _ _ h => h) (fun _ h => h.elim) ?aF ?aB ?aS ?aL ?_
                                     (case aR => repeat (first | exact (by repeat (first | (with_reducible exact HR404.out) | (with_reducible refine Kd.C_alloc ?_ _) | (with_reducible refine Kd.C_drewN ?_ _) | (with_reducible refine Kd.C_drew ?_) | exact HR404.out)) | (with_reducible refine Kd.C_alloc ?_ _) | (with_reducible refine Kd.C_drewN ?_ _) | (with_reducible refine Kd.C_drew ?_)))
                                     (case aB => exact HB.out)
                                     (case aF => exact (fun k_ hk => ⟨(Nat.le_trans (below_size HB.out) hk), Kd.fresh' (Kd.R_lt HO_9.out) k_ hk⟩))
                                     (case aO => exact (by (with_reducible repeat (first | apply Kd.R_alloc | apply Kd.R_drewN | apply Kd.R_drew)); exact Kd.R_mono HO400.out (fun _ hk => ⟨hk.1.1, hk.2⟩)))
                                     (case aS => exact (below_size HB.out))
                                     (case aL => have := LMc47.out; omega)
                                     intro v406 w66 ho hb hg hat
                                     rw [← Ny405.out] at ho
                                     have n0_ := Aside0.mk (Kd.V_afterv (ok := (fun k_ => (P0_ k_ ∨ w.heap.size ≤ k_) ∧ some k_ ≠ (u8 : Value).ownBlock ∧ some k_ ≠ (.slice Ao62 x9_2.length co62 : Value).ownBlock)) HO_0.out hg hat)
                                     have n1_ := Aside0.mk (Kd.V_afterv (ok := (fun k_ => (P0_ k_ ∨ w.heap.size ≤ k_) ∧ some k_ ≠ (u8 : Value).ownBlock ∧ some k_ ≠ (.slice Ao62 x9_2.length co62 : Value).ownBlock)) HO_7.out hg hat)
                                     have n2_ := Aside0.mk (Kd.R_over' HO_8.out (Kd.R_typed HO400.out) (by decide) hg)
                                     have n3_ := Aside0.mk (Kd.R_after (ok := (fun k_ => (w.heap.size ≤ k_))) HO_9.out hg hat)
                                     have n4_ := Aside0.mk (Kd.V_afterv (ok := (fun k_ => (P0_ k_ ∨ w.heap.size ≤ k_) ∧ some k_ ≠ (u8 : Value).ownBlock ∧ some k_ ≠ (.slice Ao62 x9_2.length co62 : Value).ownBlock)) HO412.out hg hat)
                                     have n5_ := Aside0.mk (hb)
                                     have n6_ := Aside0.mk ((show Kd.C (Kd.int .u8) w66 Ao62 y401.length y401 from by rw [Ny401.out]; exact Kd.C_take (m := (t374 : Int).toNat) ((Kd.R_reads' (Kd.R_after (ok := (fun k_ => (w.heap.size ≤ k_))) HO_9.out hg hat)).2.2) KL61.out))
                                     have n7_ := Aside0.mk (ho)
                                     clear HO_0
                                     clear HO_7
                                     clear HO_8
                                     clear HO_9
                                     clear HO412
                                     clear HB
                                     clear HR404
                                     clear HO400
                                     have HO_0 := n0_
                                     have HO_7 := n1_
                                     have HO_8 := n2_
                                     have HO_9 := n3_
                                     have HO412 := n4_
                                     have HB := n5_
                                     have HR404 := n6_
                                     have HO407 := n7_
                                     clear n0_ n1_ n2_ n3_ n4_ n5_ n6_ n7_
                                     clear ho hb hg hat
                                     refine hK.out _ _ trivial (fun hHeld => ?_)
                                     clear hK K
                                     refine norm_ (a' := ?_) ?_ ?_
                                     rotate_left
                                     ·
                                      show Act.put _ (some 135) _ = _
                                      simp only [Act.put, List.setIfInBounds_toArray, List.set_cons_zero, List.set_cons_succ, i64_w, i32_w]
                                      rfl
                                     refine one_ (i := 8) (N := some 139) #[true, true, true, true, true, true, true, true, true, false] rfl rfl (one_of HT_.out (by kernel_rfl)) (by decide) (fun K hK => ?_)
                                     refine Kd.R_append_rows_step (Kd.int .u8) (w0 := w) w.heap.size (by rfl) (.tmp 135) (.tmp 138) 24 5 (.int .u8 0) 1 rfl Try.underlying24 info5 rfl (by decide) (by omega) v406 y405 y408 _ _ _ (fun k_ => (w.heap.size ≤ k_) ∧ some k_ ≠ (.slice Ao62 x9_2.length co62 : Value).ownBlock) (fun _ => False) rfl rfl ?aO ?aR (fun _ _ h => h) (fun _ h => h.elim) ?aF ?aB ?aS ?aL ?_
                                     (case aR => exact (Kd.V_reads' HO412.out).2.2)
                                     (case aB => exact HB.out)
                                     (case aF => exact (fun k_ hk => ⟨(Nat.le_trans (below_size HB.out) hk), Kd.fresh' (Kd.R_lt HO_9.out) k_ hk⟩))
                                     (case aO => exact HO407.out)
                                     (case aS => exact (below_size HB.out))
                                     (case aL => have := LMc50.out; omega)
                                     intro v414 w67 ho hb hg hat
                                     rw [← Ny413.out] at ho
                                     have n0_ := Aside0.mk (Kd.V_afterv (ok := (fun k_ => (P0_ k_ ∨ w.heap.size ≤ k_) ∧ some k_ ≠ (u8 : Value).ownBlock ∧ some k_ ≠ (.slice Ao62 x9_2.length co62 : Value).ownBlock)) HO_0.out hg hat)
                                     have n1_ := Aside0.mk (Kd.V_afterv (ok := (fun k_ => (P0_ k_ ∨ w.heap.size ≤ k_) ∧ some k_ ≠ (u8 : Value).ownBlock ∧ some k_ ≠ (.slice Ao62 x9_2.length co62 : Value).ownBlock)) HO_7.out hg hat)
                                     have n2_ := Aside0.mk (Kd.R_over' HO_8.out (Kd.R_typed HO407.out) (by decide) hg)
                                     have n3_ := Aside0.mk (Kd.R_after (ok := (fun k_ => (w.heap.size ≤ k_))) HO_9.out hg hat)
                                     have n4_ := Aside0.mk (Kd.V_afterv (ok := (fun k_ => (P0_ k_ ∨ w.heap.size ≤ k_) ∧ some k_ ≠ (u8 : Value).ownBlock ∧ some k_ ≠ (.slice Ao62 x9_2.length co62 : Value).ownBlock)) HO412.out hg hat)
                                     have n5_ := Aside0.mk (hb)
                                     have n6_ := Aside0.mk ((show Kd.C (Kd.int .u8) w67 Ao62 y401.length y401 from by rw [Ny401.out]; exact Kd.C_take (m := (t374 : Int).toNat) ((Kd.R_reads' (Kd.R_after (ok := (fun k_ => (w.heap.size ≤ k_))) HO_9.out hg hat)).2.2) KL61.out))
                                     have n7_ := Aside0.mk (ho)
                                     clear HO_0
                                     clear HO_7
                                     clear HO_8
                                     clear HO_9
                                     clear HO412
                                     clear HB
                                     clear HR404
                                     clear HO407
                                     have HO_0 := n0_
                                     have HO_7 := n1_
                                     have HO_8 := n2_
                                     have HO_9 := n3_
                                     have HO412 := n4_
                                     have HB := n5_
                                     have HR404 := n6_
                                     have HO415 := n7_
                                     clear n0_ n1_ n2_ n3_ n4_ n5_ n6_ n7_
                                     clear ho hb hg hat
                                     refine hK.out _ _ trivial (fun hHeld => ?_)
                                     clear hK K
                                     refine norm_ (a' := ?_) ?_ ?_
                                     rotate_left
                                     ·
                                      show Act.put _ (some 139) _ = _
                                      simp only [Act.put, List.setIfInBounds_toArray, List.set_cons_zero, List.set_cons_succ, i64_w, i32_w]
                                      rfl
                                     refine pure_ (i := 9) (N := some 19) (v := ?_) (a' := ?_) #[true, true, true, true, true, true, true, true, true, true] rfl rfl (any_of HT_.out (by kernel_rfl)) (fun _ _ _ h => h) (Or.inl ⟨by rfl, ?_⟩) ?_ ?_
                                     rotate_left
                                     ·
                                      intro w'
                                      go_simp
                                      with_reducible rfl
                                     rotate_left
                                     ·
                                      simp only [Act.put, List.setIfInBounds_toArray, List.set_cons_zero, List.set_cons_succ, i64_w, i32_w]
                                      rfl
                                     refine done_ (done_of HT_.out (by kernel_rfl)) ?_
                                     obtain ⟨Ao68, co68, eo68⟩ := Kd.R_slice HO415.out
                                     subst eo68
                                     try go_wp2_with (first | ((with_reducible refine gate_callee (f := 34) rfl ?_); refine goesL_ (some 142) rfl rfl Try.func34 (by kernel_rfl) rfl #[.slice Ao68 y413.length co68] rfl (by (try simp only [List.map_toArray, List.map_cons, List.map_nil]); first | done | rfl | (simp only [List.length_drop, List.length_take]; rfl)) ?_; (with_reducible refine (staddleref02_Decode.calls kj36 _ _ y413 t416 t417 t418 t419 _ ?side1 ?side2 A51.out).mono ?_); (case side1 => exact (Kd.R_reads' HO415.out).2.2); (case side2 => exact (Kd.R_reads' HO415.out).2.1); rintro e w69 ⟨rfl, hb⟩; refine ⟨_, rfl, ?_⟩; have n0_ := Aside0.mk (Kd.V_below HO_0.out hb); have n1_ := Aside0.mk (Kd.V_below HO_7.out hb); have n2_ := Aside0.mk (Kd.R_below HO_8.out hb); have n3_ := Aside0.mk (Kd.R_below HO_9.out hb); have n4_ := Aside0.mk (Kd.V_below HO412.out hb); have n5_ := Aside0.mk (Kd.R_below HO415.out hb); have n6_ := Aside0.mk (Kd.C_below (by repeat (first | (with_reducible exact HR404.out) | (with_reducible refine Kd.C_alloc ?_ _) | (with_reducible refine Kd.C_drewN ?_ _) | (with_reducible refine Kd.C_drew ?_) | exact HR404.out)) hb); have n7_ := Aside0.mk (below_step HB.out hb); clear HO_0; clear HO_7; clear HO_8; clear HO_9; clear HO412; clear HO415; clear HR404; clear HB; have HO_0 := n0_; have HO_7 := n1_; have HO_8 := n2_; have HO_9 := n3_; have HO412 := n4_; have HO415 := n5_; have HR404 := n6_; have HB := n7_; clear n0_ n1_ n2_ n3_ n4_ n5_ n6_ n7_; try clear hb) | ((with_reducible refine gate_dst (N := 20) rfl ?_); (try (refine gate_guard (by rfl) ?_; dsimp only)); refine box_event ?hg (N := 20) ?hd (cs := #[.string (⟨#[]⟩ : ByteArray), .int .u64 0, .int .i64 0]) (t := 32) ?hr ?_; (case hd => rfl); (case hg => rfl); (case hr => first | (go_simp; done) | (go_simp; rfl)); intro gb420 hg w70 hbox hb; have n0_ := Aside0.mk (Kd.V_below (Kd.V_elderB HO_0.out gb420 (Nat.le_of_eq hg.symm)) hb); have n1_ := Aside0.mk (Kd.V_below (Kd.V_elderB HO_7.out gb420 (Nat.le_of_eq hg.symm)) hb); have n2_ := Aside0.mk (Kd.R_below HO_8.out hb); have n3_ := Aside0.mk (Kd.R_below HO_9.out hb); have n4_ := Aside0.mk (Kd.V_below (Kd.V_elderB HO412.out gb420 (Nat.le_of_eq hg.symm)) hb); have n5_ := Aside0.mk (Kd.R_below HO415.out hb); have n6_ := Aside0.mk (Kd.C_below (by repeat (first | (with_reducible exact HR404.out) | (with_reducible refine Kd.C_alloc ?_ _) | (with_reducible refine Kd.C_drewN ?_ _) | (with_reducible refine Kd.C_drew ?_) | exact HR404.out)) hb); have n7_ := Aside0.mk (below_step HB.out hb); have n8_ := Aside0.mk (hbox); have n9_ := Aside0.mk ((by rw [hg]; exact (below_size HB.out) : w.heap.size ≤ gb420)); have n10_ := Aside0.mk ((by rw [hg]; exact (below_size HB.out) : w.heap.size ≤ gb420)); clear HO_0; clear HO_7; clear HO_8; clear HO_9; clear HO412; clear HO415; clear HR404; clear HB; have HO_0 := n0_; have HO_7 := n1_; have HO_8 := n2_; have HO_9 := n3_; have HO412 := n4_; have HO415 := n5_; have HR404 := n6_; have HB := n7_; have BK420 := n8_; have GW420 := n9_; have GE420 := n10_; clear n0_ n1_ n2_ n3_ n4_ n5_ n6_ n7_ n8_ n9_ n10_; clear hb hbox hg; have hcz71_0 : w70.cell? ⟨gb420, 0, none⟩ = some (.string (⟨#[]⟩ : ByteArray)) := (blk_cell BK420.out 0).trans rfl; have hcz71_1 : w70.cell? ⟨gb420, 1, none⟩ = some (.int .u64 0) := (blk_cell BK420.out 1).trans rfl; have hcz71_2 : w70.cell? ⟨gb420, 2, none⟩ = some (.int .i64 0) := (blk_cell BK420.out 2).trans rfl; have hfz71_0 := blk_frozen BK420.out 0; have hfz71_1 := blk_frozen BK420.out 1; have hfz71_2 := blk_frozen BK420.out 2))
                                     have n0_ : Aside0 (Kd.V (Kd.int .u8) 5 (((w70.setCell ⟨gb420, 0, none⟩ (.string t416)).setCell ⟨gb420, 1, none⟩ (.int .u64 t417)).setCell ⟨gb420, 2, none⟩ (.int .i64 t418)) w.heap.size (fun k_ => (P0_ k_ ∨ w.heap.size ≤ k_) ∧ some k_ ≠ (u8 : Value).ownBlock ∧ some k_ ≠ (.slice Ao62 x9_2.length co62 : Value).ownBlock ∧ some k_ ≠ (.slice Ao68 y413.length co68 : Value).ownBlock ∧ k_ ≠ gb420) (.slice (some ad364) l0.length c0) l0) := ⟨by (with_reducible repeat (first | apply Kd.V_alloc | apply Kd.V_drewN | apply Kd.V_drew)); exact Kd.V_mono (Kd.V_far (p := ⟨gb420, 2, none⟩) (Kd.V_far (p := ⟨gb420, 1, none⟩) (Kd.V_far (p := ⟨gb420, 0, none⟩) (Kd.V_mono HO_0.out (fun k_ hk => (⟨hk, hk.2⟩ : _ ∧ k_ ≠ gb420))) (fun _ hk => hk.2) (.string t416)) (fun _ hk => hk.2) (.int .u64 t417)) (fun _ hk => hk.2) (.int .i64 t418)) (fun _ hk => ⟨hk.1.1.1.1, ⟨hk.1.1.1.2.1, ⟨hk.1.1.1.2.2, ⟨hk.1.1.2, hk.1.2⟩⟩⟩⟩)⟩
                                     have n1_ : Aside0 (Kd.V (Kd.int .u8) 5 (((w70.setCell ⟨gb420, 0, none⟩ (.string t416)).setCell ⟨gb420, 1, none⟩ (.int .u64 t417)).setCell ⟨gb420, 2, none⟩ (.int .i64 t418)) w.heap.size (fun k_ => (P0_ k_ ∨ w.heap.size ≤ k_) ∧ some k_ ≠ (u8 : Value).ownBlock ∧ some k_ ≠ (.slice Ao62 x9_2.length co62 : Value).ownBlock ∧ some k_ ≠ (.slice Ao68 y413.length co68 : Value).ownBlock ∧ k_ ≠ gb420) (.slice A38 y393.length c38) y393) := ⟨by (with_reducible repeat (first | apply Kd.V_alloc | apply Kd.V_drewN | apply Kd.V_drew)); exact Kd.V_mono (Kd.V_far (p := ⟨gb420, 2, none⟩) (Kd.V_far (p := ⟨gb420, 1, none⟩) (Kd.V_far (p := ⟨gb420, 0, none⟩) (Kd.V_mono HO_7.out (fun k_ hk => (⟨hk, hk.2⟩ : _ ∧ k_ ≠ gb420))) (fun _ hk => hk.2) (.string t416)) (fun _ hk => hk.2) (.int .u64 t417)) (fun _ hk => hk.2) (.int .i64 t418)) (fun _ hk => ⟨hk.1.1.1.1, ⟨hk.1.1.1.2.1, ⟨hk.1.1.1.2.2, ⟨hk.1.1.2, hk.1.2⟩⟩⟩⟩)⟩
                                     have n2_ : Aside0 (Kd.R k42 42 (((w70.setCell ⟨gb420, 0, none⟩ (.string t416)).setCell ⟨gb420, 1, none⟩ (.int .u64 t417)).setCell ⟨gb420, 2, none⟩ (.int .i64 t418)) w.heap.size (fun k_ => (w.heap.size ≤ k_)) u8 x8_2) := ⟨by (with_reducible repeat (first | apply Kd.R_alloc | apply Kd.R_drewN | apply Kd.R_drew)); exact Kd.R_mono (Kd.R_far (p := ⟨gb420, 2, none⟩) (Kd.R_far (p := ⟨gb420, 1, none⟩) (Kd.R_far (p := ⟨gb420, 0, none⟩) (Kd.R_types HO_8.out BK420.out (by decide)) (fun _ hk => hk.2) (.string t416)) (fun _ hk => hk.2) (.int .u64 t417)) (fun _ hk => hk.2) (.int .i64 t418)) (fun _ hk => hk.1)⟩
                                     have n3_ : Aside0 (Kd.R (Kd.int .u8) 5 (((w70.setCell ⟨gb420, 0, none⟩ (.string t416)).setCell ⟨gb420, 1, none⟩ (.int .u64 t417)).setCell ⟨gb420, 2, none⟩ (.int .i64 t418)) w.heap.size (fun k_ => (w.heap.size ≤ k_) ∧ some k_ ≠ (.slice Ao68 y413.length co68 : Value).ownBlock) (.slice Ao62 x9_2.length co62) x9_2) := ⟨by (with_reducible repeat (first | apply Kd.R_alloc | apply Kd.R_drewN | apply Kd.R_drew)); exact Kd.R_mono (Kd.R_far (p := ⟨gb420, 2, none⟩) (Kd.R_far (p := ⟨gb420, 1, none⟩) (Kd.R_far (p := ⟨gb420, 0, none⟩) (Kd.R_types HO_9.out BK420.out (by decide)) (fun _ hk => hk.2) (.string t416)) (fun _ hk => hk.2) (.int .u64 t417)) (fun _ hk => hk.2) (.int .i64 t418)) (fun _ hk => ⟨hk.1.1, hk.1.2⟩)⟩
                                     have n4_ : Aside0 (Kd.V (Kd.int .u8) 5 (((w70.setCell ⟨gb420, 0, none⟩ (.string t416)).setCell ⟨gb420, 1, none⟩ (.int .u64 t417)).setCell ⟨gb420, 2, none⟩ (.int .i64 t418)) w.heap.size (fun k_ => (P0_ k_ ∨ w.heap.size ≤ k_) ∧ some k_ ≠ (u8 : Value).ownBlock ∧ some k_ ≠ (.slice Ao62 x9_2.length co62 : Value).ownBlock ∧ some k_ ≠ (.slice Ao68 y413.length co68 : Value).ownBlock ∧ k_ ≠ gb420) (.slice A38 y408.length c38) y408) := ⟨by (with_reducible repeat (first | apply Kd.V_alloc | apply Kd.V_drewN | apply Kd.V_drew)); exact Kd.V_mono (Kd.V_far (p := ⟨gb420, 2, none⟩) (Kd.V_far (p := ⟨gb420, 1, none⟩) (Kd.V_far (p := ⟨gb420, 0, none⟩) (Kd.V_mono HO412.out (fun k_ hk => (⟨hk, hk.2⟩ : _ ∧ k_ ≠ gb420))) (fun _ hk => hk.2) (.string t416)) (fun _ hk => hk.2) (.int .u64 t417)) (fun _ hk => hk.2) (.int .i64 t418)) (fun _ hk => ⟨hk.1.1.1.1, ⟨hk.1.1.1.2.1, ⟨hk.1.1.1.2.2, ⟨hk.1.1.2, hk.1.2⟩⟩⟩⟩)⟩
                                     have n5_ : Aside0 (Kd.R (Kd.int .u8) 5 (((w70.setCell ⟨gb420, 0, none⟩ (.string t416)).setCell ⟨gb420, 1, none⟩ (.int .u64 t417)).setCell ⟨gb420, 2, none⟩ (.int .i64 t418)) w.heap.size (fun k_ => (w.heap.size ≤ k_) ∧ some k_ ≠ (.slice Ao62 x9_2.length co62 : Value).ownBlock) (.slice Ao68 y413.length co68) y413) := ⟨by (with_reducible repeat (first | apply Kd.R_alloc | apply Kd.R_drewN | apply Kd.R_drew)); exact Kd.R_mono (Kd.R_far (p := ⟨gb420, 2, none⟩) (Kd.R_far (p := ⟨gb420, 1, none⟩) (Kd.R_far (p := ⟨gb420, 0, none⟩) (Kd.R_types HO415.out BK420.out (by decide)) (fun _ hk => hk.2) (.string t416)) (fun _ hk => hk.2) (.int .u64 t417)) (fun _ hk => hk.2) (.int .i64 t418)) (fun _ hk => ⟨hk.1.1, hk.1.2⟩)⟩
                                     have n6_ : Aside0 ((((w70.setCell ⟨gb420, 0, none⟩ (.string t416)).setCell ⟨gb420, 1, none⟩ (.int .u64 t417)).setCell ⟨gb420, 2, none⟩ (.int .i64 t418)).heap[gb420]? = some (.cells #[.string t416, .int .u64 t417, .int .i64 t418] 32 (0, 0))) := ⟨by (with_reducible repeat (first | refine blk_drewN ?_ _ | refine blk_drew ?_ | refine blk_alloc ?_ _)); refine blk_put (cs := #[.string t416, .int .u64 t417, .int .i64 0]) ?_ 2 _ rfl; (with_reducible repeat (first | refine blk_drewN ?_ _ | refine blk_drew ?_ | refine blk_alloc ?_ _)); refine blk_put (cs := #[.string t416, .int .u64 0, .int .i64 0]) ?_ 1 _ rfl; (with_reducible repeat (first | refine blk_drewN ?_ _ | refine blk_drew ?_ | refine blk_alloc ?_ _)); refine blk_put (cs := #[.string (⟨#[]⟩ : ByteArray), .int .u64 0, .int .i64 0]) ?_ 0 _ rfl; (with_reducible repeat (first | refine blk_drewN ?_ _ | refine blk_drew ?_ | refine blk_alloc ?_ _)); exact BK420.out⟩
                                     have n7_ : Aside0 (Below w.heap.size w (((w70.setCell ⟨gb420, 0, none⟩ (.string t416)).setCell ⟨gb420, 1, none⟩ (.int .u64 t417)).setCell ⟨gb420, 2, none⟩ (.int .i64 t418))) := ⟨by repeat (first | (with_reducible first | exact HB.out | apply below_alloc | apply pw_below_drewN | apply below_drew1 | refine below_set ?_ GE420.out) | exact HB.out)⟩
                                     (try clear HO_0)
                                     (try clear HO_7)
                                     (try clear HO_8)
                                     (try clear HO_9)
                                     (try clear HO412)
                                     (try clear HO415)
                                     (try clear BK420)
                                     (try clear HB)
                                     generalize (((w70.setCell ⟨gb420, 0, none⟩ (.string t416)).setCell ⟨gb420, 1, none⟩ (.int .u64 t417)).setCell ⟨gb420, 2, none⟩ (.int .i64 t418)) = w72 at n0_ n1_ n2_ n3_ n4_ n5_ n6_ n7_ ⊢
                                     have HO_0 := n0_
                                     have HO_7 := n1_
                                     have HO_8 := n2_
                                     have HO_9 := n3_
                                     have HO412 := n4_
                                     have HO415 := n5_
                                     have BK420 := n6_
                                     have HB := n7_
                                     clear n0_ n1_ n2_ n3_ n4_ n5_ n6_ n7_
                                     have n0_ := Aside0.mk (Kd.V_drew HO_0.out)
                                     have n1_ := Aside0.mk (Kd.V_drew HO_7.out)
                                     have n2_ := Aside0.mk (Kd.R_drew HO_8.out)
                                     have n3_ := Aside0.mk (Kd.R_drew HO_9.out)
                                     have n4_ := Aside0.mk (Kd.V_drew HO412.out)
                                     have n5_ := Aside0.mk (Kd.R_drew HO415.out)
                                     have n6_ := Aside0.mk (blk_drew BK420.out)
                                     have n7_ := Aside0.mk (below_drew1 HB.out)
                                     clear HO_0
                                     clear HO_7
                                     clear HO_8
                                     clear HO_9
                                     clear HO412
                                     clear HO415
                                     clear BK420
                                     clear HB
                                     have HO_0 := n0_
                                     have HO_7 := n1_
                                     have HO_8 := n2_
                                     have HO_9 := n3_
                                     have HO412 := n4_
                                     have HO415 := n5_
                                     have BK420 := n6_
                                     have HB := n7_
                                     clear n0_ n1_ n2_ n3_ n4_ n5_ n6_ n7_
                                     have q74 : ((ji57) : Int) ≤ ((y393.length : Int) : Int) := of_decide_eq_true (by first | (with_reducible assumption) | assumption)
                                     obtain ⟨i074, hi074, _, hsz74, _⟩ := info_parts info5
                                     have hroom74 : y393.length ≤ c38 := (Kd.V_reads' HO_7.out).2.1
                                     have hC74 : Kd.F (Kd.int .u8) _ _ A38 y393.length y393 := (Kd.V_at (base := w.heap.size) HO_7.out).2.2
                                     have ql74 : (t382 : Int) ≤ ((ji57) : Int) := of_decide_eq_true (by first | (with_reducible assumption) | assumption)
                                     have q074 : (0 : Int) ≤ (t382 : Int) := of_decide_eq_true (by first | (with_reducible assumption) | assumption)
                                     have hcut74 := cut_mid (P := Try.prog) 24 5 .u64 .u64 Try.underlying24 hi074 1 hsz74 A38 y393.length c38 t382 (ji57) q074 ql74 q74 hroom74
                                     have hr74 := Kd.F_mid (lo := (t382 : Int).toNat) (hi := ((ji57) : Int).toNat) (c := c38) hC74 (by omega) (by omega) hroom74
                                     obtain ⟨A74, hA74⟩ : ∃ A1, A1 = (if c38 = (t382 : Int).toNat then A38 else (A38 : Option Addr).map (·.add ((t382 : Int).toNat * 1))) := ⟨_, rfl⟩
                                     obtain ⟨c74, hc74⟩ : ∃ c1, c1 = c38 - (t382 : Int).toNat := ⟨_, rfl⟩
                                     have hy74 : y421.length = ((ji57) : Int).toNat - (t382 : Int).toNat := (by rw [Ny421.out, List.length_drop, List.length_take] <;> omega)
                                     rw [show ((y393).take ((ji57) : Int).toNat).drop (t382 : Int).toNat = y421 from Ny421.out.symm] at hr74
                                     replace hr74 : Kd.F (Kd.int .u8) _ _ A74 y421.length y421 := (by rw [hA74]; exact hr74)
                                     rw [← hy74, ← hA74, ← hc74] at hcut74
                                     have HO425 := Aside0.mk (show Kd.V (Kd.int .u8) 5 _ w.heap.size _ (.slice A74 y421.length c74) y421 from Kd.V_mk (by rw [hy74, hc74]; exact Nat.sub_le_sub_right (Nat.le_trans (by omega) hroom74) _) hr74)
                                     have HC425 := Aside0.mk (show y421.length ≤ c74 from by rw [hy74, hc74]; exact Nat.sub_le_sub_right (Nat.le_trans (by omega) hroom74) _)
                                     clear hr74 hC74 hroom74 hi074 hsz74 hc74
                                     have KY74 := Aside0.mk hy74
                                     have KA74 := Aside0.mk hA74
                                     clear hy74 hA74
                                     replace q74 := eq_true q74
                                     refine start_ (n := 13) (S := fun w' => w'.cell? ⟨gb420, 0, none⟩ = some (.string t416) ∧ w'.cell? ⟨gb420, 1, none⟩ = some (.int .u64 t417) ∧ w'.cell? ⟨gb420, 2, none⟩ = some (.int .i64 t418)) (ds := []) #[false, false, false, false, false, false, false, false, false, false, false, false, false] (by kernel_rfl) rfl rfl ⟨(blk_cell BK420.out 0).trans rfl, (blk_cell BK420.out 1).trans rfl, (blk_cell BK420.out 2).trans rfl⟩ (fun hHeld => ?_); refine with_tabW staddleref11_Read.tab23 staddleref11_Read.bits23 (fun HT_ HW_ => ?_)
                                     generalize w72.drew = w73 at HO_0 HO_7 HO_8 HO_9 HO412 HO415 BK420 HB HO425 hHeld ⊢
                                     refine pure_ (i := 0) (N := some 147) (v := ?_) (a' := ?_) #[true, false, false, false, false, false, false, false, false, false, false, false, false] rfl rfl (any_of HT_.out (by kernel_rfl)) (fun _ _ _ h => h) (Or.inl ⟨by rfl, ?_⟩) ?_ ?_
                                     rotate_left
                                     ·
                                      intro w'
                                      go_simp
                                      with_reducible rfl
                                     rotate_left
                                     ·
                                      simp only [Act.put, List.setIfInBounds_toArray, List.set_cons_zero, List.set_cons_succ, i64_w, i32_w]
                                      rfl
                                     refine pure_ (i := 2) (N := some 149) (v := ?_) (a' := ?_) #[true, false, true, false, false, false, false, false, false, false, false, false, false] rfl rfl (any_of HT_.out (by kernel_rfl)) (fun _ _ _ h => h) (Or.inl ⟨by rfl, ?_⟩) ?_ ?_
                                     rotate_left
                                     ·
                                      intro w'
                                      go_simp
                                      with_reducible rfl
                                     rotate_left
                                     ·
                                      simp only [Act.put, List.setIfInBounds_toArray, List.set_cons_zero, List.set_cons_succ, i64_w, i32_w]
                                      rfl
                                     refine pure_ (i := 3) (N := some 150) (v := ?_) (a' := ?_) #[true, false, true, true, false, false, false, false, false, false, false, false, false] rfl rfl (any_of HT_.out (by kernel_rfl)) (fun _ _ _ h => h) (Or.inl ⟨by rfl, ?_⟩) ?_ ?_
                                     rotate_left
                                     ·
                                      intro w'
                                      go_simp
                                      with_reducible rfl
                                     rotate_left
                                     ·
                                      simp only [Act.put, List.setIfInBounds_toArray, List.set_cons_zero, List.set_cons_succ, i64_w, i32_w]
                                      rfl
                                     refine pure_ (i := 4) (N := some 151) (v := ?_) (a' := ?_) #[true, false, true, true, true, false, false, false, false, false, false, false, false] rfl rfl (any_of HT_.out (by kernel_rfl)) (fun _ _ _ h => h) (Or.inl ⟨by rfl, ?_⟩) ?_ ?_
                                     rotate_left
                                     ·
                                      intro w'
                                      go_simp
                                      with_reducible rfl
                                     rotate_left
                                     ·
                                      simp only [Act.put, List.setIfInBounds_toArray, List.set_cons_zero, List.set_cons_succ, i64_w, i32_w]
                                      rfl
                                     refine pure_ (i := 5) (N := some 152) (v := ?_) (a' := ?_) #[true, false, true, true, true, true, false, false, false, false, false, false, false] rfl rfl (any_of HT_.out (by kernel_rfl)) (fun _ _ _ h => h) (Or.inl ⟨by rfl, ?_⟩) ?_ ?_
                                     rotate_left
                                     ·
                                      intro w'
                                      go_simp
                                      with_reducible rfl
                                     rotate_left
                                     ·
                                      simp only [Act.put, List.setIfInBounds_toArray, List.set_cons_zero, List.set_cons_succ, i64_w, i32_w]
                                      rfl
                                     refine pure_ (i := 6) (N := some 153) (v := ?_) (a' := ?_) #[true, false, true, true, true, true, true, false, false, false, false, false, false] rfl rfl (any_of HT_.out (by kernel_rfl)) (fun _ _ _ h => h) (Or.inl ⟨by rfl, ?_⟩) ?_ ?_
                                     rotate_left
                                     ·
                                      intro w'
                                      go_simp
                                      with_reducible rfl
                                     rotate_left
                                     ·
                                      simp only [Act.put, List.setIfInBounds_toArray, List.set_cons_zero, List.set_cons_succ, i64_w, i32_w]
                                      rfl
                                     refine pure_ (i := 7) (N := some 154) (v := ?_) (a' := ?_) #[true, false, true, true, true, true, true, true, false, false, false, false, false] rfl rfl (any_of HT_.out (by kernel_rfl)) (fun _ _ _ h => h) (Or.inl ⟨by rfl, ?_⟩) ?_ ?_
                                     rotate_left
                                     ·
                                      intro w'
                                      go_simp
                                      with_reducible rfl
                                     rotate_left
                                     ·
                                      simp only [Act.put, List.setIfInBounds_toArray, List.set_cons_zero, List.set_cons_succ, i64_w, i32_w]
                                      rfl
                                     refine take_ (i := 1) (N := some 148) (v := ?_) (a' := ?_) #[true, true, true, true, true, true, true, true, false, false, false, false, false] rfl rfl (take_ofW HT_.out HW_.out (by kernel_rfl)) (fun _ _ _ h => h) (Or.inl ⟨by rfl, ?_⟩) hHeld ?_ ?_
                                     rotate_left
                                     ·
                                      rintro w' ⟨s0, s1, s2⟩
                                      go_simp
                                      with_reducible rfl
                                     rotate_left
                                     ·
                                      simp only [Act.put, List.setIfInBounds_toArray, List.set_cons_zero, List.set_cons_succ, i64_w, i32_w]
                                      rfl
                                     refine one_ (i := 8) (N := some 155) #[true, true, true, true, true, true, true, true, true, false, false, false, false] rfl rfl (one_of HT_.out (by kernel_rfl)) (by decide) (fun K hK => ?_)
                                     have hcv75 := Kd.C_string (P := Try.prog) (A := A74) (c := c74) Try.underlying24 Try.underlying5 Try.underlying9 (Kd.V_reads' HO425.out).2.2
                                     refine value_ (w1 := ?_) (v := ?_) (by rfl) rfl ?_ ?_
                                     rotate_left 2
                                     ·
                                      go_simp
                                      constructor
                                      ·
                                       rfl
                                      ·
                                       rfl
                                     clear hcv75
                                     refine hK.out _ _ ⟨(blk_cell BK420.out 0).trans rfl, (blk_cell BK420.out 1).trans rfl, (blk_cell BK420.out 2).trans rfl⟩ (fun hHeld => ?_)
                                     clear hK K
                                     refine norm_ (a' := ?_) ?_ ?_
                                     rotate_left
                                     ·
                                      show Act.put _ (some 155) _ = _
                                      simp only [Act.put, List.setIfInBounds_toArray, List.set_cons_zero, List.set_cons_succ, i64_w, i32_w]
                                      rfl
                                     refine pure_ (i := 9) (N := some 156) (v := ?_) (a' := ?_) #[true, true, true, true, true, true, true, true, true, true, false, false, false] rfl rfl (any_of HT_.out (by kernel_rfl)) (fun _ _ _ h => h) (Or.inl ⟨by rfl, ?_⟩) ?_ ?_
                                     rotate_left
                                     ·
                                      intro w'
                                      go_simp
                                      with_reducible rfl
                                     rotate_left
                                     ·
                                      simp only [Act.put, List.setIfInBounds_toArray, List.set_cons_zero, List.set_cons_succ, i64_w, i32_w]
                                      rfl
                                     refine one_ (i := 10) (N := some 157) #[true, true, true, true, true, true, true, true, true, true, true, false, false] rfl rfl (one_of HT_.out (by kernel_rfl)) (by decide) (fun K hK => ?_)
                                     refine value_ (w1 := ?_) (v := ?_) (by rfl) rfl ?_ ?_
                                     rotate_left 2
                                     ·
                                      go_simp
                                      constructor
                                      ·
                                       rfl
                                      ·
                                       rfl
                                     refine hK.out _ _ ⟨(blk_cell (blk_alloc BK420.out _) 0).trans rfl, (blk_cell (blk_alloc BK420.out _) 1).trans rfl, (blk_cell (blk_alloc BK420.out _) 2).trans rfl⟩ (fun hHeld => ?_)
                                     clear hK K
                                     refine norm_ (a' := ?_) ?_ ?_
                                     rotate_left
                                     ·
                                      show Act.put _ (some 157) _ = _
                                      simp only [Act.put, List.setIfInBounds_toArray, List.set_cons_zero, List.set_cons_succ, i64_w, i32_w]
                                      rfl
                                     refine one_ (i := 11) (N := some 158) #[true, true, true, true, true, true, true, true, true, true, true, true, false] rfl rfl (one_of HT_.out (by kernel_rfl)) (by decide) (fun K hK => ?_)
                                     refine Kd.R_append_step k42 (w0 := w) w.heap.size (by rfl) (.tmp 147) (.tmp 157) 23 42 (.agg #[(.string ⟨#[]⟩), (.int .u64 0), (.int .i64 0), (.string ⟨#[]⟩)]) 48 rfl Try.underlying23 info42 rfl (by decide) (by omega) u8 x8_2 (⟨(⟨t416, t417, t418⟩ : S32), strOfNums y421⟩ : S42) [.string t416, .int .u64 t417, .int .i64 t418, .string (strOfNums y421)] (fun k_ => (w.heap.size ≤ k_)) (fun _ => False) rfl rfl ?aP (fun _ hk => hk.elim) ?aF ?aO ?aB ?aS ?aL ?_
                                     (case aP => exact k42_mkM _ _ _ (⟨(⟨t416, t417, t418⟩ : S32), strOfNums y421⟩ : S42))
                                     (case aB => exact (by repeat (first | (with_reducible first | exact HB.out | apply below_alloc | apply pw_below_drewN | apply below_drew1 | refine below_set ?_ GE420.out) | exact HB.out)))
                                     (case aF => exact (fun k_ hk => (Nat.le_trans (below_size (by repeat (first | (with_reducible first | exact HB.out | apply below_alloc | apply pw_below_drewN | apply below_drew1 | refine below_set ?_ GE420.out) | exact HB.out))) hk)))
                                     (case aO => exact HO_8.out)
                                     (case aS => exact (below_size (by repeat (first | (with_reducible first | exact HB.out | apply below_alloc | apply pw_below_drewN | apply below_drew1 | refine below_set ?_ GE420.out) | exact HB.out))))
                                     (case aL => have := LMc56.out; omega)
                                     intro v427 w76 ho hb hg hat
                                     rw [← Ny426.out] at ho
                                     have n0_ := Aside0.mk (Kd.V_afterv (ok := (fun k_ => (P0_ k_ ∨ w.heap.size ≤ k_) ∧ some k_ ≠ (.slice Ao62 x9_2.length co62 : Value).ownBlock ∧ some k_ ≠ (.slice Ao68 y413.length co68 : Value).ownBlock ∧ k_ ≠ gb420)) (by (with_reducible repeat (first | apply Kd.V_alloc | apply Kd.V_drewN | apply Kd.V_drew)); exact Kd.V_mono HO_0.out (fun _ hk => ⟨⟨hk.1, ⟨hk.2.2.1, ⟨hk.2.2.2.1, hk.2.2.2.2⟩⟩⟩, hk.2.1⟩)) hg hat)
                                     have n1_ := Aside0.mk (Kd.V_afterv (ok := (fun k_ => (P0_ k_ ∨ w.heap.size ≤ k_) ∧ some k_ ≠ (.slice Ao62 x9_2.length co62 : Value).ownBlock ∧ some k_ ≠ (.slice Ao68 y413.length co68 : Value).ownBlock ∧ k_ ≠ gb420)) (by (with_reducible repeat (first | apply Kd.V_alloc | apply Kd.V_drewN | apply Kd.V_drew)); exact Kd.V_mono HO_7.out (fun _ hk => ⟨⟨hk.1, ⟨hk.2.2.1, ⟨hk.2.2.2.1, hk.2.2.2.2⟩⟩⟩, hk.2.1⟩)) hg hat)
                                     have n2_ := Aside0.mk (Kd.R_over' HO_9.out (Kd.R_typed HO_8.out) (by decide) hg)
                                     have n3_ := Aside0.mk (Kd.V_afterv (ok := (fun k_ => (P0_ k_ ∨ w.heap.size ≤ k_) ∧ some k_ ≠ (.slice Ao62 x9_2.length co62 : Value).ownBlock ∧ some k_ ≠ (.slice Ao68 y413.length co68 : Value).ownBlock ∧ k_ ≠ gb420)) (by (with_reducible repeat (first | apply Kd.V_alloc | apply Kd.V_drewN | apply Kd.V_drew)); exact Kd.V_mono HO412.out (fun _ hk => ⟨⟨hk.1, ⟨hk.2.2.1, ⟨hk.2.2.2.1, hk.2.2.2.2⟩⟩⟩, hk.2.1⟩)) hg hat)
                                     have n4_ := Aside0.mk (Kd.R_over' HO415.out (Kd.R_typed HO_8.out) (by decide) hg)
                                     have n5_ := Aside0.mk (blk_grown (g := gb420) (o := .cells #[.string t416, .int .u64 t417, .int .i64 t418] 32 (0, 0)) (by (with_reducible repeat (first | refine blk_drewN ?_ _ | refine blk_drew ?_ | refine blk_alloc ?_ _)); exact BK420.out) hg (Kd.R_ne HO_8.out BK420.out (by decide)))
                                     have n6_ := Aside0.mk (Kd.V_afterv (ok := (fun k_ => (P0_ k_ ∨ w.heap.size ≤ k_) ∧ some k_ ≠ (.slice Ao62 x9_2.length co62 : Value).ownBlock ∧ some k_ ≠ (.slice Ao68 y413.length co68 : Value).ownBlock ∧ k_ ≠ gb420)) (by (with_reducible repeat (first | apply Kd.V_alloc | apply Kd.V_drewN | apply Kd.V_drew)); exact Kd.V_mono HO425.out (fun _ hk => ⟨⟨hk.1, ⟨hk.2.2.1, ⟨hk.2.2.2.1, hk.2.2.2.2⟩⟩⟩, hk.2.1⟩)) hg hat)
                                     have n7_ := Aside0.mk (hb)
                                     have n8_ := Aside0.mk (ho)
                                     clear HO_0
                                     clear HO_7
                                     clear HO_9
                                     clear HO412
                                     clear HO415
                                     clear BK420
                                     clear HO425
                                     clear HB
                                     clear HO_8
                                     have HO_0 := n0_
                                     have HO_7 := n1_
                                     have HO_9 := n2_
                                     have HO412 := n3_
                                     have HO415 := n4_
                                     have BK420 := n5_
                                     have HO425 := n6_
                                     have HB := n7_
                                     have HO428 := n8_
                                     clear n0_ n1_ n2_ n3_ n4_ n5_ n6_ n7_ n8_
                                     clear ho hb hg hat
                                     refine hK.out _ _ ⟨(blk_cell BK420.out 0).trans rfl, (blk_cell BK420.out 1).trans rfl, (blk_cell BK420.out 2).trans rfl⟩ (fun hHeld => ?_)
                                     clear hK K
                                     refine norm_ (a' := ?_) ?_ ?_
                                     rotate_left
                                     ·
                                      show Act.put _ (some 158) _ = _
                                      simp only [Act.put, List.setIfInBounds_toArray, List.set_cons_zero, List.set_cons_succ, i64_w, i32_w]
                                      rfl
                                     refine pure_ (i := 12) (N := some 8) (v := ?_) (a' := ?_) #[true, true, true, true, true, true, true, true, true, true, true, true, true] rfl rfl (any_of HT_.out (by kernel_rfl)) (fun _ _ _ h => h) (Or.inl ⟨by rfl, ?_⟩) ?_ ?_
                                     rotate_left
                                     ·
                                      intro w'
                                      go_simp
                                      with_reducible rfl
                                     rotate_left
                                     ·
                                      simp only [Act.put, List.setIfInBounds_toArray, List.set_cons_zero, List.set_cons_succ, i64_w, i32_w]
                                      rfl
                                     refine done_ (done_of HT_.out (by kernel_rfl)) ?_
                                     have q77 : ((ji57) : Int) ≤ ((y393.length : Int) : Int) := of_decide_eq_true (by first | (with_reducible assumption) | assumption)
                                     obtain ⟨i077, hi077, _, hsz77, _⟩ := info_parts info5
                                     have hroom77 : y393.length ≤ c38 := (Kd.V_reads' HO_7.out).2.1
                                     have hC77 : Kd.F (Kd.int .u8) _ _ A38 y393.length y393 := (Kd.V_at (base := w.heap.size) HO_7.out).2.2
                                     have q077 : (0 : Int) ≤ ((ji57) : Int) := of_decide_eq_true (by first | (with_reducible assumption) | assumption)
                                     have hcut77 := cut_from (P := Try.prog) 24 5 .u64 Try.underlying24 hi077 1 hsz77 A38 y393.length c38 (ji57) q077 q77
                                     have hr77 := Kd.F_cut (m := ((ji57) : Int).toNat) (c := c38) hC77 (by omega) hroom77
                                     obtain ⟨A77, hA77⟩ : ∃ A1, A1 = (if c38 = ((ji57) : Int).toNat then A38 else (A38 : Option Addr).map (·.add (((ji57) : Int).toNat * 1))) := ⟨_, rfl⟩
                                     obtain ⟨c77, hc77⟩ : ∃ c1, c1 = c38 - ((ji57) : Int).toNat := ⟨_, rfl⟩
                                     have hy77 : y429.length = y393.length - ((ji57) : Int).toNat := (by rw [Ny429.out, List.length_drop] <;> omega)
                                     rw [show (y393).drop ((ji57) : Int).toNat = y429 from Ny429.out.symm] at hr77
                                     replace hr77 : Kd.F (Kd.int .u8) _ _ A77 y429.length y429 := (by rw [hA77]; exact hr77)
                                     rw [← hy77, ← hA77, ← hc77] at hcut77
                                     have HO433 := Aside0.mk (show Kd.V (Kd.int .u8) 5 _ w.heap.size _ (.slice A77 y429.length c77) y429 from Kd.V_mk (by rw [hy77, hc77]; exact Nat.sub_le_sub_right hroom77 _) hr77)
                                     have HC433 := Aside0.mk (show y429.length ≤ c77 from by rw [hy77, hc77]; exact Nat.sub_le_sub_right hroom77 _)
                                     clear hr77 hC77 hroom77 hi077 hsz77 hc77
                                     have KY77 := Aside0.mk hy77
                                     have KA77 := Aside0.mk hA77
                                     clear hy77 hA77
                                     replace q77 := eq_true q77
                                     try go_wp2
                                     go_roundg kj36
                                     case measure => have := HJ6.out; have := HK2.out; have := HJ26.out; have := HJ36.out; omega
                                     case rel => exact ⟨(y429), (y426), (y413), H', ⟨by have := HJ6.out; have := HK2.out; have := HJ26.out; have := HJ36.out; omega⟩, ⟨by (with_reducible repeat (first | apply Kd.V_alloc | apply Kd.V_drewN | apply Kd.V_drew)); exact Kd.V_mono HO_0.out (fun _ hk => ⟨hk.1.1, ⟨hk.2, hk.1.2.2.1⟩⟩)⟩, ⟨by (with_reducible repeat (first | apply Kd.V_alloc | apply Kd.V_drewN | apply Kd.V_drew)); exact Kd.V_mono HO433.out (fun _ hk => ⟨hk.1.1, ⟨hk.2, hk.1.2.2.1⟩⟩)⟩, ⟨HO428.out⟩, ⟨by (with_reducible repeat (first | apply Kd.R_alloc | apply Kd.R_drewN | apply Kd.R_drew)); exact Kd.R_mono HO415.out (fun _ hk => hk.1)⟩, ⟨by repeat (first | (with_reducible first | exact HB.out | apply below_alloc | apply pw_below_drewN | apply below_drew1 | refine below_set ?_ GE420.out) | exact HB.out)⟩⟩
                                    ·
                                     rw [if_neg c58] at H
                                     exact absurd H (by simp)
                                   ·
                                    rw [if_neg c56] at H
                                    exact absurd H (by simp)
                                  ·
                                   rw [if_neg c55] at H
                                   exact absurd H (by simp)
                                 ·
                                  rw [if_neg c54] at H
                                  exact absurd H (by simp)
                                ·
                                 rw [if_neg c52] at H
                                 have c52b0 : (t419 == 0) = false := beq_eq_false_iff_ne.mpr c52
                                 have c52b1 : (t419 != 0) = true := bne_iff_ne.mpr c52
                                 simp only [Option.some.injEq, Prod.mk.injEq] at H
                                 obtain ⟨rfl, rfl⟩ := H
                                 try go_wp2
                                 have n0_ := Aside0.mk (Kd.V_drew HO_0.out)
                                 have n1_ := Aside0.mk (Kd.V_drew HO_7.out)
                                 have n2_ := Aside0.mk (Kd.R_drew HO_8.out)
                                 have n3_ := Aside0.mk (Kd.R_drew HO_9.out)
                                 have n4_ := Aside0.mk (below_drew1 HB.out)
                                 clear HO_0
                                 clear HO_7
                                 clear HO_8
                                 clear HO_9
                                 clear HB
                                 have HO_0 := n0_
                                 have HO_7 := n1_
                                 have HO_8 := n2_
                                 have HO_9 := n3_
                                 have HB := n4_
                                 clear n0_ n1_ n2_ n3_ n4_
                                 obtain ⟨Ao80, co80, eo80⟩ := Kd.R_slice HO_9.out
                                 (first | subst eo80 | (injection eo80 with f1_ f2_ f3_; have f4_ := f1_.symm; have f5_ := f3_.symm; clear f1_ f2_ f3_; subst f4_; subst f5_))
                                 have q79 : (t374 : Int) ≤ ((x9_2.length : Int) : Int) := of_decide_eq_true (by first | (with_reducible assumption) | assumption)
                                 obtain ⟨i079, hi079, _, hsz79, _⟩ := info_parts info5
                                 have hroom79 : x9_2.length ≤ co80 := (Kd.R_reads' HO_9.out).2.1
                                 have hC79 : Kd.C (Kd.int .u8) _ Ao80 x9_2.length x9_2 := (Kd.R_reads' HO_9.out).2.2
                                 have hcut79 := cut_to (P := Try.prog) 24 5 .u64 Try.underlying24 hi079 Ao80 x9_2.length co80 t374 (of_decide_eq_true (by first | (with_reducible assumption) | assumption)) q79 hroom79
                                 have hr79 := Kd.C_take (m := (t374 : Int).toNat) hC79 (by omega)
                                 have hy79 : y401.length = (t374 : Int).toNat := (by rw [Ny401.out, List.length_take]; omega)
                                 rw [← Ny401.out] at hr79
                                 rw [← hy79] at hcut79
                                 have HR404 := Aside0.mk hr79
                                 have HC404 := Aside0.mk (show y401.length ≤ co80 from by omega)
                                 clear hr79 hC79 hroom79 hi079 hsz79
                                 have KY79 := Aside0.mk hy79
                                 clear hy79
                                 have KL79 := Aside0.mk (show (t374 : Int).toNat ≤ x9_2.length from by omega)
                                 replace q79 := eq_true q79
                                 have q81 : (t382 : Int) ≤ ((y393.length : Int) : Int) := of_decide_eq_true (by first | (with_reducible assumption) | assumption)
                                 obtain ⟨i081, hi081, _, hsz81, _⟩ := info_parts info5
                                 have hroom81 : y393.length ≤ c38 := (Kd.V_reads' HO_7.out).2.1
                                 have hC81 : Kd.F (Kd.int .u8) _ _ A38 y393.length y393 := (Kd.V_at (base := w.heap.size) HO_7.out).2.2
                                 have hcut81 := cut_to (P := Try.prog) 24 5 .u64 Try.underlying24 hi081 A38 y393.length c38 t382 (of_decide_eq_true (by first | (with_reducible assumption) | assumption)) q81 hroom81
                                 have hr81 := Kd.F_take (m := (t382 : Int).toNat) hC81 (by omega)
                                 have hy81 : y408.length = (t382 : Int).toNat := (by rw [Ny408.out, List.length_take]; omega)
                                 rw [← Ny408.out] at hr81
                                 rw [← hy81] at hcut81
                                 have HO412 := Aside0.mk (show Kd.V (Kd.int .u8) 5 _ w.heap.size _ (.slice A38 y408.length c38) y408 from Kd.V_mk (by omega) hr81)
                                 have HC412 := Aside0.mk (show y408.length ≤ c38 from by omega)
                                 clear hr81 hC81 hroom81 hi081 hsz81
                                 have KY81 := Aside0.mk hy81
                                 clear hy81
                                 replace q81 := eq_true q81
                                 refine start_ (n := 10) (S := fun w' => True) (ds := []) #[false, false, false, false, false, false, false, false, false, false] (by kernel_rfl) rfl rfl trivial (fun hHeld => ?_); refine with_tabW staddleref11_Read.tab19 staddleref11_Read.bits19 (fun HT_ HW_ => ?_)
                                 generalize wc.drew = w78 at HO_0 HO_7 HO_8 HO_9 HB HO412 HR404 hHeld ⊢
                                 refine pure_ (i := 1) (N := some 132) (v := ?_) (a' := ?_) #[false, true, false, false, false, false, false, false, false, false] rfl rfl (any_of HT_.out (by kernel_rfl)) (fun _ _ _ h => h) (Or.inl ⟨by rfl, ?_⟩) ?_ ?_
                                 rotate_left
                                 ·
                                  intro w'
                                  go_simp
                                  with_reducible rfl
                                 rotate_left
                                 ·
                                  simp only [Act.put, List.setIfInBounds_toArray, List.set_cons_zero, List.set_cons_succ, i64_w, i32_w]
                                  rfl
                                 refine pure_ (i := 2) (N := some 133) (v := ?_) (a' := ?_) #[false, true, true, false, false, false, false, false, false, false] rfl rfl (any_of HT_.out (by kernel_rfl)) (fun _ _ _ h => h) (Or.inl ⟨by rfl, ?_⟩) ?_ ?_
                                 rotate_left
                                 ·
                                  intro w'
                                  go_simp
                                  with_reducible rfl
                                 rotate_left
                                 ·
                                  simp only [Act.put, List.setIfInBounds_toArray, List.set_cons_zero, List.set_cons_succ, i64_w, i32_w]
                                  rfl
                                 refine pure_ (i := 3) (N := some 134) (v := ?_) (a' := ?_) #[false, true, true, true, false, false, false, false, false, false] rfl rfl (any_of HT_.out (by kernel_rfl)) (fun _ _ _ h => h) (Or.inl ⟨by rfl, ?_⟩) ?_ ?_
                                 rotate_left
                                 ·
                                  intro w'
                                  go_simp
                                  with_reducible rfl
                                 rotate_left
                                 ·
                                  simp only [Act.put, List.setIfInBounds_toArray, List.set_cons_zero, List.set_cons_succ, i64_w, i32_w]
                                  rfl
                                 refine pure_ (i := 5) (N := some 136) (v := ?_) (a' := ?_) #[false, true, true, true, false, true, false, false, false, false] rfl rfl (any_of HT_.out (by kernel_rfl)) (fun _ _ _ h => h) (Or.inl ⟨by rfl, ?_⟩) ?_ ?_
                                 rotate_left
                                 ·
                                  intro w'
                                  go_simp
                                  with_reducible rfl
                                 rotate_left
                                 ·
                                  simp only [Act.put, List.setIfInBounds_toArray, List.set_cons_zero, List.set_cons_succ, i64_w, i32_w]
                                  rfl
                                 refine pure_ (i := 6) (N := some 137) (v := ?_) (a' := ?_) #[false, true, true, true, false, true, true, false, false, false] rfl rfl (any_of HT_.out (by kernel_rfl)) (fun _ _ _ h => h) (Or.inl ⟨by rfl, ?_⟩) ?_ ?_
                                 rotate_left
                                 ·
                                  intro w'
                                  go_simp
                                  with_reducible rfl
                                 rotate_left
                                 ·
                                  simp only [Act.put, List.setIfInBounds_toArray, List.set_cons_zero, List.set_cons_succ, i64_w, i32_w]
                                  rfl
                                 refine pure_ (i := 7) (N := some 138) (v := ?_) (a' := ?_) #[false, true, true, true, false, true, true, true, false, false] rfl rfl (any_of HT_.out (by kernel_rfl)) (fun _ _ _ h => h) (Or.inl ⟨by rfl, ?_⟩) ?_ ?_
                                 rotate_left
                                 ·
                                  intro w'
                                  go_simp
                                  with_reducible rfl
                                 rotate_left
                                 ·
                                  simp only [Act.put, List.setIfInBounds_toArray, List.set_cons_zero, List.set_cons_succ, i64_w, i32_w]
                                  rfl
                                 refine one_ (i := 0) (N := some 131) #[true, true, true, true, false, true, true, true, false, false] rfl rfl (one_of HT_.out (by kernel_rfl)) (by decide) (fun K hK => ?_)
                                 refine Kd.R_lit_step (Kd.int .u8) _ 5 ?hg (N := 131) ?hd (xs := ([] : List Int)) (inner := []) (ok := fun _ => True) (okp := fun _ => True) ?hr ?hp (fun _ hk => hk) trivial (Below.refl _ _) (Nat.le_refl _) (by simp) ?_; (case hd => rfl); (case hg => rfl); (case hr => first | (go_simp; done) | (go_simp; rfl)); (case hp => exact (Reps.none _ _))
                                 intro v399 w82 ho83 hb hg_ hnew_
                                 clear hg_ hnew_
                                 (first | rw [← Ny398.out] at ho83 | (simp only [Int.reduceToNat] at ho83; rw [← Ny398.out] at ho83))
                                 have n0_ := Aside0.mk (Kd.V_elder' HO_0.out (Kd.R_base ho83) hb)
                                 have n1_ := Aside0.mk (Kd.V_elder' HO_7.out (Kd.R_base ho83) hb)
                                 have n2_ := Aside0.mk (Kd.R_below HO_8.out hb)
                                 have n3_ := Aside0.mk (Kd.R_elder' HO_9.out (Kd.R_base ho83) hb)
                                 have n4_ := Aside0.mk (Kd.V_elder' HO412.out (Kd.R_base ho83) hb)
                                 have n5_ := Aside0.mk (Kd.R_lower (Kd.R_new' (Kd.R_newM (M := fun k_ => (w.heap.size ≤ k_)) ho83 (below_size HB.out) (fun k_ h_ => h_)) (Kd.R_lt HO_9.out)) (below_size HB.out))
                                 have n6_ := Aside0.mk (Kd.C_below (by repeat (first | (with_reducible exact HR404.out) | (with_reducible refine Kd.C_alloc ?_ _) | (with_reducible refine Kd.C_drewN ?_ _) | (with_reducible refine Kd.C_drew ?_) | exact HR404.out)) hb)
                                 have n7_ := Aside0.mk (below_step HB.out hb)
                                 clear HO_0
                                 clear HO_7
                                 clear HO_8
                                 clear HO_9
                                 clear HO412
                                 clear HR404
                                 clear HB
                                 have HO_0 := n0_
                                 have HO_7 := n1_
                                 have HO_8 := n2_
                                 have HO_9 := n3_
                                 have HO412 := n4_
                                 have HO400 := n5_
                                 have HR404 := n6_
                                 have HB := n7_
                                 clear n0_ n1_ n2_ n3_ n4_ n5_ n6_ n7_
                                 clear hb ho83
                                 refine hK.out _ _ trivial (fun hHeld => ?_)
                                 clear hK K
                                 refine norm_ (a' := ?_) ?_ ?_
                                 rotate_left
                                 ·
                                  show Act.put _ (some 131) _ = _
                                  simp only [Act.put, List.setIfInBounds_toArray, List.set_cons_zero, List.set_cons_succ, i64_w, i32_w]
                                  rfl
                                 refine one_ (i := 4) (N := some 135) #[true, true, true, true, true, true, true, true, false, false] rfl rfl (one_of HT_.out (by kernel_rfl)) (by decide) (fun K hK => ?_)
                                 refine Kd.R_append_rows_step (Kd.int .u8) (w0 := w) w.heap.size (by rfl) (.tmp 131) (.tmp 134) 24 5 (.int .u8 0) 1 rfl Try.underlying24 info5 rfl (by decide) (by omega) v399 y398 y401 _ _ _ (fun k_ => (w.heap.size ≤ k_) ∧ some k_ ≠ (.slice Ao80 x9_2.length co80 : Value).ownBlock) (fun _ => False) rfl rfl ?aO ?aR (fun _ _ h => h) (fun _ h => h.elim) ?aF ?aB ?aS ?aL ?_
                                 (case aR => repeat (first | exact (by repeat (first | (with_reducible exact HR404.out) | (with_reducible refine Kd.C_alloc ?_ _) | (with_reducible refine Kd.C_drewN ?_ _) | (with_reducible refine Kd.C_drew ?_) | exact HR404.out)) | (with_reducible refine Kd.C_alloc ?_ _) | (with_reducible refine Kd.C_drewN ?_ _) | (with_reducible refine Kd.C_drew ?_)))
                                 (case aB => exact HB.out)
                                 (case aF => exact (fun k_ hk => ⟨(Nat.le_trans (below_size HB.out) hk), Kd.fresh' (Kd.R_lt HO_9.out) k_ hk⟩))
                                 (case aO => exact (by (with_reducible repeat (first | apply Kd.R_alloc | apply Kd.R_drewN | apply Kd.R_drew)); exact Kd.R_mono HO400.out (fun _ hk => ⟨hk.1.1, hk.2⟩)))
                                 (case aS => exact (below_size HB.out))
                                 (case aL => have := LMc47.out; omega)
                                 intro v406 w84 ho hb hg hat
                                 rw [← Ny405.out] at ho
                                 have n0_ := Aside0.mk (Kd.V_afterv (ok := (fun k_ => (P0_ k_ ∨ w.heap.size ≤ k_) ∧ some k_ ≠ (u8 : Value).ownBlock ∧ some k_ ≠ (.slice Ao80 x9_2.length co80 : Value).ownBlock)) HO_0.out hg hat)
                                 have n1_ := Aside0.mk (Kd.V_afterv (ok := (fun k_ => (P0_ k_ ∨ w.heap.size ≤ k_) ∧ some k_ ≠ (u8 : Value).ownBlock ∧ some k_ ≠ (.slice Ao80 x9_2.length co80 : Value).ownBlock)) HO_7.out hg hat)
                                 have n2_ := Aside0.mk (Kd.R_over' HO_8.out (Kd.R_typed HO400.out) (by decide) hg)
                                 have n3_ := Aside0.mk (Kd.R_after (ok := (fun k_ => (w.heap.size ≤ k_))) HO_9.out hg hat)
                                 have n4_ := Aside0.mk (Kd.V_afterv (ok := (fun k_ => (P0_ k_ ∨ w.heap.size ≤ k_) ∧ some k_ ≠ (u8 : Value).ownBlock ∧ some k_ ≠ (.slice Ao80 x9_2.length co80 : Value).ownBlock)) HO412.out hg hat)
                                 have n5_ := Aside0.mk (hb)
                                 have n6_ := Aside0.mk ((show Kd.C (Kd.int .u8) w84 Ao80 y401.length y401 from by rw [Ny401.out]; exact Kd.C_take (m := (t374 : Int).toNat) ((Kd.R_reads' (Kd.R_after (ok := (fun k_ => (w.heap.size ≤ k_))) HO_9.out hg hat)).2.2) KL79.out))
                                 have n7_ := Aside0.mk (ho)
                                 clear HO_0
                                 clear HO_7
                                 clear HO_8
                                 clear HO_9
                                 clear HO412
                                 clear HB
                                 clear HR404
                                 clear HO400
                                 have HO_0 := n0_
                                 have HO_7 := n1_
                                 have HO_8 := n2_
                                 have HO_9 := n3_
                                 have HO412 := n4_
                                 have HB := n5_
                                 have HR404 := n6_
                                 have HO407 := n7_
                                 clear n0_ n1_ n2_ n3_ n4_ n5_ n6_ n7_
                                 clear ho hb hg hat
                                 refine hK.out _ _ trivial (fun hHeld => ?_)
                                 clear hK K
                                 refine norm_ (a' := ?_) ?_ ?_
                                 rotate_left
                                 ·
                                  show Act.put _ (some 135) _ = _
                                  simp only [Act.put, List.setIfInBounds_toArray, List.set_cons_zero, List.set_cons_succ, i64_w, i32_w]
                                  rfl
                                 refine one_ (i := 8) (N := some 139) #[true, true, true, true, true, true, true, true, true, false] rfl rfl (one_of HT_.out (by kernel_rfl)) (by decide) (fun K hK => ?_)
                                 refine Kd.R_append_rows_step (Kd.int .u8) (w0 := w) w.heap.size (by rfl) (.tmp 135) (.tmp 138) 24 5 (.int .u8 0) 1 rfl Try.underlying24 info5 rfl (by decide) (by omega) v406 y405 y408 _ _ _ (fun k_ => (w.heap.size ≤ k_) ∧ some k_ ≠ (.slice Ao80 x9_2.length co80 : Value).ownBlock) (fun _ => False) rfl rfl ?aO ?aR (fun _ _ h => h) (fun _ h => h.elim) ?aF ?aB ?aS ?aL ?_
                                 (case aR => exact (Kd.V_reads' HO412.out).2.2)
                                 (case aB => exact HB.out)
                                 (case aF => exact (fun k_ hk => ⟨(Nat.le_trans (below_size HB.out) hk), Kd.fresh' (Kd.R_lt HO_9.out) k_ hk⟩))
                                 (case aO => exact HO407.out)
                                 (case aS => exact (below_size HB.out))
                                 (case aL => have := LMc50.out; omega)
                                 intro v414 w85 ho hb hg hat
                                 rw [← Ny413.out] at ho
                                 have n0_ := Aside0.mk (Kd.V_afterv (ok := (fun k_ => (P0_ k_ ∨ w.heap.size ≤ k_) ∧ some k_ ≠ (u8 : Value).ownBlock ∧ some k_ ≠ (.slice Ao80 x9_2.length co80 : Value).ownBlock)) HO_0.out hg hat)
                                 have n1_ := Aside0.mk (Kd.V_afterv (ok := (fun k_ => (P0_ k_ ∨ w.heap.size ≤ k_) ∧ some k_ ≠ (u8 : Value).ownBlock ∧ some k_ ≠ (.slice Ao80 x9_2.length co80 : Value).ownBlock)) HO_7.out hg hat)
                                 have n2_ := Aside0.mk (Kd.R_over' HO_8.out (Kd.R_typed HO407.out) (by decide) hg)
                                 have n3_ := Aside0.mk (Kd.R_after (ok := (fun k_ => (w.heap.size ≤ k_))) HO_9.out hg hat)
                                 have n4_ := Aside0.mk (Kd.V_afterv (ok := (fun k_ => (P0_ k_ ∨ w.heap.size ≤ k_) ∧ some k_ ≠ (u8 : Value).ownBlock ∧ some k_ ≠ (.slice Ao80 x9_2.length co80 : Value).ownBlock)) HO412.out hg hat)
                                 have n5_ := Aside0.mk (hb)
                                 have n6_ := Aside0.mk ((show Kd.C (Kd.int .u8) w85 Ao80 y401.length y401 from by rw [Ny401.out]; exact Kd.C_take (m := (t374 : Int).toNat) ((Kd.R_reads' (Kd.R_after (ok := (fun k_ => (w.heap.size ≤ k_))) HO_9.out hg hat)).2.2) KL79.out))
                                 have n7_ := Aside0.mk (ho)
                                 clear HO_0
                                 clear HO_7
                                 clear HO_8
                                 clear HO_9
                                 clear HO412
                                 clear HB
                                 clear HR404
                                 clear HO407
                                 have HO_0 := n0_
                                 have HO_7 := n1_
                                 have HO_8 := n2_
                                 have HO_9 := n3_
                                 have HO412 := n4_
                                 have HB := n5_
                                 have HR404 := n6_
                                 have HO415 := n7_
                                 clear n0_ n1_ n2_ n3_ n4_ n5_ n6_ n7_
                                 clear ho hb hg hat
                                 refine hK.out _ _ trivial (fun hHeld => ?_)
                                 clear hK K
                                 refine norm_ (a' := ?_) ?_ ?_
                                 rotate_left
                                 ·
                                  show Act.put _ (some 139) _ = _
                                  simp only [Act.put, List.setIfInBounds_toArray, List.set_cons_zero, List.set_cons_succ, i64_w, i32_w]
                                  rfl
                                 refine pure_ (i := 9) (N := some 19) (v := ?_) (a' := ?_) #[true, true, true, true, true, true, true, true, true, true] rfl rfl (any_of HT_.out (by kernel_rfl)) (fun _ _ _ h => h) (Or.inl ⟨by rfl, ?_⟩) ?_ ?_
                                 rotate_left
                                 ·
                                  intro w'
                                  go_simp
                                  with_reducible rfl
                                 rotate_left
                                 ·
                                  simp only [Act.put, List.setIfInBounds_toArray, List.set_cons_zero, List.set_cons_succ, i64_w, i32_w]
                                  rfl
                                 refine done_ (done_of HT_.out (by kernel_rfl)) ?_
                                 obtain ⟨Ao86, co86, eo86⟩ := Kd.R_slice HO415.out
                                 subst eo86
                                 try go_wp2_with (first | ((with_reducible refine gate_callee (f := 34) rfl ?_); refine goesL_ (some 142) rfl rfl Try.func34 (by kernel_rfl) rfl #[.slice Ao86 y413.length co86] rfl (by (try simp only [List.map_toArray, List.map_cons, List.map_nil]); first | done | rfl | (simp only [List.length_drop, List.length_take]; rfl)) ?_; (with_reducible refine (staddleref02_Decode.calls kj36 _ _ y413 t416 t417 t418 t419 _ ?side1 ?side2 A51.out).mono ?_); (case side1 => exact (Kd.R_reads' HO415.out).2.2); (case side2 => exact (Kd.R_reads' HO415.out).2.1); rintro e w87 ⟨rfl, hb⟩; refine ⟨_, rfl, ?_⟩; have n0_ := Aside0.mk (Kd.V_below HO_0.out hb); have n1_ := Aside0.mk (Kd.V_below HO_7.out hb); have n2_ := Aside0.mk (Kd.R_below HO_8.out hb); have n3_ := Aside0.mk (Kd.R_below HO_9.out hb); have n4_ := Aside0.mk (Kd.V_below HO412.out hb); have n5_ := Aside0.mk (Kd.R_below HO415.out hb); have n6_ := Aside0.mk (Kd.C_below (by repeat (first | (with_reducible exact HR404.out) | (with_reducible refine Kd.C_alloc ?_ _) | (with_reducible refine Kd.C_drewN ?_ _) | (with_reducible refine Kd.C_drew ?_) | exact HR404.out)) hb); have n7_ := Aside0.mk (below_step HB.out hb); clear HO_0; clear HO_7; clear HO_8; clear HO_9; clear HO412; clear HO415; clear HR404; clear HB; have HO_0 := n0_; have HO_7 := n1_; have HO_8 := n2_; have HO_9 := n3_; have HO412 := n4_; have HO415 := n5_; have HR404 := n6_; have HB := n7_; clear n0_ n1_ n2_ n3_ n4_ n5_ n6_ n7_; try clear hb) | ((with_reducible refine gate_dst (N := 20) rfl ?_); (try (refine gate_guard (by rfl) ?_; dsimp only)); refine box_event ?hg (N := 20) ?hd (cs := #[.string (⟨#[]⟩ : ByteArray), .int .u64 0, .int .i64 0]) (t := 32) ?hr ?_; (case hd => rfl); (case hg => rfl); (case hr => first | (go_simp; done) | (go_simp; rfl)); intro gb420 hg w88 hbox hb; have n0_ := Aside0.mk (Kd.V_below (Kd.V_elderB HO_0.out gb420 (Nat.le_of_eq hg.symm)) hb); have n1_ := Aside0.mk (Kd.V_below (Kd.V_elderB HO_7.out gb420 (Nat.le_of_eq hg.symm)) hb); have n2_ := Aside0.mk (Kd.R_below HO_8.out hb); have n3_ := Aside0.mk (Kd.R_below HO_9.out hb); have n4_ := Aside0.mk (Kd.V_below (Kd.V_elderB HO412.out gb420 (Nat.le_of_eq hg.symm)) hb); have n5_ := Aside0.mk (Kd.R_below HO415.out hb); have n6_ := Aside0.mk (Kd.C_below (by repeat (first | (with_reducible exact HR404.out) | (with_reducible refine Kd.C_alloc ?_ _) | (with_reducible refine Kd.C_drewN ?_ _) | (with_reducible refine Kd.C_drew ?_) | exact HR404.out)) hb); have n7_ := Aside0.mk (below_step HB.out hb); have n8_ := Aside0.mk (hbox); have n9_ := Aside0.mk ((by rw [hg]; exact (below_size HB.out) : w.heap.size ≤ gb420)); have n10_ := Aside0.mk ((by rw [hg]; exact (below_size HB.out) : w.heap.size ≤ gb420)); clear HO_0; clear HO_7; clear HO_8; clear HO_9; clear HO412; clear HO415; clear HR404; clear HB; have HO_0 := n0_; have HO_7 := n1_; have HO_8 := n2_; have HO_9 := n3_; have HO412 := n4_; have HO415 := n5_; have HR404 := n6_; have HB := n7_; have BK420 := n8_; have GW420 := n9_; have GE420 := n10_; clear n0_ n1_ n2_ n3_ n4_ n5_ n6_ n7_ n8_ n9_ n10_; clear hb hbox hg; have hcz89_0 : w88.cell? ⟨gb420, 0, none⟩ = some (.string (⟨#[]⟩ : ByteArray)) := (blk_cell BK420.out 0).trans rfl; have hcz89_1 : w88.cell? ⟨gb420, 1, none⟩ = some (.int .u64 0) := (blk_cell BK420.out 1).trans rfl; have hcz89_2 : w88.cell? ⟨gb420, 2, none⟩ = some (.int .i64 0) := (blk_cell BK420.out 2).trans rfl; have hfz89_0 := blk_frozen BK420.out 0; have hfz89_1 := blk_frozen BK420.out 1; have hfz89_2 := blk_frozen BK420.out 2))
                                 go_ret2
                                 exact ⟨_, by first | rfl | (simp [errW_none, errW_some] <;> rfl) | (simp only [← hji3, ← hji11, ← hji14, ← hji23, ← hji34]; first | rfl | (simp [errW_none, errW_some] <;> rfl)) | (simp [*, errW_none, errW_some] <;> rfl), by first | exact Kd.R_nil _ _ _ _ _ | exact Kd.N_nil _ _ _ _ _ | exact Kd.V_nil _ _ _ _ _ | exact Kd.Q_nil _ _ _ _ _ | exact Kd.S_nil _ _ _ _ _, by repeat (first | (with_reducible first | exact HB.out | apply below_alloc | apply pw_below_drewN | apply below_drew1 | refine below_set ?_ GE420.out) | exact HB.out)⟩
                               ·
                                rw [if_neg c50] at H
                                exact absurd H (by simp)
                              ·
                               rw [if_neg c49] at H
                               exact absurd H (by simp)
                             ·
                              rw [if_neg c48] at H
                              exact absurd H (by simp)
                            ·
                             rw [if_neg c47] at H
                             exact absurd H (by simp)
                           ·
                            rw [if_neg c46] at H
                            exact absurd H (by simp)
                          ·
                           rw [if_neg c45] at H
                           exact absurd H (by simp)
                      ·
                       rw [if_neg c36] at H
                       exact absurd H (by simp)
                     ·
                      rw [if_neg c35] at H
                      exact absurd H (by simp)
                 ·
                  rw [if_neg c25] at H
                  exact absurd H (by simp)
                ·
                 rw [if_neg c24] at H
                 exact absurd H (by simp)
               ·
                rw [if_neg c21] at H
                exact absurd H (by simp)
              ·
               rw [if_neg c20] at H
               exact absurd H (by simp)
             ·
              rw [if_neg c18] at H
              have c18b0 : decide (0 < (x7_2.length : Int)) = false := decide_eq_false c18
              have c18b1 : decide (0 < x7_2.length) = false := decide_eq_false (by omega)
              clear c18
              replace H := Option.bind_eq_some_iff.mp H
              obtain ⟨⟨t370, t371⟩, A900, H⟩ := H
              replace H : (if t371 = 0 then (if (strOfNums t370).toList = (strOfNums l0).toList then (some (x8_2, 0)) else (some (([] : List (S42)), 111))) else (some (([] : List (S42)), 111))) = some (r1, r2) := H
              have A90 := Aside0.mk A900
              clear A900
              by_cases c91 : t371 = 0
              ·
               rw [if_pos c91] at H
               have c91b0 : (t371 == 0) = true := beq_iff_eq.mpr c91
               have c91b1 : (t371 != 0) = false := bne_eq_false_iff_eq.mpr c91
               clear c91
               by_cases c92 : (strOfNums t370).toList = (strOfNums l0).toList
               ·
                rw [if_pos c92] at H
                have c92b0 : ((strOfNums t370).toList == (strOfNums l0).toList) = true := beq_iff_eq.mpr c92
                have c92b1 : ((strOfNums t370).toList != (strOfNums l0).toList) = false := bne_eq_false_iff_eq.mpr c92
                clear c92
                simp only [Option.some.injEq, Prod.mk.injEq] at H
                obtain ⟨rfl, rfl⟩ := H
                obtain ⟨Ao93, co93, eo93⟩ := Kd.V_slice HO_7.out
                subst eo93
                obtain ⟨Ao94, co94, eo94⟩ := Kd.R_slice HO_8.out
                subst eo94
                go_wp2_with (first | ((with_reducible refine gate_callee (f := 12) rfl ?_); refine goesL_ (some 168) rfl rfl Try.func12 (by kernel_rfl) rfl #[.slice Ao94 x8_2.length co94, .int .i64 (wrap64 (rd l0 (ji11)))] rfl (by (try simp only [List.map_toArray, List.map_cons, List.map_nil]); first | done | (simp only [hji11]; rfl) | rfl | (simp only [List.length_drop, List.length_take]; rfl)) ?_; (with_reducible refine (staddleref11_Build.calls k2 _ _ x8_2 (wrap64 (rd l0 (ji11))) t370 t371 _ ?side1 ?side2 A90.out).mono ?_); (case side1 => exact (Kd.R_reads' HO_8.out).2.2); (case side2 => exact (Kd.R_reads' HO_8.out).2.1); rintro e w95 ⟨v372, rfl, ho0, hb⟩; refine ⟨_, rfl, ?_⟩; have n0_ := Aside0.mk (Kd.V_elder' HO_0.out (Kd.R_base ho0) hb); have n1_ := Aside0.mk (Kd.V_elder' HO_7.out (Kd.R_base ho0) hb); have n2_ := Aside0.mk (Kd.R_below HO_8.out hb); have n3_ := Aside0.mk (Kd.R_elder' HO_9.out (Kd.R_base ho0) hb); have n4_ := Aside0.mk (Kd.R_lower (Kd.R_new' (Kd.R_newM (M := fun k_ => (w.heap.size ≤ k_)) ho0 (below_size HB.out) (fun k_ h_ => h_)) (Kd.R_lt HO_9.out)) (below_size HB.out)); have n5_ := Aside0.mk (below_step HB.out hb); clear HO_0; clear HO_7; clear HO_8; clear HO_9; clear HB; have HO_0 := n0_; have HO_7 := n1_; have HO_8 := n2_; have HO_9 := n3_; have HO373 := n4_; have HB := n5_; clear n0_ n1_ n2_ n3_ n4_ n5_; try clear hb; (try clear ho0); have hcv96 := own_string (P := Try.prog) Try.underlying24 Try.underlying5 Try.underlying9 (Kd.own_of_R HO373.out); try have hcv96d := fun nd_ : Nat => own_string (P := Try.prog) Try.underlying24 Try.underlying5 Try.underlying9 (Kd.own_of_R (Kd.R_drewN HO373.out nd_)); have hcv97 := Kd.C_string (P := Try.prog) (A := (some ad364)) (c := c0) Try.underlying24 Try.underlying5 Try.underlying9 (Kd.V_reads' HO_0.out).2.2))
                go_ret2
                exact ⟨_, by first | rfl | (simp [errW_none, errW_some] <;> rfl) | (simp only [← hji3, ← hji11, ← hji14]; first | rfl | (simp [errW_none, errW_some] <;> rfl)) | (simp [*, errW_none, errW_some] <;> rfl), by (with_reducible repeat (first | apply Kd.R_alloc | apply Kd.R_drewN | apply Kd.R_drew)); exact HO_8.out, by repeat (first | (with_reducible first | exact HB.out | apply below_alloc | apply pw_below_drewN | apply below_drew1) | exact HB.out)⟩
               ·
                rw [if_neg c92] at H
                have c92b0 : ((strOfNums t370).toList == (strOfNums l0).toList) = false := beq_eq_false_iff_ne.mpr c92
                have c92b1 : ((strOfNums t370).toList != (strOfNums l0).toList) = true := bne_iff_ne.mpr c92
                simp only [Option.some.injEq, Prod.mk.injEq] at H
                obtain ⟨rfl, rfl⟩ := H
                obtain ⟨Ao98, co98, eo98⟩ := Kd.V_slice HO_7.out
                subst eo98
                obtain ⟨Ao99, co99, eo99⟩ := Kd.R_slice HO_8.out
                subst eo99
                go_wp2_with (first | ((with_reducible refine gate_callee (f := 12) rfl ?_); refine goesL_ (some 168) rfl rfl Try.func12 (by kernel_rfl) rfl #[.slice Ao99 x8_2.length co99, .int .i64 (wrap64 (rd l0 (ji11)))] rfl (by (try simp only [List.map_toArray, List.map_cons, List.map_nil]); first | done | (simp only [hji11]; rfl) | rfl | (simp only [List.length_drop, List.length_take]; rfl)) ?_; (with_reducible refine (staddleref11_Build.calls k2 _ _ x8_2 (wrap64 (rd l0 (ji11))) t370 t371 _ ?side1 ?side2 A90.out).mono ?_); (case side1 => exact (Kd.R_reads' HO_8.out).2.2); (case side2 => exact (Kd.R_reads' HO_8.out).2.1); rintro e w100 ⟨v372, rfl, ho0, hb⟩; refine ⟨_, rfl, ?_⟩; have n0_ := Aside0.mk (Kd.V_elder' HO_0.out (Kd.R_base ho0) hb); have n1_ := Aside0.mk (Kd.V_elder' HO_7.out (Kd.R_base ho0) hb); have n2_ := Aside0.mk (Kd.R_below HO_8.out hb); have n3_ := Aside0.mk (Kd.R_elder' HO_9.out (Kd.R_base ho0) hb); have n4_ := Aside0.mk (Kd.R_lower (Kd.R_new' (Kd.R_newM (M := fun k_ => (w.heap.size ≤ k_)) ho0 (below_size HB.out) (fun k_ h_ => h_)) (Kd.R_lt HO_9.out)) (below_size HB.out)); have n5_ := Aside0.mk (below_step HB.out hb); clear HO_0; clear HO_7; clear HO_8; clear HO_9; clear HB; have HO_0 := n0_; have HO_7 := n1_; have HO_8 := n2_; have HO_9 := n3_; have HO373 := n4_; have HB := n5_; clear n0_ n1_ n2_ n3_ n4_ n5_; try clear hb; (try clear ho0); have hcv101 := own_string (P := Try.prog) Try.underlying24 Try.underlying5 Try.underlying9 (Kd.own_of_R HO373.out); try have hcv101d := fun nd_ : Nat => own_string (P := Try.prog) Try.underlying24 Try.underlying5 Try.underlying9 (Kd.own_of_R (Kd.R_drewN HO373.out nd_)); have hcv102 := Kd.C_string (P := Try.prog) (A := (some ad364)) (c := c0) Try.underlying24 Try.underlying5 Try.underlying9 (Kd.V_reads' HO_0.out).2.2))
                go_ret2
                exact ⟨_, by first | rfl | (simp [errW_none, errW_some] <;> rfl) | (simp only [← hji3, ← hji11, ← hji14]; first | rfl | (simp [errW_none, errW_some] <;> rfl)) | (simp [*, errW_none, errW_some] <;> rfl), by first | exact Kd.R_nil _ _ _ _ _ | exact Kd.N_nil _ _ _ _ _ | exact Kd.V_nil _ _ _ _ _ | exact Kd.Q_nil _ _ _ _ _ | exact Kd.S_nil _ _ _ _ _, by repeat (first | (with_reducible first | exact HB.out | apply below_alloc | apply pw_below_drewN | apply below_drew1) | exact HB.out)⟩
              ·
               rw [if_neg c91] at H
               have c91b0 : (t371 == 0) = false := beq_eq_false_iff_ne.mpr c91
               have c91b1 : (t371 != 0) = true := bne_iff_ne.mpr c91
               simp only [Option.some.injEq, Prod.mk.injEq] at H
               obtain ⟨rfl, rfl⟩ := H
               obtain ⟨Ao103, co103, eo103⟩ := Kd.V_slice HO_7.out
               subst eo103
               obtain ⟨Ao104, co104, eo104⟩ := Kd.R_slice HO_8.out
               subst eo104
               go_wp2_with (first | ((with_reducible refine gate_callee (f := 12) rfl ?_); refine goesL_ (some 168) rfl rfl Try.func12 (by kernel_rfl) rfl #[.slice Ao104 x8_2.length co104, .int .i64 (wrap64 (rd l0 (ji11)))] rfl (by (try simp only [List.map_toArray, List.map_cons, List.map_nil]); first | done | (simp only [hji11]; rfl) | rfl | (simp only [List.length_drop, List.length_take]; rfl)) ?_; (with_reducible refine (staddleref11_Build.calls k2 _ _ x8_2 (wrap64 (rd l0 (ji11))) t370 t371 _ ?side1 ?side2 A90.out).mono ?_); (case side1 => exact (Kd.R_reads' HO_8.out).2.2); (case side2 => exact (Kd.R_reads' HO_8.out).2.1); rintro e w105 ⟨v372, rfl, ho0, hb⟩; refine ⟨_, rfl, ?_⟩; have n0_ := Aside0.mk (Kd.V_elder' HO_0.out (Kd.R_base ho0) hb); have n1_ := Aside0.mk (Kd.V_elder' HO_7.out (Kd.R_base ho0) hb); have n2_ := Aside0.mk (Kd.R_below HO_8.out hb); have n3_ := Aside0.mk (Kd.R_elder' HO_9.out (Kd.R_base ho0) hb); have n4_ := Aside0.mk (Kd.R_lower (Kd.R_new' (Kd.R_newM (M := fun k_ => (w.heap.size ≤ k_)) ho0 (below_size HB.out) (fun k_ h_ => h_)) (Kd.R_lt HO_9.out)) (below_size HB.out)); have n5_ := Aside0.mk (below_step HB.out hb); clear HO_0; clear HO_7; clear HO_8; clear HO_9; clear HB; have HO_0 := n0_; have HO_7 := n1_; have HO_8 := n2_; have HO_9 := n3_; have HO373 := n4_; have HB := n5_; clear n0_ n1_ n2_ n3_ n4_ n5_; try clear hb; (try clear ho0)))
               go_ret2
               exact ⟨_, by first | rfl | (simp [errW_none, errW_some] <;> rfl) | (simp only [← hji3, ← hji11, ← hji14]; first | rfl | (simp [errW_none, errW_some] <;> rfl)) | (simp [*, errW_none, errW_some] <;> rfl), by first | exact Kd.R_nil _ _ _ _ _ | exact Kd.N_nil _ _ _ _ _ | exact Kd.V_nil _ _ _ _ _ | exact Kd.Q_nil _ _ _ _ _ | exact Kd.S_nil _ _ _ _ _, by repeat (first | (with_reducible first | exact HB.out | apply below_alloc | apply pw_below_drewN | apply below_drew1) | exact HB.out)⟩
          ·
           rw [if_neg c16] at H
           exact absurd H (by simp)
         ·
          rw [if_neg c15] at H
          exact absurd H (by simp)
        ·
         rw [if_neg c13] at H
         exact absurd H (by simp)
       ·
        rw [if_neg c12] at H
        exact absurd H (by simp)
   ·
    rw [if_neg c5] at H
    exact absurd H (by simp)
  ·
   rw [if_neg c4] at H
   exact absurd H (by simp)

end Go.Proofs.Ytppkpleagnddeaa.P
