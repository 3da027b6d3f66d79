-- By this session's wip/hprint.py: the kit's print.py with functions by hand beside it. Not trusted: Lean checks it.
import Derived.Test.YtejhmfimfgjmhaaP0
import Derived.Test.YtejhmfimfgjmhaaP9
namespace Go.Proofs.Ytejhmfimfgjmhaa.P
open Go.RowKit Go.Proofs.YtejhmfimfgjmhaaW.PrintWords Go.Proofs.YtejhmfimfgjmhaaW.PrintLast Go.Proofs.YtejhmfimfgjmhaaW.PrintMore
attribute [local go_sem] max2_int min2_int max_two min_two max_three min_three max_four min_four   -- for this text's walks alone
set_option linter.unusedVariables false
set_option linter.unusedSimpArgs false

/-! ### staddleref09_Put: function 11 -/
mutual
def staddleref09_Put.l0 : Nat → Int → List Int → List Int → Bool → Option (List Int × Int)
  | 0, _, _, _, _ => none
  | k + 1, x0, x6, x7, x8 => if x8 = true then (staddleref09_Put.j1 k x0 x6 x7 x8 true) else (staddleref09_Put.j1 k x0 x6 x7 x8 (decide ((x7.length : Int) > 0)))
def staddleref09_Put.j1 : Nat → Int → List Int → List Int → Bool → Bool → Option (List Int × Int)
  | 0, _, _, _, _, _ => none
  | k + 1, x0, x6, x7, x8, x25 => if x25 = true then (if (wrap64 (128 - (Int.tmod (wrap64 (x0 + (x6.length : Int))) 128))) < 7 then (if 0 ≤ (wrap64 (128 - (Int.tmod (wrap64 (x0 + (x6.length : Int))) 128))) then (if x6.length + (wrap64 (128 - (Int.tmod (wrap64 (x0 + (x6.length : Int))) 128)) : Int).toNat < 140737488355328 then (staddleref09_Put.j2 k x0 (x6 ++ List.replicate (wrap64 (128 - (Int.tmod (wrap64 (x0 + (x6.length : Int))) 128)) : Int).toNat 0) x7 x8 128) else (none)) else (none)) else (staddleref09_Put.j2 k x0 x6 x7 x8 (wrap64 (128 - (Int.tmod (wrap64 (x0 + (x6.length : Int))) 128))))) else (some (x6, 0))
def staddleref09_Put.j2 : Nat → Int → List Int → List Int → Bool → Int → Option (List Int × Int)
  | 0, _, _, _, _, _ => none
  | k + 1, x0, x6, x7, x8, x9 => if (x7.length : Int) > (wrap64 (x9 - 7)) then (staddleref09_Put.j3 k x0 x6 x7 x8 (wrap64 (x9 - 7))) else (staddleref09_Put.j3 k x0 x6 x7 x8 (x7.length : Int))
def staddleref09_Put.j3 : Nat → Int → List Int → List Int → Bool → Int → Option (List Int × Int)
  | 0, _, _, _, _, _ => none
  | k + 1, x0, x6, x7, x8, x10 => if x8 = true then (staddleref09_Put.j4 k x0 x6 x7 x8 x10 3 (x10 == (x7.length : Int))) else (staddleref09_Put.j4 k x0 x6 x7 x8 x10 3 false)
def staddleref09_Put.j4 : Nat → Int → List Int → List Int → Bool → Int → Int → Bool → Option (List Int × Int)
  | 0, _, _, _, _, _, _, _ => none
  | k + 1, x0, x6, x7, x8, x10, x11, x51 => if x51 = true then (if 0 ≤ x10 then (if x10 ≤ (x7.length : Int) then ((staddleref09_piece.f k 1 (x7.take (x10 : Int).toNat)).bind fun t181 => (if x6.length + t181.length < 140737488355328 then (staddleref09_Put.l0 k x0 (x6 ++ t181) (x7.drop (x10 : Int).toNat) false) else (none))) else (none)) else (none)) else (if x8 = true then (if 0 ≤ x10 then (if x10 ≤ (x7.length : Int) then ((staddleref09_piece.f k 2 (x7.take (x10 : Int).toNat)).bind fun t197 => (if x6.length + t197.length < 140737488355328 then (staddleref09_Put.l0 k x0 (x6 ++ t197) (x7.drop (x10 : Int).toNat) false) else (none))) else (none)) else (none)) else (if x10 = (x7.length : Int) then (if 0 ≤ x10 then (if x10 ≤ (x7.length : Int) then ((staddleref09_piece.f k 4 (x7.take (x10 : Int).toNat)).bind fun t213 => (if x6.length + t213.length < 140737488355328 then (staddleref09_Put.l0 k x0 (x6 ++ t213) (x7.drop (x10 : Int).toNat) false) else (none))) else (none)) else (none)) else (if 0 ≤ x10 then (if x10 ≤ (x7.length : Int) then ((staddleref09_piece.f k x11 (x7.take (x10 : Int).toNat)).bind fun t229 => (if x6.length + t229.length < 140737488355328 then (staddleref09_Put.l0 k x0 (x6 ++ t229) (x7.drop (x10 : Int).toNat) false) else (none))) else (none)) else (none))))
end
def staddleref09_Put.f (k : Nat) (a0 : Int) (l1 : List Int) : Option (List Int × Int) := if a0 < 0 then (some (([] : List Int), 1)) else (if (l1.length : Int) > 131072 then (some (([] : List Int), 90)) else (staddleref09_Put.l0 k (Int.tmod a0 128) ([] : List Int) l1 true))
theorem staddleref09_Put.mono_l : ∀ k, (∀ y0 y1 y2 y3, LeO (staddleref09_Put.l0 k y0 y1 y2 y3) (staddleref09_Put.l0 (k + 1) y0 y1 y2 y3)) ∧ (∀ y0 y1 y2 y3 y4, LeO (staddleref09_Put.j1 k y0 y1 y2 y3 y4) (staddleref09_Put.j1 (k + 1) y0 y1 y2 y3 y4)) ∧ (∀ y0 y1 y2 y3 y4, LeO (staddleref09_Put.j2 k y0 y1 y2 y3 y4) (staddleref09_Put.j2 (k + 1) y0 y1 y2 y3 y4)) ∧ (∀ y0 y1 y2 y3 y4, LeO (staddleref09_Put.j3 k y0 y1 y2 y3 y4) (staddleref09_Put.j3 (k + 1) y0 y1 y2 y3 y4)) ∧ (∀ y0 y1 y2 y3 y4 y5 y6, LeO (staddleref09_Put.j4 k y0 y1 y2 y3 y4 y5 y6) (staddleref09_Put.j4 (k + 1) y0 y1 y2 y3 y4 y5 y6))
  | 0 => ⟨fun _ _ _ _ r h => by simp [staddleref09_Put.l0] at h, fun _ _ _ _ _ r h => by simp [staddleref09_Put.j1] at h, fun _ _ _ _ _ r h => by simp [staddleref09_Put.j2] at h, fun _ _ _ _ _ r h => by simp [staddleref09_Put.j3] at h, fun _ _ _ _ _ _ _ r h => by simp [staddleref09_Put.j4] at h⟩
  | k + 1 => by
    obtain ⟨ih0, ih1, ih2, ih3, ih4⟩ := staddleref09_Put.mono_l k
    refine ⟨?_, ?_, ?_, ?_, ?_⟩
    · intro y0 y1 y2 y3
      unfold staddleref09_Put.l0
      repeat' first
      | (with_reducible exact ih0 _ _ _ _)
      | (with_reducible exact ih1 _ _ _ _ _)
      | (with_reducible exact ih2 _ _ _ _ _)
      | (with_reducible exact ih3 _ _ _ _ _)
      | (with_reducible exact ih4 _ _ _ _ _ _ _)
      | (with_reducible exact staddleref09_piece.mono _ _ _)
      | (with_reducible exact LeO.refl _)
      | (with_reducible exact LeO.none _)
      | (with_reducible refine LeO.ite ?_ ?_)
      | (with_reducible refine LeO.bind ?_ (fun _ => ?_))
      | exact ih0 _ _ _ _
      | exact ih1 _ _ _ _ _
      | exact ih2 _ _ _ _ _
      | exact ih3 _ _ _ _ _
      | exact ih4 _ _ _ _ _ _ _
      | exact staddleref09_piece.mono _ _ _
      | exact LeO.none _
      | refine LeO.ite ?_ ?_
      | refine LeO.bind ?_ (fun _ => ?_)
    · intro y0 y1 y2 y3 y4
      unfold staddleref09_Put.j1
      repeat' first
      | (with_reducible exact ih0 _ _ _ _)
      | (with_reducible exact ih1 _ _ _ _ _)
      | (with_reducible exact ih2 _ _ _ _ _)
      | (with_reducible exact ih3 _ _ _ _ _)
      | (with_reducible exact ih4 _ _ _ _ _ _ _)
      | (with_reducible exact staddleref09_piece.mono _ _ _)
      | (with_reducible exact LeO.refl _)
      | (with_reducible exact LeO.none _)
      | (with_reducible refine LeO.ite ?_ ?_)
      | (with_reducible refine LeO.bind ?_ (fun _ => ?_))
      | exact ih0 _ _ _ _
      | exact ih1 _ _ _ _ _
      | exact ih2 _ _ _ _ _
      | exact ih3 _ _ _ _ _
      | exact ih4 _ _ _ _ _ _ _
      | exact staddleref09_piece.mono _ _ _
      | exact LeO.none _
      | refine LeO.ite ?_ ?_
      | refine LeO.bind ?_ (fun _ => ?_)
    · intro y0 y1 y2 y3 y4
      unfold staddleref09_Put.j2
      repeat' first
      | (with_reducible exact ih0 _ _ _ _)
      | (with_reducible exact ih1 _ _ _ _ _)
      | (with_reducible exact ih2 _ _ _ _ _)
      | (with_reducible exact ih3 _ _ _ _ _)
      | (with_reducible exact ih4 _ _ _ _ _ _ _)
      | (with_reducible exact staddleref09_piece.mono _ _ _)
      | (with_reducible exact LeO.refl _)
      | (with_reducible exact LeO.none _)
      | (with_reducible refine LeO.ite ?_ ?_)
      | (with_reducible refine LeO.bind ?_ (fun _ => ?_))
      | exact ih0 _ _ _ _
      | exact ih1 _ _ _ _ _
      | exact ih2 _ _ _ _ _
      | exact ih3 _ _ _ _ _
      | exact ih4 _ _ _ _ _ _ _
      | exact staddleref09_piece.mono _ _ _
      | exact LeO.none _
      | refine LeO.ite ?_ ?_
      | refine LeO.bind ?_ (fun _ => ?_)
    · intro y0 y1 y2 y3 y4
      unfold staddleref09_Put.j3
      repeat' first
      | (with_reducible exact ih0 _ _ _ _)
      | (with_reducible exact ih1 _ _ _ _ _)
      | (with_reducible exact ih2 _ _ _ _ _)
      | (with_reducible exact ih3 _ _ _ _ _)
      | (with_reducible exact ih4 _ _ _ _ _ _ _)
      | (with_reducible exact staddleref09_piece.mono _ _ _)
      | (with_reducible exact LeO.refl _)
      | (with_reducible exact LeO.none _)
      | (with_reducible refine LeO.ite ?_ ?_)
      | (with_reducible refine LeO.bind ?_ (fun _ => ?_))
      | exact ih0 _ _ _ _
      | exact ih1 _ _ _ _ _
      | exact ih2 _ _ _ _ _
      | exact ih3 _ _ _ _ _
      | exact ih4 _ _ _ _ _ _ _
      | exact staddleref09_piece.mono _ _ _
      | exact LeO.none _
      | refine LeO.ite ?_ ?_
      | refine LeO.bind ?_ (fun _ => ?_)
    · intro y0 y1 y2 y3 y4 y5 y6
      unfold staddleref09_Put.j4
      repeat' first
      | (with_reducible exact ih0 _ _ _ _)
      | (with_reducible exact ih1 _ _ _ _ _)
      | (with_reducible exact ih2 _ _ _ _ _)
      | (with_reducible exact ih3 _ _ _ _ _)
      | (with_reducible exact ih4 _ _ _ _ _ _ _)
      | (with_reducible exact staddleref09_piece.mono _ _ _)
      | (with_reducible exact LeO.refl _)
      | (with_reducible exact LeO.none _)
      | (with_reducible refine LeO.ite ?_ ?_)
      | (with_reducible refine LeO.bind ?_ (fun _ => ?_))
      | exact ih0 _ _ _ _
      | exact ih1 _ _ _ _ _
      | exact ih2 _ _ _ _ _
      | exact ih3 _ _ _ _ _
      | exact ih4 _ _ _ _ _ _ _
      | exact staddleref09_piece.mono _ _ _
      | exact LeO.none _
      | refine LeO.ite ?_ ?_
      | refine LeO.bind ?_ (fun _ => ?_)
theorem staddleref09_Put.mono : ∀ a0 a1 k, LeO (staddleref09_Put.f k a0 a1) (staddleref09_Put.f (k + 1) a0 a1) := by
  intro a0 a1 k
  obtain ⟨ih0, ih1, ih2, ih3, ih4⟩ := staddleref09_Put.mono_l k
  unfold staddleref09_Put.f
  repeat' first
      | (with_reducible exact ih0 _ _ _ _)
      | (with_reducible exact ih1 _ _ _ _ _)
      | (with_reducible exact ih2 _ _ _ _ _)
      | (with_reducible exact ih3 _ _ _ _ _)
      | (with_reducible exact ih4 _ _ _ _ _ _ _)
      | (with_reducible exact staddleref09_piece.mono _ _ _)
      | (with_reducible exact LeO.refl _)
      | (with_reducible exact LeO.none _)
      | (with_reducible refine LeO.ite ?_ ?_)
      | (with_reducible refine LeO.bind ?_ (fun _ => ?_))
      | exact ih0 _ _ _ _
      | exact ih1 _ _ _ _ _
      | exact ih2 _ _ _ _ _
      | exact ih3 _ _ _ _ _
      | exact ih4 _ _ _ _ _ _ _
      | exact staddleref09_piece.mono _ _ _
      | exact LeO.none _
      | refine LeO.ite ?_ ?_
      | refine LeO.bind ?_ (fun _ => ?_)
set_option maxHeartbeats 8000000 in
set_option maxRecDepth 100000 in
theorem staddleref09_Put.calls (k : Nat) (a0 : Int) (P1_ : Nat → Prop) (A1 : Option Addr) (c1 : Nat) (l1 : List Int) (r1 : List Int) (r2 : Int) (w : World) (hs1 : Kd.V (Kd.int .u8) 5 w w.heap.size (fun k_ => P1_ k_) (.slice A1 l1.length c1) l1) (h : staddleref09_Put.f k a0 l1 = some (r1, r2)) :
    Calls Try.prog 11 #[.int .i64 a0, .slice A1 l1.length c1] w fun e w' => ∃ v0_ : Value, e = .returned (.tuple #[v0_, .int .i64 r2]) ∧ Kd.R (Kd.int .u8) 5 w' w.heap.size (fun k_ => (w.heap.size ≤ k_)) v0_ r1 ∧ Below w.heap.size w w' := by
  have HO1 := Aside0.mk (show Kd.V (Kd.int .u8) 5 w w.heap.size (fun k_ => (P1_ k_ ∨ w.heap.size ≤ k_)) (.slice A1 l1.length c1) l1 from Kd.V_mono hs1 (fun k_ hk => .inl hk))
  have HB := Aside0.mk (Below.refl w.heap.size w)
  have H : (if a0 < 0 then (some (([] : List Int), 1)) else (if (l1.length : Int) > 131072 then (some (([] : List Int), 90)) else (staddleref09_Put.l0 k (Int.tmod a0 128) ([] : List Int) l1 true))) = some (r1, r2) := h
  clear h
  by_cases c3 : a0 < 0
  · rw [if_pos c3] at H
    have c3b0 : decide (a0 < 0) = true := decide_eq_true c3
    clear c3
    simp only [Option.some.injEq, Prod.mk.injEq] at H
    obtain ⟨rfl, rfl⟩ := H
    go_enter Try.func11, Try.ntmps11
    go_wp2
    go_ret2
    exact ⟨_, by first | rfl | (simp [errW_none, errW_some] <;> rfl) | (simp [*, errW_none, errW_some] <;> rfl), by first | exact Kd.R_nil _ _ _ _ _ | exact Kd.N_nil _ _ _ _ _ | exact Kd.V_nil _ _ _ _ _ | exact Kd.Q_nil _ _ _ _ _ | exact Kd.S_nil _ _ _ _ _, by repeat (first | (with_reducible first | exact HB.out | apply below_alloc | apply pw_below_drewN | apply below_drew1) | exact HB.out)⟩
  · rw [if_neg c3] at H
    have c3b0 : decide (a0 < 0) = false := decide_eq_false c3
    clear c3
    by_cases c4 : (l1.length : Int) > 131072
    · rw [if_pos c4] at H
      have c4b0 : decide (131072 < (l1.length : Int)) = true := decide_eq_true c4
      have c4b1 : decide (131072 < l1.length) = true := decide_eq_true (by omega)
      clear c4
      simp only [Option.some.injEq, Prod.mk.injEq] at H
      obtain ⟨rfl, rfl⟩ := H
      go_enter Try.func11, Try.ntmps11
      go_wp2
      go_ret2
      exact ⟨_, by first | rfl | (simp [errW_none, errW_some] <;> rfl) | (simp [*, errW_none, errW_some] <;> rfl), by first | exact Kd.R_nil _ _ _ _ _ | exact Kd.N_nil _ _ _ _ _ | exact Kd.V_nil _ _ _ _ _ | exact Kd.Q_nil _ _ _ _ _ | exact Kd.S_nil _ _ _ _ _, by repeat (first | (with_reducible first | exact HB.out | apply below_alloc | apply pw_below_drewN | apply below_drew1) | exact HB.out)⟩
    · rw [if_neg c4] at H
      have c4b0 : decide (131072 < (l1.length : Int)) = false := decide_eq_false c4
      have c4b1 : decide (131072 < l1.length) = false := decide_eq_false (by omega)
      clear c4
      have H' := Aside0.mk H
      clear H
      go_enter Try.func11, Try.ntmps11
      go_wp2
      go_loopg [6, 7, 8] k (fun kq v6 v7 v8 w' => ∃ (x6_1 : List Int) (x7_1 : List Int) (x8_1 : Bool), v8 = .bool x8_1 ∧ Aside0 (staddleref09_Put.l0 kq (Int.tmod a0 128) x6_1 x7_1 x8_1 = some (r1, r2)) ∧ Aside0 (kq ≤ k) ∧ Aside0 (Kd.R (Kd.int .u8) 5 w' w.heap.size (fun k_ => (w.heap.size ≤ k_)) v6 x6_1) ∧ Aside0 (Kd.V (Kd.int .u8) 5 w' w.heap.size (fun k_ => (P1_ k_ ∨ w.heap.size ≤ k_) ∧ some k_ ≠ (v6 : Value).ownBlock) v7 x7_1) ∧ Aside0 (Below w.heap.size w w'))
      case atStart => exact ⟨(([] : List Int)), (l1), (true), (by first | rfl | (simp; done) | (simp [*]; done) | (simp; omega)), H', ⟨Nat.le_refl _⟩, ⟨by first | exact Kd.R_nil _ _ _ _ _ | exact Kd.N_nil _ _ _ _ _ | exact Kd.V_nil _ _ _ _ _ | exact Kd.Q_nil _ _ _ _ _ | exact Kd.S_nil _ _ _ _ _⟩, ⟨by (with_reducible repeat (first | apply Kd.V_alloc | apply Kd.V_drewN | apply Kd.V_drew)); exact Kd.V_mono HO1.out (fun _ hk => ⟨hk, (by simp [Value.ownBlock])⟩)⟩, ⟨by repeat (first | (with_reducible first | exact HB.out | apply below_alloc | apply pw_below_drewN | apply below_drew1) | exact HB.out)⟩⟩
      case round =>
        clear H'
        try clear c1
        try clear p2
        try clear c3
        try clear c3b0
        try clear c4
        try clear c4b0
        try clear c4b1
        obtain ⟨x6_1, x7_1, x8_1, rfl, HA, HK1, HO_6, HO_7, HB⟩ := hrel
        cases gk with
        | zero => exact absurd HA.out (by simp [staddleref09_Put.l0])
        | succ k1 =>
          have H := HA.out
          clear HA
          simp only [staddleref09_Put.l0] at H
          have HC5 := Aside0.mk H
          clear H
          go_upto_region 9 with (fail)
          go_cut [25] (fun v25 wc => ∃ (kq : Nat) (x25_4 : Bool), v25 = .bool x25_4 ∧ Aside0 (staddleref09_Put.j1 kq (Int.tmod a0 128) x6_1 x7_1 x8_1 x25_4 = some (r1, r2)) ∧ Aside0 (kq ≤ k1) ∧ Aside0 (Kd.R (Kd.int .u8) 5 wc w.heap.size (fun k_ => (w.heap.size ≤ k_)) u6 x6_1) ∧ Aside0 (Kd.V (Kd.int .u8) 5 wc w.heap.size (fun k_ => (P1_ k_ ∨ w.heap.size ≤ k_) ∧ some k_ ≠ (u6 : Value).ownBlock) u7 x7_1) ∧ Aside0 (Below w.heap.size w wc))
          case first =>
            have H := HC5.out
            clear HC5
            by_cases c6 : x8_1 = true
            · subst c6
              have H1 : (staddleref09_Put.j1 k1 (Int.tmod a0 128) x6_1 x7_1 true true) = some (r1, r2) := by rw [if_pos rfl] at H; exact H
              clear H
              have H := H1
              clear H1
              have H' := Aside0.mk H
              clear H
              go_wp2
              go_meet
              case rel => exact ⟨_, (true), (by first | rfl | (simp; done) | (simp [*]; done) | (simp; omega)), H', ⟨by have := HK1.out; first | omega | exact Nat.le_refl _⟩, ⟨by (with_reducible repeat (first | apply Kd.R_alloc | apply Kd.R_drewN | apply Kd.R_drew)); exact HO_6.out⟩, ⟨by (with_reducible repeat (first | apply Kd.V_alloc | apply Kd.V_drewN | apply Kd.V_drew)); exact HO_7.out⟩, ⟨by repeat (first | (with_reducible first | exact HB.out | apply below_alloc | apply pw_below_drewN | apply below_drew1) | exact HB.out)⟩⟩
            · replace c6 := Bool.eq_false_iff.mpr c6
              subst c6
              have H1 : (staddleref09_Put.j1 k1 (Int.tmod a0 128) x6_1 x7_1 false (decide ((x7_1.length : Int) > 0))) = some (r1, r2) := by rw [if_neg (show ¬ (false = true) by decide)] at H; exact H
              clear H
              have H := H1
              clear H1
              have H' := Aside0.mk H
              clear H
              obtain ⟨Ao7, co7, eo7⟩ := Kd.V_slice HO_7.out
              subst eo7
              go_wp2
              go_meet
              case rel => exact ⟨_, (decide ((x7_1.length : Int) > 0)), (by first | rfl | (simp; done) | (simp [*]; done) | (simp; omega)), H', ⟨by have := HK1.out; first | omega | exact Nat.le_refl _⟩, ⟨by (with_reducible repeat (first | apply Kd.R_alloc | apply Kd.R_drewN | apply Kd.R_drew)); exact HO_6.out⟩, ⟨by (with_reducible repeat (first | apply Kd.V_alloc | apply Kd.V_drewN | apply Kd.V_drew)); exact HO_7.out⟩, ⟨by repeat (first | (with_reducible first | exact HB.out | apply below_alloc | apply pw_below_drewN | apply below_drew1) | exact HB.out)⟩⟩
          case rest =>
            clear HC5
            try clear c1
            try clear p2
            try clear c3
            try clear c3b0
            try clear c4
            try clear c4b0
            try clear c4b1
            try clear c6
            try clear p2
            obtain ⟨kq, x25_4, rfl, HA, HJ4, HO_6, HO_7, HB⟩ := hcut
            cases kq with
            | zero => exact absurd HA.out (by simp [staddleref09_Put.j1])
            | succ kj4 =>
              have H := HA.out
              clear HA
              simp only [staddleref09_Put.j1] at H
              by_cases c8 : x25_4 = true
              · subst c8
                have H1 : (if (wrap64 (128 - (Int.tmod (wrap64 ((Int.tmod a0 128) + (x6_1.length : Int))) 128))) < 7 then (if 0 ≤ (wrap64 (128 - (Int.tmod (wrap64 ((Int.tmod a0 128) + (x6_1.length : Int))) 128))) then (if x6_1.length + (wrap64 (128 - (Int.tmod (wrap64 ((Int.tmod a0 128) + (x6_1.length : Int))) 128)) : Int).toNat < 140737488355328 then (staddleref09_Put.j2 kj4 (Int.tmod a0 128) (x6_1 ++ List.replicate (wrap64 (128 - (Int.tmod (wrap64 ((Int.tmod a0 128) + (x6_1.length : Int))) 128)) : Int).toNat 0) x7_1 x8_1 128) else (none)) else (none)) else (staddleref09_Put.j2 kj4 (Int.tmod a0 128) x6_1 x7_1 x8_1 (wrap64 (128 - (Int.tmod (wrap64 ((Int.tmod a0 128) + (x6_1.length : Int))) 128))))) = some (r1, r2) := by rw [if_pos rfl] at H; exact H
                clear H
                have H := H1
                clear H1
                have HC9 := Aside0.mk H
                clear H
                obtain ⟨Ao10, co10, eo10⟩ := Kd.R_slice HO_6.out
                subst eo10
                go_upto_if 33 with (fail)
                go_cut [6, 9] (fun v6 v9 wc => ∃ (kq : Nat) (x6_8 : List Int) (x9_8 : Int), v9 = .int .i64 x9_8 ∧ Aside0 (staddleref09_Put.j2 kq (Int.tmod a0 128) x6_8 x7_1 x8_1 x9_8 = some (r1, r2)) ∧ Aside0 (kq ≤ kj4) ∧ Aside0 (Kd.R (Kd.int .u8) 5 wc w.heap.size (fun k_ => (w.heap.size ≤ k_)) v6 x6_8) ∧ Aside0 (Kd.V (Kd.int .u8) 5 wc w.heap.size (fun k_ => (P1_ k_ ∨ w.heap.size ≤ k_) ∧ some k_ ≠ (v6 : Value).ownBlock) u7 x7_1) ∧ Aside0 (Below w.heap.size w wc))
                case first =>
                  have H := HC9.out
                  clear HC9
                  by_cases c11 : (wrap64 (128 - (Int.tmod (wrap64 ((Int.tmod a0 128) + (x6_1.length : Int))) 128))) < 7
                  · rw [if_pos c11] at H
                    have c11b0 : decide ((wrap64 (128 - (Int.tmod (wrap64 ((Int.tmod a0 128) + (x6_1.length : Int))) 128))) < 7) = true := decide_eq_true c11
                    clear c11
                    (first | rw [c11b0] | (simp only [i64_w, i32_w]; rw [c11b0]) | skip)
                    obtain ⟨ji12, hji12⟩ : ∃ j_ : Int, (wrap64 (128 - (Int.tmod (wrap64 ((Int.tmod a0 128) + (x6_1.length : Int))) 128))) = j_ := ⟨_, rfl⟩
                    replace H : (if 0 ≤ (ji12) then (if x6_1.length + (ji12 : Int).toNat < 140737488355328 then (staddleref09_Put.j2 kj4 (Int.tmod a0 128) (x6_1 ++ List.replicate (ji12 : Int).toNat 0) x7_1 x8_1 128) else (none)) else (none)) = some (r1, r2) := by first | (rw [hji12] at H; exact H) | (simp only [hji12] at H ⊢; exact H)
                    (try rw [hji12] at c11b0)
                    have hji12w : (IntKind.i64.wrap (128 - (Int.tmod (wrap64 ((Int.tmod a0 128) + (x6_1.length : Int))) 128))) = ji12 := (i64_w _).trans hji12
                    by_cases c13 : 0 ≤ (ji12)
                    · rw [if_pos c13] at H
                      have c13b0 := eq_true c13
                      have c13b1 : decide (0 ≤ (ji12)) = true := decide_eq_true c13
                      clear c13
                      by_cases c14 : x6_1.length + (ji12 : Int).toNat < 140737488355328
                      · rw [if_pos c14] at H
                        have LMc14 := Aside0.mk c14
                        clear c14
                        obtain ⟨y173, hy173⟩ : ∃ y_ : List Int, y_ = (x6_1 ++ List.replicate (ji12 : Int).toNat 0) := ⟨_, rfl⟩
                        replace H : (staddleref09_Put.j2 kj4 (Int.tmod a0 128) y173 x7_1 x8_1 128) = some (r1, r2) := by first | (rw [hy173]; with_reducible exact H) | (have H2_ := (Option.bind_some _ _).symm.trans H; rw [hy173]; with_reducible exact H2_) | (have H2_ := (Option.bind_some _ _).symm.trans H; with_reducible exact H2_) | with_reducible exact H | (rw [hy173]; exact H) | exact H
                        have Ny173 := Aside0.mk hy173
                        clear hy173
                        have H' := Aside0.mk H
                        clear H
                        go_wp2_with (first | (at_builtin; refine Kd.R_append_zeros (Kd.int .u8) (w0 := w) w.heap.size rfl (.tmp 34) (.tmp 35) 23 3 5 (.int .u8 0) 1 rfl Try.underlying23 Try.underlying3 info5 rfl (by decide) (by omega) (.slice Ao10 x6_1.length co10) x6_1 0 (ji12 : Int) (fun k_ => (w.heap.size ≤ k_)) rfl (by first | rfl | exact congrArg (Value.int .i64) hji12) rfl ?aF ?aO (of_decide_eq_true (by first | (with_reducible assumption) | assumption)) ?aB ?aS ?aL ?_; (case aB => exact (by repeat (first | (with_reducible first | exact HB.out | apply below_alloc | apply pw_below_drewN | apply below_drew1) | exact HB.out))); (case aF => exact (fun k_ hk => (Nat.le_trans (below_size (by repeat (first | (with_reducible first | exact HB.out | apply below_alloc | apply pw_below_drewN | apply below_drew1) | exact HB.out))) hk))); (case aO => exact (by (with_reducible repeat (first | apply Kd.R_alloc | apply Kd.R_drewN | apply Kd.R_drew)); exact HO_6.out)); (case aS => exact (below_size (by repeat (first | (with_reducible first | exact HB.out | apply below_alloc | apply pw_below_drewN | apply below_drew1) | exact HB.out)))); (case aL => have := LMc14.out; omega); intro v174 w15 ho hb hg hat; rw [← Ny173.out] at ho; have n0_ := Aside0.mk (Kd.V_afterv (ok := (fun k_ => (P1_ k_ ∨ w.heap.size ≤ k_))) (by (with_reducible repeat (first | apply Kd.V_alloc | apply Kd.V_drewN | apply Kd.V_drew)); exact HO_7.out) hg hat); have n1_ := Aside0.mk (hb); have n2_ := Aside0.mk (ho); clear HO_7; clear HB; clear HO_6; have HO_7 := n0_; have HB := n1_; have HO175 := n2_; clear n0_ n1_ n2_; clear ho hb hg hat))
                        go_meet
                        case rel => exact ⟨_, (y173), (128), (by first | rfl | (simp; done) | (simp [*]; done) | (simp; omega)), H', ⟨by have := HK1.out; have := HJ4.out; first | omega | exact Nat.le_refl _⟩, ⟨by (with_reducible repeat (first | apply Kd.R_alloc | apply Kd.R_drewN | apply Kd.R_drew)); exact HO175.out⟩, ⟨by (with_reducible repeat (first | apply Kd.V_alloc | apply Kd.V_drewN | apply Kd.V_drew)); exact HO_7.out⟩, ⟨by repeat (first | (with_reducible first | exact HB.out | apply below_alloc | apply pw_below_drewN | apply below_drew1) | exact HB.out)⟩⟩
                      · rw [if_neg c14] at H
                        exact absurd H (by simp)
                    · rw [if_neg c13] at H
                      exact absurd H (by simp)
                  · rw [if_neg c11] at H
                    have c11b0 : decide ((wrap64 (128 - (Int.tmod (wrap64 ((Int.tmod a0 128) + (x6_1.length : Int))) 128))) < 7) = false := decide_eq_false c11
                    clear c11
                    (first | rw [c11b0] | (simp only [i64_w, i32_w]; rw [c11b0]) | skip)
                    have H' := Aside0.mk H
                    clear H
                    go_wp2
                    go_meet
                    case rel => exact ⟨_, (x6_1), (wrap64 (128 - (Int.tmod (wrap64 ((Int.tmod a0 128) + (x6_1.length : Int))) 128))), (by first | rfl | (simp; done) | (simp [*]; done) | (simp; omega)), H', ⟨by have := HK1.out; have := HJ4.out; first | omega | exact Nat.le_refl _⟩, ⟨by (with_reducible repeat (first | apply Kd.R_alloc | apply Kd.R_drewN | apply Kd.R_drew)); exact HO_6.out⟩, ⟨by (with_reducible repeat (first | apply Kd.V_alloc | apply Kd.V_drewN | apply Kd.V_drew)); exact HO_7.out⟩, ⟨by repeat (first | (with_reducible first | exact HB.out | apply below_alloc | apply pw_below_drewN | apply below_drew1) | exact HB.out)⟩⟩
                case rest =>
                  clear HC9
                  try clear c1
                  try clear p2
                  try clear c3
                  try clear c3b0
                  try clear c4
                  try clear c4b0
                  try clear c4b1
                  try clear c6
                  try clear p6
                  try clear c8
                  try clear c11
                  try clear c11b0
                  try clear c13
                  try clear c13b0
                  try clear c13b1
                  try clear c14
                  try clear p2
                  obtain ⟨kq, x6_8, x9_8, rfl, HA, HJ8, HO_6, HO_7, HB⟩ := hcut
                  cases kq with
                  | zero => exact absurd HA.out (by simp [staddleref09_Put.j2])
                  | succ kj8 =>
                    have H := HA.out
                    clear HA
                    simp only [staddleref09_Put.j2] at H
                    have HC16 := Aside0.mk H
                    clear H
                    obtain ⟨Ao17, co17, eo17⟩ := Kd.V_slice HO_7.out
                    subst eo17
                    go_upto_if 42 with (fail)
                    go_cut [10] (fun v10 wc => ∃ (kq : Nat) (x10_15 : Int), v10 = .int .i64 x10_15 ∧ Aside0 (staddleref09_Put.j3 kq (Int.tmod a0 128) x6_8 x7_1 x8_1 x10_15 = some (r1, r2)) ∧ Aside0 (kq ≤ kj8) ∧ Aside0 (Kd.R (Kd.int .u8) 5 wc w.heap.size (fun k_ => (w.heap.size ≤ k_)) u6 x6_8) ∧ Aside0 (Kd.V (Kd.int .u8) 5 wc w.heap.size (fun k_ => (P1_ k_ ∨ w.heap.size ≤ k_) ∧ some k_ ≠ (u6 : Value).ownBlock) (.slice Ao17 x7_1.length co17) x7_1) ∧ Aside0 (Below w.heap.size w wc))
                    case first =>
                      have H := HC16.out
                      clear HC16
                      by_cases c18 : (x7_1.length : Int) > (wrap64 (x9_8 - 7))
                      · rw [if_pos c18] at H
                        have c18b0 : decide ((wrap64 (x9_8 - 7)) < (x7_1.length : Int)) = true := decide_eq_true c18
                        clear c18
                        (first | rw [c18b0] | (simp only [i64_w, i32_w]; rw [c18b0]) | skip)
                        have H' := Aside0.mk H
                        clear H
                        go_wp2
                        go_meet
                        case rel => exact ⟨_, (wrap64 (x9_8 - 7)), (by first | rfl | (simp; done) | (simp [*]; done) | (simp; omega)), H', ⟨by have := HK1.out; have := HJ4.out; have := HJ8.out; first | omega | exact Nat.le_refl _⟩, ⟨by (with_reducible repeat (first | apply Kd.R_alloc | apply Kd.R_drewN | apply Kd.R_drew)); exact HO_6.out⟩, ⟨by (with_reducible repeat (first | apply Kd.V_alloc | apply Kd.V_drewN | apply Kd.V_drew)); exact HO_7.out⟩, ⟨by repeat (first | (with_reducible first | exact HB.out | apply below_alloc | apply pw_below_drewN | apply below_drew1) | exact HB.out)⟩⟩
                      · rw [if_neg c18] at H
                        have c18b0 : decide ((wrap64 (x9_8 - 7)) < (x7_1.length : Int)) = false := decide_eq_false c18
                        clear c18
                        (first | rw [c18b0] | (simp only [i64_w, i32_w]; rw [c18b0]) | skip)
                        have H' := Aside0.mk H
                        clear H
                        go_wp2
                        go_meet
                        case rel => exact ⟨_, ((x7_1.length : Int)), (by first | rfl | (simp; done) | (simp [*]; done) | (simp; omega)), H', ⟨by have := HK1.out; have := HJ4.out; have := HJ8.out; first | omega | exact Nat.le_refl _⟩, ⟨by (with_reducible repeat (first | apply Kd.R_alloc | apply Kd.R_drewN | apply Kd.R_drew)); exact HO_6.out⟩, ⟨by (with_reducible repeat (first | apply Kd.V_alloc | apply Kd.V_drewN | apply Kd.V_drew)); exact HO_7.out⟩, ⟨by repeat (first | (with_reducible first | exact HB.out | apply below_alloc | apply pw_below_drewN | apply below_drew1) | exact HB.out)⟩⟩
                    case rest =>
                      clear HC16
                      try clear c1
                      try clear p2
                      try clear c3
                      try clear c3b0
                      try clear c4
                      try clear c4b0
                      try clear c4b1
                      try clear c6
                      try clear p6
                      try clear c8
                      try clear c11
                      try clear c11b0
                      try clear c13
                      try clear c13b0
                      try clear c13b1
                      try clear c14
                      try clear c18
                      try clear c18b0
                      try clear p2
                      try clear p6
                      obtain ⟨kq, x10_15, rfl, HA, HJ15, HO_6, HO_7, HB⟩ := hcut
                      cases kq with
                      | zero => exact absurd HA.out (by simp [staddleref09_Put.j3])
                      | succ kj15 =>
                        have H := HA.out
                        clear HA
                        simp only [staddleref09_Put.j3] at H
                        have HC19 := Aside0.mk H
                        clear H
                        go_upto_region 18 with (fail)
                        go_cut [51] (fun v51 wc => ∃ (kq : Nat) (x51_18 : Bool), v51 = .bool x51_18 ∧ Aside0 (staddleref09_Put.j4 kq (Int.tmod a0 128) x6_8 x7_1 x8_1 x10_15 3 x51_18 = some (r1, r2)) ∧ Aside0 (kq ≤ kj15) ∧ Aside0 (Kd.R (Kd.int .u8) 5 wc w.heap.size (fun k_ => (w.heap.size ≤ k_)) u6 x6_8) ∧ Aside0 (Kd.V (Kd.int .u8) 5 wc w.heap.size (fun k_ => (P1_ k_ ∨ w.heap.size ≤ k_) ∧ some k_ ≠ (u6 : Value).ownBlock) (.slice Ao17 x7_1.length co17) x7_1) ∧ Aside0 (Below w.heap.size w wc))
                        case first =>
                          have H := HC19.out
                          clear HC19
                          by_cases c20 : x8_1 = true
                          · subst c20
                            have H1 : (staddleref09_Put.j4 kj15 (Int.tmod a0 128) x6_8 x7_1 true x10_15 3 (x10_15 == (x7_1.length : Int))) = some (r1, r2) := by rw [if_pos rfl] at H; exact H
                            clear H
                            have H := H1
                            clear H1
                            have H' := Aside0.mk H
                            clear H
                            go_wp2
                            go_meet
                            case rel => exact ⟨_, ((x10_15 == (x7_1.length : Int))), (by first | rfl | (simp; done) | (simp [*]; done) | (simp; omega)), H', ⟨by have := HK1.out; have := HJ4.out; have := HJ8.out; have := HJ15.out; first | omega | exact Nat.le_refl _⟩, ⟨by (with_reducible repeat (first | apply Kd.R_alloc | apply Kd.R_drewN | apply Kd.R_drew)); exact HO_6.out⟩, ⟨by (with_reducible repeat (first | apply Kd.V_alloc | apply Kd.V_drewN | apply Kd.V_drew)); exact HO_7.out⟩, ⟨by repeat (first | (with_reducible first | exact HB.out | apply below_alloc | apply pw_below_drewN | apply below_drew1) | exact HB.out)⟩⟩
                          · replace c20 := Bool.eq_false_iff.mpr c20
                            subst c20
                            have H1 : (staddleref09_Put.j4 kj15 (Int.tmod a0 128) x6_8 x7_1 false x10_15 3 false) = some (r1, r2) := by rw [if_neg (show ¬ (false = true) by decide)] at H; exact H
                            clear H
                            have H := H1
                            clear H1
                            have H' := Aside0.mk H
                            clear H
                            go_wp2
                            go_meet
                            case rel => exact ⟨_, (false), (by first | rfl | (simp; done) | (simp [*]; done) | (simp; omega)), H', ⟨by have := HK1.out; have := HJ4.out; have := HJ8.out; have := HJ15.out; first | omega | exact Nat.le_refl _⟩, ⟨by (with_reducible repeat (first | apply Kd.R_alloc | apply Kd.R_drewN | apply Kd.R_drew)); exact HO_6.out⟩, ⟨by (with_reducible repeat (first | apply Kd.V_alloc | apply Kd.V_drewN | apply Kd.V_drew)); exact HO_7.out⟩, ⟨by repeat (first | (with_reducible first | exact HB.out | apply below_alloc | apply pw_below_drewN | apply below_drew1) | exact HB.out)⟩⟩
                        case rest =>
                          clear HC19
                          try clear c1
                          try clear c2
                          try clear p2
                          try clear c3
                          try clear c3b0
                          try clear c4
                          try clear c4b0
                          try clear c4b1
                          try clear c6
                          try clear p6
                          try clear c8
                          try clear c11
                          try clear c11b0
                          try clear c13
                          try clear c13b0
                          try clear c13b1
                          try clear c14
                          try clear c18
                          try clear c18b0
                          try clear c20
                          try clear p2
                          try clear p6
                          obtain ⟨kq, x51_18, rfl, HA, HJ18, HO_6, HO_7, HB⟩ := hcut
                          cases kq with
                          | zero => exact absurd HA.out (by simp [staddleref09_Put.j4])
                          | succ kj18 =>
                            have H := HA.out
                            clear HA
                            simp only [staddleref09_Put.j4] at H
                            by_cases c21 : x51_18 = true
                            · subst c21
                              have H1 : (if 0 ≤ x10_15 then (if x10_15 ≤ (x7_1.length : Int) then ((staddleref09_piece.f kj18 1 (x7_1.take (x10_15 : Int).toNat)).bind fun t181 => (if x6_8.length + t181.length < 140737488355328 then (staddleref09_Put.l0 kj18 (Int.tmod a0 128) (x6_8 ++ t181) (x7_1.drop (x10_15 : Int).toNat) false) else (none))) else (none)) else (none)) = some (r1, r2) := by rw [if_pos rfl] at H; exact H
                              clear H
                              have H := H1
                              clear H1
                              by_cases c22 : 0 ≤ x10_15
                              · rw [if_pos c22] at H
                                have c22b0 := eq_true c22
                                have c22b1 : decide (0 ≤ x10_15) = true := decide_eq_true c22
                                clear c22
                                by_cases c23 : x10_15 ≤ (x7_1.length : Int)
                                · rw [if_pos c23] at H
                                  have c23b0 := eq_true c23
                                  have c23b1 : decide (x10_15 ≤ (x7_1.length : Int)) = true := decide_eq_true c23
                                  clear c23
                                  obtain ⟨y176, hy176⟩ : ∃ y_ : List Int, y_ = (x7_1.take (x10_15 : Int).toNat) := ⟨_, rfl⟩
                                  replace H : ((staddleref09_piece.f kj18 1 y176).bind fun t181 => (if x6_8.length + t181.length < 140737488355328 then (staddleref09_Put.l0 kj18 (Int.tmod a0 128) (x6_8 ++ t181) (x7_1.drop (x10_15 : Int).toNat) false) else (none))) = some (r1, r2) := by first | (rw [hy176]; with_reducible exact H) | (have H2_ := (Option.bind_some _ _).symm.trans H; rw [hy176]; with_reducible exact H2_) | (have H2_ := (Option.bind_some _ _).symm.trans H; with_reducible exact H2_) | with_reducible exact H | (rw [hy176]; exact H) | exact H
                                  have Ny176 := Aside0.mk hy176
                                  clear hy176
                                  replace H := Option.bind_eq_some_iff.mp H
                                  obtain ⟨t181, A240, H⟩ := H
                                  replace H : (if x6_8.length + t181.length < 140737488355328 then (staddleref09_Put.l0 kj18 (Int.tmod a0 128) (x6_8 ++ t181) (x7_1.drop (x10_15 : Int).toNat) false) else (none)) = some (r1, r2) := H
                                  have A24 := Aside0.mk A240
                                  clear A240
                                  by_cases c25 : x6_8.length + t181.length < 140737488355328
                                  · rw [if_pos c25] at H
                                    have LMc25 := Aside0.mk c25
                                    clear c25
                                    obtain ⟨y184, hy184⟩ : ∃ y_ : List Int, y_ = (x6_8 ++ t181) := ⟨_, rfl⟩
                                    replace H : (staddleref09_Put.l0 kj18 (Int.tmod a0 128) y184 (x7_1.drop (x10_15 : Int).toNat) false) = some (r1, r2) := by first | (rw [hy184]; with_reducible exact H) | (have H2_ := (Option.bind_some _ _).symm.trans H; rw [hy184]; with_reducible exact H2_) | (have H2_ := (Option.bind_some _ _).symm.trans H; with_reducible exact H2_) | with_reducible exact H | (rw [hy184]; exact H) | exact H
                                    have Ny184 := Aside0.mk hy184
                                    clear hy184
                                    have c26b0 := eq_true (of_decide_eq_true (by first | (with_reducible assumption) | assumption) : 0 ≤ x10_15)
                                    have c27b0 := eq_true (of_decide_eq_true (by first | (with_reducible assumption) | assumption) : x10_15 ≤ (x7_1.length : Int))
                                    obtain ⟨y187, hy187⟩ : ∃ y_ : List Int, y_ = (x7_1.drop (x10_15 : Int).toNat) := ⟨_, rfl⟩
                                    replace H : (staddleref09_Put.l0 kj18 (Int.tmod a0 128) y184 y187 false) = some (r1, r2) := by first | (rw [hy187]; with_reducible exact H) | (have H2_ := (Option.bind_some _ _).symm.trans H; rw [hy187]; with_reducible exact H2_) | (have H2_ := (Option.bind_some _ _).symm.trans H; with_reducible exact H2_) | with_reducible exact H | (rw [hy187]; exact H) | exact H
                                    have Ny187 := Aside0.mk hy187
                                    clear hy187
                                    have H' := Aside0.mk H
                                    clear H
                                    have q28 : (x10_15 : Int) ≤ ((x7_1.length : Int) : Int) := of_decide_eq_true (by first | (with_reducible assumption) | assumption)
                                    obtain ⟨i028, hi028, _, hsz28, _⟩ := info_parts info5
                                    have hroom28 : x7_1.length ≤ co17 := (Kd.V_reads' HO_7.out).2.1
                                    have hC28 : Kd.F (Kd.int .u8) _ _ Ao17 x7_1.length x7_1 := (Kd.V_at (base := w.heap.size) HO_7.out).2.2
                                    have hcut28 := cut_to (P := Try.prog) 23 5 .i64 Try.underlying23 hi028 Ao17 x7_1.length co17 x10_15 (of_decide_eq_true (by first | (with_reducible assumption) | assumption)) q28 hroom28
                                    have hr28 := Kd.F_take (m := (x10_15 : Int).toNat) hC28 (by omega)
                                    have hy28 : y176.length = (x10_15 : Int).toNat := (by rw [Ny176.out, List.length_take]; omega)
                                    rw [← Ny176.out] at hr28
                                    rw [← hy28] at hcut28
                                    have HO180 := Aside0.mk (show Kd.V (Kd.int .u8) 5 _ w.heap.size _ (.slice Ao17 y176.length co17) y176 from Kd.V_mk (by omega) hr28)
                                    have HC180 := Aside0.mk (show y176.length ≤ co17 from by omega)
                                    clear hr28 hC28 hroom28 hi028 hsz28
                                    have KY28 := Aside0.mk hy28
                                    clear hy28
                                    replace q28 := eq_true q28
                                    go_wp2_with (first | ((with_reducible refine gate_callee (f := 17) rfl ?_); refine goesL_ (some 62) rfl rfl Try.func17 (by kernel_rfl) rfl #[.int .u8 1, .slice Ao17 y176.length co17] rfl (by (try simp only [List.map_toArray, List.map_cons, List.map_nil]); first | done | rfl | (simp only [List.length_drop, List.length_take]; rfl)) ?_; (with_reducible refine (staddleref09_piece.calls kj18 1 _ _ y176 t181 _ ?side1 ?side2 A24.out).mono ?_); (case side1 => repeat (first | exact (Kd.V_reads' HO180.out).2.2 | (with_reducible refine Kd.C_alloc ?_ _) | (with_reducible refine Kd.C_drewN ?_ _) | (with_reducible refine Kd.C_drew ?_))); (case side2 => exact (Kd.V_reads' HO180.out).2.1); rintro e w29 ⟨v182, rfl, ho0, hb⟩; refine ⟨_, rfl, ?_⟩; have n0_ := Aside0.mk (Kd.R_elder' (by (with_reducible repeat (first | apply Kd.R_alloc | apply Kd.R_drewN | apply Kd.R_drew)); exact HO_6.out) (Kd.R_base ho0) hb); have n1_ := Aside0.mk (Kd.V_elder' (by (with_reducible repeat (first | apply Kd.V_alloc | apply Kd.V_drewN | apply Kd.V_drew)); exact HO_7.out) (Kd.R_base ho0) hb); have n2_ := Aside0.mk (Kd.V_elder' (by (with_reducible repeat (first | apply Kd.V_alloc | apply Kd.V_drewN | apply Kd.V_drew)); exact HO180.out) (Kd.R_base ho0) hb); have n3_ := Aside0.mk (Kd.R_lower (Kd.R_new' (Kd.R_newM (M := fun k_ => (w.heap.size ≤ k_)) ho0 (below_size (by repeat (first | (with_reducible first | exact HB.out | apply below_alloc | apply pw_below_drewN | apply below_drew1) | exact HB.out))) (fun k_ h_ => h_)) (Kd.R_lt (by (with_reducible repeat (first | apply Kd.R_alloc | apply Kd.R_drewN | apply Kd.R_drew)); exact HO_6.out))) (below_size (by repeat (first | (with_reducible first | exact HB.out | apply below_alloc | apply pw_below_drewN | apply below_drew1) | exact HB.out)))); have n4_ := Aside0.mk (below_step (by repeat (first | (with_reducible first | exact HB.out | apply below_alloc | apply pw_below_drewN | apply below_drew1) | exact HB.out)) hb); clear HO_6; clear HO_7; clear HO180; clear HB; have HO_6 := n0_; have HO_7 := n1_; have HO180 := n2_; have HO183 := n3_; have HB := n4_; clear n0_ n1_ n2_ n3_ n4_; (try clear hb); (try clear hb2); (try clear hk); (try clear hi); (try clear ho0); obtain ⟨Ao31, co31, eo31⟩ := Kd.R_slice HO183.out; subst eo31) | ((with_reducible refine gate_builtin (b := .append) (xs := #[.tmp 57, .tmp 62]) rfl ?_); (try (refine gate_guard (by rfl) ?_; dsimp only)); at_builtin; refine Kd.R_append_rows (Kd.int .u8) (w0 := w) w.heap.size rfl (.tmp 57) (.tmp 62) 23 5 (.int .u8 0) 1 rfl Try.underlying23 info5 rfl (by decide) (by omega) u6 x6_8 t181 _ _ _ (fun k_ => (w.heap.size ≤ k_) ∧ some k_ ≠ (.slice Ao31 t181.length co31 : Value).ownBlock) (fun _ => False) rfl rfl ?aO ?aR (fun _ _ h => h) (fun _ h => h.elim) ?aF ?aB ?aS ?aL ?_; (case aR => repeat (first | exact (Kd.R_reads' HO183.out).2.2 | (with_reducible refine Kd.C_alloc ?_ _) | (with_reducible refine Kd.C_drewN ?_ _) | (with_reducible refine Kd.C_drew ?_))); (case aB => exact (by repeat (first | (with_reducible first | exact HB.out | apply below_alloc | apply pw_below_drewN | apply below_drew1) | exact HB.out))); (case aF => exact (fun k_ hk => ⟨(Nat.le_trans (below_size (by repeat (first | (with_reducible first | exact HB.out | apply below_alloc | apply pw_below_drewN | apply below_drew1) | exact HB.out))) hk), Kd.fresh' (Kd.R_lt (by (with_reducible repeat (first | apply Kd.R_alloc | apply Kd.R_drewN | apply Kd.R_drew)); exact HO183.out)) k_ hk⟩)); (case aO => exact (by (with_reducible repeat (first | apply Kd.R_alloc | apply Kd.R_drewN | apply Kd.R_drew)); exact HO_6.out)); (case aS => exact (below_size (by repeat (first | (with_reducible first | exact HB.out | apply below_alloc | apply pw_below_drewN | apply below_drew1) | exact HB.out)))); (case aL => have := LMc25.out; omega); intro v185 w30 ho hb hg hat; rw [← Ny184.out] at ho; have n0_ := Aside0.mk (Kd.V_afterv (ok := (fun k_ => (P1_ k_ ∨ w.heap.size ≤ k_) ∧ some k_ ≠ (.slice Ao31 t181.length co31 : Value).ownBlock)) (by (with_reducible repeat (first | apply Kd.V_alloc | apply Kd.V_drewN | apply Kd.V_drew)); exact Kd.V_mono HO_7.out (fun _ hk => ⟨⟨hk.1.1, hk.2⟩, hk.1.2⟩)) hg hat); have n1_ := Aside0.mk (Kd.V_afterv (ok := (fun k_ => (P1_ k_ ∨ w.heap.size ≤ k_) ∧ some k_ ≠ (.slice Ao31 t181.length co31 : Value).ownBlock)) (by (with_reducible repeat (first | apply Kd.V_alloc | apply Kd.V_drewN | apply Kd.V_drew)); exact Kd.V_mono HO180.out (fun _ hk => ⟨⟨hk.1.1, hk.2⟩, hk.1.2⟩)) hg hat); have n2_ := Aside0.mk (Kd.R_after (ok := (fun k_ => (w.heap.size ≤ k_))) (by (with_reducible repeat (first | apply Kd.R_alloc | apply Kd.R_drewN | apply Kd.R_drew)); exact Kd.R_mono HO183.out (fun _ hk => ⟨hk.1.1, hk.2⟩)) hg hat); have n3_ := Aside0.mk (hb); have n4_ := Aside0.mk (ho); clear HO_7; clear HO180; clear HO183; clear HB; clear HO_6; have HO_7 := n0_; have HO180 := n1_; have HO183 := n2_; have HB := n3_; have HO186 := n4_; clear n0_ n1_ n2_ n3_ n4_; clear ho hb hg hat; have q32 : (x10_15 : Int) ≤ ((x7_1.length : Int) : Int) := of_decide_eq_true (by first | (with_reducible assumption) | assumption); obtain ⟨i032, hi032, _, hsz32, _⟩ := info_parts info5; have hroom32 : x7_1.length ≤ co17 := (Kd.V_reads' HO_7.out).2.1; have hC32 : Kd.F (Kd.int .u8) _ _ Ao17 x7_1.length x7_1 := (Kd.V_at (base := w.heap.size) HO_7.out).2.2; have q032 : (0 : Int) ≤ (x10_15 : Int) := of_decide_eq_true (by first | (with_reducible assumption) | assumption); have hcut32 := cut_from (P := Try.prog) 23 5 .i64 Try.underlying23 hi032 1 hsz32 Ao17 x7_1.length co17 x10_15 q032 q32; have hr32 := Kd.F_cut (m := (x10_15 : Int).toNat) (c := co17) hC32 (by omega) hroom32; obtain ⟨A32, hA32⟩ : ∃ A1, A1 = (if co17 = (x10_15 : Int).toNat then Ao17 else (Ao17 : Option Addr).map (·.add ((x10_15 : Int).toNat * 1))) := ⟨_, rfl⟩; obtain ⟨c32, hc32⟩ : ∃ c1, c1 = co17 - (x10_15 : Int).toNat := ⟨_, rfl⟩; have hy32 : y187.length = x7_1.length - (x10_15 : Int).toNat := (by rw [Ny187.out, List.length_drop] <;> omega); rw [show (x7_1).drop (x10_15 : Int).toNat = y187 from Ny187.out.symm] at hr32; replace hr32 : Kd.F (Kd.int .u8) _ _ A32 y187.length y187 := (by rw [hA32]; exact hr32); rw [← hy32, ← hA32, ← hc32] at hcut32; have HO191 := Aside0.mk (show Kd.V (Kd.int .u8) 5 _ w.heap.size _ (.slice A32 y187.length c32) y187 from Kd.V_mk (by rw [hy32, hc32]; exact Nat.sub_le_sub_right hroom32 _) hr32); have HC191 := Aside0.mk (show y187.length ≤ c32 from by rw [hy32, hc32]; exact Nat.sub_le_sub_right hroom32 _); clear hr32 hC32 hroom32 hi032 hsz32 hc32; have KY32 := Aside0.mk hy32; have KA32 := Aside0.mk hA32; clear hy32 hA32; replace q32 := eq_true q32))
                                    go_roundg kj18
                                    case measure => have := HK1.out; have := HJ4.out; have := HJ8.out; have := HJ15.out; have := HJ18.out; omega
                                    case rel => exact ⟨(y184), (y187), (false), (by first | rfl | (simp; done) | (simp [*]; done) | (simp; omega)), H', ⟨by have := HK1.out; have := HJ4.out; have := HJ8.out; have := HJ15.out; have := HJ18.out; omega⟩, ⟨by (with_reducible repeat (first | apply Kd.R_alloc | apply Kd.R_drewN | apply Kd.R_drew)); exact Kd.R_mono HO186.out (fun _ hk => hk.1)⟩, ⟨by (with_reducible repeat (first | apply Kd.V_alloc | apply Kd.V_drewN | apply Kd.V_drew)); exact Kd.V_mono HO191.out (fun _ hk => ⟨hk.1.1, hk.2⟩)⟩, ⟨by repeat (first | (with_reducible first | exact HB.out | apply below_alloc | apply pw_below_drewN | apply below_drew1) | exact HB.out)⟩⟩
                                  · rw [if_neg c25] at H
                                    exact absurd H (by simp)
                                · rw [if_neg c23] at H
                                  exact absurd H (by simp)
                              · rw [if_neg c22] at H
                                exact absurd H (by simp)
                            · replace c21 := Bool.eq_false_iff.mpr c21
                              subst c21
                              have H1 : (if x8_1 = true then (if 0 ≤ x10_15 then (if x10_15 ≤ (x7_1.length : Int) then ((staddleref09_piece.f kj18 2 (x7_1.take (x10_15 : Int).toNat)).bind fun t197 => (if x6_8.length + t197.length < 140737488355328 then (staddleref09_Put.l0 kj18 (Int.tmod a0 128) (x6_8 ++ t197) (x7_1.drop (x10_15 : Int).toNat) false) else (none))) else (none)) else (none)) else (if x10_15 = (x7_1.length : Int) then (if 0 ≤ x10_15 then (if x10_15 ≤ (x7_1.length : Int) then ((staddleref09_piece.f kj18 4 (x7_1.take (x10_15 : Int).toNat)).bind fun t213 => (if x6_8.length + t213.length < 140737488355328 then (staddleref09_Put.l0 kj18 (Int.tmod a0 128) (x6_8 ++ t213) (x7_1.drop (x10_15 : Int).toNat) false) else (none))) else (none)) else (none)) else (if 0 ≤ x10_15 then (if x10_15 ≤ (x7_1.length : Int) then ((staddleref09_piece.f kj18 3 (x7_1.take (x10_15 : Int).toNat)).bind fun t229 => (if x6_8.length + t229.length < 140737488355328 then (staddleref09_Put.l0 kj18 (Int.tmod a0 128) (x6_8 ++ t229) (x7_1.drop (x10_15 : Int).toNat) false) else (none))) else (none)) else (none)))) = some (r1, r2) := by rw [if_neg (show ¬ (false = true) by decide)] at H; exact H
                              clear H
                              have H := H1
                              clear H1
                              by_cases c33 : x8_1 = true
                              · subst c33
                                have H1 : (if 0 ≤ x10_15 then (if x10_15 ≤ (x7_1.length : Int) then ((staddleref09_piece.f kj18 2 (x7_1.take (x10_15 : Int).toNat)).bind fun t197 => (if x6_8.length + t197.length < 140737488355328 then (staddleref09_Put.l0 kj18 (Int.tmod a0 128) (x6_8 ++ t197) (x7_1.drop (x10_15 : Int).toNat) false) else (none))) else (none)) else (none)) = some (r1, r2) := by rw [if_pos rfl] at H; exact H
                                clear H
                                have H := H1
                                clear H1
                                by_cases c34 : 0 ≤ x10_15
                                · rw [if_pos c34] at H
                                  have c34b0 := eq_true c34
                                  have c34b1 : decide (0 ≤ x10_15) = true := decide_eq_true c34
                                  clear c34
                                  by_cases c35 : x10_15 ≤ (x7_1.length : Int)
                                  · rw [if_pos c35] at H
                                    have c35b0 := eq_true c35
                                    have c35b1 : decide (x10_15 ≤ (x7_1.length : Int)) = true := decide_eq_true c35
                                    clear c35
                                    obtain ⟨y192, hy192⟩ : ∃ y_ : List Int, y_ = (x7_1.take (x10_15 : Int).toNat) := ⟨_, rfl⟩
                                    replace H : ((staddleref09_piece.f kj18 2 y192).bind fun t197 => (if x6_8.length + t197.length < 140737488355328 then (staddleref09_Put.l0 kj18 (Int.tmod a0 128) (x6_8 ++ t197) (x7_1.drop (x10_15 : Int).toNat) false) else (none))) = some (r1, r2) := by first | (rw [hy192]; with_reducible exact H) | (have H2_ := (Option.bind_some _ _).symm.trans H; rw [hy192]; with_reducible exact H2_) | (have H2_ := (Option.bind_some _ _).symm.trans H; with_reducible exact H2_) | with_reducible exact H | (rw [hy192]; exact H) | exact H
                                    have Ny192 := Aside0.mk hy192
                                    clear hy192
                                    replace H := Option.bind_eq_some_iff.mp H
                                    obtain ⟨t197, A360, H⟩ := H
                                    replace H : (if x6_8.length + t197.length < 140737488355328 then (staddleref09_Put.l0 kj18 (Int.tmod a0 128) (x6_8 ++ t197) (x7_1.drop (x10_15 : Int).toNat) false) else (none)) = some (r1, r2) := H
                                    have A36 := Aside0.mk A360
                                    clear A360
                                    by_cases c37 : x6_8.length + t197.length < 140737488355328
                                    · rw [if_pos c37] at H
                                      have LMc37 := Aside0.mk c37
                                      clear c37
                                      obtain ⟨y200, hy200⟩ : ∃ y_ : List Int, y_ = (x6_8 ++ t197) := ⟨_, rfl⟩
                                      replace H : (staddleref09_Put.l0 kj18 (Int.tmod a0 128) y200 (x7_1.drop (x10_15 : Int).toNat) false) = some (r1, r2) := by first | (rw [hy200]; with_reducible exact H) | (have H2_ := (Option.bind_some _ _).symm.trans H; rw [hy200]; with_reducible exact H2_) | (have H2_ := (Option.bind_some _ _).symm.trans H; with_reducible exact H2_) | with_reducible exact H | (rw [hy200]; exact H) | exact H
                                      have Ny200 := Aside0.mk hy200
                                      clear hy200
                                      have c38b0 := eq_true (of_decide_eq_true (by first | (with_reducible assumption) | assumption) : 0 ≤ x10_15)
                                      have c39b0 := eq_true (of_decide_eq_true (by first | (with_reducible assumption) | assumption) : x10_15 ≤ (x7_1.length : Int))
                                      obtain ⟨y203, hy203⟩ : ∃ y_ : List Int, y_ = (x7_1.drop (x10_15 : Int).toNat) := ⟨_, rfl⟩
                                      replace H : (staddleref09_Put.l0 kj18 (Int.tmod a0 128) y200 y203 false) = some (r1, r2) := by first | (rw [hy203]; with_reducible exact H) | (have H2_ := (Option.bind_some _ _).symm.trans H; rw [hy203]; with_reducible exact H2_) | (have H2_ := (Option.bind_some _ _).symm.trans H; with_reducible exact H2_) | with_reducible exact H | (rw [hy203]; exact H) | exact H
                                      have Ny203 := Aside0.mk hy203
                                      clear hy203
                                      have H' := Aside0.mk H
                                      clear H
                                      have q40 : (x10_15 : Int) ≤ ((x7_1.length : Int) : Int) := of_decide_eq_true (by first | (with_reducible assumption) | assumption)
                                      obtain ⟨i040, hi040, _, hsz40, _⟩ := info_parts info5
                                      have hroom40 : x7_1.length ≤ co17 := (Kd.V_reads' HO_7.out).2.1
                                      have hC40 : Kd.F (Kd.int .u8) _ _ Ao17 x7_1.length x7_1 := (Kd.V_at (base := w.heap.size) HO_7.out).2.2
                                      have hcut40 := cut_to (P := Try.prog) 23 5 .i64 Try.underlying23 hi040 Ao17 x7_1.length co17 x10_15 (of_decide_eq_true (by first | (with_reducible assumption) | assumption)) q40 hroom40
                                      have hr40 := Kd.F_take (m := (x10_15 : Int).toNat) hC40 (by omega)
                                      have hy40 : y192.length = (x10_15 : Int).toNat := (by rw [Ny192.out, List.length_take]; omega)
                                      rw [← Ny192.out] at hr40
                                      rw [← hy40] at hcut40
                                      have HO196 := Aside0.mk (show Kd.V (Kd.int .u8) 5 _ w.heap.size _ (.slice Ao17 y192.length co17) y192 from Kd.V_mk (by omega) hr40)
                                      have HC196 := Aside0.mk (show y192.length ≤ co17 from by omega)
                                      clear hr40 hC40 hroom40 hi040 hsz40
                                      have KY40 := Aside0.mk hy40
                                      clear hy40
                                      replace q40 := eq_true q40
                                      go_wp2_with (first | ((with_reducible refine gate_callee (f := 17) rfl ?_); refine goesL_ (some 62) rfl rfl Try.func17 (by kernel_rfl) rfl #[.int .u8 2, .slice Ao17 y192.length co17] rfl (by (try simp only [List.map_toArray, List.map_cons, List.map_nil]); first | done | rfl | (simp only [List.length_drop, List.length_take]; rfl)) ?_; (with_reducible refine (staddleref09_piece.calls kj18 2 _ _ y192 t197 _ ?side1 ?side2 A36.out).mono ?_); (case side1 => repeat (first | exact (Kd.V_reads' HO196.out).2.2 | (with_reducible refine Kd.C_alloc ?_ _) | (with_reducible refine Kd.C_drewN ?_ _) | (with_reducible refine Kd.C_drew ?_))); (case side2 => exact (Kd.V_reads' HO196.out).2.1); rintro e w41 ⟨v198, rfl, ho0, hb⟩; refine ⟨_, rfl, ?_⟩; have n0_ := Aside0.mk (Kd.R_elder' (by (with_reducible repeat (first | apply Kd.R_alloc | apply Kd.R_drewN | apply Kd.R_drew)); exact HO_6.out) (Kd.R_base ho0) hb); have n1_ := Aside0.mk (Kd.V_elder' (by (with_reducible repeat (first | apply Kd.V_alloc | apply Kd.V_drewN | apply Kd.V_drew)); exact HO_7.out) (Kd.R_base ho0) hb); have n2_ := Aside0.mk (Kd.V_elder' (by (with_reducible repeat (first | apply Kd.V_alloc | apply Kd.V_drewN | apply Kd.V_drew)); exact HO196.out) (Kd.R_base ho0) hb); have n3_ := Aside0.mk (Kd.R_lower (Kd.R_new' (Kd.R_newM (M := fun k_ => (w.heap.size ≤ k_)) ho0 (below_size (by repeat (first | (with_reducible first | exact HB.out | apply below_alloc | apply pw_below_drewN | apply below_drew1) | exact HB.out))) (fun k_ h_ => h_)) (Kd.R_lt (by (with_reducible repeat (first | apply Kd.R_alloc | apply Kd.R_drewN | apply Kd.R_drew)); exact HO_6.out))) (below_size (by repeat (first | (with_reducible first | exact HB.out | apply below_alloc | apply pw_below_drewN | apply below_drew1) | exact HB.out)))); have n4_ := Aside0.mk (below_step (by repeat (first | (with_reducible first | exact HB.out | apply below_alloc | apply pw_below_drewN | apply below_drew1) | exact HB.out)) hb); clear HO_6; clear HO_7; clear HO196; clear HB; have HO_6 := n0_; have HO_7 := n1_; have HO196 := n2_; have HO199 := n3_; have HB := n4_; clear n0_ n1_ n2_ n3_ n4_; (try clear hb); (try clear hb2); (try clear hk); (try clear hi); (try clear ho0); obtain ⟨Ao43, co43, eo43⟩ := Kd.R_slice HO199.out; subst eo43) | ((with_reducible refine gate_builtin (b := .append) (xs := #[.tmp 57, .tmp 62]) rfl ?_); (try (refine gate_guard (by rfl) ?_; dsimp only)); at_builtin; refine Kd.R_append_rows (Kd.int .u8) (w0 := w) w.heap.size rfl (.tmp 57) (.tmp 62) 23 5 (.int .u8 0) 1 rfl Try.underlying23 info5 rfl (by decide) (by omega) u6 x6_8 t197 _ _ _ (fun k_ => (w.heap.size ≤ k_) ∧ some k_ ≠ (.slice Ao43 t197.length co43 : Value).ownBlock) (fun _ => False) rfl rfl ?aO ?aR (fun _ _ h => h) (fun _ h => h.elim) ?aF ?aB ?aS ?aL ?_; (case aR => repeat (first | exact (Kd.R_reads' HO199.out).2.2 | (with_reducible refine Kd.C_alloc ?_ _) | (with_reducible refine Kd.C_drewN ?_ _) | (with_reducible refine Kd.C_drew ?_))); (case aB => exact (by repeat (first | (with_reducible first | exact HB.out | apply below_alloc | apply pw_below_drewN | apply below_drew1) | exact HB.out))); (case aF => exact (fun k_ hk => ⟨(Nat.le_trans (below_size (by repeat (first | (with_reducible first | exact HB.out | apply below_alloc | apply pw_below_drewN | apply below_drew1) | exact HB.out))) hk), Kd.fresh' (Kd.R_lt (by (with_reducible repeat (first | apply Kd.R_alloc | apply Kd.R_drewN | apply Kd.R_drew)); exact HO199.out)) k_ hk⟩)); (case aO => exact (by (with_reducible repeat (first | apply Kd.R_alloc | apply Kd.R_drewN | apply Kd.R_drew)); exact HO_6.out)); (case aS => exact (below_size (by repeat (first | (with_reducible first | exact HB.out | apply below_alloc | apply pw_below_drewN | apply below_drew1) | exact HB.out)))); (case aL => have := LMc37.out; omega); intro v201 w42 ho hb hg hat; rw [← Ny200.out] at ho; have n0_ := Aside0.mk (Kd.V_afterv (ok := (fun k_ => (P1_ k_ ∨ w.heap.size ≤ k_) ∧ some k_ ≠ (.slice Ao43 t197.length co43 : Value).ownBlock)) (by (with_reducible repeat (first | apply Kd.V_alloc | apply Kd.V_drewN | apply Kd.V_drew)); exact Kd.V_mono HO_7.out (fun _ hk => ⟨⟨hk.1.1, hk.2⟩, hk.1.2⟩)) hg hat); have n1_ := Aside0.mk (Kd.V_afterv (ok := (fun k_ => (P1_ k_ ∨ w.heap.size ≤ k_) ∧ some k_ ≠ (.slice Ao43 t197.length co43 : Value).ownBlock)) (by (with_reducible repeat (first | apply Kd.V_alloc | apply Kd.V_drewN | apply Kd.V_drew)); exact Kd.V_mono HO196.out (fun _ hk => ⟨⟨hk.1.1, hk.2⟩, hk.1.2⟩)) hg hat); have n2_ := Aside0.mk (Kd.R_after (ok := (fun k_ => (w.heap.size ≤ k_))) (by (with_reducible repeat (first | apply Kd.R_alloc | apply Kd.R_drewN | apply Kd.R_drew)); exact Kd.R_mono HO199.out (fun _ hk => ⟨hk.1.1, hk.2⟩)) hg hat); have n3_ := Aside0.mk (hb); have n4_ := Aside0.mk (ho); clear HO_7; clear HO196; clear HO199; clear HB; clear HO_6; have HO_7 := n0_; have HO196 := n1_; have HO199 := n2_; have HB := n3_; have HO202 := n4_; clear n0_ n1_ n2_ n3_ n4_; clear ho hb hg hat; have q44 : (x10_15 : Int) ≤ ((x7_1.length : Int) : Int) := of_decide_eq_true (by first | (with_reducible assumption) | assumption); obtain ⟨i044, hi044, _, hsz44, _⟩ := info_parts info5; have hroom44 : x7_1.length ≤ co17 := (Kd.V_reads' HO_7.out).2.1; have hC44 : Kd.F (Kd.int .u8) _ _ Ao17 x7_1.length x7_1 := (Kd.V_at (base := w.heap.size) HO_7.out).2.2; have q044 : (0 : Int) ≤ (x10_15 : Int) := of_decide_eq_true (by first | (with_reducible assumption) | assumption); have hcut44 := cut_from (P := Try.prog) 23 5 .i64 Try.underlying23 hi044 1 hsz44 Ao17 x7_1.length co17 x10_15 q044 q44; have hr44 := Kd.F_cut (m := (x10_15 : Int).toNat) (c := co17) hC44 (by omega) hroom44; obtain ⟨A44, hA44⟩ : ∃ A1, A1 = (if co17 = (x10_15 : Int).toNat then Ao17 else (Ao17 : Option Addr).map (·.add ((x10_15 : Int).toNat * 1))) := ⟨_, rfl⟩; obtain ⟨c44, hc44⟩ : ∃ c1, c1 = co17 - (x10_15 : Int).toNat := ⟨_, rfl⟩; have hy44 : y203.length = x7_1.length - (x10_15 : Int).toNat := (by rw [Ny203.out, List.length_drop] <;> omega); rw [show (x7_1).drop (x10_15 : Int).toNat = y203 from Ny203.out.symm] at hr44; replace hr44 : Kd.F (Kd.int .u8) _ _ A44 y203.length y203 := (by rw [hA44]; exact hr44); rw [← hy44, ← hA44, ← hc44] at hcut44; have HO207 := Aside0.mk (show Kd.V (Kd.int .u8) 5 _ w.heap.size _ (.slice A44 y203.length c44) y203 from Kd.V_mk (by rw [hy44, hc44]; exact Nat.sub_le_sub_right hroom44 _) hr44); have HC207 := Aside0.mk (show y203.length ≤ c44 from by rw [hy44, hc44]; exact Nat.sub_le_sub_right hroom44 _); clear hr44 hC44 hroom44 hi044 hsz44 hc44; have KY44 := Aside0.mk hy44; have KA44 := Aside0.mk hA44; clear hy44 hA44; replace q44 := eq_true q44))
                                      go_roundg kj18
                                      case measure => have := HK1.out; have := HJ4.out; have := HJ8.out; have := HJ15.out; have := HJ18.out; omega
                                      case rel => exact ⟨(y200), (y203), (false), (by first | rfl | (simp; done) | (simp [*]; done) | (simp; omega)), H', ⟨by have := HK1.out; have := HJ4.out; have := HJ8.out; have := HJ15.out; have := HJ18.out; omega⟩, ⟨by (with_reducible repeat (first | apply Kd.R_alloc | apply Kd.R_drewN | apply Kd.R_drew)); exact Kd.R_mono HO202.out (fun _ hk => hk.1)⟩, ⟨by (with_reducible repeat (first | apply Kd.V_alloc | apply Kd.V_drewN | apply Kd.V_drew)); exact Kd.V_mono HO207.out (fun _ hk => ⟨hk.1.1, hk.2⟩)⟩, ⟨by repeat (first | (with_reducible first | exact HB.out | apply below_alloc | apply pw_below_drewN | apply below_drew1) | exact HB.out)⟩⟩
                                    · rw [if_neg c37] at H
                                      exact absurd H (by simp)
                                  · rw [if_neg c35] at H
                                    exact absurd H (by simp)
                                · rw [if_neg c34] at H
                                  exact absurd H (by simp)
                              · replace c33 := Bool.eq_false_iff.mpr c33
                                subst c33
                                have H1 : (if x10_15 = (x7_1.length : Int) then (if 0 ≤ x10_15 then (if x10_15 ≤ (x7_1.length : Int) then ((staddleref09_piece.f kj18 4 (x7_1.take (x10_15 : Int).toNat)).bind fun t213 => (if x6_8.length + t213.length < 140737488355328 then (staddleref09_Put.l0 kj18 (Int.tmod a0 128) (x6_8 ++ t213) (x7_1.drop (x10_15 : Int).toNat) false) else (none))) else (none)) else (none)) else (if 0 ≤ x10_15 then (if x10_15 ≤ (x7_1.length : Int) then ((staddleref09_piece.f kj18 3 (x7_1.take (x10_15 : Int).toNat)).bind fun t229 => (if x6_8.length + t229.length < 140737488355328 then (staddleref09_Put.l0 kj18 (Int.tmod a0 128) (x6_8 ++ t229) (x7_1.drop (x10_15 : Int).toNat) false) else (none))) else (none)) else (none))) = some (r1, r2) := by rw [if_neg (show ¬ (false = true) by decide)] at H; exact H
                                clear H
                                have H := H1
                                clear H1
                                by_cases c45 : x10_15 = (x7_1.length : Int)
                                · rw [if_pos c45] at H
                                  have c45b0 : (x10_15 == (x7_1.length : Int)) = true := beq_iff_eq.mpr c45
                                  have c45b1 : (x10_15 != (x7_1.length : Int)) = false := bne_eq_false_iff_eq.mpr c45
                                  clear c45
                                  by_cases c46 : 0 ≤ x10_15
                                  · rw [if_pos c46] at H
                                    have c46b0 := eq_true c46
                                    have c46b1 : decide (0 ≤ x10_15) = true := decide_eq_true c46
                                    clear c46
                                    by_cases c47 : x10_15 ≤ (x7_1.length : Int)
                                    · rw [if_pos c47] at H
                                      have c47b0 := eq_true c47
                                      have c47b1 : decide (x10_15 ≤ (x7_1.length : Int)) = true := decide_eq_true c47
                                      clear c47
                                      obtain ⟨y208, hy208⟩ : ∃ y_ : List Int, y_ = (x7_1.take (x10_15 : Int).toNat) := ⟨_, rfl⟩
                                      replace H : ((staddleref09_piece.f kj18 4 y208).bind fun t213 => (if x6_8.length + t213.length < 140737488355328 then (staddleref09_Put.l0 kj18 (Int.tmod a0 128) (x6_8 ++ t213) (x7_1.drop (x10_15 : Int).toNat) false) else (none))) = some (r1, r2) := by first | (rw [hy208]; with_reducible exact H) | (have H2_ := (Option.bind_some _ _).symm.trans H; rw [hy208]; with_reducible exact H2_) | (have H2_ := (Option.bind_some _ _).symm.trans H; with_reducible exact H2_) | with_reducible exact H | (rw [hy208]; exact H) | exact H
                                      have Ny208 := Aside0.mk hy208
                                      clear hy208
                                      replace H := Option.bind_eq_some_iff.mp H
                                      obtain ⟨t213, A480, H⟩ := H
                                      replace H : (if x6_8.length + t213.length < 140737488355328 then (staddleref09_Put.l0 kj18 (Int.tmod a0 128) (x6_8 ++ t213) (x7_1.drop (x10_15 : Int).toNat) false) else (none)) = some (r1, r2) := H
                                      have A48 := Aside0.mk A480
                                      clear A480
                                      by_cases c49 : x6_8.length + t213.length < 140737488355328
                                      · rw [if_pos c49] at H
                                        have LMc49 := Aside0.mk c49
                                        clear c49
                                        obtain ⟨y216, hy216⟩ : ∃ y_ : List Int, y_ = (x6_8 ++ t213) := ⟨_, rfl⟩
                                        replace H : (staddleref09_Put.l0 kj18 (Int.tmod a0 128) y216 (x7_1.drop (x10_15 : Int).toNat) false) = some (r1, r2) := by first | (rw [hy216]; with_reducible exact H) | (have H2_ := (Option.bind_some _ _).symm.trans H; rw [hy216]; with_reducible exact H2_) | (have H2_ := (Option.bind_some _ _).symm.trans H; with_reducible exact H2_) | with_reducible exact H | (rw [hy216]; exact H) | exact H
                                        have Ny216 := Aside0.mk hy216
                                        clear hy216
                                        have c50b0 := eq_true (of_decide_eq_true (by first | (with_reducible assumption) | assumption) : 0 ≤ x10_15)
                                        have c51b0 := eq_true (of_decide_eq_true (by first | (with_reducible assumption) | assumption) : x10_15 ≤ (x7_1.length : Int))
                                        obtain ⟨y219, hy219⟩ : ∃ y_ : List Int, y_ = (x7_1.drop (x10_15 : Int).toNat) := ⟨_, rfl⟩
                                        replace H : (staddleref09_Put.l0 kj18 (Int.tmod a0 128) y216 y219 false) = some (r1, r2) := by first | (rw [hy219]; with_reducible exact H) | (have H2_ := (Option.bind_some _ _).symm.trans H; rw [hy219]; with_reducible exact H2_) | (have H2_ := (Option.bind_some _ _).symm.trans H; with_reducible exact H2_) | with_reducible exact H | (rw [hy219]; exact H) | exact H
                                        have Ny219 := Aside0.mk hy219
                                        clear hy219
                                        have H' := Aside0.mk H
                                        clear H
                                        have q52 : (x10_15 : Int) ≤ ((x7_1.length : Int) : Int) := of_decide_eq_true (by first | (with_reducible assumption) | assumption)
                                        obtain ⟨i052, hi052, _, hsz52, _⟩ := info_parts info5
                                        have hroom52 : x7_1.length ≤ co17 := (Kd.V_reads' HO_7.out).2.1
                                        have hC52 : Kd.F (Kd.int .u8) _ _ Ao17 x7_1.length x7_1 := (Kd.V_at (base := w.heap.size) HO_7.out).2.2
                                        have hcut52 := cut_to (P := Try.prog) 23 5 .i64 Try.underlying23 hi052 Ao17 x7_1.length co17 x10_15 (of_decide_eq_true (by first | (with_reducible assumption) | assumption)) q52 hroom52
                                        have hr52 := Kd.F_take (m := (x10_15 : Int).toNat) hC52 (by omega)
                                        have hy52 : y208.length = (x10_15 : Int).toNat := (by rw [Ny208.out, List.length_take]; omega)
                                        rw [← Ny208.out] at hr52
                                        rw [← hy52] at hcut52
                                        have HO212 := Aside0.mk (show Kd.V (Kd.int .u8) 5 _ w.heap.size _ (.slice Ao17 y208.length co17) y208 from Kd.V_mk (by omega) hr52)
                                        have HC212 := Aside0.mk (show y208.length ≤ co17 from by omega)
                                        clear hr52 hC52 hroom52 hi052 hsz52
                                        have KY52 := Aside0.mk hy52
                                        clear hy52
                                        replace q52 := eq_true q52
                                        go_wp2_with (first | ((with_reducible refine gate_callee (f := 17) rfl ?_); refine goesL_ (some 62) rfl rfl Try.func17 (by kernel_rfl) rfl #[.int .u8 4, .slice Ao17 y208.length co17] rfl (by (try simp only [List.map_toArray, List.map_cons, List.map_nil]); first | done | rfl | (simp only [List.length_drop, List.length_take]; rfl)) ?_; (with_reducible refine (staddleref09_piece.calls kj18 4 _ _ y208 t213 _ ?side1 ?side2 A48.out).mono ?_); (case side1 => repeat (first | exact (Kd.V_reads' HO212.out).2.2 | (with_reducible refine Kd.C_alloc ?_ _) | (with_reducible refine Kd.C_drewN ?_ _) | (with_reducible refine Kd.C_drew ?_))); (case side2 => exact (Kd.V_reads' HO212.out).2.1); rintro e w53 ⟨v214, rfl, ho0, hb⟩; refine ⟨_, rfl, ?_⟩; have n0_ := Aside0.mk (Kd.R_elder' (by (with_reducible repeat (first | apply Kd.R_alloc | apply Kd.R_drewN | apply Kd.R_drew)); exact HO_6.out) (Kd.R_base ho0) hb); have n1_ := Aside0.mk (Kd.V_elder' (by (with_reducible repeat (first | apply Kd.V_alloc | apply Kd.V_drewN | apply Kd.V_drew)); exact HO_7.out) (Kd.R_base ho0) hb); have n2_ := Aside0.mk (Kd.V_elder' (by (with_reducible repeat (first | apply Kd.V_alloc | apply Kd.V_drewN | apply Kd.V_drew)); exact HO212.out) (Kd.R_base ho0) hb); have n3_ := Aside0.mk (Kd.R_lower (Kd.R_new' (Kd.R_newM (M := fun k_ => (w.heap.size ≤ k_)) ho0 (below_size (by repeat (first | (with_reducible first | exact HB.out | apply below_alloc | apply pw_below_drewN | apply below_drew1) | exact HB.out))) (fun k_ h_ => h_)) (Kd.R_lt (by (with_reducible repeat (first | apply Kd.R_alloc | apply Kd.R_drewN | apply Kd.R_drew)); exact HO_6.out))) (below_size (by repeat (first | (with_reducible first | exact HB.out | apply below_alloc | apply pw_below_drewN | apply below_drew1) | exact HB.out)))); have n4_ := Aside0.mk (below_step (by repeat (first | (with_reducible first | exact HB.out | apply below_alloc | apply pw_below_drewN | apply below_drew1) | exact HB.out)) hb); clear HO_6; clear HO_7; clear HO212; clear HB; have HO_6 := n0_; have HO_7 := n1_; have HO212 := n2_; have HO215 := n3_; have HB := n4_; clear n0_ n1_ n2_ n3_ n4_; (try clear hb); (try clear hb2); (try clear hk); (try clear hi); (try clear ho0); obtain ⟨Ao55, co55, eo55⟩ := Kd.R_slice HO215.out; subst eo55) | ((with_reducible refine gate_builtin (b := .append) (xs := #[.tmp 57, .tmp 62]) rfl ?_); (try (refine gate_guard (by rfl) ?_; dsimp only)); at_builtin; refine Kd.R_append_rows (Kd.int .u8) (w0 := w) w.heap.size rfl (.tmp 57) (.tmp 62) 23 5 (.int .u8 0) 1 rfl Try.underlying23 info5 rfl (by decide) (by omega) u6 x6_8 t213 _ _ _ (fun k_ => (w.heap.size ≤ k_) ∧ some k_ ≠ (.slice Ao55 t213.length co55 : Value).ownBlock) (fun _ => False) rfl rfl ?aO ?aR (fun _ _ h => h) (fun _ h => h.elim) ?aF ?aB ?aS ?aL ?_; (case aR => repeat (first | exact (Kd.R_reads' HO215.out).2.2 | (with_reducible refine Kd.C_alloc ?_ _) | (with_reducible refine Kd.C_drewN ?_ _) | (with_reducible refine Kd.C_drew ?_))); (case aB => exact (by repeat (first | (with_reducible first | exact HB.out | apply below_alloc | apply pw_below_drewN | apply below_drew1) | exact HB.out))); (case aF => exact (fun k_ hk => ⟨(Nat.le_trans (below_size (by repeat (first | (with_reducible first | exact HB.out | apply below_alloc | apply pw_below_drewN | apply below_drew1) | exact HB.out))) hk), Kd.fresh' (Kd.R_lt (by (with_reducible repeat (first | apply Kd.R_alloc | apply Kd.R_drewN | apply Kd.R_drew)); exact HO215.out)) k_ hk⟩)); (case aO => exact (by (with_reducible repeat (first | apply Kd.R_alloc | apply Kd.R_drewN | apply Kd.R_drew)); exact HO_6.out)); (case aS => exact (below_size (by repeat (first | (with_reducible first | exact HB.out | apply below_alloc | apply pw_below_drewN | apply below_drew1) | exact HB.out)))); (case aL => have := LMc49.out; omega); intro v217 w54 ho hb hg hat; rw [← Ny216.out] at ho; have n0_ := Aside0.mk (Kd.V_afterv (ok := (fun k_ => (P1_ k_ ∨ w.heap.size ≤ k_) ∧ some k_ ≠ (.slice Ao55 t213.length co55 : Value).ownBlock)) (by (with_reducible repeat (first | apply Kd.V_alloc | apply Kd.V_drewN | apply Kd.V_drew)); exact Kd.V_mono HO_7.out (fun _ hk => ⟨⟨hk.1.1, hk.2⟩, hk.1.2⟩)) hg hat); have n1_ := Aside0.mk (Kd.V_afterv (ok := (fun k_ => (P1_ k_ ∨ w.heap.size ≤ k_) ∧ some k_ ≠ (.slice Ao55 t213.length co55 : Value).ownBlock)) (by (with_reducible repeat (first | apply Kd.V_alloc | apply Kd.V_drewN | apply Kd.V_drew)); exact Kd.V_mono HO212.out (fun _ hk => ⟨⟨hk.1.1, hk.2⟩, hk.1.2⟩)) hg hat); have n2_ := Aside0.mk (Kd.R_after (ok := (fun k_ => (w.heap.size ≤ k_))) (by (with_reducible repeat (first | apply Kd.R_alloc | apply Kd.R_drewN | apply Kd.R_drew)); exact Kd.R_mono HO215.out (fun _ hk => ⟨hk.1.1, hk.2⟩)) hg hat); have n3_ := Aside0.mk (hb); have n4_ := Aside0.mk (ho); clear HO_7; clear HO212; clear HO215; clear HB; clear HO_6; have HO_7 := n0_; have HO212 := n1_; have HO215 := n2_; have HB := n3_; have HO218 := n4_; clear n0_ n1_ n2_ n3_ n4_; clear ho hb hg hat; have q56 : (x10_15 : Int) ≤ ((x7_1.length : Int) : Int) := of_decide_eq_true (by first | (with_reducible assumption) | assumption); obtain ⟨i056, hi056, _, hsz56, _⟩ := info_parts info5; have hroom56 : x7_1.length ≤ co17 := (Kd.V_reads' HO_7.out).2.1; have hC56 : Kd.F (Kd.int .u8) _ _ Ao17 x7_1.length x7_1 := (Kd.V_at (base := w.heap.size) HO_7.out).2.2; have q056 : (0 : Int) ≤ (x10_15 : Int) := of_decide_eq_true (by first | (with_reducible assumption) | assumption); have hcut56 := cut_from (P := Try.prog) 23 5 .i64 Try.underlying23 hi056 1 hsz56 Ao17 x7_1.length co17 x10_15 q056 q56; have hr56 := Kd.F_cut (m := (x10_15 : Int).toNat) (c := co17) hC56 (by omega) hroom56; obtain ⟨A56, hA56⟩ : ∃ A1, A1 = (if co17 = (x10_15 : Int).toNat then Ao17 else (Ao17 : Option Addr).map (·.add ((x10_15 : Int).toNat * 1))) := ⟨_, rfl⟩; obtain ⟨c56, hc56⟩ : ∃ c1, c1 = co17 - (x10_15 : Int).toNat := ⟨_, rfl⟩; have hy56 : y219.length = x7_1.length - (x10_15 : Int).toNat := (by rw [Ny219.out, List.length_drop] <;> omega); rw [show (x7_1).drop (x10_15 : Int).toNat = y219 from Ny219.out.symm] at hr56; replace hr56 : Kd.F (Kd.int .u8) _ _ A56 y219.length y219 := (by rw [hA56]; exact hr56); rw [← hy56, ← hA56, ← hc56] at hcut56; have HO223 := Aside0.mk (show Kd.V (Kd.int .u8) 5 _ w.heap.size _ (.slice A56 y219.length c56) y219 from Kd.V_mk (by rw [hy56, hc56]; exact Nat.sub_le_sub_right hroom56 _) hr56); have HC223 := Aside0.mk (show y219.length ≤ c56 from by rw [hy56, hc56]; exact Nat.sub_le_sub_right hroom56 _); clear hr56 hC56 hroom56 hi056 hsz56 hc56; have KY56 := Aside0.mk hy56; have KA56 := Aside0.mk hA56; clear hy56 hA56; replace q56 := eq_true q56))
                                        go_roundg kj18
                                        case measure => have := HK1.out; have := HJ4.out; have := HJ8.out; have := HJ15.out; have := HJ18.out; omega
                                        case rel => exact ⟨(y216), (y219), (false), (by first | rfl | (simp; done) | (simp [*]; done) | (simp; omega)), H', ⟨by have := HK1.out; have := HJ4.out; have := HJ8.out; have := HJ15.out; have := HJ18.out; omega⟩, ⟨by (with_reducible repeat (first | apply Kd.R_alloc | apply Kd.R_drewN | apply Kd.R_drew)); exact Kd.R_mono HO218.out (fun _ hk => hk.1)⟩, ⟨by (with_reducible repeat (first | apply Kd.V_alloc | apply Kd.V_drewN | apply Kd.V_drew)); exact Kd.V_mono HO223.out (fun _ hk => ⟨hk.1.1, hk.2⟩)⟩, ⟨by repeat (first | (with_reducible first | exact HB.out | apply below_alloc | apply pw_below_drewN | apply below_drew1) | exact HB.out)⟩⟩
                                      · rw [if_neg c49] at H
                                        exact absurd H (by simp)
                                    · rw [if_neg c47] at H
                                      exact absurd H (by simp)
                                  · rw [if_neg c46] at H
                                    exact absurd H (by simp)
                                · rw [if_neg c45] at H
                                  have c45b0 : (x10_15 == (x7_1.length : Int)) = false := beq_eq_false_iff_ne.mpr c45
                                  have c45b1 : (x10_15 != (x7_1.length : Int)) = true := bne_iff_ne.mpr c45
                                  by_cases c57 : 0 ≤ x10_15
                                  · rw [if_pos c57] at H
                                    have c57b0 := eq_true c57
                                    have c57b1 : decide (0 ≤ x10_15) = true := decide_eq_true c57
                                    clear c57
                                    by_cases c58 : x10_15 ≤ (x7_1.length : Int)
                                    · rw [if_pos c58] at H
                                      have c58b0 := eq_true c58
                                      have c58b1 : decide (x10_15 ≤ (x7_1.length : Int)) = true := decide_eq_true c58
                                      clear c58
                                      obtain ⟨y224, hy224⟩ : ∃ y_ : List Int, y_ = (x7_1.take (x10_15 : Int).toNat) := ⟨_, rfl⟩
                                      replace H : ((staddleref09_piece.f kj18 3 y224).bind fun t229 => (if x6_8.length + t229.length < 140737488355328 then (staddleref09_Put.l0 kj18 (Int.tmod a0 128) (x6_8 ++ t229) (x7_1.drop (x10_15 : Int).toNat) false) else (none))) = some (r1, r2) := by first | (rw [hy224]; with_reducible exact H) | (have H2_ := (Option.bind_some _ _).symm.trans H; rw [hy224]; with_reducible exact H2_) | (have H2_ := (Option.bind_some _ _).symm.trans H; with_reducible exact H2_) | with_reducible exact H | (rw [hy224]; exact H) | exact H
                                      have Ny224 := Aside0.mk hy224
                                      clear hy224
                                      replace H := Option.bind_eq_some_iff.mp H
                                      obtain ⟨t229, A590, H⟩ := H
                                      replace H : (if x6_8.length + t229.length < 140737488355328 then (staddleref09_Put.l0 kj18 (Int.tmod a0 128) (x6_8 ++ t229) (x7_1.drop (x10_15 : Int).toNat) false) else (none)) = some (r1, r2) := H
                                      have A59 := Aside0.mk A590
                                      clear A590
                                      by_cases c60 : x6_8.length + t229.length < 140737488355328
                                      · rw [if_pos c60] at H
                                        have LMc60 := Aside0.mk c60
                                        clear c60
                                        obtain ⟨y232, hy232⟩ : ∃ y_ : List Int, y_ = (x6_8 ++ t229) := ⟨_, rfl⟩
                                        replace H : (staddleref09_Put.l0 kj18 (Int.tmod a0 128) y232 (x7_1.drop (x10_15 : Int).toNat) false) = some (r1, r2) := by first | (rw [hy232]; with_reducible exact H) | (have H2_ := (Option.bind_some _ _).symm.trans H; rw [hy232]; with_reducible exact H2_) | (have H2_ := (Option.bind_some _ _).symm.trans H; with_reducible exact H2_) | with_reducible exact H | (rw [hy232]; exact H) | exact H
                                        have Ny232 := Aside0.mk hy232
                                        clear hy232
                                        have c61b0 := eq_true (of_decide_eq_true (by first | (with_reducible assumption) | assumption) : 0 ≤ x10_15)
                                        have c62b0 := eq_true (of_decide_eq_true (by first | (with_reducible assumption) | assumption) : x10_15 ≤ (x7_1.length : Int))
                                        obtain ⟨y235, hy235⟩ : ∃ y_ : List Int, y_ = (x7_1.drop (x10_15 : Int).toNat) := ⟨_, rfl⟩
                                        replace H : (staddleref09_Put.l0 kj18 (Int.tmod a0 128) y232 y235 false) = some (r1, r2) := by first | (rw [hy235]; with_reducible exact H) | (have H2_ := (Option.bind_some _ _).symm.trans H; rw [hy235]; with_reducible exact H2_) | (have H2_ := (Option.bind_some _ _).symm.trans H; with_reducible exact H2_) | with_reducible exact H | (rw [hy235]; exact H) | exact H
                                        have Ny235 := Aside0.mk hy235
                                        clear hy235
                                        have H' := Aside0.mk H
                                        clear H
                                        have q63 : (x10_15 : Int) ≤ ((x7_1.length : Int) : Int) := of_decide_eq_true (by first | (with_reducible assumption) | assumption)
                                        obtain ⟨i063, hi063, _, hsz63, _⟩ := info_parts info5
                                        have hroom63 : x7_1.length ≤ co17 := (Kd.V_reads' HO_7.out).2.1
                                        have hC63 : Kd.F (Kd.int .u8) _ _ Ao17 x7_1.length x7_1 := (Kd.V_at (base := w.heap.size) HO_7.out).2.2
                                        have hcut63 := cut_to (P := Try.prog) 23 5 .i64 Try.underlying23 hi063 Ao17 x7_1.length co17 x10_15 (of_decide_eq_true (by first | (with_reducible assumption) | assumption)) q63 hroom63
                                        have hr63 := Kd.F_take (m := (x10_15 : Int).toNat) hC63 (by omega)
                                        have hy63 : y224.length = (x10_15 : Int).toNat := (by rw [Ny224.out, List.length_take]; omega)
                                        rw [← Ny224.out] at hr63
                                        rw [← hy63] at hcut63
                                        have HO228 := Aside0.mk (show Kd.V (Kd.int .u8) 5 _ w.heap.size _ (.slice Ao17 y224.length co17) y224 from Kd.V_mk (by omega) hr63)
                                        have HC228 := Aside0.mk (show y224.length ≤ co17 from by omega)
                                        clear hr63 hC63 hroom63 hi063 hsz63
                                        have KY63 := Aside0.mk hy63
                                        clear hy63
                                        replace q63 := eq_true q63
                                        go_wp2_with (first | ((with_reducible refine gate_callee (f := 17) rfl ?_); refine goesL_ (some 62) rfl rfl Try.func17 (by kernel_rfl) rfl #[.int .u8 3, .slice Ao17 y224.length co17] rfl (by (try simp only [List.map_toArray, List.map_cons, List.map_nil]); first | done | rfl | (simp only [List.length_drop, List.length_take]; rfl)) ?_; (with_reducible refine (staddleref09_piece.calls kj18 3 _ _ y224 t229 _ ?side1 ?side2 A59.out).mono ?_); (case side1 => repeat (first | exact (Kd.V_reads' HO228.out).2.2 | (with_reducible refine Kd.C_alloc ?_ _) | (with_reducible refine Kd.C_drewN ?_ _) | (with_reducible refine Kd.C_drew ?_))); (case side2 => exact (Kd.V_reads' HO228.out).2.1); rintro e w64 ⟨v230, rfl, ho0, hb⟩; refine ⟨_, rfl, ?_⟩; have n0_ := Aside0.mk (Kd.R_elder' (by (with_reducible repeat (first | apply Kd.R_alloc | apply Kd.R_drewN | apply Kd.R_drew)); exact HO_6.out) (Kd.R_base ho0) hb); have n1_ := Aside0.mk (Kd.V_elder' (by (with_reducible repeat (first | apply Kd.V_alloc | apply Kd.V_drewN | apply Kd.V_drew)); exact HO_7.out) (Kd.R_base ho0) hb); have n2_ := Aside0.mk (Kd.V_elder' (by (with_reducible repeat (first | apply Kd.V_alloc | apply Kd.V_drewN | apply Kd.V_drew)); exact HO228.out) (Kd.R_base ho0) hb); have n3_ := Aside0.mk (Kd.R_lower (Kd.R_new' (Kd.R_newM (M := fun k_ => (w.heap.size ≤ k_)) ho0 (below_size (by repeat (first | (with_reducible first | exact HB.out | apply below_alloc | apply pw_below_drewN | apply below_drew1) | exact HB.out))) (fun k_ h_ => h_)) (Kd.R_lt (by (with_reducible repeat (first | apply Kd.R_alloc | apply Kd.R_drewN | apply Kd.R_drew)); exact HO_6.out))) (below_size (by repeat (first | (with_reducible first | exact HB.out | apply below_alloc | apply pw_below_drewN | apply below_drew1) | exact HB.out)))); have n4_ := Aside0.mk (below_step (by repeat (first | (with_reducible first | exact HB.out | apply below_alloc | apply pw_below_drewN | apply below_drew1) | exact HB.out)) hb); clear HO_6; clear HO_7; clear HO228; clear HB; have HO_6 := n0_; have HO_7 := n1_; have HO228 := n2_; have HO231 := n3_; have HB := n4_; clear n0_ n1_ n2_ n3_ n4_; (try clear hb); (try clear hb2); (try clear hk); (try clear hi); (try clear ho0); obtain ⟨Ao66, co66, eo66⟩ := Kd.R_slice HO231.out; subst eo66) | ((with_reducible refine gate_builtin (b := .append) (xs := #[.tmp 57, .tmp 62]) rfl ?_); (try (refine gate_guard (by rfl) ?_; dsimp only)); at_builtin; refine Kd.R_append_rows (Kd.int .u8) (w0 := w) w.heap.size rfl (.tmp 57) (.tmp 62) 23 5 (.int .u8 0) 1 rfl Try.underlying23 info5 rfl (by decide) (by omega) u6 x6_8 t229 _ _ _ (fun k_ => (w.heap.size ≤ k_) ∧ some k_ ≠ (.slice Ao66 t229.length co66 : Value).ownBlock) (fun _ => False) rfl rfl ?aO ?aR (fun _ _ h => h) (fun _ h => h.elim) ?aF ?aB ?aS ?aL ?_; (case aR => repeat (first | exact (Kd.R_reads' HO231.out).2.2 | (with_reducible refine Kd.C_alloc ?_ _) | (with_reducible refine Kd.C_drewN ?_ _) | (with_reducible refine Kd.C_drew ?_))); (case aB => exact (by repeat (first | (with_reducible first | exact HB.out | apply below_alloc | apply pw_below_drewN | apply below_drew1) | exact HB.out))); (case aF => exact (fun k_ hk => ⟨(Nat.le_trans (below_size (by repeat (first | (with_reducible first | exact HB.out | apply below_alloc | apply pw_below_drewN | apply below_drew1) | exact HB.out))) hk), Kd.fresh' (Kd.R_lt (by (with_reducible repeat (first | apply Kd.R_alloc | apply Kd.R_drewN | apply Kd.R_drew)); exact HO231.out)) k_ hk⟩)); (case aO => exact (by (with_reducible repeat (first | apply Kd.R_alloc | apply Kd.R_drewN | apply Kd.R_drew)); exact HO_6.out)); (case aS => exact (below_size (by repeat (first | (with_reducible first | exact HB.out | apply below_alloc | apply pw_below_drewN | apply below_drew1) | exact HB.out)))); (case aL => have := LMc60.out; omega); intro v233 w65 ho hb hg hat; rw [← Ny232.out] at ho; have n0_ := Aside0.mk (Kd.V_afterv (ok := (fun k_ => (P1_ k_ ∨ w.heap.size ≤ k_) ∧ some k_ ≠ (.slice Ao66 t229.length co66 : Value).ownBlock)) (by (with_reducible repeat (first | apply Kd.V_alloc | apply Kd.V_drewN | apply Kd.V_drew)); exact Kd.V_mono HO_7.out (fun _ hk => ⟨⟨hk.1.1, hk.2⟩, hk.1.2⟩)) hg hat); have n1_ := Aside0.mk (Kd.V_afterv (ok := (fun k_ => (P1_ k_ ∨ w.heap.size ≤ k_) ∧ some k_ ≠ (.slice Ao66 t229.length co66 : Value).ownBlock)) (by (with_reducible repeat (first | apply Kd.V_alloc | apply Kd.V_drewN | apply Kd.V_drew)); exact Kd.V_mono HO228.out (fun _ hk => ⟨⟨hk.1.1, hk.2⟩, hk.1.2⟩)) hg hat); have n2_ := Aside0.mk (Kd.R_after (ok := (fun k_ => (w.heap.size ≤ k_))) (by (with_reducible repeat (first | apply Kd.R_alloc | apply Kd.R_drewN | apply Kd.R_drew)); exact Kd.R_mono HO231.out (fun _ hk => ⟨hk.1.1, hk.2⟩)) hg hat); have n3_ := Aside0.mk (hb); have n4_ := Aside0.mk (ho); clear HO_7; clear HO228; clear HO231; clear HB; clear HO_6; have HO_7 := n0_; have HO228 := n1_; have HO231 := n2_; have HB := n3_; have HO234 := n4_; clear n0_ n1_ n2_ n3_ n4_; clear ho hb hg hat; have q67 : (x10_15 : Int) ≤ ((x7_1.length : Int) : Int) := of_decide_eq_true (by first | (with_reducible assumption) | assumption); obtain ⟨i067, hi067, _, hsz67, _⟩ := info_parts info5; have hroom67 : x7_1.length ≤ co17 := (Kd.V_reads' HO_7.out).2.1; have hC67 : Kd.F (Kd.int .u8) _ _ Ao17 x7_1.length x7_1 := (Kd.V_at (base := w.heap.size) HO_7.out).2.2; have q067 : (0 : Int) ≤ (x10_15 : Int) := of_decide_eq_true (by first | (with_reducible assumption) | assumption); have hcut67 := cut_from (P := Try.prog) 23 5 .i64 Try.underlying23 hi067 1 hsz67 Ao17 x7_1.length co17 x10_15 q067 q67; have hr67 := Kd.F_cut (m := (x10_15 : Int).toNat) (c := co17) hC67 (by omega) hroom67; obtain ⟨A67, hA67⟩ : ∃ A1, A1 = (if co17 = (x10_15 : Int).toNat then Ao17 else (Ao17 : Option Addr).map (·.add ((x10_15 : Int).toNat * 1))) := ⟨_, rfl⟩; obtain ⟨c67, hc67⟩ : ∃ c1, c1 = co17 - (x10_15 : Int).toNat := ⟨_, rfl⟩; have hy67 : y235.length = x7_1.length - (x10_15 : Int).toNat := (by rw [Ny235.out, List.length_drop] <;> omega); rw [show (x7_1).drop (x10_15 : Int).toNat = y235 from Ny235.out.symm] at hr67; replace hr67 : Kd.F (Kd.int .u8) _ _ A67 y235.length y235 := (by rw [hA67]; exact hr67); rw [← hy67, ← hA67, ← hc67] at hcut67; have HO239 := Aside0.mk (show Kd.V (Kd.int .u8) 5 _ w.heap.size _ (.slice A67 y235.length c67) y235 from Kd.V_mk (by rw [hy67, hc67]; exact Nat.sub_le_sub_right hroom67 _) hr67); have HC239 := Aside0.mk (show y235.length ≤ c67 from by rw [hy67, hc67]; exact Nat.sub_le_sub_right hroom67 _); clear hr67 hC67 hroom67 hi067 hsz67 hc67; have KY67 := Aside0.mk hy67; have KA67 := Aside0.mk hA67; clear hy67 hA67; replace q67 := eq_true q67))
                                        go_roundg kj18
                                        case measure => have := HK1.out; have := HJ4.out; have := HJ8.out; have := HJ15.out; have := HJ18.out; omega
                                        case rel => exact ⟨(y232), (y235), (false), (by first | rfl | (simp; done) | (simp [*]; done) | (simp; omega)), H', ⟨by have := HK1.out; have := HJ4.out; have := HJ8.out; have := HJ15.out; have := HJ18.out; omega⟩, ⟨by (with_reducible repeat (first | apply Kd.R_alloc | apply Kd.R_drewN | apply Kd.R_drew)); exact Kd.R_mono HO234.out (fun _ hk => hk.1)⟩, ⟨by (with_reducible repeat (first | apply Kd.V_alloc | apply Kd.V_drewN | apply Kd.V_drew)); exact Kd.V_mono HO239.out (fun _ hk => ⟨hk.1.1, hk.2⟩)⟩, ⟨by repeat (first | (with_reducible first | exact HB.out | apply below_alloc | apply pw_below_drewN | apply below_drew1) | exact HB.out)⟩⟩
                                      · rw [if_neg c60] at H
                                        exact absurd H (by simp)
                                    · rw [if_neg c58] at H
                                      exact absurd H (by simp)
                                  · rw [if_neg c57] at H
                                    exact absurd H (by simp)
              · replace c8 := Bool.eq_false_iff.mpr c8
                subst c8
                have H1 : (some (x6_1, 0)) = some (r1, r2) := by rw [if_neg (show ¬ (false = true) by decide)] at H; exact H
                clear H
                have H := H1
                clear H1
                simp only [Option.some.injEq, Prod.mk.injEq] at H
                obtain ⟨rfl, rfl⟩ := H
                go_wp2
                go_ret2
                exact ⟨_, by first | rfl | (simp [errW_none, errW_some] <;> rfl) | (simp [*, errW_none, errW_some] <;> rfl), by (with_reducible repeat (first | apply Kd.R_alloc | apply Kd.R_drewN | apply Kd.R_drew)); exact HO_6.out, by repeat (first | (with_reducible first | exact HB.out | apply below_alloc | apply pw_below_drewN | apply below_drew1) | exact HB.out)⟩

end Go.Proofs.Ytejhmfimfgjmhaa.P
