-- By this session's wip/hprint.py: the kit's print.py with functions by hand beside it. Not trusted: Lean checks it.
import Derived.Test.YtlbnibkmjiapaaaP0
import Derived.Test.YtlbnibkmjiapaaaP6
import Derived.Test.YtlbnibkmjiapaaaP7
namespace Go.Proofs.Ytlbnibkmjiapaaa.P
open Go.RowKit Go.Proofs.YtlbnibkmjiapaaaW.PrintWords Go.Proofs.YtlbnibkmjiapaaaW.PrintLast Go.Proofs.YtlbnibkmjiapaaaW.PrintMore
attribute [local go_sem] max2_int min2_int max_two min_two max_three min_three max_four min_four   -- for this text's walks alone
set_option linter.unusedVariables false
set_option linter.unusedSimpArgs false
theorem h_totP17 : ∀ x y : List UInt8, (!(Op.bytesLess x y || x == y)) = Op.bytesLess y x
  | [], [] => by simp [Op.bytesLess]
  | [], b :: m => by simp [Op.bytesLess]
  | a :: l, [] => by simp [Op.bytesLess]
  | a :: l, b :: m => by
    have ih := h_totP17 l m
    by_cases h1 : a < b
    · have h2 : ¬ b < a := fun h => by rw [UInt8.lt_iff_toNat_lt] at h h1; omega
      have h3 : b ≠ a := fun e => by subst e; exact UInt8.lt_irrefl _ h1
      simp [Op.bytesLess, h1, h2, h3]
    · by_cases h2 : b < a
      · have h3 : a ≠ b := fun e => by subst e; exact UInt8.lt_irrefl _ h2
        simp [Op.bytesLess, h1, h2, h3]
      · have h3 : a = b := UInt8.toNat_inj.1 (by rw [UInt8.lt_iff_toNat_lt] at h1 h2; omega)
        subst h3
        simpa [Op.bytesLess, h1] using ih
theorem h_gtrP17 (t : TypeId) (a b : ByteArray) : binOp .gtr t (.string a) (.string b) = pure (.bool (Op.bytesLess b.toList a.toList)) := by rw [← h_totP17]; simp [binOp, Op.stringOp]
theorem h_geqP17 (t : TypeId) (a b : ByteArray) : binOp .geq t (.string a) (.string b) = pure (.bool (!Op.bytesLess a.toList b.toList)) := by simp [binOp, Op.stringOp]
attribute [local go_sem] h_gtrP17 h_geqP17

/-! ### staddlelaw02_IkeyShort: function 8 -/
def staddlelaw02_IkeyShort.j0 : Nat → ByteArray → ByteArray → Bool → ByteArray → Bool → Option (Bool)
  | 0, _, _, _, _, _ => none
  | k + 1, x0, x1, x5, x6, x30 => if x30 = true then (some false) else (if (Op.bytesLess x0.toList x1.toList) = true then (if x5 = true then (if ((Op.bytesLess x6.toList x0.toList) = true) then (some false) else (some (Op.bytesLess x6.toList x1.toList))) else (some false)) else (if x5 = true then (some (x6.toList == x0.toList)) else (some false)))
def staddlelaw02_IkeyShort.f (k : Nat) (a0 : ByteArray) (a1 : ByteArray) : Option (Bool) := (staddlelaw02_awake.f k).bind fun t241 => ((ikey_Between.f k a0 a1).bind fun t242 => ((ikey_Behind.f k a0).bind fun t243 => (if (t242.size : Int) > (a0.size : Int) then (staddlelaw02_IkeyShort.j0 k a0 a1 t241 t242 true) else (if (t243.size : Int) > (a0.size : Int) then (staddlelaw02_IkeyShort.j0 k a0 a1 t241 t242 true) else (staddlelaw02_IkeyShort.j0 k a0 a1 t241 t242 (Op.bytesLess t243.toList a0.toList))))))
theorem staddlelaw02_IkeyShort.mono_l : ∀ k, (∀ y0 y1 y2 y3 y4, LeO (staddlelaw02_IkeyShort.j0 k y0 y1 y2 y3 y4) (staddlelaw02_IkeyShort.j0 (k + 1) y0 y1 y2 y3 y4))
  | 0 => fun _ _ _ _ _ r h => by simp [staddlelaw02_IkeyShort.j0] at h
  | k + 1 => by
    have ih0 := staddlelaw02_IkeyShort.mono_l k
    · intro y0 y1 y2 y3 y4
      unfold staddlelaw02_IkeyShort.j0
      repeat' first
      | (with_reducible exact ih0 _ _ _ _ _)
      | (with_reducible exact ikey_Behind.mono _ _)
      | (with_reducible exact ikey_Between.mono _ _ _)
      | (with_reducible exact staddlelaw02_awake.mono _)
      | (with_reducible exact LeO.refl _)
      | (with_reducible exact LeO.none _)
      | (with_reducible refine LeO.ite ?_ ?_)
      | (with_reducible refine LeO.bind ?_ (fun _ => ?_))
      | exact ih0 _ _ _ _ _
      | exact ikey_Behind.mono _ _
      | exact ikey_Between.mono _ _ _
      | exact staddlelaw02_awake.mono _
      | exact LeO.none _
      | refine LeO.ite ?_ ?_
      | refine LeO.bind ?_ (fun _ => ?_)
theorem staddlelaw02_IkeyShort.mono : ∀ a0 a1 k, LeO (staddlelaw02_IkeyShort.f k a0 a1) (staddlelaw02_IkeyShort.f (k + 1) a0 a1) := by
  intro a0 a1 k
  have ih0 := staddlelaw02_IkeyShort.mono_l k
  unfold staddlelaw02_IkeyShort.f
  repeat' first
      | (with_reducible exact ih0 _ _ _ _ _)
      | (with_reducible exact ikey_Behind.mono _ _)
      | (with_reducible exact ikey_Between.mono _ _ _)
      | (with_reducible exact staddlelaw02_awake.mono _)
      | (with_reducible exact LeO.refl _)
      | (with_reducible exact LeO.none _)
      | (with_reducible refine LeO.ite ?_ ?_)
      | (with_reducible refine LeO.bind ?_ (fun _ => ?_))
      | exact ih0 _ _ _ _ _
      | exact ikey_Behind.mono _ _
      | exact ikey_Between.mono _ _ _
      | exact staddlelaw02_awake.mono _
      | exact LeO.none _
      | refine LeO.ite ?_ ?_
      | refine LeO.bind ?_ (fun _ => ?_)
set_option maxHeartbeats 8000000 in
set_option maxRecDepth 100000 in
theorem staddlelaw02_IkeyShort.calls (k : Nat) (a0 : ByteArray) (a1 : ByteArray) (r : Bool) (w : World) (h : staddlelaw02_IkeyShort.f k a0 a1 = some r) :
    Calls Try.prog 8 #[.string a0, .string a1] w fun e w' => e = .returned (.bool r) ∧ Below w.heap.size w w' := by
  have HB := Aside0.mk (Below.refl w.heap.size w)
  have H : ((staddlelaw02_awake.f k).bind fun t241 => ((ikey_Between.f k a0 a1).bind fun t242 => ((ikey_Behind.f k a0).bind fun t243 => (if (t242.size : Int) > (a0.size : Int) then (staddlelaw02_IkeyShort.j0 k a0 a1 t241 t242 true) else (if (t243.size : Int) > (a0.size : Int) then (staddlelaw02_IkeyShort.j0 k a0 a1 t241 t242 true) else (staddlelaw02_IkeyShort.j0 k a0 a1 t241 t242 (Op.bytesLess t243.toList a0.toList))))))) = some r := h
  clear h
  replace H := Option.bind_eq_some_iff.mp H
  obtain ⟨t241, A30, H⟩ := H
  replace H : ((ikey_Between.f k a0 a1).bind fun t242 => ((ikey_Behind.f k a0).bind fun t243 => (if (t242.size : Int) > (a0.size : Int) then (staddlelaw02_IkeyShort.j0 k a0 a1 t241 t242 true) else (if (t243.size : Int) > (a0.size : Int) then (staddlelaw02_IkeyShort.j0 k a0 a1 t241 t242 true) else (staddlelaw02_IkeyShort.j0 k a0 a1 t241 t242 (Op.bytesLess t243.toList a0.toList)))))) = some r := H
  have A3 := Aside0.mk A30
  clear A30
  replace H := Option.bind_eq_some_iff.mp H
  obtain ⟨t242, A40, H⟩ := H
  replace H : ((ikey_Behind.f k a0).bind fun t243 => (if (t242.size : Int) > (a0.size : Int) then (staddlelaw02_IkeyShort.j0 k a0 a1 t241 t242 true) else (if (t243.size : Int) > (a0.size : Int) then (staddlelaw02_IkeyShort.j0 k a0 a1 t241 t242 true) else (staddlelaw02_IkeyShort.j0 k a0 a1 t241 t242 (Op.bytesLess t243.toList a0.toList))))) = some r := H
  have A4 := Aside0.mk A40
  clear A40
  replace H := Option.bind_eq_some_iff.mp H
  obtain ⟨t243, A50, H⟩ := H
  replace H : (if (t242.size : Int) > (a0.size : Int) then (staddlelaw02_IkeyShort.j0 k a0 a1 t241 t242 true) else (if (t243.size : Int) > (a0.size : Int) then (staddlelaw02_IkeyShort.j0 k a0 a1 t241 t242 true) else (staddlelaw02_IkeyShort.j0 k a0 a1 t241 t242 (Op.bytesLess t243.toList a0.toList)))) = some r := H
  have A5 := Aside0.mk A50
  clear A50
  have HC6 := Aside0.mk H
  clear H
  go_enter Try.func8, Try.ntmps8
  go_upto_region 4 with (first | ((with_reducible refine gate_callee (f := 10) rfl ?_); refine goesL_ (some 8) rfl rfl Try.func10 (by kernel_rfl) rfl #[] rfl (by (try simp only [List.map_toArray, List.map_cons, List.map_nil]); first | done | rfl | (simp only [List.length_drop, List.length_take]; rfl)) ?_; (with_reducible refine (staddlelaw02_awake.calls k  t241 _ A3.out).mono ?_); rintro e w7 ⟨rfl, hb⟩; refine ⟨_, rfl, ?_⟩; have n0_ := Aside0.mk (below_step (by repeat (first | (with_reducible first | exact HB.out | apply below_alloc | apply pw_below_drewN | apply below_drew1) | exact HB.out)) hb); clear HB; have HB := n0_; clear n0_; (try clear hb); (try clear hb2); (try clear hk); (try clear hi)) | ((with_reducible refine gate_callee (f := 19) rfl ?_); refine goesL_ (some 11) rfl rfl Try.func19 (by kernel_rfl) rfl #[.string a0, .string a1] rfl (by (try simp only [List.map_toArray, List.map_cons, List.map_nil]); first | done | rfl | (simp only [List.length_drop, List.length_take]; rfl)) ?_; (with_reducible refine (ikey_Between.calls k a0 a1 t242 _ A4.out).mono ?_); rintro e w8 ⟨rfl, hb⟩; refine ⟨_, rfl, ?_⟩; have n0_ := Aside0.mk (below_step (by repeat (first | (with_reducible first | exact HB.out | apply below_alloc | apply pw_below_drewN | apply below_drew1) | exact HB.out)) hb); clear HB; have HB := n0_; clear n0_; (try clear hb); (try clear hb2); (try clear hk); (try clear hi)) | ((with_reducible refine gate_callee (f := 21) rfl ?_); refine goesL_ (some 13) rfl rfl Try.func21 (by kernel_rfl) rfl #[.string a0] rfl (by (try simp only [List.map_toArray, List.map_cons, List.map_nil]); first | done | rfl | (simp only [List.length_drop, List.length_take]; rfl)) ?_; (with_reducible refine (ikey_Behind.calls k a0 t243 _ A5.out).mono ?_); rintro e w9 ⟨rfl, hb⟩; refine ⟨_, rfl, ?_⟩; have n0_ := Aside0.mk (below_step (by repeat (first | (with_reducible first | exact HB.out | apply below_alloc | apply pw_below_drewN | apply below_drew1) | exact HB.out)) hb); clear HB; have HB := n0_; clear n0_; (try clear hb); (try clear hb2); (try clear hk); (try clear hi)))
  (try simp only [Act.put, List.setIfInBounds_toArray, List.set_cons_zero, List.set_cons_succ])
  go_cut [30] (fun v30 wc => ∃ (kq : Nat) (x30_5 : Bool), v30 = .bool x30_5 ∧ Aside0 (staddlelaw02_IkeyShort.j0 kq a0 a1 t241 t242 x30_5 = some r) ∧ Aside0 (kq ≤ k) ∧ Aside0 (Below w.heap.size w wc))
  case first =>
    have H := HC6.out
    clear HC6
    by_cases c10 : (t242.size : Int) > (a0.size : Int)
    · rw [if_pos c10] at H
      have c10b0 : decide ((a0.size : Int) < (t242.size : Int)) = true := decide_eq_true c10
      have c10b1 : decide (a0.size < t242.size) = true := decide_eq_true (Int.ofNat_lt.mp c10)
      clear c10
      (first | rw [c10b0] | (simp only [i64_w, i32_w]; rw [c10b0]) | skip)
      have H' := Aside0.mk H
      clear H
      go_wp2
      go_meet
      case rel => exact ⟨_, (true), (by first | rfl | (simp; done) | (simp [*]; done) | (simp; omega)), H', ⟨by first | omega | exact Nat.le_refl _⟩, ⟨by repeat (first | (with_reducible first | exact HB.out | apply below_alloc | apply pw_below_drewN | apply below_drew1) | exact HB.out)⟩⟩
    · rw [if_neg c10] at H
      have c10b0 : decide ((a0.size : Int) < (t242.size : Int)) = false := decide_eq_false c10
      have c10b1 : decide (a0.size < t242.size) = false := decide_eq_false (fun h => c10 (Int.ofNat_lt.mpr h))
      clear c10
      (first | rw [c10b0] | (simp only [i64_w, i32_w]; rw [c10b0]) | skip)
      by_cases c11 : (t243.size : Int) > (a0.size : Int)
      · rw [if_pos c11] at H
        have c11b0 : decide ((a0.size : Int) < (t243.size : Int)) = true := decide_eq_true c11
        have c11b1 : decide (a0.size < t243.size) = true := decide_eq_true (Int.ofNat_lt.mp c11)
        clear c11
        have H' := Aside0.mk H
        clear H
        go_wp2
        go_meet
        case rel => exact ⟨_, (true), (by first | rfl | (simp; done) | (simp [*]; done) | (simp; omega)), H', ⟨by first | omega | exact Nat.le_refl _⟩, ⟨by repeat (first | (with_reducible first | exact HB.out | apply below_alloc | apply pw_below_drewN | apply below_drew1) | exact HB.out)⟩⟩
      · rw [if_neg c11] at H
        have c11b0 : decide ((a0.size : Int) < (t243.size : Int)) = false := decide_eq_false c11
        have c11b1 : decide (a0.size < t243.size) = false := decide_eq_false (fun h => c11 (Int.ofNat_lt.mpr h))
        clear c11
        have H' := Aside0.mk H
        clear H
        go_wp2
        go_meet
        case rel => exact ⟨_, ((Op.bytesLess t243.toList a0.toList)), (by first | rfl | (simp; done) | (simp [*]; done) | (simp; omega)), H', ⟨by first | omega | exact Nat.le_refl _⟩, ⟨by repeat (first | (with_reducible first | exact HB.out | apply below_alloc | apply pw_below_drewN | apply below_drew1) | exact HB.out)⟩⟩
  case rest =>
    clear HC6
    try clear c1
    try clear c2
    try clear p2
    try clear c8
    try clear c10
    try clear c10b0
    try clear c10b1
    try clear c11
    try clear c11b0
    try clear c11b1
    obtain ⟨kq, x30_5, rfl, HA, HJ5, HB⟩ := hcut
    cases kq with
    | zero => exact absurd HA.out (by simp [staddlelaw02_IkeyShort.j0])
    | succ kj5 =>
      have H := HA.out
      clear HA
      simp only [staddlelaw02_IkeyShort.j0] at H
      by_cases c12 : x30_5 = true
      · subst c12
        have H1 : (some false) = some r := by rw [if_pos rfl] at H; exact H
        clear H
        have H := H1
        clear H1
        obtain rfl := Option.some.inj H
        go_wp2
        go_ret
        exact ⟨by first | rfl | (simp [errW_none, errW_some] <;> rfl) | (simp [*, errW_none, errW_some] <;> rfl), by repeat (first | (with_reducible first | exact HB.out | apply below_alloc | apply pw_below_drewN | apply below_drew1) | exact HB.out)⟩
      · replace c12 := Bool.eq_false_iff.mpr c12
        subst c12
        have H1 : (if (Op.bytesLess a0.toList a1.toList) = true then (if t241 = true then (if ((Op.bytesLess t242.toList a0.toList) = true) then (some false) else (some (Op.bytesLess t242.toList a1.toList))) else (some false)) else (if t241 = true then (some (t242.toList == a0.toList)) else (some false))) = some r := by rw [if_neg (show ¬ (false = true) by decide)] at H; exact H
        clear H
        have H := H1
        clear H1
        by_cases c13 : (Op.bytesLess a0.toList a1.toList) = true
        · rw [if_pos c13] at H
          have c13b0 : (Op.bytesLess a0.toList a1.toList) = true := c13
          clear c13
          by_cases c14 : t241 = true
          · subst c14
            have H1 : (if ((Op.bytesLess t242.toList a0.toList) = true) then (some false) else (some (Op.bytesLess t242.toList a1.toList))) = some r := by rw [if_pos rfl] at H; exact H
            clear H
            have H := H1
            clear H1
            by_cases c15 : ((Op.bytesLess t242.toList a0.toList) = true)
            · rw [if_pos c15] at H
              have c15b0 : (Op.bytesLess t242.toList a0.toList) = true := c15
              clear c15
              obtain rfl := Option.some.inj H
              go_wp2
              go_ret
              exact ⟨by first | rfl | (simp [errW_none, errW_some] <;> rfl) | (simp [*, errW_none, errW_some] <;> rfl), by repeat (first | (with_reducible first | exact HB.out | apply below_alloc | apply pw_below_drewN | apply below_drew1) | exact HB.out)⟩
            · rw [if_neg c15] at H
              have c15b0 : (Op.bytesLess t242.toList a0.toList) = false := by simpa using c15
              clear c15
              obtain rfl := Option.some.inj H
              go_wp2
              go_ret
              exact ⟨by first | rfl | (simp [errW_none, errW_some] <;> rfl) | (simp [*, errW_none, errW_some] <;> rfl), by repeat (first | (with_reducible first | exact HB.out | apply below_alloc | apply pw_below_drewN | apply below_drew1) | exact HB.out)⟩
          · replace c14 := Bool.eq_false_iff.mpr c14
            subst c14
            have H1 : (some false) = some r := by rw [if_neg (show ¬ (false = true) by decide)] at H; exact H
            clear H
            have H := H1
            clear H1
            obtain rfl := Option.some.inj H
            go_wp2
            go_ret
            exact ⟨by first | rfl | (simp [errW_none, errW_some] <;> rfl) | (simp [*, errW_none, errW_some] <;> rfl), by repeat (first | (with_reducible first | exact HB.out | apply below_alloc | apply pw_below_drewN | apply below_drew1) | exact HB.out)⟩
        · rw [if_neg c13] at H
          have c13b0 : (Op.bytesLess a0.toList a1.toList) = false := by simpa using c13
          clear c13
          by_cases c16 : t241 = true
          · subst c16
            have H1 : (some (t242.toList == a0.toList)) = some r := by rw [if_pos rfl] at H; exact H
            clear H
            have H := H1
            clear H1
            obtain rfl := Option.some.inj H
            go_wp2
            go_ret
            exact ⟨by first | rfl | (simp [errW_none, errW_some] <;> rfl) | (simp [*, errW_none, errW_some] <;> rfl), by repeat (first | (with_reducible first | exact HB.out | apply below_alloc | apply pw_below_drewN | apply below_drew1) | exact HB.out)⟩
          · replace c16 := Bool.eq_false_iff.mpr c16
            subst c16
            have H1 : (some false) = some r := by rw [if_neg (show ¬ (false = true) by decide)] at H; exact H
            clear H
            have H := H1
            clear H1
            obtain rfl := Option.some.inj H
            go_wp2
            go_ret
            exact ⟨by first | rfl | (simp [errW_none, errW_some] <;> rfl) | (simp [*, errW_none, errW_some] <;> rfl), by repeat (first | (with_reducible first | exact HB.out | apply below_alloc | apply pw_below_drewN | apply below_drew1) | exact HB.out)⟩

/-- THE ONE PURE STATEMENT of staddlelaw02_IkeyShort: yours. -/
def staddlelaw02_IkeyShort.Pure : Prop := ∀ (a0 : ByteArray) (a1 : ByteArray), a0.size ≤ 140737488351232 → a1.size ≤ 140737488351232 → ∃ k, staddlelaw02_IkeyShort.f k a0 a1 = some true
theorem staddlelaw02_IkeyShort.walk (P : staddlelaw02_IkeyShort.Pure) (a0 : ByteArray) (a1 : ByteArray) (w : World) (w0 : a0.size ≤ 140737488351232) (w1 : a1.size ≤ 140737488351232) :
    Calls Try.prog 8 #[.string a0, .string a1] w fun e w' => e = .returned (.bool true) ∧ Below w.heap.size w w' := by
  obtain ⟨k, h⟩ := P a0 a1 w0 w1
  refine (staddlelaw02_IkeyShort.calls k a0 a1 true w h).mono ?_
  rintro e w' ⟨rfl, hd⟩
  exact ⟨rfl, hd⟩

end Go.Proofs.Ytlbnibkmjiapaaa.P
