-- By this session's wip/hprint.py: the kit's print.py with functions by hand beside it. Not trusted: Lean checks it.
import Derived.Test.YthkkbgehmiobaaaP0
import Derived.Test.YthkkbgehmiobaaaP7
import Derived.Test.YthkkbgehmiobaaaP10
import Derived.Test.YthkkbgehmiobaaaP12
import Derived.Test.YthkkbgehmiobaaaP15
import Derived.Test.YthkkbgehmiobaaaP19
import Derived.Test.YthkkbgehmiobaaaP21
namespace Go.Proofs.Ythkkbgehmiobaaa.P
open Go.RowKit Go.Proofs.YthkkbgehmiobaaaW.PrintWords Go.Proofs.YthkkbgehmiobaaaW.PrintLast Go.Proofs.YthkkbgehmiobaaaW.PrintMore
attribute [local go_sem] max2_int min2_int max_two min_two max_three min_three max_four min_four   -- for this text's walks alone
set_option linter.unusedVariables false
set_option linter.unusedSimpArgs false

/-! ### staddlelaw13_EditLays: function 4 -/
def staddlelaw13_EditLays.f (k : Nat) (a0_0 : Int) (a0_1 : Int) (a0_2 : Int) (l0_3 : List (S40)) (l0_4 : List (S44)) : Option (Bool) := (staddlelaw13_awake.f).bind fun t315 => ((some (([] : List (S40)) : List (S40))).bind fun y317 => (if y317.length + l0_3.length < 8796093022208 then ((some (y317 ++ l0_3 : List (S40))).bind fun y320 => ((some (([] : List (S44)) : List (S44))).bind fun y323 => (if y323.length + l0_4.length < 1599289640401 then ((some (y323 ++ l0_4 : List (S44))).bind fun y326 => ((edit_Encode.f k a0_0 a0_1 a0_2 y320 y326).bind fun bt329 => ((staddleref13_Encode.f k a0_0 a0_1 a0_2 l0_3 l0_4).bind fun bt333 => ((staddleref13_Same.f k a0_0 a0_1 a0_2 y320 y326 a0_0 a0_1 a0_2 l0_3 l0_4).bind fun t337 => (if t315 = true then (if t337 = true then (if (strOfNums bt329.1).toList = (strOfNums bt333.1).toList then (if bt329.2 = bt333.2 then ((edit_Check.f k a0_0 a0_1 a0_2 l0_3 l0_4).bind fun t338 => ((staddleref13_Check.f k a0_0 a0_1 a0_2 l0_3 l0_4).bind fun t339 => (some (t338 == t339)))) else (some false)) else (some false)) else (some false)) else (some false)))))) else (none)))) else (none)))
theorem staddlelaw13_EditLays.mono : ∀ a0 a1 a2 a3 a4 k, LeO (staddlelaw13_EditLays.f k a0 a1 a2 a3 a4) (staddlelaw13_EditLays.f (k + 1) a0 a1 a2 a3 a4) := by
  intro a0 a1 a2 a3 a4 k
  unfold staddlelaw13_EditLays.f
  repeat' first
      | (with_reducible exact edit_Check.mono _ _ _ _ _ _)
      | (with_reducible exact edit_Encode.mono _ _ _ _ _ _)
      | (with_reducible exact staddleref13_Check.mono _ _ _ _ _ _)
      | (with_reducible exact staddleref13_Encode.mono _ _ _ _ _ _)
      | (with_reducible exact staddleref13_Same.mono _ _ _ _ _ _ _ _ _ _ _)
      | (with_reducible exact LeO.refl _)
      | (with_reducible exact LeO.none _)
      | (with_reducible refine LeO.ite ?_ ?_)
      | (with_reducible refine LeO.bind ?_ (fun _ => ?_))
      | exact edit_Check.mono _ _ _ _ _ _
      | exact edit_Encode.mono _ _ _ _ _ _
      | exact staddleref13_Check.mono _ _ _ _ _ _
      | exact staddleref13_Encode.mono _ _ _ _ _ _
      | exact staddleref13_Same.mono _ _ _ _ _ _ _ _ _ _ _
      | exact LeO.none _
      | refine LeO.ite ?_ ?_
      | refine LeO.bind ?_ (fun _ => ?_)
def staddlelaw13_EditLays.T8 : Bool × List (List Nat × List Nat) := (true, [([], []), ([0], [0]), ([1], [1]), ([1, 2], [1, 2]), ([3, 1], [3]), ([4], [4]), ([5, 4], [4, 5]), ([4], [4]), ([7, 4], [4, 7]), ([6, 8, 4], [4, 6, 8]), ([4, 9], [4, 9]), ([10, 4], [10]), ([11], [11]), ([11], [11]), ([12, 13, 11], [11, 12, 13]), ([11, 14], [11, 14]), ([15, 11], [15]), ([16], [16]), ([17, 16, 16], [16, 17]), ([16], [16]), ([19, 18, 16], [16, 19]), ([18, 20, 16], [16, 18, 20]), ([16, 21], [16, 21]), ([22, 20, 0, 1, 2, 3, 4, 5, 6, 7, 8, 9, 10, 11, 12, 13, 14, 15, 16, 17, 18, 19, 20, 21, 22], [22])])
def staddlelaw13_EditLays.B8 : List Nat := [0, 1, 3, 7, 15, 31, 63, 31, 159, 511, 1023, 2047, 4095, 4095, 16383, 32767, 65535, 131071, 262143, 131071, 1048575, 2097151, 4194303, 8388607]
theorem staddlelaw13_EditLays.tab8 : rtab .any (opsOf Try.f4 8) = staddlelaw13_EditLays.T8 := by kernel_rfl
theorem staddlelaw13_EditLays.bits8 : waitsOk staddlelaw13_EditLays.T8.2 staddlelaw13_EditLays.B8 = true := by kernel_rfl
set_option maxHeartbeats 8000000 in
set_option maxRecDepth 100000 in
theorem staddlelaw13_EditLays.calls (k : Nat) (a0_0 : Int) (a0_1 : Int) (a0_2 : Int) (A0_3 : Option Addr) (c0_3 : Nat) (l0_3 : List (S40)) (A0_4 : Option Addr) (c0_4 : Nat) (l0_4 : List (S44)) (r : Bool) (w : World) (hr0_3 : Kd.C k40 w A0_3 l0_3.length l0_3) (hc0_3 : l0_3.length ≤ c0_3) (hr0_4 : Kd.C k44 w A0_4 l0_4.length l0_4) (hc0_4 : l0_4.length ≤ c0_4) (h : staddlelaw13_EditLays.f k a0_0 a0_1 a0_2 l0_3 l0_4 = some r) (hr : r = true) :
    Calls Try.prog 4 #[.agg #[.int .u64 a0_0, .int .u64 a0_1, .int .u64 a0_2, .slice A0_3 l0_3.length c0_3, .slice A0_4 l0_4.length c0_4]] w fun e w' => e = .returned (.bool r) ∧ Below w.heap.size w w' := by
  have hu27 := Try.underlying27
  have HR0_3 := Aside0.mk hr0_3
  have HC0_3 := Aside0.mk hc0_3
  clear hr0_3 hc0_3
  have HR0_4 := Aside0.mk hr0_4
  have HC0_4 := Aside0.mk hc0_4
  clear hr0_4 hc0_4
  have HB := Aside0.mk (Below.refl w.heap.size w)
  have H : ((staddlelaw13_awake.f).bind fun t315 => ((some (([] : List (S40)) : List (S40))).bind fun y317 => (if y317.length + l0_3.length < 8796093022208 then ((some (y317 ++ l0_3 : List (S40))).bind fun y320 => ((some (([] : List (S44)) : List (S44))).bind fun y323 => (if y323.length + l0_4.length < 1599289640401 then ((some (y323 ++ l0_4 : List (S44))).bind fun y326 => ((edit_Encode.f k a0_0 a0_1 a0_2 y320 y326).bind fun bt329 => ((staddleref13_Encode.f k a0_0 a0_1 a0_2 l0_3 l0_4).bind fun bt333 => ((staddleref13_Same.f k a0_0 a0_1 a0_2 y320 y326 a0_0 a0_1 a0_2 l0_3 l0_4).bind fun t337 => (if t315 = true then (if t337 = true then (if (strOfNums bt329.1).toList = (strOfNums bt333.1).toList then (if bt329.2 = bt333.2 then ((edit_Check.f k a0_0 a0_1 a0_2 l0_3 l0_4).bind fun t338 => ((staddleref13_Check.f k a0_0 a0_1 a0_2 l0_3 l0_4).bind fun t339 => (some (t338 == t339)))) else (some false)) else (some false)) else (some false)) else (some false)))))) else (none)))) else (none)))) = some r := h
  clear h
  replace H := Option.bind_eq_some_iff.mp H
  obtain ⟨t315, A20, H⟩ := H
  replace H : ((some (([] : List (S40)) : List (S40))).bind fun y317 => (if y317.length + l0_3.length < 8796093022208 then ((some (y317 ++ l0_3 : List (S40))).bind fun y320 => ((some (([] : List (S44)) : List (S44))).bind fun y323 => (if y323.length + l0_4.length < 1599289640401 then ((some (y323 ++ l0_4 : List (S44))).bind fun y326 => ((edit_Encode.f k a0_0 a0_1 a0_2 y320 y326).bind fun bt329 => ((staddleref13_Encode.f k a0_0 a0_1 a0_2 l0_3 l0_4).bind fun bt333 => ((staddleref13_Same.f k a0_0 a0_1 a0_2 y320 y326 a0_0 a0_1 a0_2 l0_3 l0_4).bind fun t337 => (if t315 = true then (if t337 = true then (if (strOfNums bt329.1).toList = (strOfNums bt333.1).toList then (if bt329.2 = bt333.2 then ((edit_Check.f k a0_0 a0_1 a0_2 l0_3 l0_4).bind fun t338 => ((staddleref13_Check.f k a0_0 a0_1 a0_2 l0_3 l0_4).bind fun t339 => (some (t338 == t339)))) else (some false)) else (some false)) else (some false)) else (some false)))))) else (none)))) else (none))) = some r := H
  have A2 := Aside0.mk A20
  clear A20
  obtain ⟨y317, hy317⟩ : ∃ y_ : List (S40), y_ = (([] : List (S40))) := ⟨_, rfl⟩
  replace H : (if y317.length + l0_3.length < 8796093022208 then ((some (y317 ++ l0_3 : List (S40))).bind fun y320 => ((some (([] : List (S44)) : List (S44))).bind fun y323 => (if y323.length + l0_4.length < 1599289640401 then ((some (y323 ++ l0_4 : List (S44))).bind fun y326 => ((edit_Encode.f k a0_0 a0_1 a0_2 y320 y326).bind fun bt329 => ((staddleref13_Encode.f k a0_0 a0_1 a0_2 l0_3 l0_4).bind fun bt333 => ((staddleref13_Same.f k a0_0 a0_1 a0_2 y320 y326 a0_0 a0_1 a0_2 l0_3 l0_4).bind fun t337 => (if t315 = true then (if t337 = true then (if (strOfNums bt329.1).toList = (strOfNums bt333.1).toList then (if bt329.2 = bt333.2 then ((edit_Check.f k a0_0 a0_1 a0_2 l0_3 l0_4).bind fun t338 => ((staddleref13_Check.f k a0_0 a0_1 a0_2 l0_3 l0_4).bind fun t339 => (some (t338 == t339)))) else (some false)) else (some false)) else (some false)) else (some false)))))) else (none)))) else (none)) = some r := by first | (rw [hy317]; with_reducible exact H) | (have H2_ := (Option.bind_some _ _).symm.trans H; rw [hy317]; with_reducible exact H2_) | (have H2_ := (Option.bind_some _ _).symm.trans H; with_reducible exact H2_) | with_reducible exact H | (rw [hy317]; exact H) | exact H
  have Ny317 := Aside0.mk hy317
  clear hy317
  by_cases c3 : y317.length + l0_3.length < 8796093022208
  · rw [if_pos c3] at H
    have LMc3 := Aside0.mk c3
    clear c3
    obtain ⟨y320, hy320⟩ : ∃ y_ : List (S40), y_ = (y317 ++ l0_3) := ⟨_, rfl⟩
    replace H : ((some (([] : List (S44)) : List (S44))).bind fun y323 => (if y323.length + l0_4.length < 1599289640401 then ((some (y323 ++ l0_4 : List (S44))).bind fun y326 => ((edit_Encode.f k a0_0 a0_1 a0_2 y320 y326).bind fun bt329 => ((staddleref13_Encode.f k a0_0 a0_1 a0_2 l0_3 l0_4).bind fun bt333 => ((staddleref13_Same.f k a0_0 a0_1 a0_2 y320 y326 a0_0 a0_1 a0_2 l0_3 l0_4).bind fun t337 => (if t315 = true then (if t337 = true then (if (strOfNums bt329.1).toList = (strOfNums bt333.1).toList then (if bt329.2 = bt333.2 then ((edit_Check.f k a0_0 a0_1 a0_2 l0_3 l0_4).bind fun t338 => ((staddleref13_Check.f k a0_0 a0_1 a0_2 l0_3 l0_4).bind fun t339 => (some (t338 == t339)))) else (some false)) else (some false)) else (some false)) else (some false)))))) else (none))) = some r := by first | (rw [hy320]; with_reducible exact H) | (have H2_ := (Option.bind_some _ _).symm.trans H; rw [hy320]; with_reducible exact H2_) | (have H2_ := (Option.bind_some _ _).symm.trans H; with_reducible exact H2_) | with_reducible exact H | (rw [hy320]; exact H) | exact H
    have Ny320 := Aside0.mk hy320
    clear hy320
    obtain ⟨y323, hy323⟩ : ∃ y_ : List (S44), y_ = (([] : List (S44))) := ⟨_, rfl⟩
    replace H : (if y323.length + l0_4.length < 1599289640401 then ((some (y323 ++ l0_4 : List (S44))).bind fun y326 => ((edit_Encode.f k a0_0 a0_1 a0_2 y320 y326).bind fun bt329 => ((staddleref13_Encode.f k a0_0 a0_1 a0_2 l0_3 l0_4).bind fun bt333 => ((staddleref13_Same.f k a0_0 a0_1 a0_2 y320 y326 a0_0 a0_1 a0_2 l0_3 l0_4).bind fun t337 => (if t315 = true then (if t337 = true then (if (strOfNums bt329.1).toList = (strOfNums bt333.1).toList then (if bt329.2 = bt333.2 then ((edit_Check.f k a0_0 a0_1 a0_2 l0_3 l0_4).bind fun t338 => ((staddleref13_Check.f k a0_0 a0_1 a0_2 l0_3 l0_4).bind fun t339 => (some (t338 == t339)))) else (some false)) else (some false)) else (some false)) else (some false)))))) else (none)) = some r := by first | (rw [hy323]; with_reducible exact H) | (have H2_ := (Option.bind_some _ _).symm.trans H; rw [hy323]; with_reducible exact H2_) | (have H2_ := (Option.bind_some _ _).symm.trans H; with_reducible exact H2_) | with_reducible exact H | (rw [hy323]; exact H) | exact H
    have Ny323 := Aside0.mk hy323
    clear hy323
    by_cases c4 : y323.length + l0_4.length < 1599289640401
    · rw [if_pos c4] at H
      have LMc4 := Aside0.mk c4
      clear c4
      obtain ⟨y326, hy326⟩ : ∃ y_ : List (S44), y_ = (y323 ++ l0_4) := ⟨_, rfl⟩
      replace H : ((edit_Encode.f k a0_0 a0_1 a0_2 y320 y326).bind fun bt329 => ((staddleref13_Encode.f k a0_0 a0_1 a0_2 l0_3 l0_4).bind fun bt333 => ((staddleref13_Same.f k a0_0 a0_1 a0_2 y320 y326 a0_0 a0_1 a0_2 l0_3 l0_4).bind fun t337 => (if t315 = true then (if t337 = true then (if (strOfNums bt329.1).toList = (strOfNums bt333.1).toList then (if bt329.2 = bt333.2 then ((edit_Check.f k a0_0 a0_1 a0_2 l0_3 l0_4).bind fun t338 => ((staddleref13_Check.f k a0_0 a0_1 a0_2 l0_3 l0_4).bind fun t339 => (some (t338 == t339)))) else (some false)) else (some false)) else (some false)) else (some false))))) = some r := by first | (rw [hy326]; with_reducible exact H) | (have H2_ := (Option.bind_some _ _).symm.trans H; rw [hy326]; with_reducible exact H2_) | (have H2_ := (Option.bind_some _ _).symm.trans H; with_reducible exact H2_) | with_reducible exact H | (rw [hy326]; exact H) | exact H
      have Ny326 := Aside0.mk hy326
      clear hy326
      replace H := Option.bind_eq_some_iff.mp H
      obtain ⟨⟨t329, t332⟩, A50, H⟩ := H
      replace H : ((staddleref13_Encode.f k a0_0 a0_1 a0_2 l0_3 l0_4).bind fun bt333 => ((staddleref13_Same.f k a0_0 a0_1 a0_2 y320 y326 a0_0 a0_1 a0_2 l0_3 l0_4).bind fun t337 => (if t315 = true then (if t337 = true then (if (strOfNums t329).toList = (strOfNums bt333.1).toList then (if t332 = bt333.2 then ((edit_Check.f k a0_0 a0_1 a0_2 l0_3 l0_4).bind fun t338 => ((staddleref13_Check.f k a0_0 a0_1 a0_2 l0_3 l0_4).bind fun t339 => (some (t338 == t339)))) else (some false)) else (some false)) else (some false)) else (some false)))) = some r := H
      have A5 := Aside0.mk A50
      clear A50
      replace H := Option.bind_eq_some_iff.mp H
      obtain ⟨⟨t333, t336⟩, A60, H⟩ := H
      replace H : ((staddleref13_Same.f k a0_0 a0_1 a0_2 y320 y326 a0_0 a0_1 a0_2 l0_3 l0_4).bind fun t337 => (if t315 = true then (if t337 = true then (if (strOfNums t329).toList = (strOfNums t333).toList then (if t332 = t336 then ((edit_Check.f k a0_0 a0_1 a0_2 l0_3 l0_4).bind fun t338 => ((staddleref13_Check.f k a0_0 a0_1 a0_2 l0_3 l0_4).bind fun t339 => (some (t338 == t339)))) else (some false)) else (some false)) else (some false)) else (some false))) = some r := H
      have A6 := Aside0.mk A60
      clear A60
      replace H := Option.bind_eq_some_iff.mp H
      obtain ⟨t337, A70, H⟩ := H
      replace H : (if t315 = true then (if t337 = true then (if (strOfNums t329).toList = (strOfNums t333).toList then (if t332 = t336 then ((edit_Check.f k a0_0 a0_1 a0_2 l0_3 l0_4).bind fun t338 => ((staddleref13_Check.f k a0_0 a0_1 a0_2 l0_3 l0_4).bind fun t339 => (some (t338 == t339)))) else (some false)) else (some false)) else (some false)) else (some false)) = some r := H
      have A7 := Aside0.mk A70
      clear A70
      by_cases c8 : t315 = true
      · subst c8
        have H1 : (if t337 = true then (if (strOfNums t329).toList = (strOfNums t333).toList then (if t332 = t336 then ((edit_Check.f k a0_0 a0_1 a0_2 l0_3 l0_4).bind fun t338 => ((staddleref13_Check.f k a0_0 a0_1 a0_2 l0_3 l0_4).bind fun t339 => (some (t338 == t339)))) else (some false)) else (some false)) else (some false)) = some r := by rw [if_pos rfl] at H; exact H
        clear H
        have H := H1
        clear H1
        by_cases c9 : t337 = true
        · subst c9
          have H1 : (if (strOfNums t329).toList = (strOfNums t333).toList then (if t332 = t336 then ((edit_Check.f k a0_0 a0_1 a0_2 l0_3 l0_4).bind fun t338 => ((staddleref13_Check.f k a0_0 a0_1 a0_2 l0_3 l0_4).bind fun t339 => (some (t338 == t339)))) else (some false)) else (some false)) = some r := by rw [if_pos rfl] at H; exact H
          clear H
          have H := H1
          clear H1
          by_cases c10 : (strOfNums t329).toList = (strOfNums t333).toList
          · rw [if_pos c10] at H
            have c10b0 : ((strOfNums t329).toList == (strOfNums t333).toList) = true := beq_iff_eq.mpr c10
            have c10b1 : ((strOfNums t329).toList != (strOfNums t333).toList) = false := bne_eq_false_iff_eq.mpr c10
            clear c10
            by_cases c11 : t332 = t336
            · rw [if_pos c11] at H
              have c11b0 : (t332 == t336) = true := beq_iff_eq.mpr c11
              have c11b1 : (t332 != t336) = false := bne_eq_false_iff_eq.mpr c11
              clear c11
              replace H := Option.bind_eq_some_iff.mp H
              obtain ⟨t338, A120, H⟩ := H
              replace H : ((staddleref13_Check.f k a0_0 a0_1 a0_2 l0_3 l0_4).bind fun t339 => (some (t338 == t339))) = some r := H
              have A12 := Aside0.mk A120
              clear A120
              replace H := Option.bind_eq_some_iff.mp H
              obtain ⟨t339, A130, H⟩ := H
              replace H : (some (t338 == t339)) = some r := H
              have A13 := Aside0.mk A130
              clear A130
              obtain rfl := Option.some.inj H
              go_enter Try.func4, Try.ntmps4
              try go_wp2_with (first | ((with_reducible refine gate_dst (N := 1) rfl ?_); refine box_event ?hg (N := 1) ?hd (cs := #[.int .u64 a0_0, .int .u64 a0_1, .int .u64 a0_2, .slice A0_3 l0_3.length c0_3, .slice A0_4 l0_4.length c0_4]) (t := 27) ?hr ?_; (case hd => rfl); (case hg => rfl); (case hr => first | (go_simp; done) | (go_simp; rfl)); intro gb314 hg w14 hbox hb; have n0_ := Aside0.mk (below_step (by repeat (first | (with_reducible first | exact HB.out | apply below_alloc | apply pw_below_drewN | apply below_drew1) | exact HB.out)) hb); have n1_ := Aside0.mk (hbox); have n2_ := Aside0.mk ((by rw [hg]; exact (below_size (by repeat (first | (with_reducible first | exact HB.out | apply below_alloc | apply pw_below_drewN | apply below_drew1) | exact HB.out))) : w.heap.size ≤ gb314)); have n3_ := Aside0.mk ((by rw [hg]; exact (below_size (by repeat (first | (with_reducible first | exact HB.out | apply below_alloc | apply pw_below_drewN | apply below_drew1) | exact HB.out))) : w.heap.size ≤ gb314)); clear HB; have HB := n0_; have BK314 := n1_; have GW314 := n2_; have GE314 := n3_; clear n0_ n1_ n2_ n3_; clear hb hbox hg) | ((with_reducible refine gate_callee (f := 8) rfl ?_); refine goesL_ (some 10) rfl rfl Try.func8 (by kernel_rfl) rfl #[] rfl (by (try simp only [List.map_toArray, List.map_cons, List.map_nil]); first | done | rfl | (simp only [List.length_drop, List.length_take]; rfl)) ?_; (with_reducible refine (staddlelaw13_awake.calls  true _ A2.out).mono ?_); rintro e w15 ⟨rfl, hb⟩; refine ⟨_, rfl, ?_⟩; have n0_ := Aside0.mk (blk_below (g := gb314) (o := .cells #[.int .u64 a0_0, .int .u64 a0_1, .int .u64 a0_2, .slice A0_3 l0_3.length c0_3, .slice A0_4 l0_4.length c0_4] 27 (0, 0)) (by (with_reducible repeat (first | refine blk_drewN ?_ _ | refine blk_drew ?_ | refine blk_alloc ?_ _)); exact BK314.out) hb); have n1_ := Aside0.mk (below_step (by repeat (first | (with_reducible first | exact HB.out | apply below_alloc | apply pw_below_drewN | apply below_drew1 | refine below_set ?_ GE314.out) | exact HB.out)) hb); clear BK314; clear HB; have BK314 := n0_; have HB := n1_; clear n0_ n1_; (try clear hb); (try clear hb2); (try clear hk); (try clear hi); have hcz16_0 : w15.cell? ⟨gb314, 0, none⟩ = some (.int .u64 a0_0) := (blk_cell BK314.out 0).trans rfl; have hcz16_1 : w15.cell? ⟨gb314, 1, none⟩ = some (.int .u64 a0_1) := (blk_cell BK314.out 1).trans rfl; have hcz16_2 : w15.cell? ⟨gb314, 2, none⟩ = some (.int .u64 a0_2) := (blk_cell BK314.out 2).trans rfl; have hcz16_3 : w15.cell? ⟨gb314, 3, none⟩ = some (.slice A0_3 l0_3.length c0_3) := (blk_cell BK314.out 3).trans rfl; have hcz16_4 : w15.cell? ⟨gb314, 4, none⟩ = some (.slice A0_4 l0_4.length c0_4) := (blk_cell BK314.out 4).trans rfl; have hfz16_0 := blk_frozen BK314.out 0; have hfz16_1 := blk_frozen BK314.out 1; have hfz16_2 := blk_frozen BK314.out 2; have hfz16_3 := blk_frozen BK314.out 3; have hfz16_4 := blk_frozen BK314.out 4) | ((with_reducible refine gate_dst (N := 4) rfl ?_); refine box_event ?hg (N := 4) ?hd (cs := #[.int .u64 0, .int .u64 0, .int .u64 0, .slice none 0 0, .slice none 0 0]) (t := 27) ?hr ?_; (case hd => rfl); (case hg => rfl); (case hr => first | (go_simp; done) | (go_simp; rfl)); intro gb316 hg w17 hbox hb; have n0_ := Aside0.mk (blk_below (g := gb314) (o := .cells #[.int .u64 a0_0, .int .u64 a0_1, .int .u64 a0_2, .slice A0_3 l0_3.length c0_3, .slice A0_4 l0_4.length c0_4] 27 (0, 0)) (by (with_reducible repeat (first | refine blk_drewN ?_ _ | refine blk_drew ?_ | refine blk_alloc ?_ _)); exact BK314.out) hb); have n1_ := Aside0.mk (below_step (by repeat (first | (with_reducible first | exact HB.out | apply below_alloc | apply pw_below_drewN | apply below_drew1 | refine below_set ?_ GE314.out) | exact HB.out)) hb); have n2_ := Aside0.mk (hbox); have n3_ := Aside0.mk ((by rw [hg]; exact (below_size (by repeat (first | (with_reducible first | exact HB.out | apply below_alloc | apply pw_below_drewN | apply below_drew1 | refine below_set ?_ GE314.out) | exact HB.out))) : w.heap.size ≤ gb316)); have n4_ := Aside0.mk ((by rw [hg]; exact (below_size (by repeat (first | (with_reducible first | exact HB.out | apply below_alloc | apply pw_below_drewN | apply below_drew1 | refine below_set ?_ GE314.out) | exact HB.out))) : w.heap.size ≤ gb316)); have n5_ := Aside0.mk ((by rw [hg]; exact Nat.ne_of_lt (blk_lt (g := gb314) (o := .cells #[.int .u64 a0_0, .int .u64 a0_1, .int .u64 a0_2, .slice A0_3 l0_3.length c0_3, .slice A0_4 l0_4.length c0_4] 27 (0, 0)) (by (with_reducible repeat (first | refine blk_drewN ?_ _ | refine blk_drew ?_ | refine blk_alloc ?_ _)); exact BK314.out)) : gb314 ≠ gb316)); have n6_ := Aside0.mk ((by rw [hg]; exact Nat.ne_of_gt (blk_lt (g := gb314) (o := .cells #[.int .u64 a0_0, .int .u64 a0_1, .int .u64 a0_2, .slice A0_3 l0_3.length c0_3, .slice A0_4 l0_4.length c0_4] 27 (0, 0)) (by (with_reducible repeat (first | refine blk_drewN ?_ _ | refine blk_drew ?_ | refine blk_alloc ?_ _)); exact BK314.out)) : gb316 ≠ gb314)); clear BK314; clear HB; have BK314 := n0_; have HB := n1_; have BK316 := n2_; have GW316 := n3_; have GE316 := n4_; have NB314_316 := n5_; have NB316_314 := n6_; clear n0_ n1_ n2_ n3_ n4_ n5_ n6_; clear hb hbox hg; have hnb18 := NB316_314.out; have hnc18 := NB314_316.out; have hcz19_0 : w17.cell? ⟨gb316, 0, none⟩ = some (.int .u64 0) := (blk_cell BK316.out 0).trans rfl; have hcz19_1 : w17.cell? ⟨gb316, 1, none⟩ = some (.int .u64 0) := (blk_cell BK316.out 1).trans rfl; have hcz19_2 : w17.cell? ⟨gb316, 2, none⟩ = some (.int .u64 0) := (blk_cell BK316.out 2).trans rfl; have hcz19_3 : w17.cell? ⟨gb316, 3, none⟩ = some (.slice none 0 0) := (blk_cell BK316.out 3).trans rfl; have hcz19_4 : w17.cell? ⟨gb316, 4, none⟩ = some (.slice none 0 0) := (blk_cell BK316.out 4).trans rfl; have hfz19_0 := blk_frozen BK316.out 0; have hfz19_1 := blk_frozen BK316.out 1; have hfz19_2 := blk_frozen BK316.out 2; have hfz19_3 := blk_frozen BK316.out 3; have hfz19_4 := blk_frozen BK316.out 4) | ((with_reducible refine gate_dst (N := 12) rfl ?_); refine Kd.R_lit k40 _ 40 ?hg (N := 12) ?hd (xs := ([] : List (S40))) (inner := []) (ok := fun _ => True) (okp := fun _ => True) ?hr ?hp (fun _ hk => hk) trivial (Below.refl _ _) (Nat.le_refl _) (by simp) ?_; (case hd => rfl); (case hg => rfl); (case hr => first | (go_simp; done) | (go_simp; rfl)); (case hp => exact (Reps.none _ _)); intro v318 w20 ho21 hb hg_ hnew_; clear hg_ hnew_; (first | rw [← Ny317.out] at ho21 | (simp only [Int.reduceToNat] at ho21; rw [← Ny317.out] at ho21)); have n0_ := Aside0.mk (Kd.R_lower ho21 (below_size (by repeat (first | (with_reducible first | exact HB.out | apply below_alloc | apply pw_below_drewN | apply below_drew1 | refine below_set ?_ GE314.out | refine below_set ?_ GE316.out) | exact HB.out)))); have n1_ := Aside0.mk (blk_below (g := gb314) (o := .cells #[.int .u64 a0_0, .int .u64 a0_1, .int .u64 a0_2, .slice A0_3 l0_3.length c0_3, .slice A0_4 l0_4.length c0_4] 27 (0, 0)) (by (with_reducible repeat (first | refine blk_drewN ?_ _ | refine blk_drew ?_ | refine blk_alloc ?_ _)); refine blk_far ?_ NB314_316.out _; (with_reducible repeat (first | refine blk_drewN ?_ _ | refine blk_drew ?_ | refine blk_alloc ?_ _)); refine blk_far ?_ NB314_316.out _; (with_reducible repeat (first | refine blk_drewN ?_ _ | refine blk_drew ?_ | refine blk_alloc ?_ _)); refine blk_far ?_ NB314_316.out _; (with_reducible repeat (first | refine blk_drewN ?_ _ | refine blk_drew ?_ | refine blk_alloc ?_ _)); refine blk_far ?_ NB314_316.out _; (with_reducible repeat (first | refine blk_drewN ?_ _ | refine blk_drew ?_ | refine blk_alloc ?_ _)); refine blk_far ?_ NB314_316.out _; (with_reducible repeat (first | refine blk_drewN ?_ _ | refine blk_drew ?_ | refine blk_alloc ?_ _)); exact BK314.out) hb); have n2_ := Aside0.mk (blk_below (g := gb316) (o := .cells #[.int .u64 a0_0, .int .u64 a0_1, .int .u64 a0_2, .slice A0_3 l0_3.length c0_3, .slice A0_4 l0_4.length c0_4] 27 (0, 0)) (by (with_reducible repeat (first | refine blk_drewN ?_ _ | refine blk_drew ?_ | refine blk_alloc ?_ _)); refine blk_put (cs := #[.int .u64 a0_0, .int .u64 a0_1, .int .u64 a0_2, .slice A0_3 l0_3.length c0_3, .slice none 0 0]) ?_ 4 _ rfl; (with_reducible repeat (first | refine blk_drewN ?_ _ | refine blk_drew ?_ | refine blk_alloc ?_ _)); refine blk_put (cs := #[.int .u64 a0_0, .int .u64 a0_1, .int .u64 a0_2, .slice none 0 0, .slice none 0 0]) ?_ 3 _ rfl; (with_reducible repeat (first | refine blk_drewN ?_ _ | refine blk_drew ?_ | refine blk_alloc ?_ _)); refine blk_put (cs := #[.int .u64 a0_0, .int .u64 a0_1, .int .u64 0, .slice none 0 0, .slice none 0 0]) ?_ 2 _ rfl; (with_reducible repeat (first | refine blk_drewN ?_ _ | refine blk_drew ?_ | refine blk_alloc ?_ _)); refine blk_put (cs := #[.int .u64 a0_0, .int .u64 0, .int .u64 0, .slice none 0 0, .slice none 0 0]) ?_ 1 _ rfl; (with_reducible repeat (first | refine blk_drewN ?_ _ | refine blk_drew ?_ | refine blk_alloc ?_ _)); refine blk_put (cs := #[.int .u64 0, .int .u64 0, .int .u64 0, .slice none 0 0, .slice none 0 0]) ?_ 0 _ rfl; (with_reducible repeat (first | refine blk_drewN ?_ _ | refine blk_drew ?_ | refine blk_alloc ?_ _)); exact BK316.out) hb); have n3_ := Aside0.mk (below_step (by repeat (first | (with_reducible first | exact HB.out | apply below_alloc | apply pw_below_drewN | apply below_drew1 | refine below_set ?_ GE314.out | refine below_set ?_ GE316.out) | exact HB.out)) hb); clear BK314; clear BK316; clear HB; have HO319 := n0_; have BK314 := n1_; have BK316 := n2_; have HB := n3_; clear n0_ n1_ n2_ n3_; clear hb ho21; have hcz22_0 : w20.cell? ⟨gb314, 0, none⟩ = some (.int .u64 a0_0) := (blk_cell BK314.out 0).trans rfl; have hcz22_1 : w20.cell? ⟨gb314, 1, none⟩ = some (.int .u64 a0_1) := (blk_cell BK314.out 1).trans rfl; have hcz22_2 : w20.cell? ⟨gb314, 2, none⟩ = some (.int .u64 a0_2) := (blk_cell BK314.out 2).trans rfl; have hcz22_3 : w20.cell? ⟨gb314, 3, none⟩ = some (.slice A0_3 l0_3.length c0_3) := (blk_cell BK314.out 3).trans rfl; have hcz22_4 : w20.cell? ⟨gb314, 4, none⟩ = some (.slice A0_4 l0_4.length c0_4) := (blk_cell BK314.out 4).trans rfl; have hfz22_0 := blk_frozen BK314.out 0; have hfz22_1 := blk_frozen BK314.out 1; have hfz22_2 := blk_frozen BK314.out 2; have hfz22_3 := blk_frozen BK314.out 3; have hfz22_4 := blk_frozen BK314.out 4) | ((with_reducible refine gate_builtin (b := .append) (xs := #[.tmp 12, .tmp 14]) rfl ?_); at_builtin; refine Kd.R_append_rows k40 (w0 := w) w.heap.size rfl (.tmp 12) (.tmp 14) 24 40 (.agg #[(.int .i64 0), (.int .u64 0)]) 16 rfl Try.underlying24 info40 rfl (by decide) (by omega) v318 y317 l0_3 _ _ _ (fun _ => True) (fun _ => False) rfl rfl ?aO ?aR (fun _ _ h => h) (fun _ h => h.elim) ?aF ?aB ?aS ?aL ?_; (case aR => repeat (first | exact (Kd.C_below HR0_3.out HB.out) | (with_reducible refine Kd.C_alloc ?_ _) | (with_reducible refine Kd.C_drewN ?_ _) | (with_reducible refine Kd.C_drew ?_))); (case aB => exact (by repeat (first | (with_reducible first | exact HB.out | apply below_alloc | apply pw_below_drewN | apply below_drew1 | refine below_set ?_ GE314.out | refine below_set ?_ GE316.out) | exact HB.out))); (case aF => exact (fun _ _ => trivial)); (case aO => exact (by (with_reducible repeat (first | apply Kd.R_alloc | apply Kd.R_drewN | apply Kd.R_drew)); exact HO319.out)); (case aS => exact (below_size (by repeat (first | (with_reducible first | exact HB.out | apply below_alloc | apply pw_below_drewN | apply below_drew1 | refine below_set ?_ GE314.out | refine below_set ?_ GE316.out) | exact HB.out)))); (case aL => have := LMc3.out; omega); intro v321 w23 ho hb hg hat; rw [← Ny320.out] at ho; have n0_ := Aside0.mk (blk_grown (g := gb314) (o := .cells #[.int .u64 a0_0, .int .u64 a0_1, .int .u64 a0_2, .slice A0_3 l0_3.length c0_3, .slice A0_4 l0_4.length c0_4] 27 (0, 0)) (by (with_reducible repeat (first | refine blk_drewN ?_ _ | refine blk_drew ?_ | refine blk_alloc ?_ _)); exact BK314.out) hg (Kd.R_ne HO319.out BK314.out (by decide))); have n1_ := Aside0.mk (blk_grown (g := gb316) (o := .cells #[.int .u64 a0_0, .int .u64 a0_1, .int .u64 a0_2, .slice A0_3 l0_3.length c0_3, .slice A0_4 l0_4.length c0_4] 27 (0, 0)) (by (with_reducible repeat (first | refine blk_drewN ?_ _ | refine blk_drew ?_ | refine blk_alloc ?_ _)); exact BK316.out) hg (Kd.R_ne HO319.out BK316.out (by decide))); have n2_ := Aside0.mk (hb); have n3_ := Aside0.mk (ho); clear BK314; clear BK316; clear HB; clear HO319; have BK314 := n0_; have BK316 := n1_; have HB := n2_; have HO322 := n3_; clear n0_ n1_ n2_ n3_; clear ho hb hg hat; obtain ⟨Ao24, co24, eo24⟩ := Kd.R_slice HO322.out; subst eo24; have hcz25_0 : w23.cell? ⟨gb316, 0, none⟩ = some (.int .u64 a0_0) := (blk_cell BK316.out 0).trans rfl; have hcz25_1 : w23.cell? ⟨gb316, 1, none⟩ = some (.int .u64 a0_1) := (blk_cell BK316.out 1).trans rfl; have hcz25_2 : w23.cell? ⟨gb316, 2, none⟩ = some (.int .u64 a0_2) := (blk_cell BK316.out 2).trans rfl; have hcz25_3 : w23.cell? ⟨gb316, 3, none⟩ = some (.slice A0_3 l0_3.length c0_3) := (blk_cell BK316.out 3).trans rfl; have hcz25_4 : w23.cell? ⟨gb316, 4, none⟩ = some (.slice A0_4 l0_4.length c0_4) := (blk_cell BK316.out 4).trans rfl; have hfz25_0 := blk_frozen BK316.out 0; have hfz25_1 := blk_frozen BK316.out 1; have hfz25_2 := blk_frozen BK316.out 2; have hfz25_3 := blk_frozen BK316.out 3; have hfz25_4 := blk_frozen BK316.out 4) | ((with_reducible refine gate_dst (N := 17) rfl ?_); refine Kd.R_lit k44 _ 44 ?hg (N := 17) ?hd (xs := ([] : List (S44))) (inner := []) (ok := fun _ => True) (okp := fun _ => True) ?hr ?hp (fun _ hk => hk) trivial (Below.refl _ _) (Nat.le_refl _) (by simp) ?_; (case hd => rfl); (case hg => rfl); (case hr => first | (go_simp; done) | (go_simp; rfl)); (case hp => exact (Reps.none _ _)); intro v324 w26 ho27 hb hg_ hnew_; clear hg_ hnew_; (first | rw [← Ny323.out] at ho27 | (simp only [Int.reduceToNat] at ho27; rw [← Ny323.out] at ho27)); have n0_ := Aside0.mk (Kd.R_below (by (with_reducible repeat (first | apply Kd.R_alloc | apply Kd.R_drewN | apply Kd.R_drew)); exact (Kd.R_mono (Kd.R_far (p := ⟨gb316, 3, none⟩) (Kd.R_types HO322.out BK316.out (by decide)) (fun _ hk => hk.2) (.slice Ao24 y320.length co24)) (fun _ h_ => h_.1))) hb); have n1_ := Aside0.mk (Kd.R_lower ho27 (below_size (by repeat (first | (with_reducible first | exact HB.out | apply below_alloc | apply pw_below_drewN | apply below_drew1 | refine below_set ?_ GE314.out | refine below_set ?_ GE316.out) | exact HB.out)))); have n2_ := Aside0.mk (blk_below (g := gb314) (o := .cells #[.int .u64 a0_0, .int .u64 a0_1, .int .u64 a0_2, .slice A0_3 l0_3.length c0_3, .slice A0_4 l0_4.length c0_4] 27 (0, 0)) (by (with_reducible repeat (first | refine blk_drewN ?_ _ | refine blk_drew ?_ | refine blk_alloc ?_ _)); refine blk_far ?_ NB314_316.out _; (with_reducible repeat (first | refine blk_drewN ?_ _ | refine blk_drew ?_ | refine blk_alloc ?_ _)); exact BK314.out) hb); have n3_ := Aside0.mk (blk_below (g := gb316) (o := .cells #[.int .u64 a0_0, .int .u64 a0_1, .int .u64 a0_2, .slice Ao24 y320.length co24, .slice A0_4 l0_4.length c0_4] 27 (0, 0)) (by (with_reducible repeat (first | refine blk_drewN ?_ _ | refine blk_drew ?_ | refine blk_alloc ?_ _)); refine blk_put (cs := #[.int .u64 a0_0, .int .u64 a0_1, .int .u64 a0_2, .slice A0_3 l0_3.length c0_3, .slice A0_4 l0_4.length c0_4]) ?_ 3 _ rfl; (with_reducible repeat (first | refine blk_drewN ?_ _ | refine blk_drew ?_ | refine blk_alloc ?_ _)); exact BK316.out) hb); have n4_ := Aside0.mk (below_step (by repeat (first | (with_reducible first | exact HB.out | apply below_alloc | apply pw_below_drewN | apply below_drew1 | refine below_set ?_ GE314.out | refine below_set ?_ GE316.out) | exact HB.out)) hb); clear HO322; clear BK314; clear BK316; clear HB; have HO322 := n0_; have HO325 := n1_; have BK314 := n2_; have BK316 := n3_; have HB := n4_; clear n0_ n1_ n2_ n3_ n4_; clear hb ho27; have hcz28_0 : w26.cell? ⟨gb314, 0, none⟩ = some (.int .u64 a0_0) := (blk_cell BK314.out 0).trans rfl; have hcz28_1 : w26.cell? ⟨gb314, 1, none⟩ = some (.int .u64 a0_1) := (blk_cell BK314.out 1).trans rfl; have hcz28_2 : w26.cell? ⟨gb314, 2, none⟩ = some (.int .u64 a0_2) := (blk_cell BK314.out 2).trans rfl; have hcz28_3 : w26.cell? ⟨gb314, 3, none⟩ = some (.slice A0_3 l0_3.length c0_3) := (blk_cell BK314.out 3).trans rfl; have hcz28_4 : w26.cell? ⟨gb314, 4, none⟩ = some (.slice A0_4 l0_4.length c0_4) := (blk_cell BK314.out 4).trans rfl; have hfz28_0 := blk_frozen BK314.out 0; have hfz28_1 := blk_frozen BK314.out 1; have hfz28_2 := blk_frozen BK314.out 2; have hfz28_3 := blk_frozen BK314.out 3; have hfz28_4 := blk_frozen BK314.out 4) | ((with_reducible refine gate_builtin (b := .append) (xs := #[.tmp 17, .tmp 19]) rfl ?_); at_builtin; refine Kd.R_append_rows k44 (w0 := w) w.heap.size rfl (.tmp 17) (.tmp 19) 25 44 (.agg #[(.int .i64 0), (.int .u64 0), (.int .i64 0), (.string ⟨#[]⟩), (.int .u64 0), (.int .i64 0), (.string ⟨#[]⟩), (.int .u64 0), (.int .i64 0)]) 88 rfl Try.underlying25 info44 rfl (by decide) (by omega) v324 y323 l0_4 _ _ _ (fun _ => True) (fun _ => False) rfl rfl ?aO ?aR (fun _ _ h => h) (fun _ h => h.elim) ?aF ?aB ?aS ?aL ?_; (case aR => repeat (first | exact (Kd.C_below HR0_4.out HB.out) | (with_reducible refine Kd.C_alloc ?_ _) | (with_reducible refine Kd.C_drewN ?_ _) | (with_reducible refine Kd.C_drew ?_))); (case aB => exact (by repeat (first | (with_reducible first | exact HB.out | apply below_alloc | apply pw_below_drewN | apply below_drew1 | refine below_set ?_ GE314.out | refine below_set ?_ GE316.out) | exact HB.out))); (case aF => exact (fun _ _ => trivial)); (case aO => exact (by (with_reducible repeat (first | apply Kd.R_alloc | apply Kd.R_drewN | apply Kd.R_drew)); exact HO325.out)); (case aS => exact (below_size (by repeat (first | (with_reducible first | exact HB.out | apply below_alloc | apply pw_below_drewN | apply below_drew1 | refine below_set ?_ GE314.out | refine below_set ?_ GE316.out) | exact HB.out)))); (case aL => have := LMc4.out; omega); intro v327 w29 ho hb hg hat; rw [← Ny326.out] at ho; have n0_ := Aside0.mk (blk_grown (g := gb314) (o := .cells #[.int .u64 a0_0, .int .u64 a0_1, .int .u64 a0_2, .slice A0_3 l0_3.length c0_3, .slice A0_4 l0_4.length c0_4] 27 (0, 0)) (by (with_reducible repeat (first | refine blk_drewN ?_ _ | refine blk_drew ?_ | refine blk_alloc ?_ _)); exact BK314.out) hg (Kd.R_ne HO325.out BK314.out (by decide))); have n1_ := Aside0.mk (blk_grown (g := gb316) (o := .cells #[.int .u64 a0_0, .int .u64 a0_1, .int .u64 a0_2, .slice Ao24 y320.length co24, .slice A0_4 l0_4.length c0_4] 27 (0, 0)) (by (with_reducible repeat (first | refine blk_drewN ?_ _ | refine blk_drew ?_ | refine blk_alloc ?_ _)); exact BK316.out) hg (Kd.R_ne HO325.out BK316.out (by decide))); have n2_ := Aside0.mk (Kd.R_over' (by (with_reducible repeat (first | apply Kd.R_alloc | apply Kd.R_drewN | apply Kd.R_drew)); exact HO322.out) (Kd.R_typed (by (with_reducible repeat (first | apply Kd.R_alloc | apply Kd.R_drewN | apply Kd.R_drew)); exact HO325.out)) (by decide) hg); have n3_ := Aside0.mk (hb); have n4_ := Aside0.mk (ho); clear BK314; clear BK316; clear HO322; clear HB; clear HO325; have BK314 := n0_; have BK316 := n1_; have HO322 := n2_; have HB := n3_; have HO328 := n4_; clear n0_ n1_ n2_ n3_ n4_; clear ho hb hg hat; obtain ⟨Ao30, co30, eo30⟩ := Kd.R_slice HO328.out; subst eo30; have hcz31_0 : w29.cell? ⟨gb316, 0, none⟩ = some (.int .u64 a0_0) := (blk_cell BK316.out 0).trans rfl; have hcz31_1 : w29.cell? ⟨gb316, 1, none⟩ = some (.int .u64 a0_1) := (blk_cell BK316.out 1).trans rfl; have hcz31_2 : w29.cell? ⟨gb316, 2, none⟩ = some (.int .u64 a0_2) := (blk_cell BK316.out 2).trans rfl; have hcz31_3 : w29.cell? ⟨gb316, 3, none⟩ = some (.slice Ao24 y320.length co24) := (blk_cell BK316.out 3).trans rfl; have hcz31_4 : w29.cell? ⟨gb316, 4, none⟩ = some (.slice A0_4 l0_4.length c0_4) := (blk_cell BK316.out 4).trans rfl; have hfz31_0 := blk_frozen BK316.out 0; have hfz31_1 := blk_frozen BK316.out 1; have hfz31_2 := blk_frozen BK316.out 2; have hfz31_3 := blk_frozen BK316.out 3; have hfz31_4 := blk_frozen BK316.out 4) | ((with_reducible refine gate_callee (f := 9) rfl ?_); refine goesL_ (some 24) rfl rfl Try.func9 (by kernel_rfl) rfl #[.agg #[.int .u64 a0_0, .int .u64 a0_1, .int .u64 a0_2, .slice Ao24 y320.length co24, .slice Ao30 y326.length co30]] rfl (by (try simp only [List.map_toArray, List.map_cons, List.map_nil]); first | done | rfl | (simp only [List.length_drop, List.length_take]; rfl)) ?_; (with_reducible refine (edit_Encode.calls k a0_0 a0_1 a0_2 _ _ y320 _ _ y326 t329 t332 _ ?side1 ?side2 ?side3 ?side4 A5.out).mono ?_); (case side1 => refine (Kd.R_reads' (e := 40) (base := w.heap.size) (ok := fun k_ => True) (n := y320.length) (c := co24) ?_).2.2; exact (by (with_reducible repeat (first | apply Kd.R_alloc | apply Kd.R_drewN | apply Kd.R_drew)); exact (Kd.R_mono (Kd.R_far (p := ⟨gb316, 4, none⟩) (Kd.R_types HO322.out BK316.out (by decide)) (fun _ hk => hk.2) (.slice Ao30 y326.length co30)) (fun _ h_ => h_.1)))); (case side2 => exact (Kd.R_reads' HO322.out).2.1); (case side3 => refine (Kd.R_reads' (e := 44) (base := w.heap.size) (ok := fun k_ => True) (n := y326.length) (c := co30) ?_).2.2; exact (by (with_reducible repeat (first | apply Kd.R_alloc | apply Kd.R_drewN | apply Kd.R_drew)); exact (Kd.R_mono (Kd.R_far (p := ⟨gb316, 4, none⟩) (Kd.R_types HO328.out BK316.out (by decide)) (fun _ hk => hk.2) (.slice Ao30 y326.length co30)) (fun _ h_ => h_.1)))); (case side4 => exact (Kd.R_reads' HO328.out).2.1); rintro e w32 ⟨v330, rfl, ho0, hb⟩; refine ⟨_, rfl, ?_⟩; have n0_ := Aside0.mk (Kd.R_below (by (with_reducible repeat (first | apply Kd.R_alloc | apply Kd.R_drewN | apply Kd.R_drew)); exact (Kd.R_mono (Kd.R_far (p := ⟨gb316, 4, none⟩) (Kd.R_types HO322.out BK316.out (by decide)) (fun _ hk => hk.2) (.slice Ao30 y326.length co30)) (fun _ h_ => h_.1))) hb); have n1_ := Aside0.mk (Kd.R_below (by (with_reducible repeat (first | apply Kd.R_alloc | apply Kd.R_drewN | apply Kd.R_drew)); exact (Kd.R_mono (Kd.R_far (p := ⟨gb316, 4, none⟩) (Kd.R_types HO328.out BK316.out (by decide)) (fun _ hk => hk.2) (.slice Ao30 y326.length co30)) (fun _ h_ => h_.1))) hb); have n2_ := Aside0.mk (Kd.R_lower ho0 (below_size (by repeat (first | (with_reducible first | exact HB.out | apply below_alloc | apply pw_below_drewN | apply below_drew1 | refine below_set ?_ GE314.out | refine below_set ?_ GE316.out) | exact HB.out)))); have n3_ := Aside0.mk (blk_below (g := gb314) (o := .cells #[.int .u64 a0_0, .int .u64 a0_1, .int .u64 a0_2, .slice A0_3 l0_3.length c0_3, .slice A0_4 l0_4.length c0_4] 27 (0, 0)) (by (with_reducible repeat (first | refine blk_drewN ?_ _ | refine blk_drew ?_ | refine blk_alloc ?_ _)); refine blk_far ?_ NB314_316.out _; (with_reducible repeat (first | refine blk_drewN ?_ _ | refine blk_drew ?_ | refine blk_alloc ?_ _)); exact BK314.out) hb); have n4_ := Aside0.mk (blk_below (g := gb316) (o := .cells #[.int .u64 a0_0, .int .u64 a0_1, .int .u64 a0_2, .slice Ao24 y320.length co24, .slice Ao30 y326.length co30] 27 (0, 0)) (by (with_reducible repeat (first | refine blk_drewN ?_ _ | refine blk_drew ?_ | refine blk_alloc ?_ _)); refine blk_put (cs := #[.int .u64 a0_0, .int .u64 a0_1, .int .u64 a0_2, .slice Ao24 y320.length co24, .slice A0_4 l0_4.length c0_4]) ?_ 4 _ rfl; (with_reducible repeat (first | refine blk_drewN ?_ _ | refine blk_drew ?_ | refine blk_alloc ?_ _)); exact BK316.out) hb); have n5_ := Aside0.mk (below_step (by repeat (first | (with_reducible first | exact HB.out | apply below_alloc | apply pw_below_drewN | apply below_drew1 | refine below_set ?_ GE314.out | refine below_set ?_ GE316.out) | exact HB.out)) hb); clear HO322; clear HO328; clear BK314; clear BK316; clear HB; have HO322 := n0_; have HO328 := n1_; have HO331 := n2_; have BK314 := n3_; have BK316 := n4_; have HB := n5_; clear n0_ n1_ n2_ n3_ n4_ n5_; (try clear hb); (try clear hb2); (try clear hk); (try clear hi); (try clear ho0); have hcz33_0 : w32.cell? ⟨gb314, 0, none⟩ = some (.int .u64 a0_0) := (blk_cell BK314.out 0).trans rfl; have hcz33_1 : w32.cell? ⟨gb314, 1, none⟩ = some (.int .u64 a0_1) := (blk_cell BK314.out 1).trans rfl; have hcz33_2 : w32.cell? ⟨gb314, 2, none⟩ = some (.int .u64 a0_2) := (blk_cell BK314.out 2).trans rfl; have hcz33_3 : w32.cell? ⟨gb314, 3, none⟩ = some (.slice A0_3 l0_3.length c0_3) := (blk_cell BK314.out 3).trans rfl; have hcz33_4 : w32.cell? ⟨gb314, 4, none⟩ = some (.slice A0_4 l0_4.length c0_4) := (blk_cell BK314.out 4).trans rfl; have hfz33_0 := blk_frozen BK314.out 0; have hfz33_1 := blk_frozen BK314.out 1; have hfz33_2 := blk_frozen BK314.out 2; have hfz33_3 := blk_frozen BK314.out 3; have hfz33_4 := blk_frozen BK314.out 4) | ((with_reducible refine gate_callee (f := 10) rfl ?_); refine goesL_ (some 29) rfl rfl Try.func10 (by kernel_rfl) rfl #[.agg #[.int .u64 a0_0, .int .u64 a0_1, .int .u64 a0_2, .slice A0_3 l0_3.length c0_3, .slice A0_4 l0_4.length c0_4]] rfl (by (try simp only [List.map_toArray, List.map_cons, List.map_nil]); first | done | rfl | (simp only [List.length_drop, List.length_take]; rfl)) ?_; (with_reducible refine (staddleref13_Encode.calls k a0_0 a0_1 a0_2 _ _ l0_3 _ _ l0_4 t333 t336 _ ?side1 ?side2 ?side3 ?side4 A6.out).mono ?_); (case side1 => repeat (first | exact (Kd.C_below HR0_3.out HB.out) | (with_reducible refine Kd.C_alloc ?_ _) | (with_reducible refine Kd.C_drewN ?_ _) | (with_reducible refine Kd.C_drew ?_))); (case side2 => exact HC0_3.out); (case side3 => repeat (first | exact (Kd.C_below HR0_4.out HB.out) | (with_reducible refine Kd.C_alloc ?_ _) | (with_reducible refine Kd.C_drewN ?_ _) | (with_reducible refine Kd.C_drew ?_))); (case side4 => exact HC0_4.out); rintro e w34 ⟨v334, rfl, ho0, hb⟩; refine ⟨_, rfl, ?_⟩; have n0_ := Aside0.mk (Kd.R_below (by (with_reducible repeat (first | apply Kd.R_alloc | apply Kd.R_drewN | apply Kd.R_drew)); exact HO322.out) hb); have n1_ := Aside0.mk (Kd.R_below (by (with_reducible repeat (first | apply Kd.R_alloc | apply Kd.R_drewN | apply Kd.R_drew)); exact HO328.out) hb); have n2_ := Aside0.mk (Kd.R_elder' (by (with_reducible repeat (first | apply Kd.R_alloc | apply Kd.R_drewN | apply Kd.R_drew)); exact HO331.out) (Kd.R_base ho0) hb); have n3_ := Aside0.mk (Kd.R_lower (Kd.R_new' ho0 (Kd.R_lt (by (with_reducible repeat (first | apply Kd.R_alloc | apply Kd.R_drewN | apply Kd.R_drew)); exact HO331.out))) (below_size (by repeat (first | (with_reducible first | exact HB.out | apply below_alloc | apply pw_below_drewN | apply below_drew1 | refine below_set ?_ GE314.out | refine below_set ?_ GE316.out) | exact HB.out)))); have n4_ := Aside0.mk (blk_below (g := gb314) (o := .cells #[.int .u64 a0_0, .int .u64 a0_1, .int .u64 a0_2, .slice A0_3 l0_3.length c0_3, .slice A0_4 l0_4.length c0_4] 27 (0, 0)) (by (with_reducible repeat (first | refine blk_drewN ?_ _ | refine blk_drew ?_ | refine blk_alloc ?_ _)); exact BK314.out) hb); have n5_ := Aside0.mk (blk_below (g := gb316) (o := .cells #[.int .u64 a0_0, .int .u64 a0_1, .int .u64 a0_2, .slice Ao24 y320.length co24, .slice Ao30 y326.length co30] 27 (0, 0)) (by (with_reducible repeat (first | refine blk_drewN ?_ _ | refine blk_drew ?_ | refine blk_alloc ?_ _)); exact BK316.out) hb); have n6_ := Aside0.mk (below_step (by repeat (first | (with_reducible first | exact HB.out | apply below_alloc | apply pw_below_drewN | apply below_drew1 | refine below_set ?_ GE314.out | refine below_set ?_ GE316.out) | exact HB.out)) hb); clear HO322; clear HO328; clear HO331; clear BK314; clear BK316; clear HB; have HO322 := n0_; have HO328 := n1_; have HO331 := n2_; have HO335 := n3_; have BK314 := n4_; have BK316 := n5_; have HB := n6_; clear n0_ n1_ n2_ n3_ n4_ n5_ n6_; (try clear hb); (try clear hb2); (try clear hk); (try clear hi); (try clear ho0); have hcz35_0 : w34.cell? ⟨gb316, 0, none⟩ = some (.int .u64 a0_0) := (blk_cell BK316.out 0).trans rfl; have hcz35_1 : w34.cell? ⟨gb316, 1, none⟩ = some (.int .u64 a0_1) := (blk_cell BK316.out 1).trans rfl; have hcz35_2 : w34.cell? ⟨gb316, 2, none⟩ = some (.int .u64 a0_2) := (blk_cell BK316.out 2).trans rfl; have hcz35_3 : w34.cell? ⟨gb316, 3, none⟩ = some (.slice Ao24 y320.length co24) := (blk_cell BK316.out 3).trans rfl; have hcz35_4 : w34.cell? ⟨gb316, 4, none⟩ = some (.slice Ao30 y326.length co30) := (blk_cell BK316.out 4).trans rfl; have hfz35_0 := blk_frozen BK316.out 0; have hfz35_1 := blk_frozen BK316.out 1; have hfz35_2 := blk_frozen BK316.out 2; have hfz35_3 := blk_frozen BK316.out 3; have hfz35_4 := blk_frozen BK316.out 4; have hcz36_0 : w34.cell? ⟨gb314, 0, none⟩ = some (.int .u64 a0_0) := (blk_cell BK314.out 0).trans rfl; have hcz36_1 : w34.cell? ⟨gb314, 1, none⟩ = some (.int .u64 a0_1) := (blk_cell BK314.out 1).trans rfl; have hcz36_2 : w34.cell? ⟨gb314, 2, none⟩ = some (.int .u64 a0_2) := (blk_cell BK314.out 2).trans rfl; have hcz36_3 : w34.cell? ⟨gb314, 3, none⟩ = some (.slice A0_3 l0_3.length c0_3) := (blk_cell BK314.out 3).trans rfl; have hcz36_4 : w34.cell? ⟨gb314, 4, none⟩ = some (.slice A0_4 l0_4.length c0_4) := (blk_cell BK314.out 4).trans rfl; have hfz36_0 := blk_frozen BK314.out 0; have hfz36_1 := blk_frozen BK314.out 1; have hfz36_2 := blk_frozen BK314.out 2; have hfz36_3 := blk_frozen BK314.out 3; have hfz36_4 := blk_frozen BK314.out 4) | ((with_reducible refine gate_callee (f := 11) rfl ?_); refine goesL_ (some 34) rfl rfl Try.func11 (by kernel_rfl) rfl #[.agg #[.int .u64 a0_0, .int .u64 a0_1, .int .u64 a0_2, .slice Ao24 y320.length co24, .slice Ao30 y326.length co30], .agg #[.int .u64 a0_0, .int .u64 a0_1, .int .u64 a0_2, .slice A0_3 l0_3.length c0_3, .slice A0_4 l0_4.length c0_4]] rfl (by (try simp only [List.map_toArray, List.map_cons, List.map_nil]); first | done | rfl | (simp only [List.length_drop, List.length_take]; rfl)) ?_; (with_reducible refine (staddleref13_Same.calls k a0_0 a0_1 a0_2 _ _ y320 _ _ y326 a0_0 a0_1 a0_2 _ _ l0_3 _ _ l0_4 true _ ?side1 ?side2 ?side3 ?side4 ?side5 ?side6 ?side7 ?side8 A7.out).mono ?_); (case side1 => repeat (first | exact (Kd.R_reads' HO322.out).2.2 | (with_reducible refine Kd.C_alloc ?_ _) | (with_reducible refine Kd.C_drewN ?_ _) | (with_reducible refine Kd.C_drew ?_))); (case side2 => exact (Kd.R_reads' HO322.out).2.1); (case side3 => repeat (first | exact (Kd.R_reads' HO328.out).2.2 | (with_reducible refine Kd.C_alloc ?_ _) | (with_reducible refine Kd.C_drewN ?_ _) | (with_reducible refine Kd.C_drew ?_))); (case side4 => exact (Kd.R_reads' HO328.out).2.1); (case side5 => repeat (first | exact (Kd.C_below HR0_3.out HB.out) | (with_reducible refine Kd.C_alloc ?_ _) | (with_reducible refine Kd.C_drewN ?_ _) | (with_reducible refine Kd.C_drew ?_))); (case side6 => exact HC0_3.out); (case side7 => repeat (first | exact (Kd.C_below HR0_4.out HB.out) | (with_reducible refine Kd.C_alloc ?_ _) | (with_reducible refine Kd.C_drewN ?_ _) | (with_reducible refine Kd.C_drew ?_))); (case side8 => exact HC0_4.out); rintro e w37 ⟨rfl, hb⟩; refine ⟨_, rfl, ?_⟩; have n0_ := Aside0.mk (Kd.R_below (by (with_reducible repeat (first | apply Kd.R_alloc | apply Kd.R_drewN | apply Kd.R_drew)); exact HO322.out) hb); have n1_ := Aside0.mk (Kd.R_below (by (with_reducible repeat (first | apply Kd.R_alloc | apply Kd.R_drewN | apply Kd.R_drew)); exact HO328.out) hb); have n2_ := Aside0.mk (Kd.R_below (by (with_reducible repeat (first | apply Kd.R_alloc | apply Kd.R_drewN | apply Kd.R_drew)); exact HO331.out) hb); have n3_ := Aside0.mk (Kd.R_below (by (with_reducible repeat (first | apply Kd.R_alloc | apply Kd.R_drewN | apply Kd.R_drew)); exact HO335.out) hb); have n4_ := Aside0.mk (blk_below (g := gb314) (o := .cells #[.int .u64 a0_0, .int .u64 a0_1, .int .u64 a0_2, .slice A0_3 l0_3.length c0_3, .slice A0_4 l0_4.length c0_4] 27 (0, 0)) (by (with_reducible repeat (first | refine blk_drewN ?_ _ | refine blk_drew ?_ | refine blk_alloc ?_ _)); exact BK314.out) hb); have n5_ := Aside0.mk (blk_below (g := gb316) (o := .cells #[.int .u64 a0_0, .int .u64 a0_1, .int .u64 a0_2, .slice Ao24 y320.length co24, .slice Ao30 y326.length co30] 27 (0, 0)) (by (with_reducible repeat (first | refine blk_drewN ?_ _ | refine blk_drew ?_ | refine blk_alloc ?_ _)); exact BK316.out) hb); have n6_ := Aside0.mk (below_step (by repeat (first | (with_reducible first | exact HB.out | apply below_alloc | apply pw_below_drewN | apply below_drew1 | refine below_set ?_ GE314.out | refine below_set ?_ GE316.out) | exact HB.out)) hb); clear HO322; clear HO328; clear HO331; clear HO335; clear BK314; clear BK316; clear HB; have HO322 := n0_; have HO328 := n1_; have HO331 := n2_; have HO335 := n3_; have BK314 := n4_; have BK316 := n5_; have HB := n6_; clear n0_ n1_ n2_ n3_ n4_ n5_ n6_; (try clear hb); (try clear hb2); (try clear hk); (try clear hi)))
              have n0_ := Aside0.mk (Kd.R_drew HO322.out)
              have n1_ := Aside0.mk (Kd.R_drew HO328.out)
              have n2_ := Aside0.mk (Kd.R_drew HO331.out)
              have n3_ := Aside0.mk (Kd.R_drew HO335.out)
              have n4_ := Aside0.mk (blk_drew BK314.out)
              have n5_ := Aside0.mk (blk_drew BK316.out)
              have n6_ := Aside0.mk (below_drew1 HB.out)
              clear HO322
              clear HO328
              clear HO331
              clear HO335
              clear BK314
              clear BK316
              clear HB
              have HO322 := n0_
              have HO328 := n1_
              have HO331 := n2_
              have HO335 := n3_
              have BK314 := n4_
              have BK316 := n5_
              have HB := n6_
              clear n0_ n1_ n2_ n3_ n4_ n5_ n6_
              refine start_ (n := 24) (S := fun w' => w'.cell? ⟨gb314, 0, none⟩ = some (.int .u64 a0_0) ∧ w'.cell? ⟨gb314, 1, none⟩ = some (.int .u64 a0_1) ∧ w'.cell? ⟨gb314, 2, none⟩ = some (.int .u64 a0_2) ∧ w'.cell? ⟨gb314, 3, none⟩ = some (.slice A0_3 l0_3.length c0_3) ∧ w'.cell? ⟨gb314, 4, none⟩ = some (.slice A0_4 l0_4.length c0_4) ∧ Sem.run Try.prog (convert 28 9 v330) w' = Result.ok (.string (strOfNums t329)) w' ∧ Sem.run Try.prog (convert 28 9 v334) w' = Result.ok (.string (strOfNums t333)) w') (ds := []) #[false, false, false, false, false, false, false, false, false, false, false, false, false, false, false, false, false, false, false, false, false, false, false, false] (by kernel_rfl) rfl rfl ⟨(blk_cell BK314.out 0).trans rfl, (blk_cell BK314.out 1).trans rfl, (blk_cell BK314.out 2).trans rfl, (blk_cell BK314.out 3).trans rfl, (blk_cell BK314.out 4).trans rfl, (own_string (P := Try.prog) Try.underlying28 Try.underlying5 Try.underlying9 (Kd.own_of_R HO331.out)), (own_string (P := Try.prog) Try.underlying28 Try.underlying5 Try.underlying9 (Kd.own_of_R HO335.out))⟩ (fun hHeld => ?_); refine with_tabW staddlelaw13_EditLays.tab8 staddlelaw13_EditLays.bits8 (fun HT_ HW_ => ?_)
              generalize w37.drew = w38 at HO322 HO328 HO331 HO335 BK314 BK316 HB hHeld ⊢
              refine pure_ (i := 0) (N := some 35) (v := ?_) (a' := ?_) #[true, false, false, false, false, false, false, false, false, false, false, false, false, false, false, false, false, false, false, false, false, false, false, false] rfl rfl (any_of HT_.out (by kernel_rfl)) (fun _ _ _ h => h) (Or.inl ⟨by rfl, ?_⟩) ?_ ?_
              rotate_left
              · intro w'
                go_simp
                with_reducible rfl
              rotate_left
              · simp only [Act.put, List.setIfInBounds_toArray, List.set_cons_zero, List.set_cons_succ, i64_w, i32_w]
                rfl
              refine pure_ (i := 1) (N := some 36) (v := ?_) (a' := ?_) #[true, true, false, false, false, false, false, false, false, false, false, false, false, false, false, false, false, false, false, false, false, false, false, false] rfl rfl (any_of HT_.out (by kernel_rfl)) (fun _ _ _ h => h) (Or.inl ⟨by rfl, ?_⟩) ?_ ?_
              rotate_left
              · intro w'
                go_simp
                with_reducible rfl
              rotate_left
              · simp only [Act.put, List.setIfInBounds_toArray, List.set_cons_zero, List.set_cons_succ, i64_w, i32_w]
                rfl
              refine pure_ (i := 2) (N := some 37) (v := ?_) (a' := ?_) #[true, true, true, false, false, false, false, false, false, false, false, false, false, false, false, false, false, false, false, false, false, false, false, false] rfl rfl (any_of HT_.out (by kernel_rfl)) (fun _ _ _ h => h) (Or.inl ⟨by rfl, ?_⟩) ?_ ?_
              rotate_left
              · intro w'
                go_simp
                with_reducible rfl
              rotate_left
              · simp only [Act.put, List.setIfInBounds_toArray, List.set_cons_zero, List.set_cons_succ, i64_w, i32_w]
                rfl
              refine pure_ (i := 3) (N := some 38) (v := ?_) (a' := ?_) #[true, true, true, true, false, false, false, false, false, false, false, false, false, false, false, false, false, false, false, false, false, false, false, false] rfl rfl (any_of HT_.out (by kernel_rfl)) (fun _ _ _ h => h) (Or.inl ⟨by rfl, ?_⟩) ?_ ?_
              rotate_left
              · intro w'
                go_simp
                with_reducible rfl
              rotate_left
              · simp only [Act.put, List.setIfInBounds_toArray, List.set_cons_zero, List.set_cons_succ, i64_w, i32_w]
                rfl
              refine pure_ (i := 4) (N := some 39) (v := ?_) (a' := ?_) #[true, true, true, true, true, false, false, false, false, false, false, false, false, false, false, false, false, false, false, false, false, false, false, false] rfl rfl (any_of HT_.out (by kernel_rfl)) (fun _ _ _ h => h) (Or.inl ⟨by rfl, ?_⟩) ?_ ?_
              rotate_left
              · intro w'
                go_simp
                with_reducible rfl
              rotate_left
              · simp only [Act.put, List.setIfInBounds_toArray, List.set_cons_zero, List.set_cons_succ, i64_w, i32_w]
                rfl
              refine pure_ (i := 5) (N := some 40) (v := ?_) (a' := ?_) #[true, true, true, true, true, true, false, false, false, false, false, false, false, false, false, false, false, false, false, false, false, false, false, false] rfl rfl (any_of HT_.out (by kernel_rfl)) (fun _ _ _ h => h) (Or.inl ⟨by rfl, ?_⟩) ?_ ?_
              rotate_left
              · intro w'
                go_simp
                with_reducible rfl
              rotate_left
              · simp only [Act.put, List.setIfInBounds_toArray, List.set_cons_zero, List.set_cons_succ, i64_w, i32_w]
                rfl
              refine pure_ (i := 7) (N := some 42) (v := ?_) (a' := ?_) #[true, true, true, true, true, true, false, true, false, false, false, false, false, false, false, false, false, false, false, false, false, false, false, false] rfl rfl (any_of HT_.out (by kernel_rfl)) (fun _ _ _ h => h) (Or.inl ⟨by rfl, ?_⟩) ?_ ?_
              rotate_left
              · intro w'
                go_simp
                with_reducible rfl
              rotate_left
              · simp only [Act.put, List.setIfInBounds_toArray, List.set_cons_zero, List.set_cons_succ, i64_w, i32_w]
                rfl
              refine take_ (i := 6) (N := some 41) (v := ?_) (a' := ?_) #[true, true, true, true, true, true, true, true, false, false, false, false, false, false, false, false, false, false, false, false, false, false, false, false] rfl rfl (take_ofW HT_.out HW_.out (by kernel_rfl)) (fun _ _ _ h => h) (Or.inl ⟨by rfl, ?_⟩) hHeld ?_ ?_
              rotate_left
              · rintro w' ⟨s0, s1, s2, s3, s4, s5, s6⟩
                go_simp
                with_reducible rfl
              rotate_left
              · simp only [Act.put, List.setIfInBounds_toArray, List.set_cons_zero, List.set_cons_succ, i64_w, i32_w]
                rfl
              refine take_ (i := 8) (N := some 43) (v := ?_) (a' := ?_) #[true, true, true, true, true, true, true, true, true, false, false, false, false, false, false, false, false, false, false, false, false, false, false, false] rfl rfl (take_ofW HT_.out HW_.out (by kernel_rfl)) (fun _ _ _ h => h) (Or.inl ⟨by rfl, ?_⟩) hHeld ?_ ?_
              rotate_left
              · rintro w' ⟨s0, s1, s2, s3, s4, s5, s6⟩
                go_simp
                with_reducible rfl
              rotate_left
              · simp only [Act.put, List.setIfInBounds_toArray, List.set_cons_zero, List.set_cons_succ, i64_w, i32_w]
                rfl
              refine pure_ (i := 9) (N := some 44) (v := ?_) (a' := ?_) #[true, true, true, true, true, true, true, true, true, true, false, false, false, false, false, false, false, false, false, false, false, false, false, false] rfl rfl (any_of HT_.out (by kernel_rfl)) (fun _ _ _ h => h) (Or.inl ⟨by rfl, ?_⟩) ?_ ?_
              rotate_left
              · intro w'
                go_simp
                with_reducible rfl
              rotate_left
              · simp only [Act.put, List.setIfInBounds_toArray, List.set_cons_zero, List.set_cons_succ, i64_w, i32_w]
                rfl
              refine pure_ (i := 10) (N := some 45) (v := ?_) (a' := ?_) #[true, true, true, true, true, true, true, true, true, true, true, false, false, false, false, false, false, false, false, false, false, false, false, false] rfl rfl (any_of HT_.out (by kernel_rfl)) (fun _ _ _ h => h) (Or.inl ⟨by rfl, ?_⟩) ?_ ?_
              rotate_left
              · intro w'
                go_simp
                with_reducible rfl
              rotate_left
              · simp only [Act.put, List.setIfInBounds_toArray, List.set_cons_zero, List.set_cons_succ, i64_w, i32_w]
                rfl
              refine pure_ (i := 11) (N := some 46) (v := ?_) (a' := ?_) #[true, true, true, true, true, true, true, true, true, true, true, true, false, false, false, false, false, false, false, false, false, false, false, false] rfl rfl (any_of HT_.out (by kernel_rfl)) (fun _ _ _ h => h) (Or.inl ⟨by rfl, ?_⟩) ?_ ?_
              rotate_left
              · intro w'
                go_simp
                with_reducible rfl
              rotate_left
              · simp only [Act.put, List.setIfInBounds_toArray, List.set_cons_zero, List.set_cons_succ, i64_w, i32_w]
                rfl
              refine pure_ (i := 12) (N := some 47) (v := ?_) (a' := ?_) #[true, true, true, true, true, true, true, true, true, true, true, true, true, false, false, false, false, false, false, false, false, false, false, false] rfl rfl (any_of HT_.out (by kernel_rfl)) (fun _ _ _ h => h) (Or.inl ⟨by rfl, ?_⟩) ?_ ?_
              rotate_left
              · intro w'
                go_simp
                with_reducible rfl
              rotate_left
              · simp only [Act.put, List.setIfInBounds_toArray, List.set_cons_zero, List.set_cons_succ, i64_w, i32_w]
                rfl
              refine pure_ (i := 13) (N := some 48) (v := ?_) (a' := ?_) #[true, true, true, true, true, true, true, true, true, true, true, true, true, true, false, false, false, false, false, false, false, false, false, false] rfl rfl (any_of HT_.out (by kernel_rfl)) (fun _ _ _ h => h) (Or.inl ⟨by rfl, ?_⟩) ?_ ?_
              rotate_left
              · intro w'
                go_simp
                with_reducible rfl
              rotate_left
              · simp only [Act.put, List.setIfInBounds_toArray, List.set_cons_zero, List.set_cons_succ, i64_w, i32_w]
                rfl
              refine pure_ (i := 14) (N := some 49) (v := ?_) (a' := ?_) #[true, true, true, true, true, true, true, true, true, true, true, true, true, true, true, false, false, false, false, false, false, false, false, false] rfl rfl (any_of HT_.out (by kernel_rfl)) (fun _ _ _ h => h) (Or.inl ⟨by rfl, ?_⟩) ?_ ?_
              rotate_left
              · intro w'
                go_simp
                with_reducible rfl
              rotate_left
              · simp only [Act.put, List.setIfInBounds_toArray, List.set_cons_zero, List.set_cons_succ, i64_w, i32_w]
                rfl
              refine pure_ (i := 15) (N := some 50) (v := ?_) (a' := ?_) #[true, true, true, true, true, true, true, true, true, true, true, true, true, true, true, true, false, false, false, false, false, false, false, false] rfl rfl (any_of HT_.out (by kernel_rfl)) (fun _ _ _ h => h) (Or.inl ⟨by rfl, ?_⟩) ?_ ?_
              rotate_left
              · intro w'
                go_simp
                with_reducible rfl
              rotate_left
              · simp only [Act.put, List.setIfInBounds_toArray, List.set_cons_zero, List.set_cons_succ, i64_w, i32_w]
                rfl
              refine pure_ (i := 16) (N := some 51) (v := ?_) (a' := ?_) #[true, true, true, true, true, true, true, true, true, true, true, true, true, true, true, true, true, false, false, false, false, false, false, false] rfl rfl (any_of HT_.out (by kernel_rfl)) (fun _ _ _ h => h) (Or.inl ⟨by rfl, ?_⟩) ?_ ?_
              rotate_left
              · intro w'
                go_simp
                with_reducible rfl
              rotate_left
              · simp only [Act.put, List.setIfInBounds_toArray, List.set_cons_zero, List.set_cons_succ, i64_w, i32_w]
                rfl
              refine take_ (i := 17) (N := some 52) (v := ?_) (a' := ?_) #[true, true, true, true, true, true, true, true, true, true, true, true, true, true, true, true, true, true, false, false, false, false, false, false] rfl rfl (take_ofW HT_.out HW_.out (by kernel_rfl)) (fun _ _ _ h => h) (Or.inl ⟨by rfl, ?_⟩) hHeld ?_ ?_
              rotate_left
              · rintro w' ⟨s0, s1, s2, s3, s4, s5, s6⟩
                go_simp
                with_reducible rfl
              rotate_left
              · simp only [Act.put, List.setIfInBounds_toArray, List.set_cons_zero, List.set_cons_succ, i64_w, i32_w]
                rfl
              refine take_ (i := 19) (N := some 54) (v := ?_) (a' := ?_) #[true, true, true, true, true, true, true, true, true, true, true, true, true, true, true, true, true, true, false, true, false, false, false, false] rfl rfl (take_ofW HT_.out HW_.out (by kernel_rfl)) (fun _ _ _ h => h) (Or.inl ⟨by rfl, ?_⟩) hHeld ?_ ?_
              rotate_left
              · rintro w' ⟨s0, s1, s2, s3, s4, s5, s6⟩
                go_simp
                with_reducible rfl
              rotate_left
              · simp only [Act.put, List.setIfInBounds_toArray, List.set_cons_zero, List.set_cons_succ, i64_w, i32_w]
                rfl
              refine one_ (i := 18) (N := some 53) #[true, true, true, true, true, true, true, true, true, true, true, true, true, true, true, true, true, true, true, true, false, false, false, false] rfl rfl (one_of HT_.out (by kernel_rfl)) (by decide) (fun K hK => ?_)
              refine goes_ Try.func12 (by kernel_rfl) rfl #[.agg #[.int .u64 a0_0, .int .u64 a0_1, .int .u64 a0_2, .slice A0_3 l0_3.length c0_3, .slice A0_4 l0_4.length c0_4]] (by rfl) rfl rfl (by (try simp only [List.map_toArray, List.map_cons, List.map_nil]); first | done | rfl | (simp only [List.length_drop, List.length_take]; rfl)) ?_
              with_reducible refine (edit_Check.calls k a0_0 a0_1 a0_2 _ _ l0_3 _ _ l0_4 t338 _ ?side1 ?side2 ?side3 ?side4 A12.out).mono ?_
              (case side1 => repeat (first | exact (Kd.C_below HR0_3.out HB.out) | (with_reducible refine Kd.C_alloc ?_ _) | (with_reducible refine Kd.C_drewN ?_ _) | (with_reducible refine Kd.C_drew ?_)))
              (case side2 => exact HC0_3.out)
              (case side3 => repeat (first | exact (Kd.C_below HR0_4.out HB.out) | (with_reducible refine Kd.C_alloc ?_ _) | (with_reducible refine Kd.C_drewN ?_ _) | (with_reducible refine Kd.C_drew ?_)))
              (case side4 => exact HC0_4.out)
              rintro e w41 ⟨rfl, hb⟩
              refine ⟨_, rfl, ?_⟩
              have n0_ := Aside0.mk (Kd.R_below (by (with_reducible repeat (first | apply Kd.R_alloc | apply Kd.R_drewN | apply Kd.R_drew)); exact HO322.out) hb)
              have n1_ := Aside0.mk (Kd.R_below (by (with_reducible repeat (first | apply Kd.R_alloc | apply Kd.R_drewN | apply Kd.R_drew)); exact HO328.out) hb)
              have n2_ := Aside0.mk (Kd.R_below (by (with_reducible repeat (first | apply Kd.R_alloc | apply Kd.R_drewN | apply Kd.R_drew)); exact HO331.out) hb)
              have n3_ := Aside0.mk (Kd.R_below (by (with_reducible repeat (first | apply Kd.R_alloc | apply Kd.R_drewN | apply Kd.R_drew)); exact HO335.out) hb)
              have n4_ := Aside0.mk (blk_below (g := gb314) (o := .cells #[.int .u64 a0_0, .int .u64 a0_1, .int .u64 a0_2, .slice A0_3 l0_3.length c0_3, .slice A0_4 l0_4.length c0_4] 27 (0, 0)) (by (with_reducible repeat (first | refine blk_drewN ?_ _ | refine blk_drew ?_ | refine blk_alloc ?_ _)); exact BK314.out) hb)
              have n5_ := Aside0.mk (blk_below (g := gb316) (o := .cells #[.int .u64 a0_0, .int .u64 a0_1, .int .u64 a0_2, .slice Ao24 y320.length co24, .slice Ao30 y326.length co30] 27 (0, 0)) (by (with_reducible repeat (first | refine blk_drewN ?_ _ | refine blk_drew ?_ | refine blk_alloc ?_ _)); exact BK316.out) hb)
              have n6_ := Aside0.mk (below_step (by repeat (first | (with_reducible first | exact HB.out | apply below_alloc | apply pw_below_drewN | apply below_drew1 | refine below_set ?_ GE314.out | refine below_set ?_ GE316.out) | exact HB.out)) hb)
              clear HO322
              clear HO328
              clear HO331
              clear HO335
              clear BK314
              clear BK316
              clear HB
              have HO322 := n0_
              have HO328 := n1_
              have HO331 := n2_
              have HO335 := n3_
              have BK314 := n4_
              have BK316 := n5_
              have HB := n6_
              clear n0_ n1_ n2_ n3_ n4_ n5_ n6_
              (try clear hb)
              (try clear hb2)
              (try clear hk)
              (try clear hi)
              refine hK.out _ _ ⟨(blk_cell BK314.out 0).trans rfl, (blk_cell BK314.out 1).trans rfl, (blk_cell BK314.out 2).trans rfl, (blk_cell BK314.out 3).trans rfl, (blk_cell BK314.out 4).trans rfl, (own_string (P := Try.prog) Try.underlying28 Try.underlying5 Try.underlying9 (Kd.own_of_R HO331.out)), (own_string (P := Try.prog) Try.underlying28 Try.underlying5 Try.underlying9 (Kd.own_of_R HO335.out))⟩ (fun hHeld => ?_)
              clear hK K
              refine norm_ (a' := ?_) ?_ ?_
              rotate_left
              · show Act.put _ (some 53) _ = _
                simp only [Act.put, List.setIfInBounds_toArray, List.set_cons_zero, List.set_cons_succ, i64_w, i32_w]
                rfl
              refine one_ (i := 20) (N := some 55) #[true, true, true, true, true, true, true, true, true, true, true, true, true, true, true, true, true, true, true, true, true, false, false, false] rfl rfl (one_of HT_.out (by kernel_rfl)) (by decide) (fun K hK => ?_)
              refine goes_ Try.func13 (by kernel_rfl) rfl #[.agg #[.int .u64 a0_0, .int .u64 a0_1, .int .u64 a0_2, .slice A0_3 l0_3.length c0_3, .slice A0_4 l0_4.length c0_4]] (by rfl) rfl rfl (by (try simp only [List.map_toArray, List.map_cons, List.map_nil]); first | done | rfl | (simp only [List.length_drop, List.length_take]; rfl)) ?_
              with_reducible refine (staddleref13_Check.calls k a0_0 a0_1 a0_2 _ _ l0_3 _ _ l0_4 t339 _ ?side1 ?side2 ?side3 ?side4 A13.out).mono ?_
              (case side1 => repeat (first | exact (Kd.C_below HR0_3.out HB.out) | (with_reducible refine Kd.C_alloc ?_ _) | (with_reducible refine Kd.C_drewN ?_ _) | (with_reducible refine Kd.C_drew ?_)))
              (case side2 => exact HC0_3.out)
              (case side3 => repeat (first | exact (Kd.C_below HR0_4.out HB.out) | (with_reducible refine Kd.C_alloc ?_ _) | (with_reducible refine Kd.C_drewN ?_ _) | (with_reducible refine Kd.C_drew ?_)))
              (case side4 => exact HC0_4.out)
              rintro e w42 ⟨rfl, hb⟩
              refine ⟨_, rfl, ?_⟩
              have n0_ := Aside0.mk (Kd.R_below (by (with_reducible repeat (first | apply Kd.R_alloc | apply Kd.R_drewN | apply Kd.R_drew)); exact HO322.out) hb)
              have n1_ := Aside0.mk (Kd.R_below (by (with_reducible repeat (first | apply Kd.R_alloc | apply Kd.R_drewN | apply Kd.R_drew)); exact HO328.out) hb)
              have n2_ := Aside0.mk (Kd.R_below (by (with_reducible repeat (first | apply Kd.R_alloc | apply Kd.R_drewN | apply Kd.R_drew)); exact HO331.out) hb)
              have n3_ := Aside0.mk (Kd.R_below (by (with_reducible repeat (first | apply Kd.R_alloc | apply Kd.R_drewN | apply Kd.R_drew)); exact HO335.out) hb)
              have n4_ := Aside0.mk (blk_below (g := gb314) (o := .cells #[.int .u64 a0_0, .int .u64 a0_1, .int .u64 a0_2, .slice A0_3 l0_3.length c0_3, .slice A0_4 l0_4.length c0_4] 27 (0, 0)) (by (with_reducible repeat (first | refine blk_drewN ?_ _ | refine blk_drew ?_ | refine blk_alloc ?_ _)); exact BK314.out) hb)
              have n5_ := Aside0.mk (blk_below (g := gb316) (o := .cells #[.int .u64 a0_0, .int .u64 a0_1, .int .u64 a0_2, .slice Ao24 y320.length co24, .slice Ao30 y326.length co30] 27 (0, 0)) (by (with_reducible repeat (first | refine blk_drewN ?_ _ | refine blk_drew ?_ | refine blk_alloc ?_ _)); exact BK316.out) hb)
              have n6_ := Aside0.mk (below_step (by repeat (first | (with_reducible first | exact HB.out | apply below_alloc | apply pw_below_drewN | apply below_drew1 | refine below_set ?_ GE314.out | refine below_set ?_ GE316.out) | exact HB.out)) hb)
              clear HO322
              clear HO328
              clear HO331
              clear HO335
              clear BK314
              clear BK316
              clear HB
              have HO322 := n0_
              have HO328 := n1_
              have HO331 := n2_
              have HO335 := n3_
              have BK314 := n4_
              have BK316 := n5_
              have HB := n6_
              clear n0_ n1_ n2_ n3_ n4_ n5_ n6_
              (try clear hb)
              (try clear hb2)
              (try clear hk)
              (try clear hi)
              refine hK.out _ _ ⟨(blk_cell BK314.out 0).trans rfl, (blk_cell BK314.out 1).trans rfl, (blk_cell BK314.out 2).trans rfl, (blk_cell BK314.out 3).trans rfl, (blk_cell BK314.out 4).trans rfl, (own_string (P := Try.prog) Try.underlying28 Try.underlying5 Try.underlying9 (Kd.own_of_R HO331.out)), (own_string (P := Try.prog) Try.underlying28 Try.underlying5 Try.underlying9 (Kd.own_of_R HO335.out))⟩ (fun hHeld => ?_)
              clear hK K
              refine norm_ (a' := ?_) ?_ ?_
              rotate_left
              · show Act.put _ (some 55) _ = _
                simp only [Act.put, List.setIfInBounds_toArray, List.set_cons_zero, List.set_cons_succ, i64_w, i32_w]
                rfl
              refine pure_ (i := 21) (N := some 56) (v := ?_) (a' := ?_) #[true, true, true, true, true, true, true, true, true, true, true, true, true, true, true, true, true, true, true, true, true, true, false, false] rfl rfl (any_of HT_.out (by kernel_rfl)) (fun _ _ _ h => h) (Or.inl ⟨by rfl, ?_⟩) ?_ ?_
              rotate_left
              · intro w'
                go_simp
                with_reducible rfl
              rotate_left
              · simp only [Act.put, List.setIfInBounds_toArray, List.set_cons_zero, List.set_cons_succ, i64_w, i32_w]
                rfl
              refine pure_ (i := 22) (N := some 57) (v := ?_) (a' := ?_) #[true, true, true, true, true, true, true, true, true, true, true, true, true, true, true, true, true, true, true, true, true, true, true, false] rfl rfl (any_of HT_.out (by kernel_rfl)) (fun _ _ _ h => h) (Or.inl ⟨by rfl, ?_⟩) ?_ ?_
              rotate_left
              · intro w'
                go_simp
                with_reducible rfl
              rotate_left
              · simp only [Act.put, List.setIfInBounds_toArray, List.set_cons_zero, List.set_cons_succ, i64_w, i32_w]
                rfl
              refine pure_ (i := 23) (N := some 2) (v := ?_) (a' := ?_) #[true, true, true, true, true, true, true, true, true, true, true, true, true, true, true, true, true, true, true, true, true, true, true, true] rfl rfl (any_of HT_.out (by kernel_rfl)) (fun _ _ _ h => h) (Or.inl ⟨by rfl, ?_⟩) ?_ ?_
              rotate_left
              · intro w'
                go_simp
                with_reducible rfl
              rotate_left
              · simp only [Act.put, List.setIfInBounds_toArray, List.set_cons_zero, List.set_cons_succ, i64_w, i32_w]
                rfl
              refine done_ (done_of HT_.out (by kernel_rfl)) ?_
              try go_wp2
              go_ret
              exact ⟨by first | rfl | (simp [errW_none, errW_some] <;> rfl) | (simp [*, errW_none, errW_some] <;> rfl), by repeat (first | (with_reducible first | exact HB.out | apply below_alloc | apply pw_below_drewN | apply below_drew1 | refine below_set ?_ GE314.out | refine below_set ?_ GE316.out) | exact HB.out)⟩
            · rw [if_neg c11] at H
              have c11b0 : (t332 == t336) = false := beq_eq_false_iff_ne.mpr c11
              have c11b1 : (t332 != t336) = true := bne_iff_ne.mpr c11
              exact absurd ((Option.some.inj H).trans hr) (by decide)
          · rw [if_neg c10] at H
            have c10b0 : ((strOfNums t329).toList == (strOfNums t333).toList) = false := beq_eq_false_iff_ne.mpr c10
            have c10b1 : ((strOfNums t329).toList != (strOfNums t333).toList) = true := bne_iff_ne.mpr c10
            exact absurd ((Option.some.inj H).trans hr) (by decide)
        · replace c9 := Bool.eq_false_iff.mpr c9
          subst c9
          have H1 : (some false) = some r := by rw [if_neg (show ¬ (false = true) by decide)] at H; exact H
          clear H
          have H := H1
          clear H1
          exact absurd ((Option.some.inj H).trans hr) (by decide)
      · replace c8 := Bool.eq_false_iff.mpr c8
        subst c8
        have H1 : (some false) = some r := by rw [if_neg (show ¬ (false = true) by decide)] at H; exact H
        clear H
        have H := H1
        clear H1
        exact absurd ((Option.some.inj H).trans hr) (by decide)
    · rw [if_neg c4] at H
      exact absurd H (by simp)
  · rw [if_neg c3] at H
    exact absurd H (by simp)

end Go.Proofs.Ythkkbgehmiobaaa.P
