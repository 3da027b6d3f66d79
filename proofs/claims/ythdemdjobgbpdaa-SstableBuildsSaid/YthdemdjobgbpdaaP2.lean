-- By this session's wip/hprint.py: the kit's print.py with functions by hand beside it. Not trusted: Lean checks it.
import Derived.Test.YthdemdjobgbpdaaP0
namespace Go.Proofs.Ythdemdjobgbpdaa.P
open Go.RowKit Go.Proofs.YthdemdjobgbpdaaW.PrintWords Go.Proofs.YthdemdjobgbpdaaW.PrintLast Go.Proofs.YthdemdjobgbpdaaW.PrintMore
attribute [local go_sem] max2_int min2_int max_two min_two max_three min_three max_four min_four   -- for this text's walks alone
set_option linter.unusedVariables false
set_option linter.unusedSimpArgs false

/-! ### codec_Fixed: function 31 -/
mutual
def codec_Fixed.j0 : Nat → List Int → Int → Bool → Option (Int × Int)
  | 0, _, _, _ => none
  | k + 1, x0, x1, x8 => if x8 = true then (some (0, 1)) else (if (x0.length : Int) < x1 then (some (0, 10)) else (codec_Fixed.l0 k x0 0 x1 0))
def codec_Fixed.l0 : Nat → List Int → Int → Int → Int → Option (Int × Int)
  | 0, _, _, _, _ => none
  | k + 1, x0, x6, x20, x21 => if x21 < x20 then (if 0 ≤ x21 then (if x21 < (x0.length : Int) then (if 0 ≤ (wrap64 (8 * x21)) then (codec_Fixed.l0 k x0 (Go.bits .or .u64 x6 (shl .u64 (IntKind.u64.wrap (rd x0 x21)) (wrap64 (8 * x21)))) x20 (wrap64 (x21 + 1))) else (none)) else (none)) else (none)) else (some (x6, 0))
end
def codec_Fixed.f (k : Nat) (l0 : List Int) (a1 : Int) : Option (Int × Int) := if a1 < 1 then (codec_Fixed.j0 k l0 a1 true) else (codec_Fixed.j0 k l0 a1 (decide (a1 > 8)))
theorem codec_Fixed.mono_l : ∀ k, (∀ y0 y1 y2, LeO (codec_Fixed.j0 k y0 y1 y2) (codec_Fixed.j0 (k + 1) y0 y1 y2)) ∧ (∀ y0 y1 y2 y3, LeO (codec_Fixed.l0 k y0 y1 y2 y3) (codec_Fixed.l0 (k + 1) y0 y1 y2 y3))
  | 0 => ⟨fun _ _ _ r h => by simp [codec_Fixed.j0] at h, fun _ _ _ _ r h => by simp [codec_Fixed.l0] at h⟩
  | k + 1 => by
    obtain ⟨ih0, ih1⟩ := codec_Fixed.mono_l k
    refine ⟨?_, ?_⟩
    · intro y0 y1 y2
      unfold codec_Fixed.j0
      repeat' first
      | (with_reducible exact ih0 _ _ _)
      | (with_reducible exact ih1 _ _ _ _)
      | (with_reducible exact LeO.refl _)
      | (with_reducible exact LeO.none _)
      | (with_reducible refine LeO.ite ?_ ?_)
      | (with_reducible refine LeO.bind ?_ (fun _ => ?_))
      | exact ih0 _ _ _
      | exact ih1 _ _ _ _
      | exact LeO.none _
      | refine LeO.ite ?_ ?_
      | refine LeO.bind ?_ (fun _ => ?_)
    · intro y0 y1 y2 y3
      unfold codec_Fixed.l0
      repeat' first
      | (with_reducible exact ih0 _ _ _)
      | (with_reducible exact ih1 _ _ _ _)
      | (with_reducible exact LeO.refl _)
      | (with_reducible exact LeO.none _)
      | (with_reducible refine LeO.ite ?_ ?_)
      | (with_reducible refine LeO.bind ?_ (fun _ => ?_))
      | exact ih0 _ _ _
      | exact ih1 _ _ _ _
      | exact LeO.none _
      | refine LeO.ite ?_ ?_
      | refine LeO.bind ?_ (fun _ => ?_)
theorem codec_Fixed.mono : ∀ a0 a1 k, LeO (codec_Fixed.f k a0 a1) (codec_Fixed.f (k + 1) a0 a1) := by
  intro a0 a1 k
  obtain ⟨ih0, ih1⟩ := codec_Fixed.mono_l k
  unfold codec_Fixed.f
  repeat' first
      | (with_reducible exact ih0 _ _ _)
      | (with_reducible exact ih1 _ _ _ _)
      | (with_reducible exact LeO.refl _)
      | (with_reducible exact LeO.none _)
      | (with_reducible refine LeO.ite ?_ ?_)
      | (with_reducible refine LeO.bind ?_ (fun _ => ?_))
      | exact ih0 _ _ _
      | exact ih1 _ _ _ _
      | exact LeO.none _
      | refine LeO.ite ?_ ?_
      | refine LeO.bind ?_ (fun _ => ?_)
set_option maxHeartbeats 8000000 in
set_option maxRecDepth 100000 in
theorem codec_Fixed.calls (k : Nat) (A0 : Option Addr) (c0 : Nat) (l0 : List Int) (a1 : Int) (r1 : Int) (r2 : Int) (w : World) (hr0 : Kd.C (Kd.int .u8) w A0 l0.length l0) (hc0 : l0.length ≤ c0) (h : codec_Fixed.f k l0 a1 = some (r1, r2)) :
    Calls Try.prog 31 #[.slice A0 l0.length c0, .int .i64 a1] w fun e w' => e = .returned (.tuple #[.int .u64 r1, .int .i64 r2]) ∧ Drawn0 w w' := by
  have HR0 := Aside0.mk hr0
  have HC0 := Aside0.mk hc0
  clear hr0 hc0
  have H : (if a1 < 1 then (codec_Fixed.j0 k l0 a1 true) else (codec_Fixed.j0 k l0 a1 (decide (a1 > 8)))) = some (r1, r2) := h
  clear h
  have HC3 := Aside0.mk H
  clear H
  go_enter Try.func31, Try.ntmps31
  go_upto_region 1 with (fail)
  go_cut [8] (fun v8 wc => ∃ (kq : Nat) (x8_2 : Bool), v8 = .bool x8_2 ∧ Aside0 (codec_Fixed.j0 kq l0 a1 x8_2 = some (r1, r2)) ∧ Aside0 (kq ≤ k) ∧ Drawn0 w wc)
  case first =>
    have H := HC3.out
    clear HC3
    by_cases c4 : a1 < 1
    · rw [if_pos c4] at H
      have c4b0 : decide (a1 < 1) = true := decide_eq_true c4
      clear c4
      (first | rw [c4b0] | (simp only [i64_w, i32_w]; rw [c4b0]) | skip)
      have H' := Aside0.mk H
      clear H
      go_wp2
      go_meet
      case rel => exact ⟨_, (true), (by first | rfl | (simp; done) | (simp [*]; done) | (simp; omega)), H', ⟨by first | omega | exact Nat.le_refl _⟩, by repeat (first | exact Drawn0.refl _ | apply Drawn0.step)⟩
    · rw [if_neg c4] at H
      have c4b0 : decide (a1 < 1) = false := decide_eq_false c4
      clear c4
      (first | rw [c4b0] | (simp only [i64_w, i32_w]; rw [c4b0]) | skip)
      have H' := Aside0.mk H
      clear H
      go_wp2
      go_meet
      case rel => exact ⟨_, (decide (a1 > 8)), (by first | rfl | (simp; done) | (simp [*]; done) | (simp; omega)), H', ⟨by first | omega | exact Nat.le_refl _⟩, by repeat (first | exact Drawn0.refl _ | apply Drawn0.step)⟩
  case rest =>
    clear HC3
    try clear p2
    try clear c3
    try clear c4
    try clear c4b0
    obtain ⟨kq, x8_2, rfl, HA, HJ2, ⟨mc2, rfl⟩⟩ := hcut
    cases kq with
    | zero => exact absurd HA.out (by simp [codec_Fixed.j0])
    | succ kj2 =>
      have H := HA.out
      clear HA
      simp only [codec_Fixed.j0] at H
      by_cases c5 : x8_2 = true
      · subst c5
        have H1 : (some (0, 1)) = some (r1, r2) := by rw [if_pos rfl] at H; exact H
        clear H
        have H := H1
        clear H1
        simp only [Option.some.injEq, Prod.mk.injEq] at H
        obtain ⟨rfl, rfl⟩ := H
        go_wp2
        go_ret2
        exact ⟨by first | rfl | (simp; done) | (simp [*]; done) | (simp; omega), by repeat (first | exact Drawn0.refl _ | apply Drawn0.step)⟩
      · replace c5 := Bool.eq_false_iff.mpr c5
        subst c5
        have H1 : (if (l0.length : Int) < a1 then (some (0, 10)) else (codec_Fixed.l0 kj2 l0 0 a1 0)) = some (r1, r2) := by rw [if_neg (show ¬ (false = true) by decide)] at H; exact H
        clear H
        have H := H1
        clear H1
        by_cases c6 : (l0.length : Int) < a1
        · rw [if_pos c6] at H
          have c6b0 : decide ((l0.length : Int) < a1) = true := decide_eq_true c6
          clear c6
          simp only [Option.some.injEq, Prod.mk.injEq] at H
          obtain ⟨rfl, rfl⟩ := H
          go_wp2
          go_ret2
          exact ⟨by first | rfl | (simp; done) | (simp [*]; done) | (simp; omega), by repeat (first | exact Drawn0.refl _ | apply Drawn0.step)⟩
        · rw [if_neg c6] at H
          have c6b0 : decide ((l0.length : Int) < a1) = false := decide_eq_false c6
          clear c6
          have H' := Aside0.mk H
          clear H
          go_wp2
          go_loopg [6, 21] kj2 (fun kq v6 v21 w' => ∃ (x6_2 : Int) (x21_2 : Int), v6 = .int .u64 x6_2 ∧ v21 = .int .i64 x21_2 ∧ Aside0 (codec_Fixed.l0 kq l0 x6_2 a1 x21_2 = some (r1, r2)) ∧ Aside0 (kq ≤ kj2) ∧ Drawn0 w w')
          case atStart => exact ⟨(0), (0), (by first | rfl | (simp; done) | (simp [*]; done) | (simp; omega)), (by first | rfl | (simp; done) | (simp [*]; done) | (simp; omega)), H', ⟨Nat.le_refl _⟩, by repeat (first | exact Drawn0.refl _ | apply Drawn0.step)⟩
          case round =>
            clear H'
            try clear c2
            try clear p2
            try clear c3
            try clear c4
            try clear c4b0
            try clear c5
            try clear c6
            try clear c6b0
            try clear p2
            obtain ⟨x6_2, x21_2, rfl, rfl, HA, HK2, ⟨m2, rfl⟩⟩ := hrel
            cases gk with
            | zero => exact absurd HA.out (by simp [codec_Fixed.l0])
            | succ k2 =>
              have H := HA.out
              clear HA
              simp only [codec_Fixed.l0] at H
              by_cases c7 : x21_2 < a1
              · rw [if_pos c7] at H
                have c7b0 : decide (x21_2 < a1) = true := decide_eq_true c7
                clear c7
                by_cases c8 : 0 ≤ x21_2
                · rw [if_pos c8] at H
                  have c8b0 : decide (0 ≤ x21_2) = true := decide_eq_true c8
                  clear c8
                  by_cases c9 : x21_2 < (l0.length : Int)
                  · rw [if_pos c9] at H
                    have c9b0 : decide (x21_2 < (l0.length : Int)) = true := decide_eq_true c9
                    clear c9
                    obtain ⟨ji10, hji10⟩ : ∃ j_ : Int, (wrap64 (8 * x21_2)) = j_ := ⟨_, rfl⟩
                    replace H : (if 0 ≤ (ji10) then (codec_Fixed.l0 k2 l0 (Go.bits .or .u64 x6_2 (shl .u64 (IntKind.u64.wrap (rd l0 x21_2)) (ji10))) a1 (wrap64 (x21_2 + 1))) else (none)) = some (r1, r2) := by first | (rw [hji10] at H; exact H) | (simp only [hji10] at H ⊢; exact H)
                    have hji10w : (IntKind.i64.wrap (8 * x21_2)) = ji10 := (i64_w _).trans hji10
                    by_cases c11 : 0 ≤ (ji10)
                    · rw [if_pos c11] at H
                      have c11b0 := eq_true c11
                      have c11b1 : decide (0 ≤ (ji10)) = true := decide_eq_true c11
                      clear c11
                      obtain ⟨ji12, hji12⟩ : ∃ j_ : Int, (shl .u64 (IntKind.u64.wrap (rd l0 x21_2)) (ji10)) = j_ := ⟨_, rfl⟩
                      replace H : (codec_Fixed.l0 k2 l0 (Go.bits .or .u64 x6_2 (ji12)) a1 (wrap64 (x21_2 + 1))) = some (r1, r2) := by first | (rw [hji12] at H; exact H) | (simp only [hji12] at H ⊢; exact H)
                      have hji12_ : (IntKind.u64.wrap ((IntKind.u64.wrap (rd l0 x21_2)) * 2 ^ min (ji10).toNat 64)) = ji12 := hji12
                      have hji12z : (ji10) ≤ 64 → (IntKind.u64.wrap ((IntKind.u64.wrap (rd l0 x21_2)) * 2 ^ (ji10).toNat)) = ji12 := shl_small hji12
                      have H' := Aside0.mk H
                      clear H
                      have p101 : 0 ≤ (x21_2 : Int) := of_decide_eq_true (by first | (with_reducible assumption) | assumption)
                      have q101 : x21_2 < (l0.length : Int) := of_decide_eq_true (by first | (with_reducible assumption) | assumption)
                      obtain ⟨ad101, e101, hx101_0⟩ := Kd.at_int HR0.out x21_2 p101 q101
                      cases e101
                      replace p101 := eq_true p101
                      replace q101 := eq_true q101
                      go_wp2
                      go_roundg k2
                      case measure => have := HJ2.out; have := HK2.out; omega
                      case rel => exact ⟨(Go.bits .or .u64 x6_2 (ji12)), (wrap64 (x21_2 + 1)), (by first | rfl | (simp; done) | (simp only [← hji12] <;> (first | rfl | simp)) | (simp [*]; done)), (by first | rfl | (simp; done) | (simp [*]; done) | (simp; omega)), H', ⟨by have := HJ2.out; have := HK2.out; omega⟩, by repeat (first | exact Drawn0.refl _ | apply Drawn0.step)⟩
                    · rw [if_neg c11] at H
                      exact absurd H (by simp)
                  · rw [if_neg c9] at H
                    exact absurd H (by simp)
                · rw [if_neg c8] at H
                  exact absurd H (by simp)
              · rw [if_neg c7] at H
                have c7b0 : decide (x21_2 < a1) = false := decide_eq_false c7
                clear c7
                simp only [Option.some.injEq, Prod.mk.injEq] at H
                obtain ⟨rfl, rfl⟩ := H
                go_wp2
                go_ret2
                exact ⟨by first | rfl | (simp; done) | (simp [*]; done) | (simp; omega), by repeat (first | exact Drawn0.refl _ | apply Drawn0.step)⟩

/-! ### bloom_Hash: function 64 -/
def bloom_Hash.l0 : Nat → List Int → Int → Option (Int)
  | 0, _, _ => none
  | k + 1, x3, x4 => if (x3.length : Int) ≥ 4 then ((codec_Fixed.f k x3 4).bind fun bt105 => (if 4 ≤ (x3.length : Int) then (bloom_Hash.l0 k (x3.drop 4) (Go.bits .xor .u32 ((((x4 + ((bt105.1) % 4294967296)) % 4294967296) * 3332679571) % 4294967296) (((((x4 + ((bt105.1) % 4294967296)) % 4294967296) * 3332679571) % 4294967296) / 65536))) else (none))) else (if (x3.length : Int) > 0 then ((codec_Fixed.f k x3 (x3.length : Int)).bind fun bt112 => (some (Go.bits .xor .u32 ((((x4 + ((bt112.1) % 4294967296)) % 4294967296) * 3332679571) % 4294967296) (((((x4 + ((bt112.1) % 4294967296)) % 4294967296) * 3332679571) % 4294967296) / 16777216)))) else (some x4))
def bloom_Hash.f (k : Nat) (a0 : ByteArray) : Option (Int) := if a0.size ≤ 9223372036854775807 then (bloom_Hash.l0 k (bytesOf a0) (Go.bits .xor .u32 3164544308 (((((a0.size : Int)) % 4294967296) * 3332679571) % 4294967296))) else (none)
theorem bloom_Hash.mono_l : ∀ k, (∀ y0 y1, LeO (bloom_Hash.l0 k y0 y1) (bloom_Hash.l0 (k + 1) y0 y1))
  | 0 => fun _ _ r h => by simp [bloom_Hash.l0] at h
  | k + 1 => by
    have ih0 := bloom_Hash.mono_l k
    · intro y0 y1
      unfold bloom_Hash.l0
      repeat' first
      | (with_reducible exact ih0 _ _)
      | (with_reducible exact codec_Fixed.mono _ _ _)
      | (with_reducible exact LeO.refl _)
      | (with_reducible exact LeO.none _)
      | (with_reducible refine LeO.ite ?_ ?_)
      | (with_reducible refine LeO.bind ?_ (fun _ => ?_))
      | exact ih0 _ _
      | exact codec_Fixed.mono _ _ _
      | exact LeO.none _
      | refine LeO.ite ?_ ?_
      | refine LeO.bind ?_ (fun _ => ?_)
theorem bloom_Hash.mono : ∀ a0 k, LeO (bloom_Hash.f k a0) (bloom_Hash.f (k + 1) a0) := by
  intro a0 k
  have ih0 := bloom_Hash.mono_l k
  unfold bloom_Hash.f
  repeat' first
      | (with_reducible exact ih0 _ _)
      | (with_reducible exact codec_Fixed.mono _ _ _)
      | (with_reducible exact LeO.refl _)
      | (with_reducible exact LeO.none _)
      | (with_reducible refine LeO.ite ?_ ?_)
      | (with_reducible refine LeO.bind ?_ (fun _ => ?_))
      | exact ih0 _ _
      | exact codec_Fixed.mono _ _ _
      | exact LeO.none _
      | refine LeO.ite ?_ ?_
      | refine LeO.bind ?_ (fun _ => ?_)
set_option maxHeartbeats 8000000 in
set_option maxRecDepth 100000 in
theorem bloom_Hash.calls (k : Nat) (a0 : ByteArray) (r : Int) (w : World) (h : bloom_Hash.f k a0 = some r) :
    Calls Try.prog 64 #[.string a0] w fun e w' => e = .returned (.int .u32 r) ∧ Below w.heap.size w w' := by
  have HB := Aside0.mk (Below.refl w.heap.size w)
  have H : (if a0.size ≤ 9223372036854775807 then (bloom_Hash.l0 k (bytesOf a0) (Go.bits .xor .u32 3164544308 (((((a0.size : Int)) % 4294967296) * 3332679571) % 4294967296))) else (none)) = some r := h
  clear h
  by_cases c2 : a0.size ≤ 9223372036854775807
  · rw [if_pos c2] at H
    have LMc2 := Aside0.mk c2
    clear c2
    obtain ⟨y102, hy102⟩ : ∃ y_ : List Int, y_ = (bytesOf a0) := ⟨_, rfl⟩
    replace H : (bloom_Hash.l0 k y102 (Go.bits .xor .u32 3164544308 (((((a0.size : Int)) % 4294967296) * 3332679571) % 4294967296))) = some r := by first | (rw [hy102]; with_reducible exact H) | (have H2_ := (Option.bind_some _ _).symm.trans H; rw [hy102]; with_reducible exact H2_) | (have H2_ := (Option.bind_some _ _).symm.trans H; with_reducible exact H2_) | with_reducible exact H | (rw [hy102]; exact H) | exact H
    have Ny102 := Aside0.mk hy102
    clear hy102
    have H' := Aside0.mk H
    clear H
    go_enter Try.func64, Try.ntmps64
    go_wp2_with (first | ((with_reducible refine gate_dst (N := 10) rfl ?_); refine kd_V_conv rfl (N := 10) rfl 9 27 5 _ rfl a0 rfl Try.underlying9 Try.underlying27 Try.underlying5 ?cL ?_; (case cL => exact LMc2.out); intro v103 w3 ho4 hb hg_ hnew_; clear hg_ hnew_; (first | rw [← Ny102.out] at ho4 | (simp only [Int.reduceToNat] at ho4; rw [← Ny102.out] at ho4)); have n0_ := Aside0.mk (Kd.V_lower (Kd.V_mono (ok' := fun k_ => True) ho4 (fun k_ hk_ => trivial)) (below_size (by repeat (first | (with_reducible first | exact HB.out | apply below_alloc | apply pw_below_drewN | apply below_drew1) | exact HB.out)))); have n1_ := Aside0.mk (below_step (by repeat (first | (with_reducible first | exact HB.out | apply below_alloc | apply pw_below_drewN | apply below_drew1) | exact HB.out)) hb); clear HB; have HO104 := n0_; have HB := n1_; clear n0_ n1_; clear hb ho4; obtain ⟨Ao5, co5, eo5⟩ := Kd.V_slice HO104.out; subst eo5))
    go_loopg [3, 4] k (fun kq v3 v4 w' => ∃ (x3_1 : List Int) (x4_1 : Int), v4 = .int .u32 x4_1 ∧ Aside0 (bloom_Hash.l0 kq x3_1 x4_1 = some r) ∧ Aside0 (kq ≤ k) ∧ Aside0 (Kd.V (Kd.int .u8) 5 w' w.heap.size (fun _ => True) v3 x3_1) ∧ Aside0 (Below w.heap.size w w'))
    case atStart => exact ⟨(y102), (Go.bits .xor .u32 3164544308 (((((a0.size : Int)) % 4294967296) * 3332679571) % 4294967296)), (by first | (have Hash_len_ := bytesOf_length a0; rw [← Ny102.out] at Hash_len_; rw [Hash_len_]) | rfl | (simp; done) | (simp [*]; done) | (simp; omega)), H', ⟨Nat.le_refl _⟩, ⟨by (with_reducible repeat (first | apply Kd.V_alloc | apply Kd.V_drewN | apply Kd.V_drew)); exact HO104.out⟩, ⟨by repeat (first | (with_reducible first | exact HB.out | apply below_alloc | apply pw_below_drewN | apply below_drew1) | exact HB.out)⟩⟩
    case round =>
      clear H'
      try clear c2
      try clear p2
      obtain ⟨x3_1, x4_1, rfl, HA, HK1, HO_3, HB⟩ := hrel
      cases gk with
      | zero => exact absurd HA.out (by simp [bloom_Hash.l0])
      | succ k1 =>
        have H := HA.out
        clear HA
        simp only [bloom_Hash.l0] at H
        by_cases c6 : (x3_1.length : Int) ≥ 4
        · rw [if_pos c6] at H
          have c6b0 : decide (4 ≤ (x3_1.length : Int)) = true := decide_eq_true c6
          have c6b1 : decide (4 ≤ x3_1.length) = true := decide_eq_true (by omega)
          clear c6
          replace H := Option.bind_eq_some_iff.mp H
          obtain ⟨⟨t105, t106⟩, A70, H⟩ := H
          replace H : (if 4 ≤ (x3_1.length : Int) then (bloom_Hash.l0 k1 (x3_1.drop 4) (Go.bits .xor .u32 ((((x4_1 + ((t105) % 4294967296)) % 4294967296) * 3332679571) % 4294967296) (((((x4_1 + ((t105) % 4294967296)) % 4294967296) * 3332679571) % 4294967296) / 65536))) else (none)) = some r := H
          have A7 := Aside0.mk A70
          clear A70
          by_cases c8 : 4 ≤ (x3_1.length : Int)
          · rw [if_pos c8] at H
            have c8b0 := eq_true c8
            have c8b1 : decide (4 ≤ (x3_1.length : Int)) = true := decide_eq_true c8
            clear c8
            obtain ⟨y107, hy107⟩ : ∃ y_ : List Int, y_ = (x3_1.drop 4) := ⟨_, rfl⟩
            replace H : (bloom_Hash.l0 k1 y107 (Go.bits .xor .u32 ((((x4_1 + ((t105) % 4294967296)) % 4294967296) * 3332679571) % 4294967296) (((((x4_1 + ((t105) % 4294967296)) % 4294967296) * 3332679571) % 4294967296) / 65536))) = some r := by first | (rw [hy107]; with_reducible exact H) | (have H2_ := (Option.bind_some _ _).symm.trans H; rw [hy107]; with_reducible exact H2_) | (have H2_ := (Option.bind_some _ _).symm.trans H; with_reducible exact H2_) | with_reducible exact H | (rw [hy107]; exact H) | exact H
            have Ny107 := Aside0.mk hy107
            clear hy107
            have H' := Aside0.mk H
            clear H
            obtain ⟨Ao9, co9, eo9⟩ := Kd.V_slice HO_3.out
            subst eo9
            go_wp2_with (first | ((with_reducible refine gate_callee (f := 31) rfl ?_); refine goesL_ (some 23) rfl rfl Try.func31 (by kernel_rfl) rfl #[.slice Ao9 x3_1.length co9, .int .i64 4] rfl (by (try simp only [List.map_toArray, List.map_cons, List.map_nil]); first | done | rfl | (simp only [List.length_drop, List.length_take]; rfl)) ?_; (with_reducible refine (codec_Fixed.calls k1 _ _ x3_1 4 t105 t106 _ ?side1 ?side2 A7.out).mono ?_); (case side1 => repeat (first | exact (Kd.V_reads' HO_3.out).2.2 | (with_reducible refine Kd.C_alloc ?_ _) | (with_reducible refine Kd.C_drewN ?_ _) | (with_reducible refine Kd.C_drew ?_))); (case side2 => exact (Kd.V_reads' HO_3.out).2.1); rintro e w' ⟨rfl, ⟨nd, rfl⟩⟩; refine ⟨_, rfl, ?_⟩; have q10 : (4 : Int) ≤ ((x3_1.length : Int) : Int) := of_decide_eq_true (by first | (with_reducible assumption) | assumption); obtain ⟨i010, hi010, _, hsz10, _⟩ := info_parts info5; have hroom10 : x3_1.length ≤ co9 := (Kd.V_reads' HO_3.out).2.1; have hC10 : Kd.F (Kd.int .u8) _ _ Ao9 x3_1.length x3_1 := (Kd.V_at (base := w.heap.size) HO_3.out).2.2; have hcut10 := cut_from (P := Try.prog) 27 5 .i64 Try.underlying27 hi010 1 hsz10 Ao9 x3_1.length co9 4 (by omega) q10; have hr10 := Kd.F_cut (m := (4 : Int).toNat) (c := co9) hC10 (by omega) hroom10; obtain ⟨A10, hA10⟩ : ∃ A1, A1 = (if co9 = (4 : Int).toNat then Ao9 else (Ao9 : Option Addr).map (·.add ((4 : Int).toNat * 1))) := ⟨_, rfl⟩; obtain ⟨c10, hc10⟩ : ∃ c1, c1 = co9 - (4 : Int).toNat := ⟨_, rfl⟩; have hy10 : y107.length = x3_1.length - (4 : Int).toNat := (by rw [Ny107.out, List.length_drop] <;> omega); rw [show (x3_1).drop (4 : Int).toNat = y107 from Ny107.out.symm] at hr10; replace hr10 : Kd.F (Kd.int .u8) _ _ A10 y107.length y107 := (by rw [hA10]; exact hr10); rw [← hy10, ← hA10, ← hc10] at hcut10; have HO111 := Aside0.mk (show Kd.V (Kd.int .u8) 5 _ w.heap.size _ (.slice A10 y107.length c10) y107 from Kd.V_mk (by rw [hy10, hc10]; exact Nat.sub_le_sub_right hroom10 _) hr10); have HC111 := Aside0.mk (show y107.length ≤ c10 from by rw [hy10, hc10]; exact Nat.sub_le_sub_right hroom10 _); clear hr10 hC10 hroom10 hi010 hsz10 hc10; have KY10 := Aside0.mk hy10; have KA10 := Aside0.mk hA10; clear hy10 hA10; replace q10 := eq_true q10))
            go_roundg k1
            case measure => have := HK1.out; omega
            case rel => exact ⟨(y107), (Go.bits .xor .u32 ((((x4_1 + ((t105) % 4294967296)) % 4294967296) * 3332679571) % 4294967296) (((((x4_1 + ((t105) % 4294967296)) % 4294967296) * 3332679571) % 4294967296) / 65536)), (by first | rfl | (simp; done) | (simp [*]; done) | (simp; omega)), H', ⟨by have := HK1.out; omega⟩, ⟨by (with_reducible repeat (first | apply Kd.V_alloc | apply Kd.V_drewN | apply Kd.V_drew)); exact HO111.out⟩, ⟨by repeat (first | (with_reducible first | exact HB.out | apply below_alloc | apply pw_below_drewN | apply below_drew1) | exact HB.out)⟩⟩
          · rw [if_neg c8] at H
            exact absurd H (by simp)
        · rw [if_neg c6] at H
          have c6b0 : decide (4 ≤ (x3_1.length : Int)) = false := decide_eq_false c6
          have c6b1 : decide (4 ≤ x3_1.length) = false := decide_eq_false (by omega)
          clear c6
          by_cases c11 : (x3_1.length : Int) > 0
          · rw [if_pos c11] at H
            have c11b0 : decide (0 < (x3_1.length : Int)) = true := decide_eq_true c11
            have c11b1 : decide (0 < x3_1.length) = true := decide_eq_true (by omega)
            clear c11
            replace H := Option.bind_eq_some_iff.mp H
            obtain ⟨⟨t112, t113⟩, A120, H⟩ := H
            replace H : (some (Go.bits .xor .u32 ((((x4_1 + ((t112) % 4294967296)) % 4294967296) * 3332679571) % 4294967296) (((((x4_1 + ((t112) % 4294967296)) % 4294967296) * 3332679571) % 4294967296) / 16777216))) = some r := H
            have A12 := Aside0.mk A120
            clear A120
            obtain rfl := Option.some.inj H
            obtain ⟨Ao13, co13, eo13⟩ := Kd.V_slice HO_3.out
            subst eo13
            go_wp2_with (first | ((with_reducible refine gate_callee (f := 31) rfl ?_); refine goesL_ (some 42) rfl rfl Try.func31 (by kernel_rfl) rfl #[.slice Ao13 x3_1.length co13, .int .i64 (x3_1.length : Int)] rfl (by (try simp only [List.map_toArray, List.map_cons, List.map_nil]); first | done | rfl | (simp only [List.length_drop, List.length_take]; rfl)) ?_; (with_reducible refine (codec_Fixed.calls k1 _ _ x3_1 (x3_1.length : Int) t112 t113 _ ?side1 ?side2 A12.out).mono ?_); (case side1 => repeat (first | exact (Kd.V_reads' HO_3.out).2.2 | (with_reducible refine Kd.C_alloc ?_ _) | (with_reducible refine Kd.C_drewN ?_ _) | (with_reducible refine Kd.C_drew ?_))); (case side2 => exact (Kd.V_reads' HO_3.out).2.1); rintro e w' ⟨rfl, ⟨nd, rfl⟩⟩; refine ⟨_, rfl, ?_⟩))
            go_ret
            exact ⟨by first | rfl | (simp [errW_none, errW_some] <;> rfl) | (simp [*, errW_none, errW_some] <;> rfl), by repeat (first | (with_reducible first | exact HB.out | apply below_alloc | apply pw_below_drewN | apply below_drew1) | exact HB.out)⟩
          · rw [if_neg c11] at H
            have c11b0 : decide (0 < (x3_1.length : Int)) = false := decide_eq_false c11
            have c11b1 : decide (0 < x3_1.length) = false := decide_eq_false (by omega)
            clear c11
            obtain rfl := Option.some.inj H
            obtain ⟨Ao14, co14, eo14⟩ := Kd.V_slice HO_3.out
            subst eo14
            go_wp2
            go_ret
            exact ⟨by first | rfl | (simp [errW_none, errW_some] <;> rfl) | (simp [*, errW_none, errW_some] <;> rfl), by repeat (first | (with_reducible first | exact HB.out | apply below_alloc | apply pw_below_drewN | apply below_drew1) | exact HB.out)⟩
  · rw [if_neg c2] at H
    exact absurd H (by simp)

-- NOT PRINTED: function 44 (bloom_probed)

-- NOT PRINTED: function 18 (bloom_Build)

end Go.Proofs.Ythdemdjobgbpdaa.P
