/- Floats: what a number of bits, times another, comes to as an integer: it is there, and it is small. Plain: no program. -/
import Derived.Laws.FloatArith
set_option linter.unusedVariables false
set_option linter.unusedSimpArgs false
namespace Go.Proofs.Ythdemdjobgbpdaa.Q
open Ieee Go
def fIntOf (b c : Nat) : Option Int := (floatBits .mul .f64 b c).bind fun r => floatToIntVal .f64 r .i64
theorem cut_le (way : Toward) (neg : Bool) (n d : Nat) : way.cut neg n d ≤ n / (1 <<< min d (n.log2 + 2)) + 1 := by
  unfold Toward.cut
  dsimp only
  have : ∀ b : Bool, b.toNat ≤ 1 := by decide
  exact Nat.add_le_add_left (this _) _
theorem cut_zero (neg : Bool) (n d : Nat) : Toward.zero.cut neg n d = n / (1 <<< min d (n.log2 + 2)) := by
  unfold Toward.cut
  dsimp only
  simp
theorem log2_lt (n k : Nat) (h : n < 2 ^ (k + 1)) : n.log2 ≤ k := by
  by_cases h0 : n = 0
  · subst h0; exact Nat.zero_le _
  · exact Nat.lt_succ_iff.1 ((Nat.log2_lt h0).2 h)
/-- a number's whole part -/
theorem whole_lt (mag : Nat) (place : Int) (L : Nat) (hm : mag < 2 ^ 53) (hp : place + 53 ≤ L) (hL : L ≤ 60) :
    ∃ n : Nat, (Datum.number false mag place).toInt .zero = some (n : Int) ∧ n < 2 ^ L := by
  refine ⟨Toward.zero.cut false (mag <<< place.toNat) (-place).toNat, ?_, ?_⟩
  · simp [Datum.toInt, Datum.integral, signed]
  rw [cut_zero]
  by_cases h : 0 ≤ place
  · obtain ⟨q, rfl⟩ := Int.eq_ofNat_of_zero_le h
    have e : (-(q : Int)).toNat = 0 := by omega
    rw [e, Nat.zero_min, Int.toNat_natCast, Nat.shiftLeft_eq, Nat.shiftLeft_eq]
    simp only [Nat.pow_zero, Nat.mul_one, Nat.div_one]
    calc mag * 2 ^ q < 2 ^ 53 * 2 ^ q := Nat.mul_lt_mul_of_pos_right hm (Nat.two_pow_pos _)
      _ = 2 ^ (53 + q) := (Nat.pow_add ..).symm
      _ ≤ 2 ^ L := Nat.pow_le_pow_right (by decide) (by omega)
  · have e : place.toNat = 0 := by omega
    rw [e, Nat.shiftLeft_zero, Nat.shiftLeft_eq, Nat.one_mul]
    have hd : (-place).toNat + L ≥ 53 := by omega
    rcases Nat.le_total (-place).toNat (mag.log2 + 2) with h2 | h2
    · rw [Nat.min_eq_left h2]
      refine Nat.div_lt_of_lt_mul ?_
      rw [← Nat.pow_add]
      exact Nat.lt_of_lt_of_le hm (Nat.pow_le_pow_right (by decide) hd)
    · rw [Nat.min_eq_right h2]
      have : mag < 2 ^ (mag.log2 + 2) := Nat.lt_of_lt_of_le Nat.lt_log2_self (Nat.pow_le_pow_right (by decide) (by omega))
      rw [Nat.div_eq_of_lt this]
      exact Nat.two_pow_pos _
theorem read_small (r : Nat) (E : Nat) (hr : r ≤ E * 2 ^ 52 + 2 ^ 53) (hE : E ≤ 1200) :
    ∃ mag place, double.read r = .number false mag place ∧ mag < 2 ^ 53 ∧ place ≤ -1074 + (E : Int) + 1 := by
  have hw : double.signWeight = 9223372036854775808 := by decide
  have hb : double.binade = 4503599627370496 := by decide
  have hi : double.infRung = 9218868437227405312 := by decide
  have hl : double.leastPlace = -1074 := by decide
  have e1 : (2 : Nat) ^ 52 = 4503599627370496 := by decide
  have e2 : (2 : Nat) ^ 53 = 9007199254740992 := by decide
  rw [e1, e2] at hr
  have hlt : r < 9218868437227405312 := by omega
  unfold Format.read
  rw [hw, hb, hi, hl]
  have hn : (r / 9223372036854775808 % 2 == 1) = false := by
    have : r / 9223372036854775808 = 0 := Nat.div_eq_of_lt (by omega)
    rw [this]; decide
  have hm : r % 9223372036854775808 = r := Nat.mod_eq_of_lt (by omega)
  dsimp only
  rw [hn, hm]
  split
  · exact ⟨_, _, rfl, by omega, by omega⟩
  · try rw [if_pos hlt]
    refine ⟨_, _, rfl, by omega, ?_⟩
    have : r / 4503599627370496 ≤ E + 2 := by omega
    omega
/-- what is nearest to a number that is not great has a small whole part -/
theorem near_int (M : Nat) (P : Int) (L : Nat) (hM : 0 < M) (hl : P + M.log2 ≤ L) (hL : L ≤ 50) :
    ∃ n : Nat, (double.read (double.nearest false M P)).toInt .zero = some (n : Int) ∧ n < 2 ^ (L + 2) := by
  have hb : double.binade = 2 ^ 52 := by decide
  have hlp : double.leastPlace = -1074 := by decide
  have hf : (double.fractionBits : Int) = 52 := by decide
  have key : ∃ E : Nat, (E : Int) ≤ L - 52 + 1074 ∧ double.nearest false M P ≤ E * 2 ^ 52 + 2 ^ 53 := by
    unfold Format.nearest
    rw [if_neg (by omega), hb, hlp, hf]
    dsimp only
    obtain ⟨last, hlast⟩ : ∃ x, max (P + (M.log2 : Int) - 52) (-1074) = x := ⟨_, rfl⟩
    rw [hlast]
    have h1 : last ≤ L - 52 := by omega
    have h2 : -1074 ≤ last := by omega
    refine ⟨(last + 1074).toNat, by omega, ?_⟩
    have e : (last - -1074).toNat = (last + 1074).toNat := by omega
    rw [e]
    unfold Format.word
    rw [if_neg (by decide)]
    refine Nat.le_trans (Nat.min_le_left _ _) (Nat.add_le_add_left ?_ _)
    refine Nat.le_trans (cut_le _ _ _ _) ?_
    have hlog : M < 2 ^ (M.log2 + 1) := Nat.lt_log2_self
    suffices h : (M <<< (P - last).toNat) / (1 <<< min (last - P).toNat ((M <<< (P - last).toNat).log2 + 2)) < 2 ^ 53 by omega
    by_cases hc : last ≤ P
    · have e2 : (last - P).toNat = 0 := by omega
      rw [e2, Nat.zero_min, Nat.shiftLeft_zero, Nat.div_one, Nat.shiftLeft_eq]
      calc M * 2 ^ (P - last).toNat < 2 ^ (M.log2 + 1) * 2 ^ (P - last).toNat := Nat.mul_lt_mul_of_pos_right hlog (Nat.two_pow_pos _)
        _ = 2 ^ (M.log2 + 1 + (P - last).toNat) := (Nat.pow_add ..).symm
        _ ≤ 2 ^ 53 := Nat.pow_le_pow_right (by decide) (by omega)
    · have e2 : (P - last).toNat = 0 := by omega
      rw [e2, Nat.shiftLeft_zero, Nat.shiftLeft_eq, Nat.one_mul]
      rcases Nat.le_total (last - P).toNat (M.log2 + 2) with h3 | h3
      · rw [Nat.min_eq_left h3]
        refine Nat.div_lt_of_lt_mul ?_
        rw [← Nat.pow_add]
        exact Nat.lt_of_lt_of_le hlog (Nat.pow_le_pow_right (by decide) (by omega))
      · rw [Nat.min_eq_right h3, Nat.div_eq_of_lt (Nat.lt_of_lt_of_le hlog (Nat.pow_le_pow_right (by decide) (by omega)))]
        exact Nat.two_pow_pos _
  obtain ⟨E, hE, hr⟩ := key
  obtain ⟨mag, place, e, hm, hp⟩ := read_small _ E hr (by omega)
  rw [e]
  exact whole_lt mag place (L + 2) hm (by omega) (by omega)
theorem log2_mul (a b : Nat) (ha : 0 < a) (hb : 0 < b) : (a * b).log2 ≤ a.log2 + b.log2 + 1 := by
  refine log2_lt _ _ ?_
  have h1 : a < 2 ^ (a.log2 + 1) := Nat.lt_log2_self
  have h2 : b < 2 ^ (b.log2 + 1) := Nat.lt_log2_self
  calc a * b < 2 ^ (a.log2 + 1) * 2 ^ (b.log2 + 1) := Nat.mul_lt_mul_of_lt_of_lt h1 h2
    _ = 2 ^ (a.log2 + 1 + (b.log2 + 1)) := (Nat.pow_add ..).symm
    _ ≤ 2 ^ (a.log2 + b.log2 + 1 + 1) := Nat.pow_le_pow_right (by decide) (by omega)
/-- a number of bits that may be -/
def okBits (b : Nat) : Bool := (FloatKind.f64.format.order b 0 == some .gt) && (FloatKind.f64.format.order b 4632233691727265792 == some .lt || FloatKind.f64.format.order b 4632233691727265792 == some .eq)
theorem ok_read (b : Nat) (h : okBits b = true) : ∃ m i, double.read b = .number false m i ∧ 0 < m ∧ i + m.log2 ≤ 5 := by
  have e0 : double.read 0 = .number false 0 (-1074) := by decide
  have e5 : double.read 4632233691727265792 = .number false 7036874417766400 (-47) := by decide
  unfold okBits at h
  rw [Bool.and_eq_true] at h
  obtain ⟨h1, h2⟩ := h
  have hk : FloatKind.f64.format = double := rfl
  rw [hk] at h1 h2
  unfold Format.order at h1 h2
  rw [e0] at h1
  rw [e5] at h2
  match hrd : double.read b with
  | .nan s t => rw [hrd] at h1; simp [Datum.order] at h1
  | .infinity s =>
    rw [hrd] at h1 h2
    cases s
    · simp [Datum.order] at h2
    · simp [Datum.order] at h1
  | .number s m i =>
    rw [hrd] at h1 h2
    have a1 : signed false 0 (-1074 - min i (-1074)).toNat < signed s m (i - min i (-1074)).toNat := by
      simp only [Datum.order, beq_iff_eq, Option.some.injEq] at h1
      exact Int.compare_eq_gt.1 h1
    have a2 : signed s m (i - min i (-47)).toNat ≤ signed false 7036874417766400 (-47 - min i (-47)).toNat := by
      simp only [Datum.order, Bool.or_eq_true, beq_iff_eq, Option.some.injEq] at h2
      rcases h2 with h2 | h2
      · exact Int.le_of_lt (Int.compare_eq_lt.1 h2)
      · exact Int.le_of_eq (Int.compare_eq_eq.1 h2)
    have hs : s = false := by
      cases s
      · rfl
      · exfalso
        have e1 : signed false 0 (-1074 - min i (-1074)).toNat = 0 := by simp [signed]
        have e2 : signed true m (i - min i (-1074)).toNat = -((m <<< (i - min i (-1074)).toNat : Nat) : Int) := by simp only [signed, if_true]
        rw [e1, e2] at a1
        have := Int.natCast_nonneg (m <<< (i - min i (-1074)).toNat)
        exact absurd a1 (by clear e1 e2 a1; revert this; generalize ((m <<< (i - min i (-1074)).toNat : Nat) : Int) = z; intro hz; omega)
    subst hs
    have hm : 0 < m := by
      rcases Nat.eq_zero_or_pos m with rfl | h
      · simp [signed] at a1
      · exact h
    refine ⟨m, i, rfl, hm, ?_⟩
    simp only [signed, Bool.false_eq_true, if_false, Nat.shiftLeft_eq, Int.ofNat_le] at a2
    have hmle : 2 ^ m.log2 ≤ m := Nat.log2_self_le (by omega)
    have a3 : 2 ^ (m.log2 + (i - min i (-47)).toNat) < 2 ^ (53 + (-47 - min i (-47)).toNat) := by
      calc 2 ^ (m.log2 + (i - min i (-47)).toNat) = 2 ^ m.log2 * 2 ^ (i - min i (-47)).toNat := Nat.pow_add ..
        _ ≤ m * 2 ^ (i - min i (-47)).toNat := Nat.mul_le_mul_right _ hmle
        _ ≤ 7036874417766400 * 2 ^ (-47 - min i (-47)).toNat := a2
        _ < 2 ^ 53 * 2 ^ (-47 - min i (-47)).toNat := Nat.mul_lt_mul_of_pos_right (by decide) (Nat.two_pow_pos _)
        _ = 2 ^ (53 + (-47 - min i (-47)).toNat) := (Nat.pow_add ..).symm
    have a4 := (Nat.pow_lt_pow_iff_right (by decide : 1 < 2)).1 a3
    omega
theorem f_int (b c m2 : Nat) (i2 : Int) (K : Nat) (h : okBits b = true) (hc : double.read c = .number false m2 i2) (hk : m2 = 0 ∨ i2 + m2.log2 ≤ K - 6) (hK6 : 6 ≤ K) (hK : K ≤ 50) :
    ∃ r n, floatBits .mul .f64 b c = some r ∧ floatToIntVal .f64 r .i64 = some n ∧ 0 ≤ n ∧ n < 2 ^ (K + 2) := by
  obtain ⟨m, i, hrd, hm, hl⟩ := ok_read b h
  have hb : floatBits .mul .f64 b c = some (double.nearest false (m * m2) (i + i2)) := by
    show double.mul b c = _
    unfold Format.mul
    rw [hrd, hc]
    rfl
  have hmin : IntKind.i64.min = -9223372036854775808 := by decide
  have hmax : IntKind.i64.max = 9223372036854775807 := by decide
  have hp : (2 : Nat) ^ (K + 2) ≤ 2 ^ 52 := Nat.pow_le_pow_right (by decide) (by omega)
  have hp2 : (2 : Nat) ^ 52 = 4503599627370496 := by decide
  have fin : ∀ r n : Nat, (double.read r).toInt .zero = some (n : Int) → n < 2 ^ (K + 2) → floatToIntVal .f64 r .i64 = some (n : Int) := by
    intro r n e hn
    unfold floatToIntVal
    have : FloatKind.f64.decode r = double.read r := rfl
    rw [this, e]
    dsimp only
    rw [if_pos (by rw [hmin, hmax]; omega)]
  have hcast : ∀ n : Nat, n < 2 ^ (K + 2) → ((n : Int) < 2 ^ (K + 2)) := by
    intro n hn
    have := Int.ofNat_lt.2 hn
    simpa using this
  by_cases h0 : m2 = 0
  · subst h0
    have e : (double.read (double.nearest false (m * 0) (i + i2))).toInt .zero = some ((0 : Nat) : Int) := by
      rw [Nat.mul_zero]
      unfold Format.nearest
      rw [if_pos rfl]
      decide
    exact ⟨_, _, hb, fin _ 0 e (Nat.two_pow_pos _), by omega, hcast 0 (Nat.two_pow_pos _)⟩
  · have hk2 := hk.resolve_left h0
    have hl2 := log2_mul m m2 hm (by omega)
    obtain ⟨n, e, hn⟩ := near_int (m * m2) (i + i2) K (Nat.mul_pos hm (by omega)) (by omega) hK
    exact ⟨_, _, hb, fin _ n e hn, by omega, hcast n hn⟩
theorem f_probes (b : Nat) (h : okBits b = true) : ∃ r n, floatBits .mul .f64 b 4604390187031047700 = some r ∧ floatToIntVal .f64 r .i64 = some n ∧ 0 ≤ n ∧ n < 256 := by
  obtain ⟨m2, i2, e, hl⟩ : ∃ m2 i2, double.read 4604390187031047700 = .number false m2 i2 ∧ (m2 = 0 ∨ i2 + (m2.log2 : Int) ≤ 0) := ⟨_, _, rfl, by decide +kernel⟩
  exact f_int b _ m2 i2 6 h e (by omega) (by decide) (by decide)
theorem of_int_small : ∀ N : Nat, N ≤ 300 → (match double.read (floatOfInt .f64 (N : Int)) with | .number false m i => decide (m = 0 ∨ i + (m.log2 : Int) ≤ 8) | _ => false) = true := by
  have : ∀ N : Fin 301, (match double.read (floatOfInt .f64 (N.1 : Int)) with | .number false m i => decide (m = 0 ∨ i + (m.log2 : Int) ≤ 8) | _ => false) = true := by decide +kernel
  exact fun N h => this ⟨N, by omega⟩
theorem f_size (b N : Nat) (hN : N ≤ 300) (h : okBits b = true) : ∃ r n, floatBits .mul .f64 b (floatOfInt .f64 (N : Int)) = some r ∧ floatToIntVal .f64 r .i64 = some n ∧ 0 ≤ n ∧ n < 65536 := by
  have hs := of_int_small N hN
  split at hs
  · rename_i m i e
    exact f_int b _ m i 14 h e (by have := of_decide_eq_true hs; omega) (by decide) (by decide)
  · cases hs
end Go.Proofs.Ythdemdjobgbpdaa.Q
