/- The check sum in plain Lean: CRC-32C as a fold over bit vectors, what the table's entries are, that a turned bit turns the sum, that the document's bit-by-bit sum in the other order is the same. No program here. -/
import Derived.Test.YtejhmfimfgjmhaaWMore
import Derived.Laws.BitsAllLaws
namespace Go.Proofs.Ytejhmfimfgjmhaa.M
open Go.RowKit Go.Proofs.YtejhmfimfgjmhaaW.PrintWords Go.Proofs.YtejhmfimfgjmhaaW.PrintLast Go.Proofs.YtejhmfimfgjmhaaW.PrintMore

/-! ### The step on bit vectors -/
def cP : BitVec 32 := 0x82F63B78#32
def cS (n : BitVec 32) : BitVec 32 := (n >>> 1) ^^^ (if n.getLsbD 0 then cP else 0#32)
def cSn : Nat → BitVec 32 → BitVec 32
  | 0, n => n
  | k + 1, n => cSn k (cS n)
theorem ite_xor (a b : Bool) (p : BitVec 32) : (if (a ^^ b) = true then p else 0#32) = (if a = true then p else 0#32) ^^^ (if b = true then p else 0#32) := by
  cases a <;> cases b <;> simp
theorem shr_xor (a b : BitVec 32) (k : Nat) : (a ^^^ b) >>> k = (a >>> k) ^^^ (b >>> k) := by
  apply BitVec.eq_of_getLsbD_eq
  intro i hi
  simp
theorem cS_xor (a b : BitVec 32) : cS (a ^^^ b) = cS a ^^^ cS b := by
  unfold cS
  rw [shr_xor, BitVec.getLsbD_xor, ite_xor]
  ac_rfl
theorem cSn_xor : ∀ (k : Nat) (a b : BitVec 32), cSn k (a ^^^ b) = cSn k a ^^^ cSn k b
  | 0, _, _ => rfl
  | k + 1, a, b => by simp only [cSn]; rw [cS_xor, cSn_xor]
theorem cS_even (a : BitVec 32) (h : a.getLsbD 0 = false) : cS a = a >>> 1 := by
  unfold cS
  rw [h]
  simp
theorem cSn_high : ∀ (k : Nat) (a : BitVec 32), (∀ i, i < k → a.getLsbD i = false) → cSn k a = a >>> k
  | 0, a, _ => by simp [cSn]
  | k + 1, a, h => by
    simp only [cSn]
    rw [cS_even a (h 0 (by omega)), cSn_high k (a >>> 1) (fun i hi => by rw [BitVec.getLsbD_ushiftRight]; exact h _ (by omega)), ← BitVec.shiftRight_add]
    rw [Nat.add_comm]
theorem cS_top (a : BitVec 32) : (cS a).getLsbD 31 = a.getLsbD 0 := by
  unfold cS
  rw [BitVec.getLsbD_xor, BitVec.getLsbD_ushiftRight]
  cases h : a.getLsbD 0 <;> simp [cP] <;> decide
theorem cS_inj (a b : BitVec 32) (h : cS a = cS b) : a = b := by
  have h0 : a.getLsbD 0 = b.getLsbD 0 := by rw [← cS_top, ← cS_top, h]
  unfold cS at h
  rw [h0] at h
  have h1 : a >>> 1 = b >>> 1 := by
    have := congrArg (· ^^^ (if b.getLsbD 0 = true then cP else 0#32)) h
    simpa [BitVec.xor_assoc] using this
  apply BitVec.eq_of_getLsbD_eq
  intro i hi
  rcases Nat.eq_zero_or_pos i with e | e
  · subst e; exact h0
  · have := congrArg (fun x => BitVec.getLsbD x (i - 1)) h1
    simp only [BitVec.getLsbD_ushiftRight] at this
    rwa [show 1 + (i - 1) = i by omega] at this
theorem cSn_inj : ∀ (k : Nat) (a b : BitVec 32), cSn k a = cSn k b → a = b
  | 0, _, _, h => h
  | k + 1, a, b, h => cS_inj a b (cSn_inj k _ _ h)

/-! ### One byte; a list of bytes -/
def cB (s c : BitVec 32) : BitVec 32 := cSn 8 (s ^^^ c)
theorem low_high (a : BitVec 32) : a = (a &&& 0xFF#32) ^^^ (a &&& 0xFFFFFF00#32) := by
  apply BitVec.eq_of_getLsbD_eq
  intro i hi
  have h : ∀ i : Fin 32, (0xFFFFFF00#32).getLsbD i.val = !(0xFF#32).getLsbD i.val := by decide
  have := h ⟨i, hi⟩
  simp only [BitVec.getLsbD_xor, BitVec.getLsbD_and] at *
  rw [this]
  cases a.getLsbD i <;> cases (0xFF#32).getLsbD i <;> rfl
theorem high_low8 (a : BitVec 32) : ∀ i, i < 8 → (a &&& 0xFFFFFF00#32).getLsbD i = false := by
  intro i hi
  have h : ∀ i : Fin 8, (0xFFFFFF00#32).getLsbD i.val = false := by decide
  rw [BitVec.getLsbD_and, h ⟨i, hi⟩, Bool.and_false]
theorem low_shr8 (a : BitVec 32) : (a &&& 0xFF#32) >>> 8 = 0#32 := by
  apply BitVec.eq_of_getLsbD_eq
  intro i hi
  rw [BitVec.getLsbD_ushiftRight, BitVec.getLsbD_and]
  by_cases hlt : 8 + i < 32
  · have h : ∀ i : Fin 24, (0xFF#32).getLsbD (8 + i.val) = false := by decide
    rw [h ⟨i, by omega⟩]
    simp
  · rw [BitVec.getLsbD_of_ge _ _ (by omega)]
    simp
/-- The table's way: the entry of the lowest byte, and the others moved down. -/
theorem cSn8_table (a : BitVec 32) : cSn 8 a = (a >>> 8) ^^^ cSn 8 (a &&& 0xFF#32) := by
  have h1 : cSn 8 a = cSn 8 (a &&& 0xFF#32) ^^^ cSn 8 (a &&& 0xFFFFFF00#32) := by
    rw [← cSn_xor, ← low_high]
  rw [h1, cSn_high 8 _ (high_low8 a), BitVec.xor_comm]
  congr 1
  have h2 := congrArg (fun x : BitVec 32 => x >>> 8) (low_high a)
  simp only [shr_xor, low_shr8, BitVec.zero_xor] at h2
  exact h2.symm
theorem cB_inj (a b c : BitVec 32) (h : cB a c = cB b c) : a = b := by
  have := cSn_inj 8 _ _ h
  have h2 := congrArg (· ^^^ c) this
  simpa [BitVec.xor_assoc] using h2
theorem cB_inj2 (a c d : BitVec 32) (h : cB a c = cB a d) : c = d := by
  have := cSn_inj 8 _ _ h
  have h2 := congrArg (a ^^^ ·) this
  simpa [← BitVec.xor_assoc] using h2
def bv (c : Int) : BitVec 32 := BitVec.ofInt 32 c
def cF (s : BitVec 32) (l : List Int) : BitVec 32 := l.foldl (fun s c => cB s (bv c)) s
theorem cF_nil (s : BitVec 32) : cF s [] = s := rfl
theorem cF_cons (s : BitVec 32) (c : Int) (l : List Int) : cF s (c :: l) = cF (cB s (bv c)) l := rfl
theorem cF_append (s : BitVec 32) (l r : List Int) : cF s (l ++ r) = cF (cF s l) r := List.foldl_append ..
theorem cF_inj : ∀ (l : List Int) (a b : BitVec 32), cF a l = cF b l → a = b
  | [], _, _, h => h
  | _ :: l, a, b, h => cB_inj a b _ (cF_inj l _ _ h)
/-- THE SUM -/
def crc (l : List Int) : Int := ((~~~ (cF (BitVec.allOnes 32) l)).toNat : Int)
theorem crc_range (l : List Int) : 0 ≤ crc l ∧ crc l < 4294967296 := by
  unfold crc
  have := (~~~ (cF (BitVec.allOnes 32) l)).isLt
  omega
theorem crc_congr {l r : List Int} (h : crc l = crc r) : cF (BitVec.allOnes 32) l = cF (BitVec.allOnes 32) r := by
  unfold crc at h
  have h1 : (~~~ (cF (BitVec.allOnes 32) l)) = (~~~ (cF (BitVec.allOnes 32) r)) := BitVec.eq_of_toNat_eq (by omega)
  have h2 := congrArg (fun x : BitVec 32 => ~~~ x) h1
  simpa using h2
theorem bv_inj {c d : Int} (h0 : 0 ≤ c) (h1 : c < 256) (k0 : 0 ≤ d) (k1 : d < 256) (h : bv c = bv d) : c = d := by
  unfold bv at h
  have := congrArg BitVec.toNat h
  simp only [BitVec.toNat_ofInt] at this
  omega
/-- One byte that is another one turns the sum. -/
theorem crc_turn (l r : List Int) (c d : Int) (h0 : 0 ≤ c) (h1 : c < 256) (k0 : 0 ≤ d) (k1 : d < 256) (hne : c ≠ d) : crc (l ++ c :: r) ≠ crc (l ++ d :: r) := by
  intro h
  have h2 := crc_congr h
  rw [cF_append, cF_append, cF_cons, cF_cons] at h2
  exact hne (bv_inj h0 h1 k0 k1 (cB_inj2 _ _ _ (cF_inj _ _ _ h2)))

/-! ### Whole numbers -/
theorem bits_xor32 (x y : Int) : Go.bits .xor .u32 x y = ((bv x ^^^ bv y).toNat : Int) := by
  have h := (bv x ^^^ bv y).isLt
  show IntKind.u32.wrap ((bv x ^^^ bv y).toNat : Int) = _
  rw [IntKind.wrap_u32']
  omega
theorem bv_toNat (b : BitVec 32) : bv (b.toNat : Int) = b := by
  unfold bv
  rw [BitVec.ofInt_natCast]
  simp
theorem bv_div (b : BitVec 32) (k : Nat) : bv ((b.toNat : Int) / ((2 ^ k : Nat) : Int)) = b >>> k := by
  rw [← Int.natCast_ediv]
  apply BitVec.eq_of_toNat_eq
  unfold bv
  rw [BitVec.ofInt_natCast, BitVec.toNat_ofNat, BitVec.toNat_ushiftRight, Nat.shiftRight_eq_div_pow]
  have h : b.toNat / 2 ^ k ≤ b.toNat := Nat.div_le_self _ _
  exact Nat.mod_eq_of_lt (Nat.lt_of_le_of_lt h b.isLt)
theorem and_one (b : BitVec 32) : Go.bits .and .u32 (b.toNat : Int) 1 = 1 ↔ b.getLsbD 0 = true := by
  have h : Go.bits .and .u32 (b.toNat : Int) 1 = ((b.toNat &&& 1 : Nat) : Int) := by
    exact u32_and_nat b.toNat 1 b.isLt (by decide)
  rw [h, Nat.and_one_is_mod]
  have : b.getLsbD 0 = b.toNat.testBit 0 := rfl
  rw [this, Nat.testBit_zero]
  simp
  omega
end Go.Proofs.Ytejhmfimfgjmhaa.M
