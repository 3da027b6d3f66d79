/- The document's check sum, bit by bit with the highest power first, is the other one, its bits in the other order. Plain Lean. -/
import Derived.Test.YtejhmfimfgjmhaaMCrc
namespace Go.Proofs.Ytejhmfimfgjmhaa.M
open Go.RowKit Go.Proofs.YtejhmfimfgjmhaaW.PrintWords Go.Proofs.YtejhmfimfgjmhaaW.PrintLast Go.Proofs.YtejhmfimfgjmhaaW.PrintMore

/-- k bits of x in the other order, behind acc. -/
def rvN : Nat → Nat → Nat → Nat
  | 0, _, acc => acc
  | k + 1, x, acc => rvN k (x / 2) (acc * 2 + x % 2)
theorem bit0_add (a b : Nat) (hb : b < 2) (i : Nat) : (a * 2 + b).testBit i = if i = 0 then decide (b = 1) else a.testBit (i - 1) := by
  cases i with
  | zero =>
    rw [Nat.testBit_zero]
    simp
    omega
  | succ i =>
    rw [Nat.testBit_succ, if_neg (by omega)]
    congr 1
    omega
theorem rvN_bit : ∀ (k x acc i : Nat), (rvN k x acc).testBit i = if i < k then x.testBit (k - 1 - i) else acc.testBit (i - k)
  | 0, x, acc, i => by simp [rvN]
  | k + 1, x, acc, i => by
    rw [rvN, rvN_bit k]
    by_cases h : i < k
    · rw [if_pos h, if_pos (by omega)]
      rw [show k + 1 - 1 - i = (k - 1 - i) + 1 by omega, Nat.testBit_succ]
    · rw [if_neg h, bit0_add _ _ (Nat.mod_lt _ (by decide))]
      by_cases e : i - k = 0
      · rw [if_pos e, if_pos (by omega), show k + 1 - 1 - i = 0 by omega, Nat.testBit_zero]
      · rw [if_neg e, if_neg (by omega), show i - (k + 1) = i - k - 1 by omega]
theorem rvN_lt : ∀ (k x acc : Nat), rvN k x acc < (acc + 1) * 2 ^ k
  | 0, x, acc => by simp [rvN]
  | k + 1, x, acc => by
    have h := rvN_lt k (x / 2) (acc * 2 + x % 2)
    rw [rvN]
    have h2 : acc * 2 + x % 2 + 1 ≤ (acc + 1) * 2 := by have := Nat.mod_lt x (show 0 < 2 by decide); omega
    calc rvN k (x / 2) (acc * 2 + x % 2) < (acc * 2 + x % 2 + 1) * 2 ^ k := h
      _ ≤ (acc + 1) * 2 * 2 ^ k := Nat.mul_le_mul_right _ h2
      _ = (acc + 1) * 2 ^ (k + 1) := by rw [Nat.pow_succ, Nat.mul_assoc, Nat.mul_comm 2]

def rv (b : BitVec 32) : BitVec 32 := BitVec.ofNat 32 (rvN 32 b.toNat 0)
theorem rv_bit (b : BitVec 32) (i : Nat) : (rv b).getLsbD i = (decide (i < 32) && b.getLsbD (31 - i)) := by
  unfold rv
  rw [BitVec.getLsbD_ofNat, rvN_bit]
  by_cases h : i < 32
  · rw [if_pos h]; rfl
  · rw [if_neg h]; simp [h]
theorem rv_toNat (b : BitVec 32) : (rv b).toNat = rvN 32 b.toNat 0 := by
  unfold rv
  rw [BitVec.toNat_ofNat]
  have := rvN_lt 32 b.toNat 0
  exact Nat.mod_eq_of_lt (by simpa using this)
theorem rv_xor (a b : BitVec 32) : rv (a ^^^ b) = rv a ^^^ rv b := by
  apply BitVec.eq_of_getLsbD_eq
  intro i hi
  simp only [rv_bit, BitVec.getLsbD_xor]
  simp [hi]
theorem rv_rv (a : BitVec 32) : rv (rv a) = a := by
  apply BitVec.eq_of_getLsbD_eq
  intro i hi
  rw [rv_bit, rv_bit]
  simp only [hi, show 31 - i < 32 by omega, decide_true, Bool.true_and]
  congr 1
  omega
theorem rv_not (a : BitVec 32) : rv (~~~ a) = ~~~ (rv a) := by
  apply BitVec.eq_of_getLsbD_eq
  intro i hi
  rw [rv_bit, BitVec.getLsbD_not, BitVec.getLsbD_not, rv_bit]
  simp [hi]
  intro h; omega
def hS (m : BitVec 32) : BitVec 32 := (m <<< 1) ^^^ (if m.getLsbD 31 then 0x1EDC6F41#32 else 0#32)
def hSn : Nat → BitVec 32 → BitVec 32
  | 0, n => n
  | k + 1, n => hSn k (hS n)
theorem hS_rv (n : BitVec 32) : hS (rv n) = rv (cS n) := by
  apply BitVec.eq_of_getLsbD_eq
  intro i hi
  have hp : ∀ i : Fin 32, cP.getLsbD (31 - i.val) = (0x1EDC6F41#32).getLsbD i.val := by decide
  have hpi := hp ⟨i, hi⟩
  simp only at hpi
  unfold hS
  rw [rv_bit, BitVec.getLsbD_xor, BitVec.getLsbD_shiftLeft, rv_bit, rv_bit]
  unfold cS
  rw [BitVec.getLsbD_xor, BitVec.getLsbD_ushiftRight]
  simp only [hi, show (31 : Nat) < 32 by decide, decide_true, Bool.true_and, show 31 - 31 = 0 by decide]
  have h2 : ((if n.getLsbD 0 = true then cP else 0#32).getLsbD (31 - i)) = ((if n.getLsbD 0 = true then 0x1EDC6F41#32 else 0#32).getLsbD i) := by
    cases n.getLsbD 0 <;> simp [hpi]
  rw [h2]
  congr 1
  by_cases e : i = 0
  · subst e
    simp
  · have e1 : ¬ (i < 1) := by omega
    have e2 : i - 1 < 32 := by omega
    simp only [e1, e2, decide_false, decide_true, Bool.not_false, Bool.true_and]
    rw [show 31 - (i - 1) = 1 + (31 - i) by omega]
theorem hSn_rv : ∀ (k : Nat) (n : BitVec 32), hSn k (rv n) = rv (cSn k n)
  | 0, _ => rfl
  | k + 1, n => by rw [hSn, hS_rv, hSn_rv]; rfl
/-- a byte, its bits in the other order, moved to the top -/
theorem rv_byte (c : Nat) (hc : c < 256) : BitVec.ofNat 32 (rvN 8 c 0 * 16777216) = rv (BitVec.ofNat 32 c) := by
  apply BitVec.eq_of_getLsbD_eq
  intro i hi
  rw [rv_bit, BitVec.getLsbD_ofNat, BitVec.getLsbD_ofNat]
  rw [show (16777216 : Nat) = 2 ^ 24 from rfl, Nat.mul_comm, Nat.testBit_two_pow_mul, rvN_bit]
  simp only [hi, decide_true, Bool.true_and, show 31 - i < 32 by omega]
  by_cases h : 24 ≤ i
  · rw [if_pos (show i - 24 < 8 by omega)]
    simp only [ge_iff_le, h, decide_true, Bool.true_and]
    congr 1
    omega
  · simp only [ge_iff_le, h, decide_false, Bool.false_and]
    exact (Nat.testBit_lt_two_pow (Nat.lt_of_lt_of_le hc (Nat.pow_le_pow_right (show 0 < 2 by decide) (show 8 ≤ 31 - i by omega)))).symm
theorem rv_ones : rv (BitVec.allOnes 32) = BitVec.allOnes 32 := by
  apply BitVec.eq_of_getLsbD_eq
  intro i hi
  rw [rv_bit, BitVec.getLsbD_allOnes, BitVec.getLsbD_allOnes]
  simp [hi]
  omega
end Go.Proofs.Ytejhmfimfgjmhaa.M
