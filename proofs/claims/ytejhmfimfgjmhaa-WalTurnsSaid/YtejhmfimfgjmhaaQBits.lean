/- Bits, and slices.Clone of bytes: what the printed functions of layers 1 and 2 share. -/
import Derived.Test.YtejhmfimfgjmhaaP4
import Derived.Test.YtejhmfimfgjmhaaMNum
import Derived.WideShapes
namespace Go.Proofs.Ytejhmfimfgjmhaa.Q
open Go.RowKit Go.Proofs.YtejhmfimfgjmhaaW.PrintWords Go.Proofs.YtejhmfimfgjmhaaW.PrintLast Go.Proofs.YtejhmfimfgjmhaaW.PrintMore Go.Proofs.Ytejhmfimfgjmhaa.P Go.Proofs.Ytejhmfimfgjmhaa.M
theorem or128 (n : Nat) : Go.bits .or .u8 ((n : Int) % 256) 128 = ((n % 128 + 128 : Nat) : Int) := by
  have h : Go.bits .or .u8 ((n % 256 : Nat) : Int) ((128 : Nat) : Int) = ((n % 256 ||| 128 : Nat) : Int) := u8_or_nat (n % 256) 128 (Nat.mod_lt _ (by decide)) (by decide)
  have h2 : n % 256 ||| 128 = n % 128 + 128 := by
    have : ∀ i : Fin 256, i.val ||| 128 = i.val % 128 + 128 := by decide +kernel
    have := this ⟨n % 256, Nat.mod_lt _ (by decide)⟩
    simp only at this
    rw [this]
    omega
  rw [h2] at h
  rw [← h]
  congr 1
theorem Clone_eq {l : List Int} (h : l.length < 140737488355328) : slices_Clone_byte_byte.f l = some l := by
  unfold slices_Clone_byte_byte.f
  rw [if_pos h]
theorem and127 (c : Int) (h0 : 0 ≤ c) (h1 : c < 256) : Go.bits .and .u8 c 127 = c % 128 := bits_mask .u8 8 (by decide) wraps_u8 7 (by decide) c h0 (by omega)
theorem or_add64 (x y : Int) (i : Nat) (hx0 : 0 ≤ x) (hx : x % 2 ^ i = 0) (hx1 : x < 18446744073709551616) (hy0 : 0 ≤ y) (hy : y < 2 ^ i) (hy1 : y < 18446744073709551616) : Go.bits .or .u64 x y = x + y := by
  refine bits_join .u64 64 (by decide) (fun n h0 h1 => ?_) i x y hx0 hx hx1 hy0 hy hy1
  rw [wrapU64]
  omega
theorem or_comm64 (x y : Int) : Go.bits .or .u64 x y = Go.bits .or .u64 y x := by
  unfold Go.bits
  simp only [BitVec.or_comm]
theorem shl64 (m : Nat) (y : Nat) (hy : y ≤ 64) (h : m * 2 ^ y < 18446744073709551616) : shl .u64 (m : Int) (y : Int) = ((m * 2 ^ y : Nat) : Int) := by
  unfold shl
  have e : (m : Int) * 2 ^ y = ((m * 2 ^ y : Nat) : Int) := by rw [Int.natCast_mul, Int.natCast_pow]; rfl
  rw [Int.toNat_natCast, Nat.min_eq_left (show y ≤ IntKind.u64.bits from hy), e, wU64 (by omega) (by omega)]
theorem join7 (acc m i : Nat) (ha : acc < 2 ^ i) (hm : m * 2 ^ i < 18446744073709551616) (hi : i ≤ 63) : Go.bits .or .u64 (acc : Int) ((m * 2 ^ i : Nat) : Int) = ((acc + m * 2 ^ i : Nat) : Int) := by
  have hp : 2 ^ i ≤ 2 ^ 63 := Nat.pow_le_pow_right (by decide) hi
  rw [or_comm64, or_add64 _ _ i (by omega) ?_ (by omega) (by omega) ?_ (by omega)]
  · omega
  · have : (m * 2 ^ i) % 2 ^ i = 0 := Nat.mul_mod_left _ _
    exact_mod_cast this
  · exact_mod_cast ha
end Go.Proofs.Ytejhmfimfgjmhaa.Q
