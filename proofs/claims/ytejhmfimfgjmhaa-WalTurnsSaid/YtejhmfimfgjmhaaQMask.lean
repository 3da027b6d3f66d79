/- The program's check sum and its mask are the fold of MCrc. -/
import Derived.Test.YtejhmfimfgjmhaaP2
import Derived.Test.YtejhmfimfgjmhaaP1
import Derived.Test.YtejhmfimfgjmhaaMCrc
namespace Go.Proofs.Ytejhmfimfgjmhaa.Q
open Go.RowKit Go.Proofs.YtejhmfimfgjmhaaW.PrintWords Go.Proofs.YtejhmfimfgjmhaaW.PrintLast Go.Proofs.YtejhmfimfgjmhaaW.PrintMore Go.Proofs.Ytejhmfimfgjmhaa.P Go.Proofs.Ytejhmfimfgjmhaa.M

/-! ### The program's sum -/
theorem step_bv (b : BitVec 32) : crcStep (b.toNat : Int) = ((cS b).toNat : Int) := by
  unfold crcStep cS
  have hd : bv ((b.toNat : Int) / 2) = b >>> 1 := bv_div b 1
  by_cases h : b.getLsbD 0 = true
  · rw [if_pos ((and_one b).mpr h), if_pos h, bits_xor32, hd]
    rfl
  · rw [if_neg (fun k => h ((and_one b).mp k)), if_neg h, BitVec.xor_zero, ← hd]
    unfold bv
    rw [BitVec.toNat_ofInt]
    have := b.isLt
    omega
theorem steps_bv : ∀ (k : Nat) (b : BitVec 32), crcSteps k (b.toNat : Int) = ((cSn k b).toNat : Int)
  | 0, b => by unfold crcSteps; rfl
  | k + 1, b => by
    unfold crcSteps
    rw [step_bv, steps_bv k]
    rfl
theorem entry_bv (i : Nat) (h : i < 256) : crcEntry i = ((cSn 8 (BitVec.ofNat 32 i)).toNat : Int) := by
  rw [crcEntry_eq]
  have := steps_bv 8 (BitVec.ofNat 32 i)
  rwa [BitVec.toNat_ofNat, Nat.mod_eq_of_lt (by omega)] at this
theorem byte_bv (b : BitVec 32) (c : Int) (h0 : 0 ≤ c) (h1 : c < 256) : crcByte (b.toNat : Int) c = ((cB b (bv c)).toNat : Int) := by
  unfold crcByte
  obtain ⟨n, rfl⟩ := Int.eq_ofNat_of_zero_le h0
  have hn : n < 256 := by omega
  have hx : Go.bits .xor .u8 ((b.toNat : Int) % 256) (n : Int) = ((b.toNat % 256 ^^^ n : Nat) : Int) := by
    have := u8_xor_nat (b.toNat % 256) n (Nat.mod_lt _ (by decide)) hn
    simpa using this
  have hlt : b.toNat % 256 ^^^ n < 256 := Nat.xor_lt_two_pow (n := 8) (Nat.mod_lt _ (by decide)) hn
  rw [hx, Int.toNat_natCast, entry_bv _ hlt, bits_xor32, bv_toNat, show ((b.toNat : Int) / 256) = (b.toNat : Int) / ((2 ^ 8 : Nat) : Int) from rfl, bv_div]
  unfold cB
  rw [cSn8_table (b ^^^ bv n)]
  have hb : bv (n : Int) = BitVec.ofNat 32 n := by unfold bv; rw [BitVec.ofInt_natCast]
  have e1 : (b ^^^ bv (n : Int)) >>> 8 = b >>> 8 := by
    rw [shr_xor, hb]
    have : (BitVec.ofNat 32 n) >>> 8 = 0#32 := by
      apply BitVec.eq_of_toNat_eq
      rw [BitVec.toNat_ushiftRight, BitVec.toNat_ofNat, Nat.shiftRight_eq_div_pow, Nat.mod_eq_of_lt (by omega)]
      exact Nat.div_eq_of_lt hn
    rw [this, BitVec.xor_zero]
  have e2 : (b ^^^ bv (n : Int)) &&& 0xFF#32 = BitVec.ofNat 32 (b.toNat % 256 ^^^ n) := by
    apply BitVec.eq_of_toNat_eq
    rw [hb, BitVec.toNat_and, BitVec.toNat_xor, BitVec.toNat_ofNat, BitVec.toNat_ofNat, BitVec.toNat_ofNat, Nat.mod_eq_of_lt (show n < 2 ^ 32 by omega), Nat.mod_eq_of_lt (show 255 < 2 ^ 32 by decide), Nat.mod_eq_of_lt (show _ < 2 ^ 32 by omega)]
    rw [show (255 : Nat) = 2 ^ 8 - 1 from rfl, Nat.and_two_pow_sub_one_eq_mod, Nat.xor_mod_two_pow, Nat.mod_eq_of_lt (show n < 2 ^ 8 from hn)]
  rw [e1, e2]
theorem fold_bv : ∀ (l : List Int) (b : BitVec 32), (∀ x ∈ l, 0 ≤ x ∧ x < 256) → l.foldl crcByte (b.toNat : Int) = ((cF b l).toNat : Int)
  | [], _, _ => rfl
  | c :: l, b, h => by
    have hc := h c (List.mem_cons_self ..)
    rw [List.foldl_cons, byte_bv b c hc.1 hc.2, fold_bv l _ (fun x hx => h x (List.mem_cons_of_mem _ hx))]
    rfl
theorem Crc_eq (l : List Int) (h : ∀ x ∈ l, 0 ≤ x ∧ x < 256) : codec_Crc.f l = some (crc l) := by
  unfold codec_Crc.f crc
  have h1 : (4294967295 : Int) = ((BitVec.allOnes 32).toNat : Int) := by decide
  rw [h1, fold_bv l _ h, bits_xor32, bv_toNat, bv_toNat, BitVec.allOnes_xor]

/-! ### The document's sum -/
theorem or_add32 (x y : Int) (i : Nat) (hx0 : 0 ≤ x) (hx : x % 2 ^ i = 0) (hx1 : x < 4294967296) (hy0 : 0 ≤ y) (hy : y < 2 ^ i) (hy1 : y < 4294967296) : Go.bits .or .u32 x y = x + y := by
  refine bits_join .u32 32 (by decide) (fun n h0 h1 => ?_) i x y hx0 hx hx1 hy0 hy hy1
  rw [IntKind.wrap_u32']
  omega
theorem or_comm32 (x y : Int) : Go.bits .or .u32 x y = Go.bits .or .u32 y x := by
  unfold Go.bits
  simp only [BitVec.or_comm]
def mask (n : Int) : Int := (n / 32768 + n % 32768 * 131072 + 2726488792) % 4294967296
def unmask (n : Int) : Int := (((n - 2726488792) % 4294967296) / 131072) + (((n - 2726488792) % 4294967296) % 131072) * 32768
theorem Mask_eq (n : Int) (_h0 : 0 ≤ n) (_h1 : n < 4294967296) : codec_Mask.f n = some (mask n) := by
  unfold codec_Mask.f mask
  rw [or_comm32, or_add32 _ _ 17 (by omega) (by omega) (by omega) (by omega) (by omega) (by omega)]
  congr 1
  omega
theorem mask_range (n : Int) : 0 ≤ mask n ∧ mask n < 4294967296 := by unfold mask; omega
theorem unmask_range (n : Int) : 0 ≤ unmask n ∧ unmask n < 4294967296 := by unfold unmask; omega
theorem unmask_mask (n : Int) (h0 : 0 ≤ n) (h1 : n < 4294967296) : unmask (mask n) = n := by
  have ht : (mask n - 2726488792) % 4294967296 = n / 32768 + n % 32768 * 131072 := by
    have h2 : 0 ≤ n / 32768 + n % 32768 * 131072 ∧ n / 32768 + n % 32768 * 131072 < 4294967296 := by omega
    unfold mask
    generalize n / 32768 + n % 32768 * 131072 = t at *
    omega
  unfold unmask
  rw [ht]
  have e1 : (n / 32768 + n % 32768 * 131072) / 131072 = n % 32768 := by omega
  have e2 : (n / 32768 + n % 32768 * 131072) % 131072 = n / 32768 := by omega
  rw [e1, e2]
  omega
theorem mask_unmask (n : Int) (h0 : 0 ≤ n) (h1 : n < 4294967296) : mask (unmask n) = n := by
  unfold unmask
  obtain ⟨t, ht⟩ : ∃ t, (n - 2726488792) % 4294967296 = t := ⟨_, rfl⟩
  rw [ht]
  have hr : 0 ≤ t ∧ t < 4294967296 := by omega
  unfold mask
  have e1 : (t / 131072 + t % 131072 * 32768) / 32768 = t % 131072 := by omega
  have e2 : (t / 131072 + t % 131072 * 32768) % 32768 = t / 131072 := by omega
  rw [e1, e2]
  omega
theorem mask_inj {n m : Int} (h0 : 0 ≤ n) (h1 : n < 4294967296) (k0 : 0 ≤ m) (k1 : m < 4294967296) (h : mask n = mask m) : n = m := by
  rw [← unmask_mask n h0 h1, ← unmask_mask m k0 k1, h]
end Go.Proofs.Ytejhmfimfgjmhaa.Q
