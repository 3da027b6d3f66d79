/- The check sum and its mask (a seat without Unmask). -/
import Derived.Test.YtejhmfimfgjmhaaP2
import Derived.Test.YtejhmfimfgjmhaaP8
import Derived.Test.YtejhmfimfgjmhaaP9
import Derived.Test.YtejhmfimfgjmhaaP1
import Derived.Test.YtejhmfimfgjmhaaMCrcR
namespace Go.Proofs.Ytejhmfimfgjmhaa.Q
open Go.RowKit Go.Proofs.YtejhmfimfgjmhaaW.PrintWords Go.Proofs.YtejhmfimfgjmhaaW.PrintLast Go.Proofs.YtejhmfimfgjmhaaW.PrintMore Go.Proofs.Ytejhmfimfgjmhaa.P Go.Proofs.Ytejhmfimfgjmhaa.M

/-! ### The program's sum -/
theorem step_bv (b : BitVec 32) : crcStep (b.toNat : Int) = ((cS b).toNat : Int) := by
  unfold crcStep cS
  have hd : bv ((b.toNat : Int) / 2) = b >>> 1 := bv_div b 1
  by_cases h : b.getLsbD 0 = true
  · rw [if_pos ((and_one b).mpr h), if_pos h, bits_xor32, hd]
    rfl
  · rw [if_neg (fun k => h ((and_one b).mp k)), if_neg h, BitVec.xor_zero, ← hd]
    unfold bv
    rw [BitVec.toNat_ofInt]
    have := b.isLt
    omega
theorem steps_bv : ∀ (k : Nat) (b : BitVec 32), crcSteps k (b.toNat : Int) = ((cSn k b).toNat : Int)
  | 0, b => by unfold crcSteps; rfl
  | k + 1, b => by
    unfold crcSteps
    rw [step_bv, steps_bv k]
    rfl
theorem entry_bv (i : Nat) (h : i < 256) : crcEntry i = ((cSn 8 (BitVec.ofNat 32 i)).toNat : Int) := by
  rw [crcEntry_eq]
  have := steps_bv 8 (BitVec.ofNat 32 i)
  rwa [BitVec.toNat_ofNat, Nat.mod_eq_of_lt (by omega)] at this
theorem byte_bv (b : BitVec 32) (c : Int) (h0 : 0 ≤ c) (h1 : c < 256) : crcByte (b.toNat : Int) c = ((cB b (bv c)).toNat : Int) := by
  unfold crcByte
  obtain ⟨n, rfl⟩ := Int.eq_ofNat_of_zero_le h0
  have hn : n < 256 := by omega
  have hx : Go.bits .xor .u8 ((b.toNat : Int) % 256) (n : Int) = ((b.toNat % 256 ^^^ n : Nat) : Int) := by
    have := u8_xor_nat (b.toNat % 256) n (Nat.mod_lt _ (by decide)) hn
    simpa using this
  have hlt : b.toNat % 256 ^^^ n < 256 := Nat.xor_lt_two_pow (n := 8) (Nat.mod_lt _ (by decide)) hn
  rw [hx, Int.toNat_natCast, entry_bv _ hlt, bits_xor32, bv_toNat, show ((b.toNat : Int) / 256) = (b.toNat : Int) / ((2 ^ 8 : Nat) : Int) from rfl, bv_div]
  unfold cB
  rw [cSn8_table (b ^^^ bv n)]
  have hb : bv (n : Int) = BitVec.ofNat 32 n := by unfold bv; rw [BitVec.ofInt_natCast]
  have e1 : (b ^^^ bv (n : Int)) >>> 8 = b >>> 8 := by
    rw [shr_xor, hb]
    have : (BitVec.ofNat 32 n) >>> 8 = 0#32 := by
      apply BitVec.eq_of_toNat_eq
      rw [BitVec.toNat_ushiftRight, BitVec.toNat_ofNat, Nat.shiftRight_eq_div_pow, Nat.mod_eq_of_lt (by omega)]
      exact Nat.div_eq_of_lt hn
    rw [this, BitVec.xor_zero]
  have e2 : (b ^^^ bv (n : Int)) &&& 0xFF#32 = BitVec.ofNat 32 (b.toNat % 256 ^^^ n) := by
    apply BitVec.eq_of_toNat_eq
    rw [hb, BitVec.toNat_and, BitVec.toNat_xor, BitVec.toNat_ofNat, BitVec.toNat_ofNat, BitVec.toNat_ofNat, Nat.mod_eq_of_lt (show n < 2 ^ 32 by omega), Nat.mod_eq_of_lt (show 255 < 2 ^ 32 by decide), Nat.mod_eq_of_lt (show _ < 2 ^ 32 by omega)]
    rw [show (255 : Nat) = 2 ^ 8 - 1 from rfl, Nat.and_two_pow_sub_one_eq_mod, Nat.xor_mod_two_pow, Nat.mod_eq_of_lt (show n < 2 ^ 8 from hn)]
  rw [e1, e2]
theorem fold_bv : ∀ (l : List Int) (b : BitVec 32), (∀ x ∈ l, 0 ≤ x ∧ x < 256) → l.foldl crcByte (b.toNat : Int) = ((cF b l).toNat : Int)
  | [], _, _ => rfl
  | c :: l, b, h => by
    have hc := h c (List.mem_cons_self ..)
    rw [List.foldl_cons, byte_bv b c hc.1 hc.2, fold_bv l _ (fun x hx => h x (List.mem_cons_of_mem _ hx))]
    rfl
theorem Crc_eq (l : List Int) (h : ∀ x ∈ l, 0 ≤ x ∧ x < 256) : codec_Crc.f l = some (crc l) := by
  unfold codec_Crc.f crc
  have h1 : (4294967295 : Int) = ((BitVec.allOnes 32).toNat : Int) := by decide
  rw [h1, fold_bv l _ h, bits_xor32, bv_toNat, bv_toNat, BitVec.allOnes_xor]

/-! ### The document's sum -/
theorem turned_ev : ∀ (d : Nat) (n x acc i : Nat), i + d = n → n ≤ 32 → x < 4294967296 → (acc + 1) * 2 ^ d ≤ 4294967296 →
    Ev (fun k => staddleref01_turned.l0 k (x : Int) (n : Int) (acc : Int) (i : Int)) (rvN d x acc : Int)
  | 0, n, x, acc, i, hi, _, _, _ => by
    obtain rfl : i = n := by omega
    refine Ev.step (f := fun _ => some (acc : Int)) (fun k => ?_) (Ev.now _)
    simp only [staddleref01_turned.l0]
    rw [if_neg (by omega)]
  | d + 1, n, x, acc, i, hi, hn, hx, ha => by
    have hp : 0 < 2 ^ d := Nat.two_pow_pos d
    have ha2 : (acc * 2 + x % 2 + 1) * 2 ^ d ≤ 4294967296 := by
      refine Nat.le_trans ?_ ha
      rw [Nat.pow_succ, Nat.mul_comm (2 ^ d) 2, ← Nat.mul_assoc]
      exact Nat.mul_le_mul_right _ (by omega)
    have ha3 : acc * 2 + x % 2 + 1 ≤ 4294967296 := Nat.le_trans (Nat.le_mul_of_pos_right _ hp) ha2
    have ih := turned_ev d n (x / 2) (acc * 2 + x % 2) (i + 1) (by omega) hn (by omega) ha2
    refine Ev.step (fun k => ?_) ih
    simp only [staddleref01_turned.l0]
    rw [if_pos (by omega)]
    have e1 : (Int.tdiv (x : Int) 2) % 4294967296 = ((x / 2 : Nat) : Int) := by
      rw [Int.tdiv_eq_ediv_of_nonneg (by omega)]; omega
    have e2 : ((((acc : Int) * 2) % 4294967296) + (Int.tmod (x : Int) 2)) % 4294967296 = ((acc * 2 + x % 2 : Nat) : Int) := by
      rw [Int.tmod_eq_emod_of_nonneg (by omega)]; omega
    have e3 : wrap64 ((i : Int) + 1) = ((i + 1 : Nat) : Int) := by unfold wrap64; omega
    rw [e1, e2, e3]
theorem turned_spec (n x : Nat) (hn : n ≤ 32) (hx : x < 4294967296) : Ev (fun k => staddleref01_turned.f k (x : Int) (n : Int)) (rvN n x 0 : Int) := by
  have hp : 2 ^ n ≤ 2 ^ 32 := Nat.pow_le_pow_right (by decide) hn
  exact turned_ev n n x 0 0 (by omega) hn hx (by omega)
theorem bit31 (m : BitVec 32) : (m.toNat : Int) / 2147483648 = 1 ↔ m.getLsbD 31 = true := by
  have h : m.getLsbD 31 = m.toNat.testBit 31 := rfl
  have hm := m.isLt
  rw [h, Nat.testBit_eq_decide_div_mod_eq]
  simp
  omega
theorem shl1 (m : BitVec 32) : (Int.ofNat m.toNat * (2 : Int)) % (4294967296 : Int) = Int.ofNat (m <<< 1).toNat := by
  rw [BitVec.toNat_shiftLeft, Nat.shiftLeft_eq]
  simp only [Int.ofNat_eq_natCast]
  omega
theorem refCrc_ev (l : List Int) (hb : ∀ x ∈ l, 0 ≤ x ∧ x < 256) (hl : l.length ≤ 9223372036854775806) (r : Int) : ∀ (d i : Nat) (s : BitVec 32), i + d = l.length →
    (Ev (fun k => staddleref01_turned.f k (((~~~ (rv (cF s (l.drop i)))).toNat : Nat) : Int) 32) r) →
    Ev (fun k => staddleref01_Crc.l0 k l ((rv s).toNat : Int) (i : Int)) r := by
  intro d
  induction d with
  | zero =>
    intro i s hi hr
    refine Ev.step (f := fun k => (staddleref01_turned.f k (Go.bits .xor .u32 4294967295 ((rv s).toNat : Int)) 32).bind fun t => some t) (fun k => ?_) ?_
    · simp only [staddleref01_Crc.l0]
      rw [if_neg (by omega)]
    · have hdrop : l.drop i = [] := by rw [List.drop_eq_nil_iff]; omega
      rw [hdrop, cF_nil] at hr
      have h1 : Go.bits .xor .u32 4294967295 ((rv s).toNat : Int) = ((~~~ (rv s)).toNat : Int) := by
        have h1 : (4294967295 : Int) = ((BitVec.allOnes 32).toNat : Int) := by decide
        rw [h1, bits_xor32, bv_toNat, bv_toNat, BitVec.allOnes_xor]
      rw [h1]
      exact Ev.bind hr (Ev.now r)
  | succ d ih =>
    intro i s hi hr
    have hlt : i < l.length := by omega
    obtain ⟨c, hc⟩ : ∃ c, l[i] = c := ⟨_, rfl⟩
    have hcb := hb c (by rw [← hc]; exact List.getElem_mem hlt)
    have hrd : rd l (i : Int) = c := by simp [rd, List.getD_eq_getElem?_getD, hlt, hc]
    have hdrop : l.drop i = c :: l.drop (i + 1) := by rw [List.drop_eq_getElem_cons hlt, hc]
    rw [hdrop, cF_cons] at hr
    obtain ⟨n, rfl⟩ := Int.eq_ofNat_of_zero_le hcb.1
    have hn : n < 256 := by omega
    have next := ih (i + 1) (cB s (bv n)) (by omega) hr
    -- the eight rounds
    have inner : ∀ (e j : Nat) (t : BitVec 32), j + e = 8 → hSn e t = rv (cB s (bv n)) → Ev (fun k => staddleref01_Crc.l1 k l (t.toNat : Int) (i : Int) (j : Int)) r := by
      intro e
      induction e with
      | zero =>
        intro j t hj ht
        rw [hSn] at ht
        subst ht
        refine Ev.step (fun k => ?_) next
        simp only [staddleref01_Crc.l1]
        rw [if_neg (by omega)]
        have e3 : wrap64 ((i : Int) + 1) = ((i + 1 : Nat) : Int) := by unfold wrap64; omega
        rw [e3]
      | succ e ihe =>
        intro j t hj ht
        rw [hSn] at ht
        have nx := ihe (j + 1) (hS t) (by omega) ht
        refine Ev.step (fun k => ?_) nx
        simp only [staddleref01_Crc.l1]
        rw [if_pos (by omega)]
        have e3 : wrap64 ((j : Int) + 1) = ((j + 1 : Nat) : Int) := by unfold wrap64; omega
        have e5 : ((t.toNat : Int) * (2 : Int)) % (4294967296 : Int) = ((t <<< 1).toNat : Int) := shl1 t
        rw [e3, e5]
        unfold hS
        by_cases h : t.getLsbD 31 = true
        · rw [if_pos ((bit31 t).mpr h), if_pos h, bits_xor32, bv_toNat]
          rfl
        · rw [if_neg (fun k => h ((bit31 t).mp k)), if_neg h, BitVec.xor_zero]
    have htn : hSn 8 ((rv s) ^^^ rv (BitVec.ofNat 32 n)) = rv (cB s (bv n)) := by
      rw [← rv_xor, hSn_rv]
      unfold cB bv
      rw [BitVec.ofInt_natCast]
    have hin := inner 8 0 _ (by omega) htn
    refine Ev.step (f := fun k => (staddleref01_turned.f k ((n : Int) % 4294967296) 8).bind fun t => staddleref01_Crc.l1 k l (Go.bits .xor .u32 ((rv s).toNat : Int) ((t * 16777216) % 4294967296)) (i : Int) 0) (fun k => ?_) ?_
    · simp only [staddleref01_Crc.l0]
      rw [if_pos (by omega), if_pos (by omega), hrd]
    · refine Ev.bind (a := (rvN 8 n 0 : Int)) ?_ ?_
      · rw [show ((n : Int) % 4294967296) = (n : Int) by omega]
        exact turned_spec 8 n (by decide) (by omega)
      · have h8 := rvN_lt 8 n 0
        have e4 : Go.bits .xor .u32 ((rv s).toNat : Int) (((rvN 8 n 0 : Int) * 16777216) % 4294967296) = (((rv s) ^^^ rv (BitVec.ofNat 32 n)).toNat : Int) := by
          rw [bits_xor32, bv_toNat, ← rv_byte n hn]
          have : (((rvN 8 n 0 : Int) * 16777216) % 4294967296) = ((rvN 8 n 0 * 16777216 : Nat) : Int) := by omega
          rw [this]
          unfold bv
          rw [BitVec.ofInt_natCast]
        rw [e4]
        exact hin
theorem refCrc_spec (l : List Int) (hb : ∀ x ∈ l, 0 ≤ x ∧ x < 256) (hl : l.length ≤ 9223372036854775806) : Ev (fun k => staddleref01_Crc.f k l) (crc l) := by
  have hlt := (~~~ (rv (cF (BitVec.allOnes 32) l))).isLt
  have h := turned_spec 32 (~~~ (rv (cF (BitVec.allOnes 32) l))).toNat (by decide) hlt
  have hv : (rvN 32 (~~~ (rv (cF (BitVec.allOnes 32) l))).toNat 0 : Int) = crc l := by
    rw [← rv_toNat, rv_not, rv_rv]
    rfl
  rw [hv] at h
  have h2 := refCrc_ev l hb hl (crc l) l.length 0 (BitVec.allOnes 32) (by omega) h
  rw [rv_ones] at h2
  exact h2

/-! ### Hidden sums -/
theorem or_add32 (x y : Int) (i : Nat) (hx0 : 0 ≤ x) (hx : x % 2 ^ i = 0) (hx1 : x < 4294967296) (hy0 : 0 ≤ y) (hy : y < 2 ^ i) (hy1 : y < 4294967296) : Go.bits .or .u32 x y = x + y := by
  refine bits_join .u32 32 (by decide) (fun n h0 h1 => ?_) i x y hx0 hx hx1 hy0 hy hy1
  rw [IntKind.wrap_u32']
  omega
theorem or_comm32 (x y : Int) : Go.bits .or .u32 x y = Go.bits .or .u32 y x := by
  unfold Go.bits
  simp only [BitVec.or_comm]
def mask (n : Int) : Int := (n / 32768 + n % 32768 * 131072 + 2726488792) % 4294967296
def unmask (n : Int) : Int := (((n - 2726488792) % 4294967296) / 131072) + (((n - 2726488792) % 4294967296) % 131072) * 32768
theorem Mask_eq (n : Int) (_h0 : 0 ≤ n) (_h1 : n < 4294967296) : codec_Mask.f n = some (mask n) := by
  unfold codec_Mask.f mask
  rw [or_comm32, or_add32 _ _ 17 (by omega) (by omega) (by omega) (by omega) (by omega) (by omega)]
  congr 1
  omega
theorem refMask_eq (n : Int) (_h0 : 0 ≤ n) (_h1 : n < 4294967296) : staddleref01_Mask.f n = some (mask n) := by
  unfold staddleref01_Mask.f mask
  congr 1
  omega
theorem mask_range (n : Int) : 0 ≤ mask n ∧ mask n < 4294967296 := by unfold mask; omega
theorem unmask_range (n : Int) : 0 ≤ unmask n ∧ unmask n < 4294967296 := by unfold unmask; omega
theorem unmask_mask (n : Int) (h0 : 0 ≤ n) (h1 : n < 4294967296) : unmask (mask n) = n := by
  have ht : (mask n - 2726488792) % 4294967296 = n / 32768 + n % 32768 * 131072 := by
    have h2 : 0 ≤ n / 32768 + n % 32768 * 131072 ∧ n / 32768 + n % 32768 * 131072 < 4294967296 := by omega
    unfold mask
    generalize n / 32768 + n % 32768 * 131072 = t at *
    omega
  unfold unmask
  rw [ht]
  have e1 : (n / 32768 + n % 32768 * 131072) / 131072 = n % 32768 := by omega
  have e2 : (n / 32768 + n % 32768 * 131072) % 131072 = n / 32768 := by omega
  rw [e1, e2]
  omega
theorem mask_unmask (n : Int) (h0 : 0 ≤ n) (h1 : n < 4294967296) : mask (unmask n) = n := by
  unfold unmask
  obtain ⟨t, ht⟩ : ∃ t, (n - 2726488792) % 4294967296 = t := ⟨_, rfl⟩
  rw [ht]
  have hr : 0 ≤ t ∧ t < 4294967296 := by omega
  unfold mask
  have e1 : (t / 131072 + t % 131072 * 32768) / 32768 = t % 131072 := by omega
  have e2 : (t / 131072 + t % 131072 * 32768) % 32768 = t / 131072 := by omega
  rw [e1, e2]
  omega
theorem mask_inj {n m : Int} (h0 : 0 ≤ n) (h1 : n < 4294967296) (k0 : 0 ≤ m) (k1 : m < 4294967296) (h : mask n = mask m) : n = m := by
  rw [← unmask_mask n h0 h1, ← unmask_mask m k0 k1, h]
end Go.Proofs.Ytejhmfimfgjmhaa.Q
