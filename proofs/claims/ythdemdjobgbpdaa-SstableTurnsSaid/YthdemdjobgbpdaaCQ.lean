/- Numbers as bytes in plain Lean: sevens of bits, fixed bytes, texts; what is laid is read. No program here. Texts between two, behind one; the order of bytes: plain Lean, no program here. Bits, and slices.Clone of bytes: what the printed functions of layers 1 and 2 share. What the printed PutFixed and Fixed come to: MNum's words. What the printed codec functions come to: MNum's words. What ikey.Check, Encode, Decode, Compare, and the reference's, come to. Keys there and back, and their order's laws, over what QIkey says. What block.Build, the document's Build and Same come to. What is laid is read, and found: plain Lean over what QA says and over what is read (BR, BO, BF). Any bytes, read: what read, Open and the document's Read come to. Plain Lean. The check sum in plain Lean: CRC-32C as a fold over bit vectors, what the table's entries are, that a turned bit turns the sum, that the document's bit-by-bit sum in the other order is the same. No program here. The program's check sum and its mask are the fold of MCrc. -/
import Derived.Test.YthdemdjobgbpdaaWMore
import Derived.Laws.BitsAllLaws
import Derived.Lib.Bytealg
import Derived.Lib.Strings
import Derived.Lib.SmallJoins
import Derived.Laws.Strings
import Derived.WideShapes
import Derived.Test.YthdemdjobgbpdaaP3
import Derived.Test.YthdemdjobgbpdaaP4
import Derived.Test.YthdemdjobgbpdaaP2
import Derived.Test.YthdemdjobgbpdaaP11
import Derived.Test.YthdemdjobgbpdaaP6
import Derived.Test.YthdemdjobgbpdaaP7
import Derived.Test.YthdemdjobgbpdaaP13
import Derived.Test.YthdemdjobgbpdaaP5
import Derived.Test.YthdemdjobgbpdaaP8
import Derived.Test.YthdemdjobgbpdaaCA
import Derived.Test.YthdemdjobgbpdaaP10
import Derived.Test.YthdemdjobgbpdaaP9
set_option linter.unusedVariables false
set_option linter.unusedSimpArgs false
namespace Go.Proofs.Ythdemdjobgbpdaa.M
open Go.RowKit Go.Proofs.YthdemdjobgbpdaaW.PrintWords Go.Proofs.YthdemdjobgbpdaaW.PrintLast Go.Proofs.YthdemdjobgbpdaaW.PrintMore

theorem Ev.ifT {α : Type} {c : Prop} [Decidable c] {A B : Nat → Option α} {r : α} (hc : c) (h : Ev A r) : Ev (fun n => if c then A n else B n) r := by
  simp only [if_pos hc]
  exact h
theorem Ev.ifF {α : Type} {c : Prop} [Decidable c] {A B : Nat → Option α} {r : α} (hc : ¬ c) (h : Ev B r) : Ev (fun n => if c then A n else B n) r := by
  simp only [if_neg hc]
  exact h
theorem Ev.some_ {α β : Type} {a : α} {f : Nat → α → Option β} {r : β} (h : Ev (fun n => f n a) r) : Ev (fun n => (some a).bind (f n)) r := h
def IsB (l : List Int) : Prop := ∀ x ∈ l, 0 ≤ x ∧ x < 256
theorem IsB.nil : IsB [] := fun _ h => by cases h
theorem IsB.cons {c : Int} {l : List Int} (h0 : 0 ≤ c) (h1 : c < 256) (h : IsB l) : IsB (c :: l) := fun x hx => by
  rcases List.mem_cons.1 hx with e | e
  · subst e; exact ⟨h0, h1⟩
  · exact h x e
theorem IsB.append {l r : List Int} (h : IsB l) (k : IsB r) : IsB (l ++ r) := fun x hx => (List.mem_append.1 hx).elim (h x) (k x)
theorem IsB.left {l r : List Int} (h : IsB (l ++ r)) : IsB l := fun x hx => h x (List.mem_append_left _ hx)
theorem IsB.right {l r : List Int} (h : IsB (l ++ r)) : IsB r := fun x hx => h x (List.mem_append_right _ hx)
theorem IsB.head {c : Int} {l : List Int} (h : IsB (c :: l)) : 0 ≤ c ∧ c < 256 := h c (List.mem_cons_self ..)
theorem IsB.tail {c : Int} {l : List Int} (h : IsB (c :: l)) : IsB l := fun x hx => h x (List.mem_cons_of_mem _ hx)
theorem IsB.take {l : List Int} (h : IsB l) (n : Nat) : IsB (l.take n) := fun x hx => h x (List.mem_of_mem_take hx)
theorem IsB.drop {l : List Int} (h : IsB l) (n : Nat) : IsB (l.drop n) := fun x hx => h x (List.mem_of_mem_drop hx)
theorem IsB.bytesOf (s : ByteArray) : IsB (bytesOf s) := fun x hx => by
  unfold Go.Proofs.YthdemdjobgbpdaaW.PrintWords.bytesOf at hx
  obtain ⟨b, _, rfl⟩ := List.mem_map.1 hx
  have := b.toNat_lt
  omega
theorem wf_u64 {n : Int} (h : (Lit.int .u64 n).wf = true) : 0 ≤ n ∧ n < 18446744073709551616 := by
  simp [Lit.wf, IntKind.min, IntKind.max, IntKind.signed, IntKind.bits] at h
  omega
theorem wf_i64 {n : Int} (h : (Lit.int .i64 n).wf = true) : -9223372036854775808 ≤ n ∧ n < 9223372036854775808 := by
  simp [Lit.wf, IntKind.min, IntKind.max, IntKind.signed, IntKind.bits] at h
  omega
theorem w64 {n : Int} (h0 : -9223372036854775808 ≤ n) (h1 : n < 9223372036854775808) : wrap64 n = n := by unfold wrap64; omega
theorem wrapU64 (n : Int) : IntKind.u64.wrap n = n % 18446744073709551616 := by simp [IntKind.wrap, IntKind.bits, IntKind.signed]
theorem wU64 {n : Int} (h0 : 0 ≤ n) (h1 : n < 18446744073709551616) : IntKind.u64.wrap n = n := by rw [wrapU64]; omega

/-! ### Sevens of bits -/
def uv (n : Nat) : List Int := if n < 128 then [(n : Int)] else ((n % 128 + 128 : Nat) : Int) :: uv (n / 128)
termination_by n
decreasing_by omega
theorem uv_small {n : Nat} (h : n < 128) : uv n = [(n : Int)] := by rw [uv, if_pos h]
theorem uv_big {n : Nat} (h : ¬ n < 128) : uv n = ((n % 128 + 128 : Nat) : Int) :: uv (n / 128) := by rw [uv, if_neg h]
theorem uv_IsB (n : Nat) : IsB (uv n) := by
  induction n using Nat.strongRecOn with
  | _ n ih =>
    by_cases h : n < 128
    · rw [uv_small h]; exact IsB.cons (by omega) (by omega) IsB.nil
    · rw [uv_big h]; exact IsB.cons (by omega) (by omega) (ih _ (by omega))
theorem uv_pos (n : Nat) : 1 ≤ (uv n).length := by
  by_cases h : n < 128
  · rw [uv_small h]; simp
  · rw [uv_big h]; simp
/-- How many sevens. -/
theorem uv_len_le : ∀ (d n : Nat), n < 2 ^ (7 * (d + 1)) → (uv n).length ≤ d + 1
  | 0, n, h => by rw [uv_small (by simpa using h)]; simp
  | d + 1, n, h => by
    by_cases hs : n < 128
    · rw [uv_small hs]; simp
    · rw [uv_big hs, List.length_cons]
      have : n / 128 < 2 ^ (7 * (d + 1)) := by
        rw [Nat.div_lt_iff_lt_mul (by decide)]
        refine Nat.lt_of_lt_of_le h ?_
        exact Nat.le_of_eq (by rw [show 7 * (d + 1 + 1) = 7 * (d + 1) + 7 by omega, Nat.pow_add])
      have := uv_len_le d _ this
      omega
theorem uv_len64 {n : Nat} (h : n < 18446744073709551616) : (uv n).length ≤ 10 := uv_len_le 9 n (Nat.lt_of_lt_of_le h (by decide))
/-- What bytes tell: the number, how many they were, and the error (0, 10, 11). -/
def uvd : List Int → Nat → Nat → Nat × Nat × Nat
  | [], _, _ => (0, 0, 10)
  | c :: r, i, acc => if i = 9 ∧ 1 < c then (0, 0, 11) else if c < 128 then (acc + (c % 128).toNat * 2 ^ (7 * i), i + 1, 0) else uvd r (i + 1) (acc + (c % 128).toNat * 2 ^ (7 * i))
theorem pow7 (i : Nat) : 2 ^ (7 * (i + 1)) = 2 ^ (7 * i) * 128 := by rw [show 7 * (i + 1) = 7 * i + 7 by omega, Nat.pow_add]
theorem uvd_uv (more : List Int) : ∀ (n i acc : Nat), i ≤ 9 → n * 2 ^ (7 * i) < 18446744073709551616 → uvd (uv n ++ more) i acc = (acc + n * 2 ^ (7 * i), i + (uv n).length, 0) := by
  intro n
  induction n using Nat.strongRecOn with
  | _ n ih =>
    intro i acc hi hn
    by_cases h : n < 128
    · rw [uv_small h]
      simp only [List.cons_append, List.nil_append, uvd]
      have h9 : ¬ (i = 9 ∧ (1 : Int) < (n : Int)) := by
        rintro ⟨rfl, h1⟩
        simp at hn
        omega
      rw [if_neg h9, if_pos (by omega)]
      have : ((n : Int) % 128).toNat = n := by omega
      rw [this]
      simp
    · rw [uv_big h]
      have h8 : i ≤ 8 := by
        rcases Nat.lt_or_ge i 9 with h9 | h9
        · omega
        · obtain rfl : i = 9 := by omega
          simp at hn
          omega
      have hmul : n / 128 * 2 ^ (7 * (i + 1)) ≤ n * 2 ^ (7 * i) := by
        rw [pow7, Nat.mul_comm (2 ^ (7 * i)) 128, ← Nat.mul_assoc]
        exact Nat.mul_le_mul_right _ (Nat.div_mul_le_self n 128)
      simp only [List.cons_append, uvd]
      rw [if_neg (by omega), if_neg (by omega), ih (n / 128) (by omega) (i + 1) _ (by omega) (by omega)]
      have e1 : ((((n % 128 + 128 : Nat) : Int)) % 128).toNat = n % 128 := by omega
      rw [e1, List.length_cons]
      refine Prod.ext ?_ (Prod.ext ?_ rfl)
      · simp only
        rw [pow7, Nat.mul_comm (2 ^ (7 * i)) 128, ← Nat.mul_assoc, Nat.add_assoc, ← Nat.add_mul]
        congr 2
        omega
      · simp only
        omega
/-! ### Fixed bytes -/
def fx : Nat → Nat → List Int
  | 0, _ => []
  | s + 1, n => ((n % 256 : Nat) : Int) :: fx s (n / 256)
theorem fx_length : ∀ (s n : Nat), (fx s n).length = s
  | 0, _ => rfl
  | s + 1, n => by rw [fx, List.length_cons, fx_length]
theorem fx_IsB : ∀ (s n : Nat), IsB (fx s n)
  | 0, _ => IsB.nil
  | s + 1, n => by rw [fx]; exact IsB.cons (by omega) (by omega) (fx_IsB s _)
/-- The number of bytes, the lowest first. -/
def fxd : List Int → Nat
  | [] => 0
  | c :: r => c.toNat + 256 * fxd r
theorem fxd_fx : ∀ (s n : Nat), fxd (fx s n) = n % 256 ^ s
  | 0, n => by rw [fx, fxd, Nat.pow_zero, Nat.mod_one]
  | s + 1, n => by
    rw [fx, fxd, fxd_fx s, Nat.pow_succ, Nat.mul_comm (256 ^ s) 256, Nat.mod_mul]
    rw [Int.toNat_natCast]
theorem fx_fxd : ∀ (l : List Int), IsB l → fx l.length (fxd l) = l
  | [], _ => rfl
  | c :: r, h => by
    have hc := h.head
    rw [List.length_cons, fx, fxd]
    have e1 : (c.toNat + 256 * fxd r) % 256 = c.toNat := by omega
    have e2 : (c.toNat + 256 * fxd r) / 256 = fxd r := by omega
    rw [e1, e2, fx_fxd r h.tail]
    congr 1
    omega
theorem fxd_lt : ∀ (l : List Int), IsB l → fxd l < 256 ^ l.length
  | [], _ => by simp [fxd]
  | c :: r, h => by
    have hc := h.head
    have := fxd_lt r h.tail
    rw [fxd, List.length_cons, Nat.pow_succ]
    omega
theorem fx_succ (s n : Nat) : fx (s + 1) n = ((n % 256 : Nat) : Int) :: fx s (n / 256) := by rw [fx]
/-! ### Texts -/
def tx (b : List Int) : List Int := uv b.length ++ b
theorem bytesOf_str (l : List Int) (h : IsB l) : bytesOf (strOfNums l) = l := by
  unfold Go.Proofs.YthdemdjobgbpdaaW.PrintWords.bytesOf strOfNums
  simp only [List.map_map]
  have : l.map ((fun b : UInt8 => (b.toNat : Int)) ∘ fun n => UInt8.ofNat n.toNat) = l.map id := by
    refine List.map_congr_left (fun x hx => ?_)
    have := h x hx
    simp only [Function.comp, id, UInt8.toNat_ofNat']
    omega
  rw [this, List.map_id]
theorem str_bytesOf (s : ByteArray) : strOfNums (bytesOf s) = s := by
  unfold Go.Proofs.YthdemdjobgbpdaaW.PrintWords.bytesOf strOfNums
  rw [List.map_map]
  have : s.data.toList.map ((fun n : Int => UInt8.ofNat n.toNat) ∘ fun b : UInt8 => (b.toNat : Int)) = s.data.toList.map id := by
    refine List.map_congr_left (fun x _ => ?_)
    simp
  rw [this, List.map_id]
end Go.Proofs.Ythdemdjobgbpdaa.M
namespace Go.Proofs.Ythdemdjobgbpdaa.M
open Go.RowKit Go.Proofs.YthdemdjobgbpdaaW.PrintWords Go.Proofs.YthdemdjobgbpdaaW.PrintLast Go.Proofs.YthdemdjobgbpdaaW.PrintMore

theorem ba_ext {a b : ByteArray} (h : a.data.toList = b.data.toList) : a = b := by
  obtain ⟨⟨a⟩⟩ := a
  obtain ⟨⟨b⟩⟩ := b
  cases h
  rfl
def S (l : List UInt8) : ByteArray := ⟨l.toArray⟩
/-- A short text that is not less than one, and less than another one. -/
def btw : List UInt8 → List UInt8 → List UInt8
  | a :: as1, b :: bs => if a = b then a :: btw as1 bs else if a.toNat + 1 < b.toNat then [UInt8.ofNat (a.toNat + 1)] else a :: as1
  | as1, _ => as1
/-- A short text behind one. -/
def beh : List UInt8 → List UInt8
  | [] => []
  | a :: as1 => if a.toNat = 255 then a :: beh as1 else [UInt8.ofNat (a.toNat + 1)]

theorem u8_lt (a b : UInt8) : a < b ↔ a.toNat < b.toNat := UInt8.lt_iff_toNat_lt
/-! ### The order of bytes -/
theorem bl_nil (a : List UInt8) : Op.bytesLess a [] = false := by cases a <;> rfl
theorem bl_cons (a b : UInt8) (x y : List UInt8) : Op.bytesLess (a :: x) (b :: y) = true ↔ a < b ∨ (a = b ∧ Op.bytesLess x y = true) := by
  simp [Op.bytesLess]
theorem cmp_spec : ∀ a b : List UInt8, (Lib.compareBytes a b = -1 ∧ Op.bytesLess a b = true ∧ Op.bytesLess b a = false ∧ a ≠ b) ∨ (Lib.compareBytes a b = 1 ∧ Op.bytesLess a b = false ∧ Op.bytesLess b a = true ∧ a ≠ b) ∨ (Lib.compareBytes a b = 0 ∧ Op.bytesLess a b = false ∧ Op.bytesLess b a = false ∧ a = b)
  | [], [] => .inr (.inr ⟨rfl, rfl, rfl, rfl⟩)
  | [], _ :: _ => .inl ⟨rfl, rfl, rfl, by simp⟩
  | _ :: _, [] => .inr (.inl ⟨rfl, rfl, rfl, by simp⟩)
  | a :: as1, b :: bs => by
    have ih := cmp_spec as1 bs
    unfold Lib.compareBytes
    by_cases h1 : a < b
    · rw [if_pos h1]
      have h2 : ¬ b < a := fun h => by rw [u8_lt] at h h1; omega
      have h3 : a ≠ b := fun e => by subst e; rw [u8_lt] at h1; omega
      have h4 : b ≠ a := fun e => h3 e.symm
      exact .inl ⟨rfl, by simp [Op.bytesLess, h1], by simp [Op.bytesLess, h2, h4], by simp [h3]⟩
    · rw [if_neg h1]
      by_cases h2 : b < a
      · rw [if_pos h2]
        have h3 : a ≠ b := fun e => by subst e; rw [u8_lt] at h2; omega
        exact .inr (.inl ⟨rfl, by simp [Op.bytesLess, h1, h3], by simp [Op.bytesLess, h2], by simp [h3]⟩)
      · rw [if_neg h2]
        have h3 : a = b := UInt8.toNat_inj.1 (by rw [u8_lt] at h1 h2; omega)
        subst h3
        simpa [Op.bytesLess, h1] using ih
theorem cmp_zero (a b : List UInt8) : Lib.compareBytes a b = 0 ↔ a = b := by
  rcases cmp_spec a b with ⟨e, h1, h2, h3⟩ | ⟨e, h1, h2, h3⟩ | ⟨e, h1, h2, h3⟩ <;> rw [e] <;> simp [h3]
theorem bl_trans : ∀ a b c : List UInt8, Op.bytesLess a b = true → Op.bytesLess b c = true → Op.bytesLess a c = true
  | a, [], c, h, _ => by rw [bl_nil] at h; cases h
  | a, b, [], _, k => by rw [bl_nil] at k; cases k
  | [], b :: bs, c :: cs, _, _ => rfl
  | a :: as1, b :: bs, c :: cs, h, k => by
    rw [bl_cons] at h k ⊢
    rcases h with h | ⟨rfl, h⟩
    · rcases k with k | ⟨rfl, _⟩
      · exact .inl (by rw [u8_lt] at h k ⊢; omega)
      · exact .inl h
    · rcases k with k | ⟨rfl, k⟩
      · exact .inl k
      · exact .inr ⟨rfl, bl_trans _ _ _ h k⟩
/-! ### Short texts -/
end Go.Proofs.Ythdemdjobgbpdaa.M
namespace Go.Proofs.Ythdemdjobgbpdaa.Q
open Go.RowKit Go.Proofs.YthdemdjobgbpdaaW.PrintWords Go.Proofs.YthdemdjobgbpdaaW.PrintLast Go.Proofs.YthdemdjobgbpdaaW.PrintMore Go.Proofs.Ythdemdjobgbpdaa.P Go.Proofs.Ythdemdjobgbpdaa.M
theorem or128 (n : Nat) : Go.bits .or .u8 ((n : Int) % 256) 128 = ((n % 128 + 128 : Nat) : Int) := by
  have h : Go.bits .or .u8 ((n % 256 : Nat) : Int) ((128 : Nat) : Int) = ((n % 256 ||| 128 : Nat) : Int) := u8_or_nat (n % 256) 128 (Nat.mod_lt _ (by decide)) (by decide)
  have h2 : n % 256 ||| 128 = n % 128 + 128 := by
    have : ∀ i : Fin 256, i.val ||| 128 = i.val % 128 + 128 := by decide +kernel
    have := this ⟨n % 256, Nat.mod_lt _ (by decide)⟩
    simp only at this
    rw [this]
    omega
  rw [h2] at h
  rw [← h]
  congr 1
theorem Clone_eq {l : List Int} (h : l.length < 140737488355328) : slices_Clone_byte_byte.f l = some l := by
  unfold slices_Clone_byte_byte.f
  rw [if_pos h]
theorem and127 (c : Int) (h0 : 0 ≤ c) (h1 : c < 256) : Go.bits .and .u8 c 127 = c % 128 := bits_mask .u8 8 (by decide) wraps_u8 7 (by decide) c h0 (by omega)
theorem or_add64 (x y : Int) (i : Nat) (hx0 : 0 ≤ x) (hx : x % 2 ^ i = 0) (hx1 : x < 18446744073709551616) (hy0 : 0 ≤ y) (hy : y < 2 ^ i) (hy1 : y < 18446744073709551616) : Go.bits .or .u64 x y = x + y := by
  refine bits_join .u64 64 (by decide) (fun n h0 h1 => ?_) i x y hx0 hx hx1 hy0 hy hy1
  rw [wrapU64]
  omega
theorem or_comm64 (x y : Int) : Go.bits .or .u64 x y = Go.bits .or .u64 y x := by
  unfold Go.bits
  simp only [BitVec.or_comm]
theorem shl64 (m : Nat) (y : Nat) (hy : y ≤ 64) (h : m * 2 ^ y < 18446744073709551616) : shl .u64 (m : Int) (y : Int) = ((m * 2 ^ y : Nat) : Int) := by
  unfold shl
  have e : (m : Int) * 2 ^ y = ((m * 2 ^ y : Nat) : Int) := by rw [Int.natCast_mul, Int.natCast_pow]; rfl
  rw [Int.toNat_natCast, Nat.min_eq_left (show y ≤ IntKind.u64.bits from hy), e, wU64 (by omega) (by omega)]
theorem join7 (acc m i : Nat) (ha : acc < 2 ^ i) (hm : m * 2 ^ i < 18446744073709551616) (hi : i ≤ 63) : Go.bits .or .u64 (acc : Int) ((m * 2 ^ i : Nat) : Int) = ((acc + m * 2 ^ i : Nat) : Int) := by
  have hp : 2 ^ i ≤ 2 ^ 63 := Nat.pow_le_pow_right (by decide) hi
  rw [or_comm64, or_add64 _ _ i (by omega) ?_ (by omega) (by omega) ?_ (by omega)]
  · omega
  · have : (m * 2 ^ i) % 2 ^ i = 0 := Nat.mul_mod_left _ _
    exact_mod_cast this
  · exact_mod_cast ha
end Go.Proofs.Ythdemdjobgbpdaa.Q
namespace Go.Proofs.Ythdemdjobgbpdaa.Q
open Go.RowKit Go.Proofs.YthdemdjobgbpdaaW.PrintWords Go.Proofs.YthdemdjobgbpdaaW.PrintLast Go.Proofs.YthdemdjobgbpdaaW.PrintMore Go.Proofs.Ythdemdjobgbpdaa.P Go.Proofs.Ythdemdjobgbpdaa.M

theorem shr64 (n i : Nat) (hi : i < 8) : (shr .u64 (n : Int) (((8 * i : Nat) : Int))) % 256 = ((n / 256 ^ i % 256 : Nat) : Int) := by
  unfold shr
  rw [Int.toNat_natCast, Nat.min_eq_left (show 8 * i ≤ IntKind.u64.bits from (show 8 * i ≤ 64 by omega))]
  have e : (2 : Int) ^ (8 * i) = ((256 ^ i : Nat) : Int) := by
    rw [show (256 : Nat) = 2 ^ 8 from rfl, ← Nat.pow_mul]
    simp
  rw [e]
  omega
theorem PutFixed_l0 (n : Nat) (s : Nat) (hs : s ≤ 8) : ∀ (d i : Nat) (acc : List Int), i + d = s → acc.length + d ≤ 140737488355328 → Ev (fun k => codec_PutFixed.l0 k (n : Int) (s : Int) acc (i : Int)) (acc ++ fx d (n / 256 ^ i))
  | 0, i, acc, hi, _ => by
    refine Ev.step (f := fun _ => some (acc ++ fx 0 (n / 256 ^ i))) (fun k => ?_) (Ev.now _)
    simp only [codec_PutFixed.l0]
    rw [if_neg (by omega), fx, List.append_nil]
  | d + 1, i, acc, hi, hl => by
    have ih := PutFixed_l0 n s hs d (i + 1) (acc ++ [((n / 256 ^ i % 256 : Nat) : Int)]) (by omega) (by simp; omega)
    rw [List.append_assoc, Nat.pow_succ, ← Nat.div_div_eq_div_mul] at ih
    refine Ev.step (fun k => ?_) ih
    simp only [codec_PutFixed.l0]
    have e8 : wrap64 (8 * (i : Int)) = ((8 * i : Nat) : Int) := by rw [w64 (by omega) (by omega)]; omega
    have e1 : wrap64 ((i : Int) + 1) = ((i + 1 : Nat) : Int) := by rw [w64 (by omega) (by omega)]; omega
    rw [if_pos (by omega), e8, if_pos (by omega), if_pos (by omega), shr64 n i (by omega), e1]
theorem PutFixed_ev (n s : Nat) (l : List Int) (hs : s ≤ 8) (hl : l.length + 8 < 140737488355328) : Ev (fun k => codec_PutFixed.f k l (n : Int) (s : Int)) (l ++ fx s n) := by
  have h := PutFixed_l0 n s hs s 0 l (by omega) (by omega)
  rw [Nat.pow_zero, Nat.div_one] at h
  refine Ev.congr (fun k => ?_) h
  unfold codec_PutFixed.f
  rw [Clone_eq (by omega), Option.bind_some, if_neg (by omega)]
  rfl
theorem pow256 (i : Nat) : (2 : Nat) ^ (8 * i) = 256 ^ i := by rw [Nat.pow_mul]
theorem Fixed_l0 (l : List Int) (hb : IsB l) (s : Nat) (hs : s ≤ 8) (hl : s ≤ l.length) : ∀ (d i acc : Nat), i + d = s → acc < 256 ^ i →
    Ev (fun k => codec_Fixed.l0 k l (acc : Int) (s : Int) (i : Int)) (((acc + 256 ^ i * fxd ((l.drop i).take d) : Nat) : Int), 0)
  | 0, i, acc, hi, _ => by
    refine Ev.step (f := fun _ => some ((acc : Int), 0)) (fun k => ?_) ?_
    · simp only [codec_Fixed.l0]
      rw [if_neg (by omega)]
    · rw [List.take_zero, fxd, Nat.mul_zero, Nat.add_zero]
      exact Ev.now _
  | d + 1, i, acc, hi, ha => by
    have hlt : i < l.length := by omega
    obtain ⟨c, hc⟩ : ∃ c, l[i] = c := ⟨_, rfl⟩
    have hcb := hb c (by rw [← hc]; exact List.getElem_mem hlt)
    have hrd : rd l (i : Int) = c := by simp [rd, List.getD_eq_getElem?_getD, hlt, hc]
    have hdrop : l.drop i = c :: l.drop (i + 1) := by rw [List.drop_eq_getElem_cons hlt, hc]
    obtain ⟨m, rfl⟩ := Int.eq_ofNat_of_zero_le hcb.1
    have hm : m < 256 := by omega
    have ha2 : acc + m * 256 ^ i < 256 ^ (i + 1) := by
      rw [Nat.pow_succ]
      have := Nat.mul_le_mul_right (256 ^ i) (show m ≤ 255 by omega)
      omega
    have h64 : m * 256 ^ i < 18446744073709551616 := by
      have h7 : 256 ^ i ≤ 256 ^ 7 := Nat.pow_le_pow_right (by decide) (by omega)
      have := Nat.mul_le_mul (show m ≤ 255 by omega) h7
      have e7 : (256 : Nat) ^ 7 = 72057594037927936 := by decide
      omega
    have h64' : m * 2 ^ (8 * i) < 18446744073709551616 := (congrArg (fun x => m * x < 18446744073709551616) (pow256 i)).mpr h64
    have ha' : acc < 2 ^ (8 * i) := (congrArg (fun x => acc < x) (pow256 i)).mpr ha
    have ih := Fixed_l0 l hb s hs hl d (i + 1) (acc + m * 256 ^ i) (by omega) ha2
    have i64 : 8 * i ≤ 64 := by omega
    have i63 : 8 * i ≤ 63 := by omega
    have c1 : (i : Int) < (s : Int) := by omega
    have c2 : (0 : Int) ≤ (i : Int) := by omega
    have c3 : (i : Int) < (l.length : Int) := by omega
    have c4 : (0 : Int) ≤ ((8 * i : Nat) : Int) := by omega
    have w1 : IntKind.u64.wrap (m : Int) = (m : Int) := wU64 (by omega) (by omega)
    have e8 : wrap64 (8 * (i : Int)) = ((8 * i : Nat) : Int) := by rw [w64 (by omega) (by omega)]; omega
    have e1 : wrap64 ((i : Int) + 1) = ((i + 1 : Nat) : Int) := by clear e8; rw [w64 (by omega) (by omega)]; omega
    have hv : Go.bits .or .u64 (acc : Int) (shl .u64 (IntKind.u64.wrap (m : Int)) (wrap64 (8 * (i : Int)))) = ((acc + m * 256 ^ i : Nat) : Int) := by
      rw [w1, e8, shl64 m (8 * i) i64 h64', join7 acc m (8 * i) ha' h64' i63, pow256]
    have hr : acc + 256 ^ i * fxd ((l.drop i).take (d + 1)) = acc + m * 256 ^ i + 256 ^ (i + 1) * fxd ((l.drop (i + 1)).take d) := by
      rw [hdrop, List.take_succ_cons, fxd, Int.toNat_natCast, Nat.mul_add, Nat.pow_succ, Nat.mul_comm m, Nat.mul_assoc, Nat.add_assoc]
    rw [hr]
    refine Ev.step (fun k => ?_) ih
    simp only [codec_Fixed.l0]
    rw [if_pos c1, if_pos c2, if_pos c3, if_pos (by rw [e8]; exact c4), hrd, hv, e1]
/-- What bytes that begin with a number of so many bytes tell. -/
theorem Fixed_ev (l : List Int) (hb : IsB l) (s : Nat) (h1 : 1 ≤ s) (hs : s ≤ 8) : Ev (fun k => codec_Fixed.f k l (s : Int)) (if l.length < s then (0, 10) else ((fxd (l.take s) : Int), 0)) := by
  have hj : ∀ k, codec_Fixed.f k l (s : Int) = codec_Fixed.j0 k l (s : Int) false := by
    intro k
    unfold codec_Fixed.f
    rw [if_neg (by omega)]
    congr 1
    simp
    omega
  refine Ev.congr hj ?_
  by_cases hlt : l.length < s
  · rw [if_pos hlt]
    refine Ev.step (f := fun _ => some (0, 10)) (fun k => ?_) (Ev.now _)
    simp only [codec_Fixed.j0]
    rw [if_neg (by decide), if_pos (by omega)]
  · rw [if_neg hlt]
    have h := Fixed_l0 l hb s hs (by omega) s 0 0 (by omega) (by decide)
    rw [Nat.pow_zero, Nat.one_mul, Nat.zero_add, List.drop_zero] at h
    refine Ev.step (fun k => ?_) h
    simp only [codec_Fixed.j0]
    rw [if_neg (by decide), if_neg (by omega)]
    rfl
end Go.Proofs.Ythdemdjobgbpdaa.Q
namespace Go.Proofs.Ythdemdjobgbpdaa.Q
open Go.RowKit Go.Proofs.YthdemdjobgbpdaaW.PrintWords Go.Proofs.YthdemdjobgbpdaaW.PrintLast Go.Proofs.YthdemdjobgbpdaaW.PrintMore Go.Proofs.Ythdemdjobgbpdaa.P Go.Proofs.Ythdemdjobgbpdaa.M

theorem PutUvarint_l0 : ∀ (n : Nat) (acc : List Int), acc.length + (uv n).length ≤ 140737488355328 → Ev (fun k => codec_PutUvarint.l0 k (n : Int) acc) (acc ++ uv n) := by
  intro n
  induction n using Nat.strongRecOn with
  | _ n ih =>
    intro acc hl
    by_cases h : n < 128
    · rw [uv_small h] at hl ⊢
      refine Ev.step (f := fun _ => some (acc ++ [(n : Int)])) (fun k => ?_) (Ev.now _)
      simp only [codec_PutUvarint.l0]
      rw [if_neg (by omega), if_pos (by simp at hl; omega), show (n : Int) % 256 = (n : Int) by omega]
    · rw [uv_big h] at hl ⊢
      have := ih (n / 128) (by omega) (acc ++ [((n % 128 + 128 : Nat) : Int)]) (by simp at hl ⊢; omega)
      rw [List.append_assoc] at this
      refine Ev.step (fun k => ?_) this
      simp only [codec_PutUvarint.l0]
      rw [if_pos (by omega), if_pos (by simp at hl; omega), or128, show (n : Int) / 128 = ((n / 128 : Nat) : Int) by omega]
theorem PutUvarint_ev (n : Nat) (l : List Int) (hn : n < 18446744073709551616) (hl : l.length + 10 < 140737488355328) : Ev (fun k => codec_PutUvarint.f k l (n : Int)) (l ++ uv n) := by
  have h10 := uv_len64 hn
  refine Ev.congr (f := fun k => codec_PutUvarint.l0 k (n : Int) l) (fun k => ?_) (PutUvarint_l0 n l (by omega))
  unfold codec_PutUvarint.f
  rw [Clone_eq (by omega)]
  rfl
theorem Uvarint_l0 (l : List Int) (hb : IsB l) : ∀ (d i acc : Nat), i + d = l.length → i ≤ 9 → acc < 2 ^ (7 * i) →
    Ev (fun k => codec_Uvarint.l0 k (acc : Int) l (l.length : Int) (i : Int)) (((uvd (l.drop i) i acc).1 : Int), ((uvd (l.drop i) i acc).2.1 : Int), ((uvd (l.drop i) i acc).2.2 : Int)) := by
  intro d
  induction d with
  | zero =>
    intro i acc hi _ _
    have hd : l.drop i = [] := by rw [List.drop_eq_nil_iff]; omega
    rw [hd]
    refine Ev.step (f := fun _ => some (0, 0, 10)) (fun k => ?_) (Ev.now _)
    simp only [codec_Uvarint.l0]
    rw [if_neg (by omega)]
  | succ d ih =>
    intro i acc hi h9 ha
    have hlt : i < l.length := by omega
    obtain ⟨c, hc⟩ : ∃ c, l[i] = c := ⟨_, rfl⟩
    have hcb := hb c (by rw [← hc]; exact List.getElem_mem hlt)
    have hrd : rd l (i : Int) = c := by simp [rd, List.getD_eq_getElem?_getD, hlt, hc]
    have hdrop : l.drop i = c :: l.drop (i + 1) := by rw [List.drop_eq_getElem_cons hlt, hc]
    rw [hdrop]
    have e7 : wrap64 (7 * (i : Int)) = ((7 * i : Nat) : Int) := by rw [w64 (by omega) (by omega)]; omega
    have e1 : wrap64 ((i : Int) + 1) = ((i + 1 : Nat) : Int) := by rw [w64 (by omega) (by omega)]; omega
    have hj : ∀ k, codec_Uvarint.l0 (k + 1) (acc : Int) l (l.length : Int) (i : Int) = codec_Uvarint.j1 k (acc : Int) (i : Int) c l (l.length : Int) (i : Int) (decide (i = 9 ∧ 1 < c)) := by
      intro k
      simp only [codec_Uvarint.l0]
      rw [if_pos (by omega), if_pos (by omega), if_pos (by omega), hrd]
      by_cases h : i = 9
      · rw [if_pos (by omega)]
        congr 1
        simp [h]
      · rw [if_neg (by omega)]
        congr 1
        simp [h]
    refine Ev.step hj ?_
    by_cases h91 : i = 9 ∧ 1 < c
    · simp only [uvd]
      rw [if_pos h91]
      refine Ev.step (f := fun _ => some (0, 0, 11)) (fun k => ?_) (Ev.now _)
      simp only [codec_Uvarint.j1]
      rw [if_pos (by simpa using h91)]
    · have hm : (c % 128).toNat * 2 ^ (7 * i) < 18446744073709551616 := by
        by_cases e9 : i = 9
        · subst e9
          have : (c % 128).toNat ≤ 1 := by omega
          have := Nat.mul_le_mul_right (2 ^ (7 * 9)) this
          have e63 : (2 : Nat) ^ (7 * 9) = 9223372036854775808 := by decide
          omega
        · have hp8 : 2 ^ (7 * i) ≤ 2 ^ 56 := Nat.pow_le_pow_right (by decide) (by omega)
          have : (c % 128).toNat ≤ 127 := by omega
          have := Nat.mul_le_mul this hp8
          have e56 : (2 : Nat) ^ 56 = 72057594037927936 := by decide
          omega
      have hval : Go.bits .or .u64 (acc : Int) (shl .u64 (IntKind.u64.wrap (Go.bits .and .u8 c 127)) (wrap64 (7 * (i : Int)))) = ((acc + (c % 128).toNat * 2 ^ (7 * i) : Nat) : Int) := by
        rw [and127 c hcb.1 hcb.2, wU64 (by omega) (by omega), e7, show c % 128 = (((c % 128).toNat : Nat) : Int) by omega, shl64 _ _ (by omega) hm, join7 _ _ _ ha hm (by omega)]
        simp
      have hjj : ∀ k, codec_Uvarint.j1 (k + 1) (acc : Int) (i : Int) c l (l.length : Int) (i : Int) (decide (i = 9 ∧ 1 < c)) = if c < 128 then some (((acc + (c % 128).toNat * 2 ^ (7 * i) : Nat) : Int), ((i + 1 : Nat) : Int), 0) else codec_Uvarint.l0 k ((acc + (c % 128).toNat * 2 ^ (7 * i) : Nat) : Int) l (l.length : Int) ((i + 1 : Nat) : Int) := by
        intro k
        simp only [codec_Uvarint.j1]
        rw [if_neg (by simpa using h91), hval, if_pos (by rw [e7]; omega), e1]
      simp only [uvd]
      rw [if_neg h91]
      by_cases h128 : c < 128
      · rw [if_pos h128]
        refine Ev.step (f := fun _ => some (((acc + (c % 128).toNat * 2 ^ (7 * i) : Nat) : Int), ((i + 1 : Nat) : Int), 0)) (fun k => ?_) (Ev.now _)
        rw [hjj k, if_pos h128]
      · rw [if_neg h128]
        have h8 : i ≤ 8 := by omega
        have ha2 : acc + (c % 128).toNat * 2 ^ (7 * i) < 2 ^ (7 * (i + 1)) := by
          rw [pow7]
          have : (c % 128).toNat ≤ 127 := by omega
          have := Nat.mul_le_mul_right (2 ^ (7 * i)) this
          omega
        refine Ev.step (fun k => ?_) (ih (i + 1) _ (by omega) (by omega) ha2)
        rw [hjj k, if_neg h128]
theorem Uvarint_ev (l : List Int) (hb : IsB l) : Ev (fun k => codec_Uvarint.f k l) (((uvd l 0 0).1 : Int), ((uvd l 0 0).2.1 : Int), ((uvd l 0 0).2.2 : Int)) :=
  Uvarint_l0 l hb l.length 0 0 (by omega) (by omega) (by decide)

/-! ### Texts -/
/-- What bytes that begin with a text tell: the text's bytes, how many were read, the error. -/
def txd (l : List Int) : List Int × Nat × Nat :=
  if (uvd l 0 0).2.2 = 0 then (if (uvd l 0 0).1 > l.length - (uvd l 0 0).2.1 then ([], 0, 10) else ((l.drop (uvd l 0 0).2.1).take (uvd l 0 0).1, (uvd l 0 0).2.1 + (uvd l 0 0).1, 0)) else ([], 0, (uvd l 0 0).2.2)
end Go.Proofs.Ythdemdjobgbpdaa.Q
namespace Go.Proofs.Ythdemdjobgbpdaa.Q
open Go.RowKit Go.Proofs.YthdemdjobgbpdaaW.PrintWords Go.Proofs.YthdemdjobgbpdaaW.PrintLast Go.Proofs.YthdemdjobgbpdaaW.PrintMore Go.Proofs.Ythdemdjobgbpdaa.P Go.Proofs.Ythdemdjobgbpdaa.M

def chk (s : ByteArray) (q d : Int) : Int := if (s.size : Int) > 64 then 21 else if q > 72057594037927935 then 22 else if d = 0 then 0 else if d = 1 then 0 else 23
theorem Check_eq (s : ByteArray) (q d : Int) : ikey_Check.f s q d = some (chk s q d) := by
  unfold ikey_Check.f chk
  split
  · rfl
  · split
    · rfl
    · split
      · rfl
      · split <;> rfl
theorem chk_zero {s : ByteArray} {q d : Int} (h : chk s q d = 0) : s.size ≤ 64 ∧ q ≤ 72057594037927935 ∧ (d = 0 ∨ d = 1) := by
  unfold chk at h
  split at h
  · omega
  · split at h
    · omega
    · split at h
      · exact ⟨by omega, by omega, .inl (by assumption)⟩
      · split at h
        · exact ⟨by omega, by omega, .inr (by assumption)⟩
        · omega
/-- A key's bytes. -/
def enc (s : ByteArray) (q d : Int) : List Int × Int := if chk s q d = 0 then (bytesOf s ++ fx 8 (q.toNat * 256 + d.toNat), 0) else ([], chk s q d)
theorem or_kind (q d : Int) (q0 : 0 ≤ q) (q1 : q ≤ 72057594037927935) (hd : d = 0 ∨ d = 1) : Go.bits .or .u64 (IntKind.u64.wrap (q * 256)) (IntKind.u64.wrap d) = ((q.toNat * 256 + d.toNat : Nat) : Int) := by
  rw [wU64 (n := q * 256) (by omega) (by omega), wU64 (n := d) (by omega) (by omega), or_add64 _ _ 8 (by omega) (by omega) (by omega) (by omega) (by omega) (by omega)]
  omega
theorem Encode_ev (s : ByteArray) (q d : Int) (q0 : 0 ≤ q) : Ev (fun k => ikey_Encode.f k s q d) (enc s q d) := by
  unfold enc
  by_cases h : chk s q d = 0
  · rw [if_pos h]
    obtain ⟨h1, h2, h3⟩ := chk_zero h
    have hp := PutFixed_ev (q.toNat * 256 + d.toNat) 8 (bytesOf s) (by omega) (by rw [bytesOf_length]; omega)
    refine Ev.congr (f := fun k => (codec_PutFixed.f k (bytesOf s) ((q.toNat * 256 + d.toNat : Nat) : Int) ((8 : Nat) : Int)).bind fun t112 => some (t112, 0)) (fun k => ?_) (Ev.bind hp (Ev.now _))
    unfold ikey_Encode.f
    rw [Check_eq, Option.bind_some, if_pos h, if_pos (by omega), or_kind q d q0 h2 h3]
    rfl
  · rw [if_neg h]
    refine Ev.congr (f := fun _ => some ([], chk s q d)) (fun k => ?_) (Ev.now _)
    unfold ikey_Encode.f
    rw [Check_eq, Option.bind_some, if_neg h]
/-! ### Reading -/
def dec (l : List Int) : ByteArray × Int × Int × Int :=
  if l.length < 8 ∨ 72 < l.length ∨ 1 < fxd (l.drop (l.length - 8)) % 256 then ((⟨#[]⟩ : ByteArray), 0, 0, 20)
  else (strOfNums (l.take (l.length - 8)), ((fxd (l.drop (l.length - 8)) / 256 : Nat) : Int), ((fxd (l.drop (l.length - 8)) % 256 : Nat) : Int), 0)
theorem fxd_head (l : List Int) (h : IsB l) (h8 : 8 ≤ l.length) : rd l ((l.length - 8 : Nat) : Int) = ((fxd (l.drop (l.length - 8)) % 256 : Nat) : Int) := by
  have hlt : l.length - 8 < l.length := by omega
  rw [List.drop_eq_getElem_cons hlt]
  have hb := h _ (List.getElem_mem hlt)
  have e : rd l ((l.length - 8 : Nat) : Int) = l[l.length - 8] := by
    unfold rd
    rw [Int.toNat_natCast, List.getD_eq_getElem?_getD, List.getElem?_eq_getElem hlt]
    rfl
  rw [e, fxd]
  omega
theorem fxd8 (l : List Int) (h : IsB l) (h8 : 8 ≤ l.length) : fxd (l.drop (l.length - 8)) < 18446744073709551616 := by
  have := fxd_lt _ (h.drop (l.length - 8))
  rw [List.length_drop, show l.length - (l.length - 8) = 8 by omega] at this
  exact Nat.lt_of_lt_of_le this (by decide)
theorem wlen (l : List Int) (hl : l.length ≤ 140737488351232) (h8 : 8 ≤ l.length) : wrap64 ((l.length : Int) - 8) = ((l.length - 8 : Nat) : Int) := by
  rw [w64 (by omega) (by omega)]
  omega
theorem and255 (n : Nat) (h : n < 18446744073709551616) : Go.bits .and .u64 (n : Int) 255 = ((n % 256 : Nat) : Int) := by
  have h2 : Go.bits .and .u64 (n : Int) (2 ^ 8 - 1) = (n : Int) % 2 ^ 8 := bits_mask .u64 64 (by decide) (fun n h0 h1 => by rw [wrapU64]; omega) 8 (by decide) (n : Int) (by omega) (by omega)
  have h3 : ((2 : Int) ^ 8 - 1) = 255 := by decide
  rw [h3] at h2
  rw [h2]
  omega
theorem Decode_ev (l : List Int) (hb : IsB l) (hl : l.length ≤ 140737488351232) : Ev (fun k => ikey_Decode.f k l) (dec l) := by
  unfold dec
  by_cases h8 : l.length < 8
  · rw [if_pos (.inl h8)]
    refine Ev.congr (f := fun _ => some _) (fun k => ?_) (Ev.now _)
    unfold ikey_Decode.f
    rw [if_pos (by rw [w64 (by omega) (by omega)]; omega)]
  · have hw := wlen l hl (by omega)
    by_cases h72 : 72 < l.length
    · rw [if_pos (.inr (.inl h72))]
      refine Ev.congr (f := fun _ => some _) (fun k => ?_) (Ev.now _)
      unfold ikey_Decode.f
      rw [hw, if_neg (by omega), if_pos (by omega)]
    · have hr := fxd_head l hb (by omega)
      by_cases h1 : 1 < fxd (l.drop (l.length - 8)) % 256
      · rw [if_pos (.inr (.inr h1))]
        refine Ev.congr (f := fun _ => some _) (fun k => ?_) (Ev.now _)
        unfold ikey_Decode.f
        rw [hw, if_neg (by omega), if_neg (by omega), if_pos (by omega), if_pos (by omega), hr, if_pos (by omega)]
      · rw [if_neg (by omega)]
        have hf := Fixed_ev (l.drop (l.length - 8)) (hb.drop _) 8 (by omega) (by omega)
        have hlen : (l.drop (l.length - 8)).length = 8 := by rw [List.length_drop]; omega
        rw [if_neg (by omega), List.take_of_length_le (by omega)] at hf
        have hlt := fxd8 l hb (by omega)
        refine Ev.congr (f := fun k => (codec_Fixed.f k (l.drop (l.length - 8)) ((8 : Nat) : Int)).bind fun bt => some (strOfNums (l.take (l.length - 8)), bt.1 / 256, wrap64 (Go.bits .and .u64 bt.1 255), 0)) (fun k => ?_) (Ev.bind hf ?_)
        · unfold ikey_Decode.f
          rw [hw, if_neg (by omega), if_neg (by omega), if_pos (by omega), if_pos (by omega), hr, if_neg (by omega), if_pos (by omega), Int.toNat_natCast]
          rfl
        · simp only []
          rw [and255 _ hlt, w64 (by omega) (by omega)]
          exact Ev.now _
/-! ### Order -/
def kcmp (s1 : ByteArray) (q1 d1 : Int) (s2 : ByteArray) (q2 d2 : Int) : Int :=
  if Lib.compareBytes s1.data.toList s2.data.toList = 0 then (if ikey_cmp q2 q1 = 0 then ikey_cmp d2 d1 else ikey_cmp q2 q1) else Lib.compareBytes s1.data.toList s2.data.toList
theorem icmp_spec (x y : Int) : (ikey_cmp x y = -1 ∧ x < y) ∨ (ikey_cmp x y = 1 ∧ y < x) ∨ (ikey_cmp x y = 0 ∧ x = y) := by
  unfold ikey_cmp
  split
  · exact .inl ⟨rfl, by assumption⟩
  · split
    · exact .inr (.inl ⟨rfl, by assumption⟩)
    · exact .inr (.inr ⟨rfl, by omega⟩)
end Go.Proofs.Ythdemdjobgbpdaa.Q
set_option linter.unusedVariables false
namespace Go.Proofs.Ythdemdjobgbpdaa.Q
open Go.RowKit Go.Proofs.Ythdemdjobgbpdaa.P Go.Proofs.YthdemdjobgbpdaaW.PrintWords Go.Proofs.YthdemdjobgbpdaaW.PrintMore Go.Proofs.Ythdemdjobgbpdaa.M
theorem dec_enc (s : ByteArray) (q d : Int) (q0 : 0 ≤ q) (h : chk s q d = 0) : dec (bytesOf s ++ fx 8 (q.toNat * 256 + d.toNat)) = (s, q, d, 0) := by
  obtain ⟨h1, h2, h3⟩ := chk_zero h
  have hlen : (bytesOf s ++ fx 8 (q.toNat * 256 + d.toNat)).length = s.size + 8 := by rw [List.length_append, bytesOf_length, fx_length]
  have e1 : (bytesOf s ++ fx 8 (q.toNat * 256 + d.toNat)).drop ((bytesOf s ++ fx 8 (q.toNat * 256 + d.toNat)).length - 8) = fx 8 (q.toNat * 256 + d.toNat) := by
    rw [hlen, show s.size + 8 - 8 = (bytesOf s).length by rw [bytesOf_length]; omega, List.drop_left]
  have e2 : (bytesOf s ++ fx 8 (q.toNat * 256 + d.toNat)).take ((bytesOf s ++ fx 8 (q.toNat * 256 + d.toNat)).length - 8) = bytesOf s := by
    rw [hlen, show s.size + 8 - 8 = (bytesOf s).length by rw [bytesOf_length]; omega, List.take_left]
  have e3 : fxd (fx 8 (q.toNat * 256 + d.toNat)) = q.toNat * 256 + d.toNat := by
    rw [fxd_fx]
    exact Nat.mod_eq_of_lt (Nat.lt_of_lt_of_le (show q.toNat * 256 + d.toNat < 18446744073709551616 by omega) (by decide))
  unfold dec
  rw [e1, e2, e3, hlen, if_neg (by omega), str_bytesOf]
  have e4 : (((q.toNat * 256 + d.toNat) / 256 : Nat) : Int) = q := by omega
  have e5 : (((q.toNat * 256 + d.toNat) % 256 : Nat) : Int) = d := by omega
  rw [e4, e5]
/-! ### Lines -/
theorem icmp_zero (x y : Int) : ikey_cmp x y = 0 ↔ x = y := by
  rcases icmp_spec x y with ⟨e, h⟩ | ⟨e, h⟩ | ⟨e, h⟩ <;> rw [e] <;> constructor <;> intro g <;> omega
theorem kcmp_zero (s1 : ByteArray) (q1 d1 : Int) (s2 : ByteArray) (q2 d2 : Int) : kcmp s1 q1 d1 s2 q2 d2 = 0 ↔ s1 = s2 ∧ q1 = q2 ∧ d1 = d2 := by
  unfold kcmp
  have hs : s1.data.toList = s2.data.toList ↔ s1 = s2 := ⟨ba_ext, fun h => by rw [h]⟩
  have hc := cmp_zero s1.data.toList s2.data.toList
  by_cases h : Lib.compareBytes s1.data.toList s2.data.toList = 0
  · rw [if_pos h]
    have e1 := hs.1 (hc.1 h)
    by_cases h2 : ikey_cmp q2 q1 = 0
    · rw [if_pos h2, icmp_zero]
      have := (icmp_zero _ _).1 h2
      exact ⟨fun g => ⟨e1, this.symm, g.symm⟩, fun g => g.2.2.symm⟩
    · rw [if_neg h2]
      exact ⟨fun g => absurd g h2, fun g => absurd ((icmp_zero _ _).2 g.2.1.symm) h2⟩
  · rw [if_neg h]
    exact ⟨fun g => absurd g h, fun g => absurd (hc.2 (hs.2 g.1)) h⟩
/-- A key is ahead. -/
def kless (s1 : ByteArray) (q1 d1 : Int) (s2 : ByteArray) (q2 d2 : Int) : Prop := Op.bytesLess s1.data.toList s2.data.toList = true ∨ s1 = s2 ∧ (q2 < q1 ∨ q1 = q2 ∧ d2 < d1)
theorem kcmp_less (s1 : ByteArray) (q1 d1 : Int) (s2 : ByteArray) (q2 d2 : Int) : kcmp s1 q1 d1 s2 q2 d2 < 0 ↔ kless s1 q1 d1 s2 q2 d2 := by
  unfold kcmp kless
  rcases cmp_spec s1.data.toList s2.data.toList with ⟨e, h1, h2, h3⟩ | ⟨e, h1, h2, h3⟩ | ⟨e, h1, h2, h3⟩
  · rw [e, h1]; simp
  · rw [e, h1]
    have : s1 ≠ s2 := fun g => h3 (by rw [g])
    simp [this]
  · rw [e, h1]
    have g := ba_ext h3
    rw [if_pos rfl]
    rcases icmp_spec q2 q1 with ⟨f, g1⟩ | ⟨f, g1⟩ | ⟨f, g1⟩
    · rw [f]; simp [g, g1]
    · rw [f]; simp [g]; omega
    · rw [f]
      rcases icmp_spec d2 d1 with ⟨f2, g2⟩ | ⟨f2, g2⟩ | ⟨f2, g2⟩
      · rw [f2]; simp [g, g1, g2]
      · rw [f2]; simp [g]; omega
      · rw [f2]; simp [g]; omega
theorem kless_trans {s1 : ByteArray} {q1 d1 : Int} {s2 : ByteArray} {q2 d2 : Int} {s3 : ByteArray} {q3 d3 : Int} (h : kless s1 q1 d1 s2 q2 d2) (k : kless s2 q2 d2 s3 q3 d3) : kless s1 q1 d1 s3 q3 d3 := by
  unfold kless at *
  rcases h with h | ⟨rfl, h⟩
  · rcases k with k | ⟨rfl, k⟩
    · exact .inl (bl_trans _ _ _ h k)
    · exact .inl h
  · rcases k with k | ⟨rfl, k⟩
    · exact .inl k
    · exact .inr ⟨rfl, by omega⟩
end Go.Proofs.Ythdemdjobgbpdaa.Q
namespace Go.Proofs.Ythdemdjobgbpdaa.Q
open Go.RowKit Go.Proofs.YthdemdjobgbpdaaW.PrintWords Go.Proofs.YthdemdjobgbpdaaW.PrintLast Go.Proofs.YthdemdjobgbpdaaW.PrintMore Go.Proofs.Ythdemdjobgbpdaa.P Go.Proofs.Ythdemdjobgbpdaa.M

/-! ### What is laid -/
def kb (e : S47) : List Int := bytesOf e.f0.f0 ++ fx 8 (e.f0.f1.toNat * 256 + e.f0.f2.toNat)
def kk (a b : S47) : Int := kcmp a.f0.f0 a.f0.f1 a.f0.f2 b.f0.f0 b.f0.f1 b.f0.f2
def ck1 (e : S47) : Int := chk e.f0.f0 e.f0.f1 e.f0.f2
def ckAt (p : Option S47) (e : S47) : Int :=
  if ck1 e = 0 then (if (e.f1.size : Int) > 1000 then 31 else match p with | none => 0 | some p => if kk p e ≥ 0 then 110 else 0) else ck1 e
def ck : Option S47 → List S47 → Int
  | _, [] => 0
  | p, e :: t => if ckAt p e = 0 then ck (some e) t else ckAt p e
def sh : List Int → List Int → Nat
  | a :: s, b :: t => if a = b then sh s t + 1 else 0
  | [], _ => 0
  | _, [] => 0
def ent (n : Nat) (key : List Int) (v : ByteArray) : List Int := uv n ++ (uv (key.length - n) ++ (uv v.size ++ (key.drop n ++ bytesOf v)))
def nsh (iv i : Nat) (last key : List Int) : Nat := if i % iv = 0 then 0 else sh last key
def body (iv : Nat) : Nat → List Int → List S47 → List Int
  | _, _, [] => []
  | i, last, e :: t => ent (nsh iv i last (kb e)) (kb e) e.f1 ++ body iv (i + 1) (kb e) t
def mks (iv : Nat) : Nat → List Int → Nat → List S47 → List Nat
  | _, _, _, [] => []
  | i, last, o, e :: t => (if i % iv = 0 then [o] else []) ++ mks iv (i + 1) (kb e) (o + (ent (nsh iv i last (kb e)) (kb e) e.f1).length) t
def mfx : List Nat → List Int
  | [] => []
  | o :: t => fx 4 o ++ mfx t
def lay (iv : Nat) (l : List S47) : List Int := body iv 0 [] l ++ (mfx (mks iv 0 [] 0 l) ++ ((iv : Int) :: fx 4 (mks iv 0 [] 0 l).length))
def blt (l : List S47) (iv : Int) : List Int × Int := if iv < 1 ∨ 16 < iv then ([], 1) else if ck none l = 0 then (lay iv.toNat l, 0) else ([], ck none l)

theorem enc_kb (e : S47) : enc e.f0.f0 e.f0.f1 e.f0.f2 = if ck1 e = 0 then (kb e, 0) else ([], ck1 e) := rfl
theorem kb_length (e : S47) : (kb e).length = e.f0.f0.size + 8 := by unfold kb; rw [List.length_append, bytesOf_length, fx_length]
theorem ck1_size {e : S47} (h : ck1 e = 0) : e.f0.f0.size ≤ 64 := (chk_zero h).1
theorem sh_le : ∀ (a b : List Int), sh a b ≤ a.length ∧ sh a b ≤ b.length
  | [], _ => by simp [sh]
  | _ :: _, [] => by simp [sh]
  | a :: s, b :: t => by
    have := sh_le s t
    unfold sh
    split
    · simp only [List.length_cons]; omega
    · simp
theorem nsh_le (iv i : Nat) (last key : List Int) : nsh iv i last key ≤ key.length := by
  unfold nsh
  split
  · omega
  · exact (sh_le _ _).2
theorem ent_length (n : Nat) (key : List Int) (v : ByteArray) (hk : key.length ≤ 72) (hn : n ≤ key.length) (hv : v.size ≤ 1000) : (ent n key v).length ≤ 1110 := by
  unfold ent
  have h1 := uv_len64 (n := n) (by omega)
  have h2 := uv_len64 (n := key.length - n) (by omega)
  have h3 := uv_len64 (n := v.size) (by omega)
  simp only [List.length_append, List.length_drop, bytesOf_length]
  omega
theorem mfx_length : ∀ l : List Nat, (mfx l).length = 4 * l.length
  | [] => rfl
  | o :: t => by rw [mfx, List.length_append, fx_length, mfx_length t, List.length_cons]; omega
theorem rd_at (pre : List S47) (e : S47) (t : List S47) : rd_T47 (pre ++ e :: t) (pre.length : Int) = e := by
  unfold rd_T47
  rw [Int.toNat_natCast]
  simp [List.getD_eq_getElem?_getD]
theorem rd_prev (pre : List S47) (p : S47) (t : List S47) (h : (pre ++ [p]).length ≤ 4611686018427387904) : rd_T47 ((pre ++ [p]) ++ t) (wrap64 (((pre ++ [p]).length : Int) - 1)) = p := by
  rw [List.length_append, List.length_singleton] at h ⊢
  rw [w64 (by omega) (by omega)]
  unfold rd_T47
  rw [show (((pre.length + 1 : Nat) : Int) - 1).toNat = pre.length by omega]
  simp [List.getD_eq_getElem?_getD]

/-! ### block.Build -/
section
variable (x0 : List S47) (x1 : Int) (x8 : List Int) (x9 : Int) (key : List Int) (x23 : List S47) (x24 x25 : Int) (s : ByteArray) (q d : Int) (v : ByteArray) {r : List Int × Int}
theorem Build_l2 (a b c n : Nat) (ha : a < 18446744073709551616) (hb : b < 18446744073709551616) (hc : c < 18446744073709551616) (x6 : List Int) (h6 : x6.length ≤ 10000000000) (hk : key.length ≤ 72) (hn : n ≤ key.length) (hv : v.size ≤ 1000)
    (h : Ev (fun k => block_Build.l0 k x0 x1 (x6 ++ (uv a ++ (uv b ++ (uv c ++ (key.drop n ++ bytesOf v))))) key x8 x9 x23 x24 (wrap64 (x25 + 1))) r) :
    Ev (fun k => block_Build.l2 k x0 x1 x6 x8 x9 key (n : Int) x23 x24 x25 [(a : Int), (b : Int), (c : Int)] 3 0 s q d v) r := by
  have e1 := PutUvarint_ev a [] ha (by simp)
  have e2 := PutUvarint_ev b [] hb (by simp)
  have e3 := PutUvarint_ev c [] hc (by simp)
  have l1 := uv_len64 ha
  have l2 := uv_len64 hb
  have l3 := uv_len64 hc
  rw [List.nil_append] at e1 e2 e3
  refine Ev.step (fun k => block_Build.l2.eq_2 (k := k) ..) ?_
  refine Ev.ifT (by decide) (Ev.ifT (by decide) (Ev.ifT (by simp) (Ev.bind (a := uv a) ?_ (Ev.ifT (by omega) ?_))))
  · exact Ev.congr (fun k => by rw [show rd [(a : Int), (b : Int), (c : Int)] 0 = (a : Int) from rfl, wU64 (by omega) (by omega)]) e1
  rw [show wrap64 (0 + 1) = 1 from w64 (by decide) (by decide)]
  refine Ev.step (fun k => block_Build.l2.eq_2 (k := k) ..) ?_
  refine Ev.ifT (by decide) (Ev.ifT (by decide) (Ev.ifT (by simp) (Ev.bind (a := uv b) ?_ (Ev.ifT (by simp only [List.length_append]; omega) ?_))))
  · exact Ev.congr (fun k => by rw [show rd [(a : Int), (b : Int), (c : Int)] 1 = (b : Int) from rfl, wU64 (by omega) (by omega)]) e2
  rw [show wrap64 (1 + 1) = 2 from w64 (by decide) (by decide)]
  refine Ev.step (fun k => block_Build.l2.eq_2 (k := k) ..) ?_
  refine Ev.ifT (by decide) (Ev.ifT (by decide) (Ev.ifT (by simp) (Ev.bind (a := uv c) ?_ (Ev.ifT (by simp only [List.length_append]; omega) ?_))))
  · exact Ev.congr (fun k => by rw [show rd [(a : Int), (b : Int), (c : Int)] 2 = (c : Int) from rfl, wU64 (by omega) (by omega)]) e3
  rw [show wrap64 (2 + 1) = 3 from w64 (by decide) (by decide)]
  refine Ev.step (fun k => block_Build.l2.eq_2 (k := k) ..) ?_
  refine Ev.ifF (by decide) (Ev.ifT (by omega) (Ev.ifT (by omega) (Ev.some_ ?_)))
  rw [Int.toNat_natCast]
  refine Ev.ifT (by simp only [List.length_append, List.length_drop]; omega) (Ev.some_ (Ev.ifT (by simp only [List.length_append, List.length_drop]; omega) ?_))
  simpa only [List.append_assoc] using h
theorem Build_j4 (n : Nat) (x6 : List Int) (h6 : x6.length ≤ 10000000000) (hk : key.length ≤ 72) (hn : n ≤ key.length) (hv : v.size ≤ 1000)
    (h : Ev (fun k => block_Build.l0 k x0 x1 (x6 ++ ent n key v) key x8 x9 x23 x24 (wrap64 (x25 + 1))) r) :
    Ev (fun k => block_Build.j4 k x0 x1 x6 x8 x9 key (n : Int) x23 x24 x25 s q d v) r := by
  refine Ev.step (fun k => block_Build.j4.eq_2 (k := k) ..) (Ev.some_ ?_)
  have e : wrap64 ((key.length : Int) - (n : Int)) = ((key.length - n : Nat) : Int) := by rw [w64 (by omega) (by omega)]; omega
  rw [e]
  exact Build_l2 x0 x1 x8 x9 key x23 x24 x25 s q d v n (key.length - n) v.size n (by omega) (by omega) (by omega) x6 h6 hk hn hv h
theorem Build_l1 (last : List Int) (hl : last.length ≤ 72) (x6 : List Int) : ∀ (dd n : Nat), n + dd = last.length →
    Ev (fun k => block_Build.j4 k x0 x1 x6 x8 x9 key ((n + sh (last.drop n) (key.drop n) : Nat) : Int) x23 x24 x25 s q d v) r →
    Ev (fun k => block_Build.l1 k x0 x1 x6 last x8 x9 key (n : Int) x23 x24 x25 s q d v) r
  | 0, n, hd, h => by
    refine Ev.step (fun k => block_Build.l1.eq_2 (k := k) ..) (Ev.ifF (by omega) ?_)
    rw [(List.drop_eq_nil_iff (l := last)).2 (by omega)] at h
    simpa [sh] using h
  | dd + 1, n, hd, h => by
    refine Ev.step (fun k => block_Build.l1.eq_2 (k := k) ..) (Ev.ifT (by omega) ?_)
    have hlt : n < last.length := by omega
    by_cases hk : n < key.length
    · rw [List.drop_eq_getElem_cons hlt, List.drop_eq_getElem_cons hk, sh] at h
      have r1 : rd last (n : Int) = last[n] := by unfold rd; rw [Int.toNat_natCast, List.getD_eq_getElem?_getD, List.getElem?_eq_getElem hlt]; rfl
      have r2 : rd key (n : Int) = key[n] := by unfold rd; rw [Int.toNat_natCast, List.getD_eq_getElem?_getD, List.getElem?_eq_getElem hk]; rfl
      refine Ev.ifT (by omega) (Ev.ifT (by omega) ?_)
      rw [r1, r2]
      by_cases he : last[n] = key[n]
      · rw [if_pos he] at h
        refine Ev.ifT he ?_
        rw [w64 (by omega) (by omega)]
        exact Build_l1 last hl x6 dd (n + 1) (by omega) (by simpa only [Nat.add_assoc, Nat.add_comm 1] using h)
      · rw [if_neg he] at h
        exact Ev.ifF he h
    · rw [(List.drop_eq_nil_iff (l := key)).2 (by omega)] at h
      have hz : sh (last.drop n) [] = 0 := by cases last.drop n <;> rfl
      rw [hz] at h
      exact Ev.ifF (by omega) h
end
theorem ev_eq {α : Type} {f : Nat → Option α} {a b : α} (e : a = b) (h : Ev f a) : Ev f b := e ▸ h
theorem Build_l0 (l : List S47) (iv : Nat) (h1 : 1 ≤ iv) (h16 : iv ≤ 16) (hl : l.length ≤ 2000000) (hw : ∀ e ∈ l, 0 ≤ e.f0.f1) : ∀ (rest pre : List S47) (out last mk : List Int) (c : Nat), l = pre ++ rest → out.length ≤ 1200 * pre.length → mk.length ≤ 4 * pre.length → c ≤ pre.length → last.length ≤ 72 →
    Ev (fun k => block_Build.l0 k l (iv : Int) out last mk (c : Int) l (l.length : Int) (pre.length : Int))
      (if ck pre.getLast? rest = 0 then (out ++ (body iv pre.length last rest ++ (mk ++ (mfx (mks iv pre.length last out.length rest) ++ ((iv : Int) :: fx 4 (c + (mks iv pre.length last out.length rest).length))))), 0) else ([], ck pre.getLast? rest))
  | [], pre, out, last, mk, c, hp, ho, hm, hc, hla => by
    have hlen : l.length = pre.length := by rw [hp, List.append_nil]
    refine Ev.step (fun k => block_Build.l0.eq_2 (k := k) ..) (Ev.ifF (by omega) (Ev.ifT (by omega) (Ev.some_ (Ev.ifT (by simp only [List.length_append]; omega) ?_))))
    have hf := PutFixed_ev c 4 (out ++ mk ++ [(iv : Int) % 256]) (by decide) (by simp only [List.length_append, List.length_singleton]; omega)
    refine Ev.bind hf (ev_eq ?_ (Ev.now _))
    rw [show ((iv : Int) % 256) = (iv : Int) by omega]
    simp [ck, body, mks, mfx]
  | e :: t, pre, out, last, mk, c, hp, ho, hm, hc, hla => by
    have hlt : pre.length < l.length := by rw [hp, List.length_append, List.length_cons]; omega
    have hrd : rd_T47 l (pre.length : Int) = e := by rw [hp, rd_at]
    have he : e ∈ l := by rw [hp]; simp
    refine Ev.step (fun k => block_Build.l0.eq_2 (k := k) ..) (Ev.ifT (by omega) (Ev.ifT (by omega) (Ev.ifT (by omega) ?_)))
    rw [hrd]
    have hen := Encode_ev e.f0.f0 e.f0.f1 e.f0.f2 (hw e he)
    rw [enc_kb] at hen
    refine Ev.bind hen ?_
    have hck : ck pre.getLast? (e :: t) = if ckAt pre.getLast? e = 0 then ck (some e) t else ckAt pre.getLast? e := rfl
    rw [hck]
    by_cases h0 : ck1 e = 0
    case neg =>
      have hA : ckAt pre.getLast? e = ck1 e := by unfold ckAt; rw [if_neg h0]
      rw [if_neg h0, hA, if_neg h0, if_neg h0]
      exact Ev.ifF h0 (Ev.now _)
    rw [if_pos h0]
    refine Ev.ifT rfl ?_
    have hs := ck1_size h0
    have hkl := kb_length e
    by_cases hv : (e.f1.size : Int) > 1000
    · have hA : ckAt pre.getLast? e = 31 := by unfold ckAt; rw [if_pos h0, if_pos hv]
      rw [hA]
      exact Ev.ifT hv (Ev.now _)
    refine Ev.ifF hv ?_
    -- what is laid once the entry may stand
    have key : ckAt pre.getLast? e = 0 → Ev (fun k => block_Build.j2 k l (iv : Int) out last mk (c : Int) (pre.length : Int) (kb e) l (l.length : Int) (pre.length : Int) e.f0.f0 e.f0.f1 e.f0.f2 e.f1)
        (if (if ckAt pre.getLast? e = 0 then ck (some e) t else ckAt pre.getLast? e) = 0 then (out ++ (body iv pre.length last (e :: t) ++ (mk ++ (mfx (mks iv pre.length last out.length (e :: t)) ++ ((iv : Int) :: fx 4 (c + (mks iv pre.length last out.length (e :: t)).length))))), 0) else ([], (if ckAt pre.getLast? e = 0 then ck (some e) t else ckAt pre.getLast? e))) := by
      intro hz
      rw [if_pos hz]
      have hel := ent_length (nsh iv pre.length last (kb e)) (kb e) e.f1 (by omega) (nsh_le ..) (by omega)
      have ih := Build_l0 l iv h1 h16 hl hw t (pre ++ [e]) (out ++ ent (nsh iv pre.length last (kb e)) (kb e) e.f1) (kb e) (mk ++ (if pre.length % iv = 0 then fx 4 out.length else [])) (c + if pre.length % iv = 0 then 1 else 0)
        (by rw [hp]; simp) (by simp only [List.length_append, List.length_singleton]; omega) (by simp only [List.length_append, List.length_singleton]; split <;> simp only [fx_length, List.length_nil] <;> omega) (by simp only [List.length_append, List.length_singleton]; split <;> omega) (by omega)
      rw [show (pre ++ [e]).getLast? = some e by simp, show (pre ++ [e]).length = pre.length + 1 by simp, show (out ++ ent (nsh iv pre.length last (kb e)) (kb e) e.f1).length = out.length + (ent (nsh iv pre.length last (kb e)) (kb e) e.f1).length from List.length_append] at ih
      refine Ev.step (fun k => block_Build.j2.eq_2 (k := k) ..) (Ev.ifF (by omega) ?_)
      have em : Int.tmod (pre.length : Int) (iv : Int) = ((pre.length % iv : Nat) : Int) := rfl
      rw [em]
      rw [body, mks]
      by_cases hm0 : pre.length % iv = 0
      · rw [if_pos hm0] at ih ⊢
        rw [if_pos hm0] at ih
        have hf := PutFixed_ev out.length 4 [] (by decide) (by simp)
        rw [List.nil_append] at hf
        refine Ev.ifT (by omega) (Ev.bind (a := fx 4 out.length) (Ev.congr (fun k => by rw [wU64 (by omega) (by omega)]; rfl) hf) (Ev.ifT (by rw [fx_length]; omega) ?_))
        rw [wU64 (by omega) (by omega)]
        have hn0 : nsh iv pre.length last (kb e) = 0 := by unfold nsh; rw [if_pos hm0]
        rw [hn0] at ih hel ⊢
        refine Build_j4 l iv _ _ (kb e) l _ _ e.f0.f0 e.f0.f1 e.f0.f2 e.f1 0 out (by omega) (by omega) (by omega) (by omega) ?_
        rw [w64 (by omega) (by omega)]
        refine ev_eq ?_ ih
        simp only [List.append_assoc, mfx, List.singleton_append, List.length_cons]
        rw [show c + 1 + (mks iv (pre.length + 1) (kb e) (out.length + (ent 0 (kb e) e.f1).length) t).length = c + ((mks iv (pre.length + 1) (kb e) (out.length + (ent 0 (kb e) e.f1).length) t).length + 1) by omega]
      · rw [if_neg hm0] at ih ⊢
        rw [if_neg hm0] at ih
        have hn0 : nsh iv pre.length last (kb e) = sh last (kb e) := by unfold nsh; rw [if_neg hm0]
        rw [hn0] at ih hel ⊢
        refine Ev.ifF (by omega) (Build_l1 l iv _ _ (kb e) l _ _ e.f0.f0 e.f0.f1 e.f0.f2 e.f1 last hla out last.length 0 (by omega) ?_)
        rw [List.drop_zero, List.drop_zero, Nat.zero_add]
        refine Build_j4 l iv _ _ (kb e) l _ _ e.f0.f0 e.f0.f1 e.f0.f2 e.f1 (sh last (kb e)) out (by omega) (by omega) (sh_le _ _).2 (by omega) ?_
        rw [w64 (by omega) (by omega), show ((pre.length : Int) + 1) = ((pre.length + 1 : Nat) : Int) from rfl]
        simpa only [List.append_assoc, List.append_nil, List.nil_append, Nat.add_zero] using ih
    rcases List.eq_nil_or_concat pre with rfl | ⟨p', p, rfl⟩
    · have hA : ckAt ([] : List S47).getLast? e = 0 := by unfold ckAt; rw [if_pos h0, if_neg hv]; rfl
      exact Ev.ifF (by simp) (key hA)
    · rw [List.concat_eq_append] at *
      have hpr : rd_T47 l (wrap64 (((p' ++ [p]).length : Int) - 1)) = p := by rw [hp]; exact rd_prev p' p (e :: t) (by omega)
      have hpl : (p' ++ [p]).length = p'.length + 1 := by simp
      have hwr : wrap64 (((p' ++ [p]).length : Int) - 1) = (p'.length : Int) := by rw [hpl, w64 (by omega) (by omega)]; omega
      have hgl : (p' ++ [p]).getLast? = some p := by simp
      refine Ev.ifT (by omega) (Ev.ifT (by omega) (Ev.ifT (by omega) ?_))
      rw [hpr]
      refine Ev.bind (a := kk p e) (Ev.congr (f := fun _ => some (kk p e)) (fun k => rfl) (Ev.now _)) ?_
      by_cases hq : kk p e ≥ 0
      · have hA : ckAt (p' ++ [p]).getLast? e = 110 := by rw [hgl]; unfold ckAt; rw [if_pos h0, if_neg hv]; simp only []; rw [if_pos hq]
        rw [hA]
        exact Ev.ifT hq (Ev.now _)
      · have hA : ckAt (p' ++ [p]).getLast? e = 0 := by rw [hgl]; unfold ckAt; rw [if_pos h0, if_neg hv]; simp only []; rw [if_neg hq]
        exact Ev.ifF hq (key hA)
theorem Build_evg (l : List S47) (iv : Int) (hl : l.length ≤ 2000000) (hw : ∀ e ∈ l, 0 ≤ e.f0.f1) : Ev (fun k => block_Build.f k l iv) (blt l iv) := by
  unfold blt
  have hj : ∀ b : Bool, b = decide (iv < 1 ∨ 16 < iv) → Ev (fun k => block_Build.j0 k l iv b) (if iv < 1 ∨ 16 < iv then ([], 1) else if ck none l = 0 then (lay iv.toNat l, 0) else ([], ck none l)) := by
    intro b hb
    refine Ev.step (fun k => block_Build.j0.eq_2 (k := k) ..) ?_
    by_cases h : iv < 1 ∨ 16 < iv
    · rw [if_pos h]
      exact Ev.ifT (by rw [hb, decide_eq_true h]) (Ev.now _)
    · rw [if_neg h]
      refine Ev.ifF (by rw [hb, decide_eq_false h]; decide) ?_
      have := Build_l0 l iv.toNat (by omega) (by omega) hl hw l [] [] [] [] 0 (by simp) (by simp) (by simp) (by simp) (by simp)
      rw [show ((iv.toNat : Nat) : Int) = iv by omega] at this
      simpa [lay, show ((iv.toNat : Nat) : Int) = iv by omega] using this
  by_cases h1 : iv < 1
  · exact Ev.congr (fun k => by unfold block_Build.f; rw [if_pos h1]) (hj true (by simp [h1]))
  · exact Ev.congr (fun k => by unfold block_Build.f; rw [if_neg h1]) (hj (decide (iv > 16)) (by simp [h1]))

theorem Build_ev (l : List S47) (iv : Int) (hl : l.length ≤ 1000) (hw : ∀ e ∈ l, 0 ≤ e.f0.f1) : Ev (fun k => block_Build.f k l iv) (blt l iv) := Build_evg l iv (by omega) hw
theorem ckAt_zero {p : Option S47} {e : S47} (h : ckAt p e = 0) : ck1 e = 0 ∧ e.f1.size ≤ 1000 ∧ ∀ q, p = some q → kk q e < 0 := by
  unfold ckAt at h
  by_cases h0 : ck1 e = 0
  · rw [if_pos h0] at h
    by_cases hv : (e.f1.size : Int) > 1000
    · rw [if_pos hv] at h; omega
    · rw [if_neg hv] at h
      refine ⟨h0, by omega, fun q hq => ?_⟩
      subst hq
      simp only [] at h
      by_cases hk : kk q e ≥ 0
      · rw [if_pos hk] at h; omega
      · omega
  · rw [if_neg h0] at h; exact absurd h h0
theorem ck_cons {p : Option S47} {e : S47} {t : List S47} (h : ck p (e :: t) = 0) : ckAt p e = 0 ∧ ck (some e) t = 0 := by
  rw [ck] at h
  by_cases h0 : ckAt p e = 0
  · rw [if_pos h0] at h; exact ⟨h0, h⟩
  · rw [if_neg h0] at h; exact absurd h h0
theorem ck_all : ∀ {l : List S47} {p : Option S47}, ck p l = 0 → ∀ e ∈ l, ck1 e = 0 ∧ e.f1.size ≤ 1000
  | [], _, _, e, he => by cases he
  | x :: t, p, h, e, he => by
    obtain ⟨h1, h2⟩ := ck_cons h
    rcases List.mem_cons.1 he with rfl | ht
    · exact ⟨(ckAt_zero h1).1, (ckAt_zero h1).2.1⟩
    · exact ck_all h2 e ht
end Go.Proofs.Ythdemdjobgbpdaa.Q
namespace Go.Proofs.Ythdemdjobgbpdaa.Q
open Go.RowKit Go.Proofs.YthdemdjobgbpdaaW.PrintWords Go.Proofs.YthdemdjobgbpdaaW.PrintLast Go.Proofs.YthdemdjobgbpdaaW.PrintMore Go.Proofs.Ythdemdjobgbpdaa.P Go.Proofs.Ythdemdjobgbpdaa.M Go.Proofs.Ythdemdjobgbpdaa.B

def Fit (l : List S47) : Prop := ∀ e ∈ l, ck1 e = 0 ∧ e.f1.size ≤ 1000 ∧ 0 ≤ e.f0.f1
theorem Fit.of {l : List S47} (h : ck none l = 0) (hw : ∀ e ∈ l, 0 ≤ e.f0.f1) : Fit l := fun e he => ⟨(ck_all h e he).1, (ck_all h e he).2, hw e he⟩
theorem kb_IsB (e : S47) : IsB (kb e) := (IsB.bytesOf _).append (fx_IsB _ _)
theorem ent_IsB (n : Nat) {key : List Int} (v : ByteArray) (h : IsB key) : IsB (ent n key v) := (uv_IsB _).append ((uv_IsB _).append ((uv_IsB _).append ((h.drop _).append (IsB.bytesOf _))))
theorem body_IsB (iv : Nat) : ∀ (l : List S47) (i : Nat) (last : List Int), IsB (body iv i last l)
  | [], _, _ => IsB.nil
  | e :: t, i, last => by rw [body]; exact (ent_IsB _ _ (kb_IsB e)).append (body_IsB iv t (i + 1) (kb e))
theorem mfx_IsB : ∀ l : List Nat, IsB (mfx l)
  | [] => IsB.nil
  | o :: t => by rw [mfx]; exact (fx_IsB _ _).append (mfx_IsB t)
theorem lay_IsB (iv : Nat) (h : iv ≤ 16) (l : List S47) : IsB (lay iv l) := (body_IsB iv l 0 []).append ((mfx_IsB _).append (IsB.cons (by omega) (by omega) (fx_IsB _ _)))
theorem body_length (iv : Nat) : ∀ (l : List S47) (i : Nat) (last : List Int), Fit l → (body iv i last l).length ≤ 1110 * l.length
  | [], _, _, _ => by simp [body]
  | e :: t, i, last, hf => by
    obtain ⟨h0, hv, _⟩ := hf e (by simp)
    have hs := ck1_size h0
    have hkl := kb_length e
    have h1 := ent_length (nsh iv i last (kb e)) (kb e) e.f1 (by omega) (nsh_le ..) hv
    have h2 := body_length iv t (i + 1) (kb e) (fun x hx => hf x (by simp [hx]))
    rw [body, List.length_append, List.length_cons]
    omega
theorem mks_length (iv : Nat) : ∀ (l : List S47) (i : Nat) (last : List Int) (o : Nat), (mks iv i last o l).length ≤ l.length
  | [], _, _, _ => by simp [mks]
  | e :: t, i, last, o => by
    have := mks_length iv t (i + 1) (kb e) (o + (ent (nsh iv i last (kb e)) (kb e) e.f1).length)
    rw [mks, List.length_append, List.length_cons]
    split <;> simp only [List.length_cons, List.length_nil] <;> omega
theorem sh_take : ∀ (a b : List Int), a.take (sh a b) = b.take (sh a b)
  | [], _ => by simp [sh]
  | _ :: _, [] => by simp [sh]
  | a :: s, b :: t => by
    unfold sh
    split
    · rename_i h
      rw [List.take_succ_cons, List.take_succ_cons, sh_take s t, h]
    · simp
theorem nsh_take (iv i : Nat) (last key : List Int) : last.take (nsh iv i last key) = key.take (nsh iv i last key) := by
  unfold nsh
  split
  · simp
  · exact sh_take _ _
theorem nsh_last (iv i : Nat) (last key : List Int) : nsh iv i last key ≤ last.length := by
  unfold nsh
  split
  · omega
  · exact (sh_le _ _).1
theorem Uv_ev (n : Nat) (more : List Int) (hn : n < 18446744073709551616) (hm : IsB more) : Ev (fun k => codec_Uvarint.f k (uv n ++ more)) ((n : Int), ((uv n).length : Int), 0) := by
  have h := Uvarint_ev (uv n ++ more) ((uv_IsB n).append hm)
  rw [uvd_uv more n 0 0 (by omega) (by simpa using hn)] at h
  simpa using h
theorem rd_l_ev (iv bl : Nat) (hbl : bl < 140737488355328) : ∀ (l : List S47) (i : Nat) (last : List Int) (acc : List S47), Fit l → last.length ≤ 72 → acc.length + l.length ≤ 1000000 → (body iv i last l).length ≤ bl →
    Ev (fun k => rd_l k bl (body iv i last l) last acc) (acc ++ l)
  | [], i, last, acc, _, _, _, _ => by
    refine Ev.step (fun k => rd_l.eq_2 (k := k) ..) (Ev.ifT rfl (ev_eq ?_ (Ev.now _)))
    rw [List.append_nil]
  | e :: t, i, last, acc, hf, hla, ha, hb => by
    obtain ⟨h0, hv, hq⟩ := hf e (by simp)
    have hs := ck1_size h0
    have hkl := kb_length e
    have hft : Fit t := fun x hx => hf x (by simp [hx])
    have hn1 := nsh_le iv i last (kb e)
    have hn2 := nsh_last iv i last (kb e)
    have htk := nsh_take iv i last (kb e)
    rw [body, ent] at hb ⊢
    generalize nsh iv i last (kb e) = n at *
    simp only [List.append_assoc] at hb ⊢
    have hm : ((kb e).drop n).length = (kb e).length - n := List.length_drop
    have hbv : (bytesOf e.f1).length = e.f1.size := bytesOf_length _
    have hrest := body_IsB iv t (i + 1) (kb e)
    have ih := rd_l_ev iv bl hbl t (i + 1) (kb e) (acc ++ [e]) hft (by omega) (by simp only [List.length_append, List.length_nil, List.length_cons] at ha ⊢; omega) (by simp only [List.length_append] at hb; omega)
    generalize body iv (i + 1) (kb e) t = rest at *
    have i4 : IsB (bytesOf e.f1 ++ rest) := (IsB.bytesOf _).append hrest
    have i3 : IsB ((kb e).drop n ++ (bytesOf e.f1 ++ rest)) := ((kb_IsB e).drop n).append i4
    have i2 : IsB (uv e.f1.size ++ ((kb e).drop n ++ (bytesOf e.f1 ++ rest))) := (uv_IsB _).append i3
    have i1 : IsB (uv ((kb e).length - n) ++ (uv e.f1.size ++ ((kb e).drop n ++ (bytesOf e.f1 ++ rest)))) := (uv_IsB _).append i2
    have p1 := uv_pos n
    simp only [List.length_append] at hb
    refine Ev.step (fun k => rd_l.eq_2 (k := k) ..) (Ev.ifF (by simp only [List.length_append]; omega) (Ev.bind (Uv_ev n _ (by omega) i1) (Ev.ifT ⟨rfl, by dsimp only; omega, by dsimp only; omega, by dsimp only; omega, by dsimp only; simp only [List.length_append]; omega⟩ ?_)))
    simp only [Int.toNat_natCast, List.drop_left]
    refine Ev.bind (Uv_ev ((kb e).length - n) _ (by omega) i2) (Ev.ifT ⟨rfl, by dsimp only; omega, by dsimp only; omega, by dsimp only; omega, by dsimp only; simp only [List.length_append]; omega⟩ ?_)
    simp only [Int.toNat_natCast, List.drop_left]
    refine Ev.bind (Uv_ev e.f1.size _ (by omega) i3) (Ev.ifT ⟨rfl, by dsimp only; omega, by dsimp only; omega, by dsimp only; omega, by dsimp only; simp only [List.length_append]; omega⟩ ?_)
    simp only [Int.toNat_natCast, List.drop_left]
    rw [← hm, ← hbv]
    simp only [List.take_left, List.drop_left]
    have hkk : last.take n ++ (kb e).drop n = kb e := by rw [htk, List.take_append_drop]
    rw [hkk]
    refine Ev.ifT ⟨by simp only [List.length_append]; omega, by simp only [List.length_take]; omega⟩ ?_
    have hd := Decode_ev (kb e) (kb_IsB e) (by omega)
    have hdec : dec (kb e) = (e.f0.f0, e.f0.f1, e.f0.f2, 0) := dec_enc e.f0.f0 e.f0.f1 e.f0.f2 hq h0
    rw [hdec] at hd
    refine Ev.bind hd (Ev.ifT ⟨rfl, by simp only [List.length_append]; omega, by simp only [List.length_cons] at ha; omega⟩ ?_)
    rw [str_bytesOf]
    simpa only [List.append_assoc, List.singleton_append] using ih
theorem lay_length (iv : Nat) (l : List S47) (hf : Fit l) (hl : l.length ≤ 1000) : (lay iv l).length = (body iv 0 [] l).length + 4 * (mks iv 0 [] 0 l).length + 5 ∧ (lay iv l).length ≤ 2000000 := by
  have h1 := body_length iv l 0 [] hf
  have h2 := mks_length iv l 0 [] 0
  unfold lay
  simp only [List.length_append, List.length_cons, fx_length, mfx_length]
  omega
theorem read_ev (iv : Nat) (h1 : 1 ≤ iv) (h16 : iv ≤ 16) (l : List S47) (hf : Fit l) (hl : l.length ≤ 1000) : Ev (fun k => read_f k (lay iv l)) (l, (iv : Int)) := by
  obtain ⟨hlen, hbig⟩ := lay_length iv l hf hl
  have h2 := mks_length iv l 0 [] 0
  have hB := rd_l_ev iv (lay iv l).length (by omega) l 0 [] [] hf (by simp) (by simp only [List.length_nil]; omega) (by omega)
  have hlay : lay iv l = (body iv 0 [] l ++ (mfx (mks iv 0 [] 0 l) ++ [(iv : Int)])) ++ fx 4 (mks iv 0 [] 0 l).length := by unfold lay; simp
  have hpre : (body iv 0 [] l ++ (mfx (mks iv 0 [] 0 l) ++ [(iv : Int)])).length = (lay iv l).length - 4 := by simp only [List.length_append, mfx_length, List.length_singleton]; omega
  have hdr : (lay iv l).drop ((lay iv l).length - 4) = fx 4 (mks iv 0 [] 0 l).length := by
    rw [← hpre]
    conv => lhs; rw [hlay]
    exact List.drop_left
  have hfx := Fixed_ev (fx 4 (mks iv 0 [] 0 l).length) (fx_IsB _ _) 4 (by decide) (by decide)
  rw [if_neg (by rw [fx_length]; omega), List.take_of_length_le (by rw [fx_length]; omega), fxd_fx, Nat.mod_eq_of_lt (by omega)] at hfx
  have hrd : rd (lay iv l) (((lay iv l).length : Int) - 5) = (iv : Int) := by
    have hpos : (((lay iv l).length : Int) - 5).toNat = (body iv 0 [] l ++ mfx (mks iv 0 [] 0 l)).length := by simp only [List.length_append, mfx_length]; omega
    unfold rd
    rw [hpos]
    have hl2 : lay iv l = (body iv 0 [] l ++ mfx (mks iv 0 [] 0 l)) ++ ((iv : Int) :: fx 4 (mks iv 0 [] 0 l).length) := by unfold lay; simp
    rw [hl2]
    simp [List.getD_eq_getElem?_getD]
  have htk : (lay iv l).take ((lay iv l).length - 5 - 4 * (mks iv 0 [] 0 l).length) = body iv 0 [] l := by
    rw [show (lay iv l).length - 5 - 4 * (mks iv 0 [] 0 l).length = (body iv 0 [] l).length by omega]
    unfold lay
    exact List.take_left
  unfold read_f
  refine Ev.ifT ⟨by omega, by omega⟩ ?_
  rw [hdr]
  refine Ev.bind hfx (Ev.ifT ⟨by dsimp only; omega, by dsimp only; omega⟩ ?_)
  rw [hrd]
  simp only [Int.toNat_natCast]
  rw [htk, w64 (by omega) (by omega)]
  refine Ev.bind hB ?_
  rw [List.nil_append]
  exact Ev.now _
theorem blt_ok {l : List S47} {iv : Nat} (h1 : 1 ≤ iv) (h16 : iv ≤ 16) (hc : ck none l = 0) : blt l (iv : Int) = (lay iv l, 0) := by
  unfold blt
  rw [if_neg (by omega), if_pos hc, Int.toNat_natCast]
theorem open_ev (iv : Nat) (h1 : 1 ≤ iv) (h16 : iv ≤ 16) (l : List S47) (hc : ck none l = 0) (hw : ∀ e ∈ l, 0 ≤ e.f0.f1) (hl : l.length ≤ 1000) : Ev (fun k => open_f k (lay iv l)) (some (l, (iv : Int))) := by
  unfold open_f
  have hb := Build_ev l (iv : Int) hl hw
  rw [blt_ok h1 h16 hc] at hb
  refine Ev.bind (read_ev iv h1 h16 l (Fit.of hc hw) hl) (Ev.bind hb ?_)
  refine Ev.ifT rfl (Ev.bind (a := true) (Ev.congr (f := fun _ => some true) (fun k => ?_) (Ev.now _)) (Ev.ifT rfl (Ev.now _)))
  unfold bytes_Equal.f
  rw [beq_self_eq_true]

/-! ### What is found -/
def kq (x : S47) (q : S45) : Int := kcmp x.f0.f0 x.f0.f1 x.f0.f2 q.f0 q.f1 q.f2
def fi : List S47 → S45 → Nat
  | [], _ => 0
  | e :: t, q => if kq e q < 0 then fi t q + 1 else 0
theorem fi_le : ∀ (l : List S47) (q : S45), fi l q ≤ l.length
  | [], _ => by simp [fi]
  | e :: t, q => by
    have := fi_le t q
    rw [fi]
    split
    · rw [List.length_cons]; omega
    · omega
theorem rdT_cons (e : S47) (t : List S47) (i : Nat) : rd_T47 (e :: t) ((i + 1 : Nat) : Int) = rd_T47 t (i : Int) := by
  unfold rd_T47
  rw [Int.toNat_natCast, Int.toNat_natCast, List.getD_cons_succ]
theorem fi_spec : ∀ (l : List S47) (q : S45), (∀ j, j < fi l q → kq (rd_T47 l (j : Int)) q < 0) ∧ (fi l q < l.length → ¬ kq (rd_T47 l (fi l q : Int)) q < 0)
  | [], q => ⟨fun j h => by simp [fi] at h, fun h => by simp at h⟩
  | e :: t, q => by
    obtain ⟨h1, h2⟩ := fi_spec t q
    rw [fi]
    by_cases he : kq e q < 0
    · rw [if_pos he]
      refine ⟨fun j hj => ?_, fun hl => ?_⟩
      · match j with
        | 0 => exact he
        | j + 1 => rw [rdT_cons]; exact h1 j (by omega)
      · rw [rdT_cons]
        exact h2 (by rw [List.length_cons] at hl; omega)
    · rw [if_neg he]
      exact ⟨fun j hj => by omega, fun _ => he⟩
theorem fi_is (l : List S47) (q : S45) (n : Nat) (hn : n ≤ l.length) (h1 : ∀ j, j < n → kq (rd_T47 l (j : Int)) q < 0) (h2 : n < l.length → ¬ kq (rd_T47 l (n : Int)) q < 0) : fi l q = n := by
  obtain ⟨s1, s2⟩ := fi_spec l q
  have hle := fi_le l q
  rcases Nat.lt_trichotomy (fi l q) n with h | h | h
  · exact absurd (h1 _ h) (s2 (by omega))
  · exact h
  · exact absurd (s1 _ h) (h2 (by omega))
theorem kq_step {a b : S47} {q : S45} (h : kk a b < 0) (hq : kq b q ≤ 0) : kq a q < 0 := by
  have h1 := (kcmp_less a.f0.f0 a.f0.f1 a.f0.f2 b.f0.f0 b.f0.f1 b.f0.f2).1 h
  unfold kq at *
  by_cases hz : kcmp b.f0.f0 b.f0.f1 b.f0.f2 q.f0 q.f1 q.f2 = 0
  · obtain ⟨e1, e2, e3⟩ := (kcmp_zero ..).1 hz
    rw [← e1, ← e2, ← e3]
    exact h
  · exact (kcmp_less ..).2 (kless_trans h1 ((kcmp_less ..).1 (by omega)))
/-- keys that rise -/
theorem ck_rise : ∀ (l : List S47) (p : Option S47), ck p l = 0 → ∀ j, j + 1 < l.length → kk (rd_T47 l (j : Int)) (rd_T47 l ((j + 1 : Nat) : Int)) < 0
  | [], _, _, j, hj => by simp at hj
  | [_], _, _, j, hj => by simp at hj
  | a :: b :: t, p, h, j, hj => by
    obtain ⟨_, h2⟩ := ck_cons h
    match j with
    | 0 => exact (ckAt_zero (ck_cons h2).1).2.2 a rfl
    | j + 1 =>
      rw [rdT_cons, rdT_cons]
      exact ck_rise (b :: t) (some a) h2 j (by simp only [List.length_cons] at hj ⊢; omega)
theorem rise_down {l : List S47} (hr : ∀ j, j + 1 < l.length → kk (rd_T47 l (j : Int)) (rd_T47 l ((j + 1 : Nat) : Int)) < 0) (q : S45) : ∀ (d j : Nat), j + d < l.length → kq (rd_T47 l ((j + d : Nat) : Int)) q ≤ 0 → 0 < d → kq (rd_T47 l (j : Int)) q < 0
  | 0, j, _, _, h0 => by omega
  | 1, j, hj, hq, _ => kq_step (hr j hj) hq
  | d + 2, j, hj, hq, _ => by
    have := rise_down hr q (d + 1) (j + 1) (by omega) (by rw [show j + 1 + (d + 1) = j + (d + 2) by omega]; exact hq) (by omega)
    exact kq_step (hr j (by omega)) (Int.le_of_lt this)
theorem find_s_ev (l : List S47) (q : S45) : ∀ (d at_ : Nat), at_ + d = l.length → (∀ j, j < at_ → kq (rd_T47 l (j : Int)) q < 0) → Ev (fun k => find_s k l q at_) (fi l q)
  | 0, at_, hd, h => by
    have : fi l q = at_ := fi_is l q at_ (by omega) h (fun h => by omega)
    rw [this]
    exact Ev.step (fun k => find_s.eq_2 (k := k) ..) (Ev.ifF (by omega) (Ev.now _))
  | d + 1, at_, hd, h => by
    refine Ev.step (fun k => find_s.eq_2 (k := k) ..) (Ev.ifT (by omega) (Ev.bind (a := kq (rd_T47 l (at_ : Int)) q) (Ev.now _) ?_))
    by_cases hq : kq (rd_T47 l (at_ : Int)) q < 0
    · refine Ev.ifT hq (find_s_ev l q d (at_ + 1) (by omega) (fun j hj => ?_))
      rcases Nat.lt_or_ge j at_ with hj' | hj'
      · exact h j hj'
      · rw [show j = at_ by omega]; exact hq
    · have : fi l q = at_ := fi_is l q at_ (by omega) h (fun _ => hq)
      rw [this]
      exact Ev.ifF hq (Ev.now _)
theorem find_b_ev (l : List S47) (iv : Nat) (q : S45) (h1 : 1 ≤ iv) (hhi : ∀ m, m < (l.length + iv - 1) / iv → m * iv < l.length) : ∀ (d lo hi : Nat), hi - lo ≤ d → lo ≤ hi → hi ≤ (l.length + iv - 1) / iv → hi ≤ l.length → (0 < lo → (lo - 1) * iv < l.length ∧ kq (rd_T47 l (((lo - 1) * iv : Nat) : Int)) q < 0) →
    ∃ lo', lo' ≤ l.length ∧ (0 < lo' → (lo' - 1) * iv < l.length ∧ kq (rd_T47 l (((lo' - 1) * iv : Nat) : Int)) q < 0) ∧ Ev (fun k => find_b k l iv q lo hi) lo'
  | 0, lo, hi, hd, hlh, hc, hle, hI => ⟨lo, by omega, hI, Ev.step (fun k => find_b.eq_2 (k := k) ..) (Ev.ifF (by omega) (Ev.now _))⟩
  | d + 1, lo, hi, hd, hlh, hc, hle, hI => by
    by_cases hlt : lo < hi
    · have hmid := hhi ((lo + hi) / 2) (by omega)
      by_cases hq : kq (rd_T47 l (((lo + hi) / 2 * iv : Nat) : Int)) q < 0
      · obtain ⟨lo', a, b, c⟩ := find_b_ev l iv q h1 hhi d ((lo + hi) / 2 + 1) hi (by omega) (by omega) hc hle (fun _ => by rw [Nat.add_sub_cancel]; exact ⟨hmid, hq⟩)
        exact ⟨lo', a, b, Ev.step (fun k => find_b.eq_2 (k := k) ..) (Ev.ifT hlt (Ev.ifT ⟨hmid, hle⟩ (Ev.bind (a := kq (rd_T47 l (((lo + hi) / 2 * iv : Nat) : Int)) q) (Ev.now _) (Ev.ifT hq c))))⟩
      · obtain ⟨lo', a, b, c⟩ := find_b_ev l iv q h1 hhi d lo ((lo + hi) / 2) (by omega) (by omega) (by omega) (by omega) hI
        exact ⟨lo', a, b, Ev.step (fun k => find_b.eq_2 (k := k) ..) (Ev.ifT hlt (Ev.ifT ⟨hmid, hle⟩ (Ev.bind (a := kq (rd_T47 l (((lo + hi) / 2 * iv : Nat) : Int)) q) (Ev.now _) (Ev.ifF hq c))))⟩
    · exact ⟨lo, by omega, hI, Ev.step (fun k => find_b.eq_2 (k := k) ..) (Ev.ifF hlt (Ev.now _))⟩
theorem ceil_mul (n iv m : Nat) (h1 : 1 ≤ iv) (h : m < (n + iv - 1) / iv) : m * iv < n := by
  have h2 := (Nat.le_div_iff_mul_le (by omega : 0 < iv)).1 (show m + 1 ≤ (n + iv - 1) / iv from h)
  rw [Nat.add_mul] at h2
  omega
theorem ceil_le (n iv : Nat) (h1 : 1 ≤ iv) : (n + iv - 1) / iv ≤ n := by
  rcases Nat.eq_zero_or_pos n with h | h
  · subst h
    rw [Nat.zero_add, Nat.div_eq_of_lt (by omega)]
    exact Nat.le_refl _
  · have := Nat.div_mul_le_self (n + iv - 1) iv
    have h3 : (n + iv - 1) / iv < n + 1 := (Nat.div_lt_iff_lt_mul (by omega)).2 (by
      have : (n + 1) * iv = n * iv + iv := by rw [Nat.add_mul, Nat.one_mul]
      have h4 : n * 1 ≤ n * iv := Nat.mul_le_mul_left n h1
      omega)
    omega
theorem find_ev (l : List S47) (iv : Nat) (q : S45) (h1 : 1 ≤ iv) (h16 : iv ≤ 16) (hl : l.length < 281474976710656) (hc : ck none l = 0) : Ev (fun k => find_f k l iv q) (fi l q) := by
  have hr := ck_rise l none hc
  obtain ⟨lo, a, b, c⟩ := find_b_ev l iv q h1 (fun m hm => ceil_mul l.length iv m h1 hm) ((l.length + iv - 1) / iv) 0 ((l.length + iv - 1) / iv) (Nat.sub_le _ _) (Nat.zero_le _) (Nat.le_refl _) (ceil_le _ _ h1) (fun h => by omega)
  unfold find_f
  refine Ev.ifT ⟨hl, h1, h16⟩ (Ev.bind c (Ev.ifT a ?_))
  rcases Nat.eq_zero_or_pos lo with h0 | h0
  · subst h0
    rw [show (0 - 1) * iv = 0 by omega]
    exact find_s_ev l q l.length 0 (by omega) (fun j hj => by omega)
  · obtain ⟨b1, b2⟩ := b h0
    refine find_s_ev l q (l.length - (lo - 1) * iv) ((lo - 1) * iv) (by omega) (fun j hj => ?_)
    refine rise_down hr q ((lo - 1) * iv - j) j (by omega) ?_ (by omega)
    rw [show j + ((lo - 1) * iv - j) = (lo - 1) * iv by omega]
    exact Int.le_of_lt b2
theorem Ev.all {α : Type} {f : Nat → Nat → Option α} {r : Nat → α} : ∀ n : Nat, (∀ i, i < n → Ev (f i) (r i)) → ∃ K, ∀ k, K ≤ k → ∀ i, i < n → f i k = some (r i)
  | 0, _ => ⟨0, fun _ _ i hi => by omega⟩
  | n + 1, h => by
    obtain ⟨K1, h1⟩ := Ev.all n (fun i hi => h i (by omega))
    obtain ⟨K2, h2⟩ := h n (by omega)
    refine ⟨max K1 K2, fun k hk i hi => ?_⟩
    rcases Nat.lt_or_ge i n with hin | hin
    · exact h1 k (by omega) i hin
    · rw [show i = n by omega]; exact h2 k (by omega)
end Go.Proofs.Ythdemdjobgbpdaa.Q
namespace Go.Proofs.Ythdemdjobgbpdaa.Q
open Go.RowKit Go.Proofs.YthdemdjobgbpdaaW.PrintWords Go.Proofs.YthdemdjobgbpdaaW.PrintLast Go.Proofs.YthdemdjobgbpdaaW.PrintMore Go.Proofs.Ythdemdjobgbpdaa.P Go.Proofs.Ythdemdjobgbpdaa.M Go.Proofs.Ythdemdjobgbpdaa.B

def ua (D : List Int) : Nat := (uvd D 0 0).1
def uk (D : List Int) : Nat := (uvd D 0 0).2.1
def ue (D : List Int) : Nat := (uvd D 0 0).2.2
def ud (D : List Int) : List Int := D.drop (uk D)
/-- the bytes of the next key, and what is behind -/
def pkey (D last : List Int) : List Int := last.take (ua D) ++ (ud (ud (ud D))).take (ua (ud D))
def prest (D : List Int) : List Int := (ud (ud (ud D))).drop (ua (ud D))
def POk (D last : List Int) : Prop := ue D = 0 ∧ ua D ≤ last.length ∧ ue (ud D) = 0 ∧ ue (ud (ud D)) = 0 ∧ ua (ud D) ≤ (ud (ud (ud D))).length ∧ (dec (pkey D last)).2.2.2 = 0 ∧ ua (ud (ud D)) ≤ (prest D).length
instance (D last : List Int) : Decidable (POk D last) := by unfold POk; infer_instance
def pent (D last : List Int) : S47 := ⟨⟨(dec (pkey D last)).1, (dec (pkey D last)).2.1, (dec (pkey D last)).2.2.1⟩, strOfNums ((prest D).take (ua (ud (ud D))))⟩
def pr : Nat → List Int → List Int → List S47 → Option (List S47)
  | 0, _, _, _ => none
  | f + 1, D, last, acc => if D.length = 0 then some acc else if POk D last then pr f ((prest D).drop (ua (ud (ud D)))) (pkey D last) (acc ++ [pent D last]) else none
/-! ### block.read -/
def mk4 (b : List Int) : Nat := fxd (b.drop (b.length - 4))
def rg (b : List Int) : Option (List S47 × Int) := if b.length < 5 then none else if mk4 b ≤ (b.length - 5) / 4 then (pr (b.length + 1) (b.take (b.length - 5 - 4 * mk4 b)) [] []).map (fun l => (l, rd b ((b.length : Int) - 5))) else none
def og (b : List Int) : Option (List S47 × Int) := match rg b with
  | none => none
  | some x => if (blt x.1 x.2).2 = 0 then (if (strOfNums (blt x.1 x.2).1).toList = (strOfNums b).toList then some x else none) else none
end Go.Proofs.Ythdemdjobgbpdaa.Q
namespace Go.Proofs.Ythdemdjobgbpdaa.M
open Go.RowKit Go.Proofs.YthdemdjobgbpdaaW.PrintWords Go.Proofs.YthdemdjobgbpdaaW.PrintLast Go.Proofs.YthdemdjobgbpdaaW.PrintMore

/-! ### The step on bit vectors -/
def cP : BitVec 32 := 0x82F63B78#32
def cS (n : BitVec 32) : BitVec 32 := (n >>> 1) ^^^ (if n.getLsbD 0 then cP else 0#32)
def cSn : Nat → BitVec 32 → BitVec 32
  | 0, n => n
  | k + 1, n => cSn k (cS n)
theorem ite_xor (a b : Bool) (p : BitVec 32) : (if (a ^^ b) = true then p else 0#32) = (if a = true then p else 0#32) ^^^ (if b = true then p else 0#32) := by
  cases a <;> cases b <;> simp
theorem shr_xor (a b : BitVec 32) (k : Nat) : (a ^^^ b) >>> k = (a >>> k) ^^^ (b >>> k) := by
  apply BitVec.eq_of_getLsbD_eq
  intro i hi
  simp
theorem cS_xor (a b : BitVec 32) : cS (a ^^^ b) = cS a ^^^ cS b := by
  unfold cS
  rw [shr_xor, BitVec.getLsbD_xor, ite_xor]
  ac_rfl
theorem cSn_xor : ∀ (k : Nat) (a b : BitVec 32), cSn k (a ^^^ b) = cSn k a ^^^ cSn k b
  | 0, _, _ => rfl
  | k + 1, a, b => by simp only [cSn]; rw [cS_xor, cSn_xor]
theorem cS_even (a : BitVec 32) (h : a.getLsbD 0 = false) : cS a = a >>> 1 := by
  unfold cS
  rw [h]
  simp
theorem cSn_high : ∀ (k : Nat) (a : BitVec 32), (∀ i, i < k → a.getLsbD i = false) → cSn k a = a >>> k
  | 0, a, _ => by simp [cSn]
  | k + 1, a, h => by
    simp only [cSn]
    rw [cS_even a (h 0 (by omega)), cSn_high k (a >>> 1) (fun i hi => by rw [BitVec.getLsbD_ushiftRight]; exact h _ (by omega)), ← BitVec.shiftRight_add]
    rw [Nat.add_comm]
theorem cS_top (a : BitVec 32) : (cS a).getLsbD 31 = a.getLsbD 0 := by
  unfold cS
  rw [BitVec.getLsbD_xor, BitVec.getLsbD_ushiftRight]
  cases h : a.getLsbD 0 <;> simp [cP] <;> decide
theorem cS_inj (a b : BitVec 32) (h : cS a = cS b) : a = b := by
  have h0 : a.getLsbD 0 = b.getLsbD 0 := by rw [← cS_top, ← cS_top, h]
  unfold cS at h
  rw [h0] at h
  have h1 : a >>> 1 = b >>> 1 := by
    have := congrArg (· ^^^ (if b.getLsbD 0 = true then cP else 0#32)) h
    simpa [BitVec.xor_assoc] using this
  apply BitVec.eq_of_getLsbD_eq
  intro i hi
  rcases Nat.eq_zero_or_pos i with e | e
  · subst e; exact h0
  · have := congrArg (fun x => BitVec.getLsbD x (i - 1)) h1
    simp only [BitVec.getLsbD_ushiftRight] at this
    rwa [show 1 + (i - 1) = i by omega] at this
theorem cSn_inj : ∀ (k : Nat) (a b : BitVec 32), cSn k a = cSn k b → a = b
  | 0, _, _, h => h
  | k + 1, a, b, h => cS_inj a b (cSn_inj k _ _ h)

/-! ### One byte; a list of bytes -/
def cB (s c : BitVec 32) : BitVec 32 := cSn 8 (s ^^^ c)
theorem low_high (a : BitVec 32) : a = (a &&& 0xFF#32) ^^^ (a &&& 0xFFFFFF00#32) := by
  apply BitVec.eq_of_getLsbD_eq
  intro i hi
  have h : ∀ i : Fin 32, (0xFFFFFF00#32).getLsbD i.val = !(0xFF#32).getLsbD i.val := by decide
  have := h ⟨i, hi⟩
  simp only [BitVec.getLsbD_xor, BitVec.getLsbD_and] at *
  rw [this]
  cases a.getLsbD i <;> cases (0xFF#32).getLsbD i <;> rfl
theorem high_low8 (a : BitVec 32) : ∀ i, i < 8 → (a &&& 0xFFFFFF00#32).getLsbD i = false := by
  intro i hi
  have h : ∀ i : Fin 8, (0xFFFFFF00#32).getLsbD i.val = false := by decide
  rw [BitVec.getLsbD_and, h ⟨i, hi⟩, Bool.and_false]
theorem low_shr8 (a : BitVec 32) : (a &&& 0xFF#32) >>> 8 = 0#32 := by
  apply BitVec.eq_of_getLsbD_eq
  intro i hi
  rw [BitVec.getLsbD_ushiftRight, BitVec.getLsbD_and]
  by_cases hlt : 8 + i < 32
  · have h : ∀ i : Fin 24, (0xFF#32).getLsbD (8 + i.val) = false := by decide
    rw [h ⟨i, by omega⟩]
    simp
  · rw [BitVec.getLsbD_of_ge _ _ (by omega)]
    simp
/-- The table's way: the entry of the lowest byte, and the others moved down. -/
theorem cSn8_table (a : BitVec 32) : cSn 8 a = (a >>> 8) ^^^ cSn 8 (a &&& 0xFF#32) := by
  have h1 : cSn 8 a = cSn 8 (a &&& 0xFF#32) ^^^ cSn 8 (a &&& 0xFFFFFF00#32) := by
    rw [← cSn_xor, ← low_high]
  rw [h1, cSn_high 8 _ (high_low8 a), BitVec.xor_comm]
  congr 1
  have h2 := congrArg (fun x : BitVec 32 => x >>> 8) (low_high a)
  simp only [shr_xor, low_shr8, BitVec.zero_xor] at h2
  exact h2.symm
theorem cB_inj (a b c : BitVec 32) (h : cB a c = cB b c) : a = b := by
  have := cSn_inj 8 _ _ h
  have h2 := congrArg (· ^^^ c) this
  simpa [BitVec.xor_assoc] using h2
theorem cB_inj2 (a c d : BitVec 32) (h : cB a c = cB a d) : c = d := by
  have := cSn_inj 8 _ _ h
  have h2 := congrArg (a ^^^ ·) this
  simpa [← BitVec.xor_assoc] using h2
def bv (c : Int) : BitVec 32 := BitVec.ofInt 32 c
def cF (s : BitVec 32) (l : List Int) : BitVec 32 := l.foldl (fun s c => cB s (bv c)) s
theorem cF_cons (s : BitVec 32) (c : Int) (l : List Int) : cF s (c :: l) = cF (cB s (bv c)) l := rfl
theorem cF_append (s : BitVec 32) (l r : List Int) : cF s (l ++ r) = cF (cF s l) r := List.foldl_append ..
theorem cF_inj : ∀ (l : List Int) (a b : BitVec 32), cF a l = cF b l → a = b
  | [], _, _, h => h
  | _ :: l, a, b, h => cB_inj a b _ (cF_inj l _ _ h)
/-- THE SUM -/
def crc (l : List Int) : Int := ((~~~ (cF (BitVec.allOnes 32) l)).toNat : Int)
theorem crc_range (l : List Int) : 0 ≤ crc l ∧ crc l < 4294967296 := by
  unfold crc
  have := (~~~ (cF (BitVec.allOnes 32) l)).isLt
  omega
theorem crc_congr {l r : List Int} (h : crc l = crc r) : cF (BitVec.allOnes 32) l = cF (BitVec.allOnes 32) r := by
  unfold crc at h
  have h1 : (~~~ (cF (BitVec.allOnes 32) l)) = (~~~ (cF (BitVec.allOnes 32) r)) := BitVec.eq_of_toNat_eq (by omega)
  have h2 := congrArg (fun x : BitVec 32 => ~~~ x) h1
  simpa using h2
theorem bv_inj {c d : Int} (h0 : 0 ≤ c) (h1 : c < 256) (k0 : 0 ≤ d) (k1 : d < 256) (h : bv c = bv d) : c = d := by
  unfold bv at h
  have := congrArg BitVec.toNat h
  simp only [BitVec.toNat_ofInt] at this
  omega
/-- One byte that is another one turns the sum. -/
theorem crc_turn (l r : List Int) (c d : Int) (h0 : 0 ≤ c) (h1 : c < 256) (k0 : 0 ≤ d) (k1 : d < 256) (hne : c ≠ d) : crc (l ++ c :: r) ≠ crc (l ++ d :: r) := by
  intro h
  have h2 := crc_congr h
  rw [cF_append, cF_append, cF_cons, cF_cons] at h2
  exact hne (bv_inj h0 h1 k0 k1 (cB_inj2 _ _ _ (cF_inj _ _ _ h2)))

/-! ### Whole numbers -/
theorem bits_xor32 (x y : Int) : Go.bits .xor .u32 x y = ((bv x ^^^ bv y).toNat : Int) := by
  have h := (bv x ^^^ bv y).isLt
  show IntKind.u32.wrap ((bv x ^^^ bv y).toNat : Int) = _
  rw [IntKind.wrap_u32']
  omega
theorem bv_toNat (b : BitVec 32) : bv (b.toNat : Int) = b := by
  unfold bv
  rw [BitVec.ofInt_natCast]
  simp
theorem bv_div (b : BitVec 32) (k : Nat) : bv ((b.toNat : Int) / ((2 ^ k : Nat) : Int)) = b >>> k := by
  rw [← Int.natCast_ediv]
  apply BitVec.eq_of_toNat_eq
  unfold bv
  rw [BitVec.ofInt_natCast, BitVec.toNat_ofNat, BitVec.toNat_ushiftRight, Nat.shiftRight_eq_div_pow]
  have h : b.toNat / 2 ^ k ≤ b.toNat := Nat.div_le_self _ _
  exact Nat.mod_eq_of_lt (Nat.lt_of_le_of_lt h b.isLt)
theorem and_one (b : BitVec 32) : Go.bits .and .u32 (b.toNat : Int) 1 = 1 ↔ b.getLsbD 0 = true := by
  have h : Go.bits .and .u32 (b.toNat : Int) 1 = ((b.toNat &&& 1 : Nat) : Int) := by
    exact u32_and_nat b.toNat 1 b.isLt (by decide)
  rw [h, Nat.and_one_is_mod]
  have : b.getLsbD 0 = b.toNat.testBit 0 := rfl
  rw [this, Nat.testBit_zero]
  simp
  omega
end Go.Proofs.Ythdemdjobgbpdaa.M
namespace Go.Proofs.Ythdemdjobgbpdaa.Q
open Go.RowKit Go.Proofs.YthdemdjobgbpdaaW.PrintWords Go.Proofs.YthdemdjobgbpdaaW.PrintLast Go.Proofs.YthdemdjobgbpdaaW.PrintMore Go.Proofs.Ythdemdjobgbpdaa.P Go.Proofs.Ythdemdjobgbpdaa.M

/-! ### The program's sum -/
theorem step_bv (b : BitVec 32) : crcStep (b.toNat : Int) = ((cS b).toNat : Int) := by
  unfold crcStep cS
  have hd : bv ((b.toNat : Int) / 2) = b >>> 1 := bv_div b 1
  by_cases h : b.getLsbD 0 = true
  · rw [if_pos ((and_one b).mpr h), if_pos h, bits_xor32, hd]
    rfl
  · rw [if_neg (fun k => h ((and_one b).mp k)), if_neg h, BitVec.xor_zero, ← hd]
    unfold bv
    rw [BitVec.toNat_ofInt]
    have := b.isLt
    omega
theorem steps_bv : ∀ (k : Nat) (b : BitVec 32), crcSteps k (b.toNat : Int) = ((cSn k b).toNat : Int)
  | 0, b => by unfold crcSteps; rfl
  | k + 1, b => by
    unfold crcSteps
    rw [step_bv, steps_bv k]
    rfl
theorem entry_bv (i : Nat) (h : i < 256) : crcEntry i = ((cSn 8 (BitVec.ofNat 32 i)).toNat : Int) := by
  rw [crcEntry_eq]
  have := steps_bv 8 (BitVec.ofNat 32 i)
  rwa [BitVec.toNat_ofNat, Nat.mod_eq_of_lt (by omega)] at this
theorem byte_bv (b : BitVec 32) (c : Int) (h0 : 0 ≤ c) (h1 : c < 256) : crcByte (b.toNat : Int) c = ((cB b (bv c)).toNat : Int) := by
  unfold crcByte
  obtain ⟨n, rfl⟩ := Int.eq_ofNat_of_zero_le h0
  have hn : n < 256 := by omega
  have hx : Go.bits .xor .u8 ((b.toNat : Int) % 256) (n : Int) = ((b.toNat % 256 ^^^ n : Nat) : Int) := by
    have := u8_xor_nat (b.toNat % 256) n (Nat.mod_lt _ (by decide)) hn
    simpa using this
  have hlt : b.toNat % 256 ^^^ n < 256 := Nat.xor_lt_two_pow (n := 8) (Nat.mod_lt _ (by decide)) hn
  rw [hx, Int.toNat_natCast, entry_bv _ hlt, bits_xor32, bv_toNat, show ((b.toNat : Int) / 256) = (b.toNat : Int) / ((2 ^ 8 : Nat) : Int) from rfl, bv_div]
  unfold cB
  rw [cSn8_table (b ^^^ bv n)]
  have hb : bv (n : Int) = BitVec.ofNat 32 n := by unfold bv; rw [BitVec.ofInt_natCast]
  have e1 : (b ^^^ bv (n : Int)) >>> 8 = b >>> 8 := by
    rw [shr_xor, hb]
    have : (BitVec.ofNat 32 n) >>> 8 = 0#32 := by
      apply BitVec.eq_of_toNat_eq
      rw [BitVec.toNat_ushiftRight, BitVec.toNat_ofNat, Nat.shiftRight_eq_div_pow, Nat.mod_eq_of_lt (by omega)]
      exact Nat.div_eq_of_lt hn
    rw [this, BitVec.xor_zero]
  have e2 : (b ^^^ bv (n : Int)) &&& 0xFF#32 = BitVec.ofNat 32 (b.toNat % 256 ^^^ n) := by
    apply BitVec.eq_of_toNat_eq
    rw [hb, BitVec.toNat_and, BitVec.toNat_xor, BitVec.toNat_ofNat, BitVec.toNat_ofNat, BitVec.toNat_ofNat, Nat.mod_eq_of_lt (show n < 2 ^ 32 by omega), Nat.mod_eq_of_lt (show 255 < 2 ^ 32 by decide), Nat.mod_eq_of_lt (show _ < 2 ^ 32 by omega)]
    rw [show (255 : Nat) = 2 ^ 8 - 1 from rfl, Nat.and_two_pow_sub_one_eq_mod, Nat.xor_mod_two_pow, Nat.mod_eq_of_lt (show n < 2 ^ 8 from hn)]
  rw [e1, e2]
theorem fold_bv : ∀ (l : List Int) (b : BitVec 32), (∀ x ∈ l, 0 ≤ x ∧ x < 256) → l.foldl crcByte (b.toNat : Int) = ((cF b l).toNat : Int)
  | [], _, _ => rfl
  | c :: l, b, h => by
    have hc := h c (List.mem_cons_self ..)
    rw [List.foldl_cons, byte_bv b c hc.1 hc.2, fold_bv l _ (fun x hx => h x (List.mem_cons_of_mem _ hx))]
    rfl
theorem Crc_eq (l : List Int) (h : ∀ x ∈ l, 0 ≤ x ∧ x < 256) : codec_Crc.f l = some (crc l) := by
  unfold codec_Crc.f crc
  have h1 : (4294967295 : Int) = ((BitVec.allOnes 32).toNat : Int) := by decide
  rw [h1, fold_bv l _ h, bits_xor32, bv_toNat, bv_toNat, BitVec.allOnes_xor]

/-! ### The document's sum -/
theorem or_add32 (x y : Int) (i : Nat) (hx0 : 0 ≤ x) (hx : x % 2 ^ i = 0) (hx1 : x < 4294967296) (hy0 : 0 ≤ y) (hy : y < 2 ^ i) (hy1 : y < 4294967296) : Go.bits .or .u32 x y = x + y := by
  refine bits_join .u32 32 (by decide) (fun n h0 h1 => ?_) i x y hx0 hx hx1 hy0 hy hy1
  rw [IntKind.wrap_u32']
  omega
theorem or_comm32 (x y : Int) : Go.bits .or .u32 x y = Go.bits .or .u32 y x := by
  unfold Go.bits
  simp only [BitVec.or_comm]
def mask (n : Int) : Int := (n / 32768 + n % 32768 * 131072 + 2726488792) % 4294967296
def unmask (n : Int) : Int := (((n - 2726488792) % 4294967296) / 131072) + (((n - 2726488792) % 4294967296) % 131072) * 32768
theorem Mask_eq (n : Int) (_h0 : 0 ≤ n) (_h1 : n < 4294967296) : codec_Mask.f n = some (mask n) := by
  unfold codec_Mask.f mask
  rw [or_comm32, or_add32 _ _ 17 (by omega) (by omega) (by omega) (by omega) (by omega) (by omega)]
  congr 1
  omega
theorem mask_range (n : Int) : 0 ≤ mask n ∧ mask n < 4294967296 := by unfold mask; omega
theorem unmask_mask (n : Int) (h0 : 0 ≤ n) (h1 : n < 4294967296) : unmask (mask n) = n := by
  have ht : (mask n - 2726488792) % 4294967296 = n / 32768 + n % 32768 * 131072 := by
    have h2 : 0 ≤ n / 32768 + n % 32768 * 131072 ∧ n / 32768 + n % 32768 * 131072 < 4294967296 := by omega
    unfold mask
    generalize n / 32768 + n % 32768 * 131072 = t at *
    omega
  unfold unmask
  rw [ht]
  have e1 : (n / 32768 + n % 32768 * 131072) / 131072 = n % 32768 := by omega
  have e2 : (n / 32768 + n % 32768 * 131072) % 131072 = n / 32768 := by omega
  rw [e1, e2]
  omega
theorem mask_inj {n m : Int} (h0 : 0 ≤ n) (h1 : n < 4294967296) (k0 : 0 ≤ m) (k1 : m < 4294967296) (h : mask n = mask m) : n = m := by
  rw [← unmask_mask n h0 h1, ← unmask_mask m k0 k1, h]
end Go.Proofs.Ythdemdjobgbpdaa.Q
