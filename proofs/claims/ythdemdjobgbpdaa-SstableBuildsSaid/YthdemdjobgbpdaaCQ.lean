/- Numbers as bytes in plain Lean: sevens of bits, fixed bytes, texts; what is laid is read. No program here. Texts between two, behind one; the order of bytes: plain Lean, no program here. Bits, and slices.Clone of bytes: what the printed functions of layers 1 and 2 share. What the printed PutFixed and Fixed come to: MNum's words. What the printed codec functions come to: MNum's words. What ikey.Check, Encode, Decode, Compare, and the reference's, come to. Keys there and back, and their order's laws, over what QIkey says. What block.Build, the document's Build and Same come to. What is laid is read, and found: plain Lean over what QA says and over what is read (BR, BO, BF). Any bytes, read: what read, Open and the document's Read come to. Plain Lean. The check sum in plain Lean: CRC-32C as a fold over bit vectors, what the table's entries are, that a turned bit turns the sum, that the document's bit-by-bit sum in the other order is the same. No program here. The program's check sum and its mask are the fold of MCrc. -/
import Derived.Test.YthdemdjobgbpdaaWMore
import Derived.Laws.BitsAllLaws
import Derived.Lib.Bytealg
import Derived.Lib.Strings
import Derived.Lib.SmallJoins
import Derived.Laws.Strings
import Derived.WideShapes
import Derived.Test.YthdemdjobgbpdaaP3
import Derived.Test.YthdemdjobgbpdaaP4
import Derived.Test.YthdemdjobgbpdaaP2
import Derived.Test.YthdemdjobgbpdaaP11
import Derived.Test.YthdemdjobgbpdaaP6
import Derived.Test.YthdemdjobgbpdaaP7
import Derived.Test.YthdemdjobgbpdaaP13
import Derived.Test.YthdemdjobgbpdaaP5
import Derived.Test.YthdemdjobgbpdaaP8
import Derived.Test.YthdemdjobgbpdaaCA
import Derived.Test.YthdemdjobgbpdaaP10
import Derived.Test.YthdemdjobgbpdaaP9
set_option linter.unusedVariables false
set_option linter.unusedSimpArgs false
namespace Go.Proofs.Ythdemdjobgbpdaa.M
open Go.RowKit Go.Proofs.YthdemdjobgbpdaaW.PrintWords Go.Proofs.YthdemdjobgbpdaaW.PrintLast Go.Proofs.YthdemdjobgbpdaaW.PrintMore

theorem Ev.ifT {α : Type} {c : Prop} [Decidable c] {A B : Nat → Option α} {r : α} (hc : c) (h : Ev A r) : Ev (fun n => if c then A n else B n) r := by
  simp only [if_pos hc]
  exact h
theorem Ev.ifF {α : Type} {c : Prop} [Decidable c] {A B : Nat → Option α} {r : α} (hc : ¬ c) (h : Ev B r) : Ev (fun n => if c then A n else B n) r := by
  simp only [if_neg hc]
  exact h
def IsB (l : List Int) : Prop := ∀ x ∈ l, 0 ≤ x ∧ x < 256
theorem IsB.nil : IsB [] := fun _ h => by cases h
theorem IsB.cons {c : Int} {l : List Int} (h0 : 0 ≤ c) (h1 : c < 256) (h : IsB l) : IsB (c :: l) := fun x hx => by
  rcases List.mem_cons.1 hx with e | e
  · subst e; exact ⟨h0, h1⟩
  · exact h x e
theorem IsB.append {l r : List Int} (h : IsB l) (k : IsB r) : IsB (l ++ r) := fun x hx => (List.mem_append.1 hx).elim (h x) (k x)
theorem IsB.left {l r : List Int} (h : IsB (l ++ r)) : IsB l := fun x hx => h x (List.mem_append_left _ hx)
theorem IsB.right {l r : List Int} (h : IsB (l ++ r)) : IsB r := fun x hx => h x (List.mem_append_right _ hx)
theorem IsB.head {c : Int} {l : List Int} (h : IsB (c :: l)) : 0 ≤ c ∧ c < 256 := h c (List.mem_cons_self ..)
theorem IsB.tail {c : Int} {l : List Int} (h : IsB (c :: l)) : IsB l := fun x hx => h x (List.mem_cons_of_mem _ hx)
theorem IsB.take {l : List Int} (h : IsB l) (n : Nat) : IsB (l.take n) := fun x hx => h x (List.mem_of_mem_take hx)
theorem IsB.drop {l : List Int} (h : IsB l) (n : Nat) : IsB (l.drop n) := fun x hx => h x (List.mem_of_mem_drop hx)
theorem IsB.bytesOf (s : ByteArray) : IsB (bytesOf s) := fun x hx => by
  unfold Go.Proofs.YthdemdjobgbpdaaW.PrintWords.bytesOf at hx
  obtain ⟨b, _, rfl⟩ := List.mem_map.1 hx
  have := b.toNat_lt
  omega
theorem wf_u64 {n : Int} (h : (Lit.int .u64 n).wf = true) : 0 ≤ n ∧ n < 18446744073709551616 := by
  simp [Lit.wf, IntKind.min, IntKind.max, IntKind.signed, IntKind.bits] at h
  omega
theorem w64 {n : Int} (h0 : -9223372036854775808 ≤ n) (h1 : n < 9223372036854775808) : wrap64 n = n := by unfold wrap64; omega
theorem wrapU64 (n : Int) : IntKind.u64.wrap n = n % 18446744073709551616 := by simp [IntKind.wrap, IntKind.bits, IntKind.signed]
theorem wU64 {n : Int} (h0 : 0 ≤ n) (h1 : n < 18446744073709551616) : IntKind.u64.wrap n = n := by rw [wrapU64]; omega

/-! ### Sevens of bits -/
def uv (n : Nat) : List Int := if n < 128 then [(n : Int)] else ((n % 128 + 128 : Nat) : Int) :: uv (n / 128)
termination_by n
decreasing_by omega
theorem uv_small {n : Nat} (h : n < 128) : uv n = [(n : Int)] := by rw [uv, if_pos h]
theorem uv_big {n : Nat} (h : ¬ n < 128) : uv n = ((n % 128 + 128 : Nat) : Int) :: uv (n / 128) := by rw [uv, if_neg h]
theorem uv_IsB (n : Nat) : IsB (uv n) := by
  induction n using Nat.strongRecOn with
  | _ n ih =>
    by_cases h : n < 128
    · rw [uv_small h]; exact IsB.cons (by omega) (by omega) IsB.nil
    · rw [uv_big h]; exact IsB.cons (by omega) (by omega) (ih _ (by omega))
/-- How many sevens. -/
theorem uv_len_le : ∀ (d n : Nat), n < 2 ^ (7 * (d + 1)) → (uv n).length ≤ d + 1
  | 0, n, h => by rw [uv_small (by simpa using h)]; simp
  | d + 1, n, h => by
    by_cases hs : n < 128
    · rw [uv_small hs]; simp
    · rw [uv_big hs, List.length_cons]
      have : n / 128 < 2 ^ (7 * (d + 1)) := by
        rw [Nat.div_lt_iff_lt_mul (by decide)]
        refine Nat.lt_of_lt_of_le h ?_
        exact Nat.le_of_eq (by rw [show 7 * (d + 1 + 1) = 7 * (d + 1) + 7 by omega, Nat.pow_add])
      have := uv_len_le d _ this
      omega
theorem uv_len64 {n : Nat} (h : n < 18446744073709551616) : (uv n).length ≤ 10 := uv_len_le 9 n (Nat.lt_of_lt_of_le h (by decide))
/-- What bytes tell: the number, how many they were, and the error (0, 10, 11). -/
def uvd : List Int → Nat → Nat → Nat × Nat × Nat
  | [], _, _ => (0, 0, 10)
  | c :: r, i, acc => if i = 9 ∧ 1 < c then (0, 0, 11) else if c < 128 then (acc + (c % 128).toNat * 2 ^ (7 * i), i + 1, 0) else uvd r (i + 1) (acc + (c % 128).toNat * 2 ^ (7 * i))
/-! ### Fixed bytes -/
def fx : Nat → Nat → List Int
  | 0, _ => []
  | s + 1, n => ((n % 256 : Nat) : Int) :: fx s (n / 256)
theorem fx_length : ∀ (s n : Nat), (fx s n).length = s
  | 0, _ => rfl
  | s + 1, n => by rw [fx, List.length_cons, fx_length]
theorem fx_IsB : ∀ (s n : Nat), IsB (fx s n)
  | 0, _ => IsB.nil
  | s + 1, n => by rw [fx]; exact IsB.cons (by omega) (by omega) (fx_IsB s _)
/-- The number of bytes, the lowest first. -/
def fxd : List Int → Nat
  | [] => 0
  | c :: r => c.toNat + 256 * fxd r
theorem fx_succ (s n : Nat) : fx (s + 1) n = ((n % 256 : Nat) : Int) :: fx s (n / 256) := by rw [fx]
/-! ### Texts -/
def tx (b : List Int) : List Int := uv b.length ++ b
end Go.Proofs.Ythdemdjobgbpdaa.M
namespace Go.Proofs.Ythdemdjobgbpdaa.M
open Go.RowKit Go.Proofs.YthdemdjobgbpdaaW.PrintWords Go.Proofs.YthdemdjobgbpdaaW.PrintLast Go.Proofs.YthdemdjobgbpdaaW.PrintMore

theorem ba_ext {a b : ByteArray} (h : a.data.toList = b.data.toList) : a = b := by
  obtain ⟨⟨a⟩⟩ := a
  obtain ⟨⟨b⟩⟩ := b
  cases h
  rfl
def S (l : List UInt8) : ByteArray := ⟨l.toArray⟩
/-- A short text that is not less than one, and less than another one. -/
def btw : List UInt8 → List UInt8 → List UInt8
  | a :: as1, b :: bs => if a = b then a :: btw as1 bs else if a.toNat + 1 < b.toNat then [UInt8.ofNat (a.toNat + 1)] else a :: as1
  | as1, _ => as1
/-- A short text behind one. -/
def beh : List UInt8 → List UInt8
  | [] => []
  | a :: as1 => if a.toNat = 255 then a :: beh as1 else [UInt8.ofNat (a.toNat + 1)]

theorem u8_lt (a b : UInt8) : a < b ↔ a.toNat < b.toNat := UInt8.lt_iff_toNat_lt
/-! ### The order of bytes -/
theorem bl_nil (a : List UInt8) : Op.bytesLess a [] = false := by cases a <;> rfl
theorem bl_cons (a b : UInt8) (x y : List UInt8) : Op.bytesLess (a :: x) (b :: y) = true ↔ a < b ∨ (a = b ∧ Op.bytesLess x y = true) := by
  simp [Op.bytesLess]
theorem cmp_spec : ∀ a b : List UInt8, (Lib.compareBytes a b = -1 ∧ Op.bytesLess a b = true ∧ Op.bytesLess b a = false ∧ a ≠ b) ∨ (Lib.compareBytes a b = 1 ∧ Op.bytesLess a b = false ∧ Op.bytesLess b a = true ∧ a ≠ b) ∨ (Lib.compareBytes a b = 0 ∧ Op.bytesLess a b = false ∧ Op.bytesLess b a = false ∧ a = b)
  | [], [] => .inr (.inr ⟨rfl, rfl, rfl, rfl⟩)
  | [], _ :: _ => .inl ⟨rfl, rfl, rfl, by simp⟩
  | _ :: _, [] => .inr (.inl ⟨rfl, rfl, rfl, by simp⟩)
  | a :: as1, b :: bs => by
    have ih := cmp_spec as1 bs
    unfold Lib.compareBytes
    by_cases h1 : a < b
    · rw [if_pos h1]
      have h2 : ¬ b < a := fun h => by rw [u8_lt] at h h1; omega
      have h3 : a ≠ b := fun e => by subst e; rw [u8_lt] at h1; omega
      have h4 : b ≠ a := fun e => h3 e.symm
      exact .inl ⟨rfl, by simp [Op.bytesLess, h1], by simp [Op.bytesLess, h2, h4], by simp [h3]⟩
    · rw [if_neg h1]
      by_cases h2 : b < a
      · rw [if_pos h2]
        have h3 : a ≠ b := fun e => by subst e; rw [u8_lt] at h2; omega
        exact .inr (.inl ⟨rfl, by simp [Op.bytesLess, h1, h3], by simp [Op.bytesLess, h2], by simp [h3]⟩)
      · rw [if_neg h2]
        have h3 : a = b := UInt8.toNat_inj.1 (by rw [u8_lt] at h1 h2; omega)
        subst h3
        simpa [Op.bytesLess, h1] using ih
theorem cmp_zero (a b : List UInt8) : Lib.compareBytes a b = 0 ↔ a = b := by
  rcases cmp_spec a b with ⟨e, h1, h2, h3⟩ | ⟨e, h1, h2, h3⟩ | ⟨e, h1, h2, h3⟩ <;> rw [e] <;> simp [h3]
theorem bl_trans : ∀ a b c : List UInt8, Op.bytesLess a b = true → Op.bytesLess b c = true → Op.bytesLess a c = true
  | a, [], c, h, _ => by rw [bl_nil] at h; cases h
  | a, b, [], _, k => by rw [bl_nil] at k; cases k
  | [], b :: bs, c :: cs, _, _ => rfl
  | a :: as1, b :: bs, c :: cs, h, k => by
    rw [bl_cons] at h k ⊢
    rcases h with h | ⟨rfl, h⟩
    · rcases k with k | ⟨rfl, _⟩
      · exact .inl (by rw [u8_lt] at h k ⊢; omega)
      · exact .inl h
    · rcases k with k | ⟨rfl, k⟩
      · exact .inl k
      · exact .inr ⟨rfl, bl_trans _ _ _ h k⟩
/-! ### Short texts -/
end Go.Proofs.Ythdemdjobgbpdaa.M
namespace Go.Proofs.Ythdemdjobgbpdaa.Q
open Go.RowKit Go.Proofs.YthdemdjobgbpdaaW.PrintWords Go.Proofs.YthdemdjobgbpdaaW.PrintLast Go.Proofs.YthdemdjobgbpdaaW.PrintMore Go.Proofs.Ythdemdjobgbpdaa.P Go.Proofs.Ythdemdjobgbpdaa.M
theorem or128 (n : Nat) : Go.bits .or .u8 ((n : Int) % 256) 128 = ((n % 128 + 128 : Nat) : Int) := by
  have h : Go.bits .or .u8 ((n % 256 : Nat) : Int) ((128 : Nat) : Int) = ((n % 256 ||| 128 : Nat) : Int) := u8_or_nat (n % 256) 128 (Nat.mod_lt _ (by decide)) (by decide)
  have h2 : n % 256 ||| 128 = n % 128 + 128 := by
    have : ∀ i : Fin 256, i.val ||| 128 = i.val % 128 + 128 := by decide +kernel
    have := this ⟨n % 256, Nat.mod_lt _ (by decide)⟩
    simp only at this
    rw [this]
    omega
  rw [h2] at h
  rw [← h]
  congr 1
theorem Clone_eq {l : List Int} (h : l.length < 140737488355328) : slices_Clone_byte_byte.f l = some l := by
  unfold slices_Clone_byte_byte.f
  rw [if_pos h]
theorem or_add64 (x y : Int) (i : Nat) (hx0 : 0 ≤ x) (hx : x % 2 ^ i = 0) (hx1 : x < 18446744073709551616) (hy0 : 0 ≤ y) (hy : y < 2 ^ i) (hy1 : y < 18446744073709551616) : Go.bits .or .u64 x y = x + y := by
  refine bits_join .u64 64 (by decide) (fun n h0 h1 => ?_) i x y hx0 hx hx1 hy0 hy hy1
  rw [wrapU64]
  omega
theorem or_comm64 (x y : Int) : Go.bits .or .u64 x y = Go.bits .or .u64 y x := by
  unfold Go.bits
  simp only [BitVec.or_comm]
theorem shl64 (m : Nat) (y : Nat) (hy : y ≤ 64) (h : m * 2 ^ y < 18446744073709551616) : shl .u64 (m : Int) (y : Int) = ((m * 2 ^ y : Nat) : Int) := by
  unfold shl
  have e : (m : Int) * 2 ^ y = ((m * 2 ^ y : Nat) : Int) := by rw [Int.natCast_mul, Int.natCast_pow]; rfl
  rw [Int.toNat_natCast, Nat.min_eq_left (show y ≤ IntKind.u64.bits from hy), e, wU64 (by omega) (by omega)]
theorem join7 (acc m i : Nat) (ha : acc < 2 ^ i) (hm : m * 2 ^ i < 18446744073709551616) (hi : i ≤ 63) : Go.bits .or .u64 (acc : Int) ((m * 2 ^ i : Nat) : Int) = ((acc + m * 2 ^ i : Nat) : Int) := by
  have hp : 2 ^ i ≤ 2 ^ 63 := Nat.pow_le_pow_right (by decide) hi
  rw [or_comm64, or_add64 _ _ i (by omega) ?_ (by omega) (by omega) ?_ (by omega)]
  · omega
  · have : (m * 2 ^ i) % 2 ^ i = 0 := Nat.mul_mod_left _ _
    exact_mod_cast this
  · exact_mod_cast ha
end Go.Proofs.Ythdemdjobgbpdaa.Q
namespace Go.Proofs.Ythdemdjobgbpdaa.Q
open Go.RowKit Go.Proofs.YthdemdjobgbpdaaW.PrintWords Go.Proofs.YthdemdjobgbpdaaW.PrintLast Go.Proofs.YthdemdjobgbpdaaW.PrintMore Go.Proofs.Ythdemdjobgbpdaa.P Go.Proofs.Ythdemdjobgbpdaa.M

theorem shr64 (n i : Nat) (hi : i < 8) : (shr .u64 (n : Int) (((8 * i : Nat) : Int))) % 256 = ((n / 256 ^ i % 256 : Nat) : Int) := by
  unfold shr
  rw [Int.toNat_natCast, Nat.min_eq_left (show 8 * i ≤ IntKind.u64.bits from (show 8 * i ≤ 64 by omega))]
  have e : (2 : Int) ^ (8 * i) = ((256 ^ i : Nat) : Int) := by
    rw [show (256 : Nat) = 2 ^ 8 from rfl, ← Nat.pow_mul]
    simp
  rw [e]
  omega
theorem PutFixed_l0 (n : Nat) (s : Nat) (hs : s ≤ 8) : ∀ (d i : Nat) (acc : List Int), i + d = s → acc.length + d ≤ 140737488355328 → Ev (fun k => codec_PutFixed.l0 k (n : Int) (s : Int) acc (i : Int)) (acc ++ fx d (n / 256 ^ i))
  | 0, i, acc, hi, _ => by
    refine Ev.step (f := fun _ => some (acc ++ fx 0 (n / 256 ^ i))) (fun k => ?_) (Ev.now _)
    simp only [codec_PutFixed.l0]
    rw [if_neg (by omega), fx, List.append_nil]
  | d + 1, i, acc, hi, hl => by
    have ih := PutFixed_l0 n s hs d (i + 1) (acc ++ [((n / 256 ^ i % 256 : Nat) : Int)]) (by omega) (by simp; omega)
    rw [List.append_assoc, Nat.pow_succ, ← Nat.div_div_eq_div_mul] at ih
    refine Ev.step (fun k => ?_) ih
    simp only [codec_PutFixed.l0]
    have e8 : wrap64 (8 * (i : Int)) = ((8 * i : Nat) : Int) := by rw [w64 (by omega) (by omega)]; omega
    have e1 : wrap64 ((i : Int) + 1) = ((i + 1 : Nat) : Int) := by rw [w64 (by omega) (by omega)]; omega
    rw [if_pos (by omega), e8, if_pos (by omega), if_pos (by omega), shr64 n i (by omega), e1]
theorem PutFixed_ev (n s : Nat) (l : List Int) (hs : s ≤ 8) (hl : l.length + 8 < 140737488355328) : Ev (fun k => codec_PutFixed.f k l (n : Int) (s : Int)) (l ++ fx s n) := by
  have h := PutFixed_l0 n s hs s 0 l (by omega) (by omega)
  rw [Nat.pow_zero, Nat.div_one] at h
  refine Ev.congr (fun k => ?_) h
  unfold codec_PutFixed.f
  rw [Clone_eq (by omega), Option.bind_some, if_neg (by omega)]
  rfl
theorem pow256 (i : Nat) : (2 : Nat) ^ (8 * i) = 256 ^ i := by rw [Nat.pow_mul]
theorem Fixed_l0 (l : List Int) (hb : IsB l) (s : Nat) (hs : s ≤ 8) (hl : s ≤ l.length) : ∀ (d i acc : Nat), i + d = s → acc < 256 ^ i →
    Ev (fun k => codec_Fixed.l0 k l (acc : Int) (s : Int) (i : Int)) (((acc + 256 ^ i * fxd ((l.drop i).take d) : Nat) : Int), 0)
  | 0, i, acc, hi, _ => by
    refine Ev.step (f := fun _ => some ((acc : Int), 0)) (fun k => ?_) ?_
    · simp only [codec_Fixed.l0]
      rw [if_neg (by omega)]
    · rw [List.take_zero, fxd, Nat.mul_zero, Nat.add_zero]
      exact Ev.now _
  | d + 1, i, acc, hi, ha => by
    have hlt : i < l.length := by omega
    obtain ⟨c, hc⟩ : ∃ c, l[i] = c := ⟨_, rfl⟩
    have hcb := hb c (by rw [← hc]; exact List.getElem_mem hlt)
    have hrd : rd l (i : Int) = c := by simp [rd, List.getD_eq_getElem?_getD, hlt, hc]
    have hdrop : l.drop i = c :: l.drop (i + 1) := by rw [List.drop_eq_getElem_cons hlt, hc]
    obtain ⟨m, rfl⟩ := Int.eq_ofNat_of_zero_le hcb.1
    have hm : m < 256 := by omega
    have ha2 : acc + m * 256 ^ i < 256 ^ (i + 1) := by
      rw [Nat.pow_succ]
      have := Nat.mul_le_mul_right (256 ^ i) (show m ≤ 255 by omega)
      omega
    have h64 : m * 256 ^ i < 18446744073709551616 := by
      have h7 : 256 ^ i ≤ 256 ^ 7 := Nat.pow_le_pow_right (by decide) (by omega)
      have := Nat.mul_le_mul (show m ≤ 255 by omega) h7
      have e7 : (256 : Nat) ^ 7 = 72057594037927936 := by decide
      omega
    have h64' : m * 2 ^ (8 * i) < 18446744073709551616 := (congrArg (fun x => m * x < 18446744073709551616) (pow256 i)).mpr h64
    have ha' : acc < 2 ^ (8 * i) := (congrArg (fun x => acc < x) (pow256 i)).mpr ha
    have ih := Fixed_l0 l hb s hs hl d (i + 1) (acc + m * 256 ^ i) (by omega) ha2
    have i64 : 8 * i ≤ 64 := by omega
    have i63 : 8 * i ≤ 63 := by omega
    have c1 : (i : Int) < (s : Int) := by omega
    have c2 : (0 : Int) ≤ (i : Int) := by omega
    have c3 : (i : Int) < (l.length : Int) := by omega
    have c4 : (0 : Int) ≤ ((8 * i : Nat) : Int) := by omega
    have w1 : IntKind.u64.wrap (m : Int) = (m : Int) := wU64 (by omega) (by omega)
    have e8 : wrap64 (8 * (i : Int)) = ((8 * i : Nat) : Int) := by rw [w64 (by omega) (by omega)]; omega
    have e1 : wrap64 ((i : Int) + 1) = ((i + 1 : Nat) : Int) := by clear e8; rw [w64 (by omega) (by omega)]; omega
    have hv : Go.bits .or .u64 (acc : Int) (shl .u64 (IntKind.u64.wrap (m : Int)) (wrap64 (8 * (i : Int)))) = ((acc + m * 256 ^ i : Nat) : Int) := by
      rw [w1, e8, shl64 m (8 * i) i64 h64', join7 acc m (8 * i) ha' h64' i63, pow256]
    have hr : acc + 256 ^ i * fxd ((l.drop i).take (d + 1)) = acc + m * 256 ^ i + 256 ^ (i + 1) * fxd ((l.drop (i + 1)).take d) := by
      rw [hdrop, List.take_succ_cons, fxd, Int.toNat_natCast, Nat.mul_add, Nat.pow_succ, Nat.mul_comm m, Nat.mul_assoc, Nat.add_assoc]
    rw [hr]
    refine Ev.step (fun k => ?_) ih
    simp only [codec_Fixed.l0]
    rw [if_pos c1, if_pos c2, if_pos c3, if_pos (by rw [e8]; exact c4), hrd, hv, e1]
/-- What bytes that begin with a number of so many bytes tell. -/
theorem Fixed_ev (l : List Int) (hb : IsB l) (s : Nat) (h1 : 1 ≤ s) (hs : s ≤ 8) : Ev (fun k => codec_Fixed.f k l (s : Int)) (if l.length < s then (0, 10) else ((fxd (l.take s) : Int), 0)) := by
  have hj : ∀ k, codec_Fixed.f k l (s : Int) = codec_Fixed.j0 k l (s : Int) false := by
    intro k
    unfold codec_Fixed.f
    rw [if_neg (by omega)]
    congr 1
    simp
    omega
  refine Ev.congr hj ?_
  by_cases hlt : l.length < s
  · rw [if_pos hlt]
    refine Ev.step (f := fun _ => some (0, 10)) (fun k => ?_) (Ev.now _)
    simp only [codec_Fixed.j0]
    rw [if_neg (by decide), if_pos (by omega)]
  · rw [if_neg hlt]
    have h := Fixed_l0 l hb s hs (by omega) s 0 0 (by omega) (by decide)
    rw [Nat.pow_zero, Nat.one_mul, Nat.zero_add, List.drop_zero] at h
    refine Ev.step (fun k => ?_) h
    simp only [codec_Fixed.j0]
    rw [if_neg (by decide), if_neg (by omega)]
    rfl
end Go.Proofs.Ythdemdjobgbpdaa.Q
namespace Go.Proofs.Ythdemdjobgbpdaa.Q
open Go.RowKit Go.Proofs.YthdemdjobgbpdaaW.PrintWords Go.Proofs.YthdemdjobgbpdaaW.PrintLast Go.Proofs.YthdemdjobgbpdaaW.PrintMore Go.Proofs.Ythdemdjobgbpdaa.P Go.Proofs.Ythdemdjobgbpdaa.M

theorem PutUvarint_l0 : ∀ (n : Nat) (acc : List Int), acc.length + (uv n).length ≤ 140737488355328 → Ev (fun k => codec_PutUvarint.l0 k (n : Int) acc) (acc ++ uv n) := by
  intro n
  induction n using Nat.strongRecOn with
  | _ n ih =>
    intro acc hl
    by_cases h : n < 128
    · rw [uv_small h] at hl ⊢
      refine Ev.step (f := fun _ => some (acc ++ [(n : Int)])) (fun k => ?_) (Ev.now _)
      simp only [codec_PutUvarint.l0]
      rw [if_neg (by omega), if_pos (by simp at hl; omega), show (n : Int) % 256 = (n : Int) by omega]
    · rw [uv_big h] at hl ⊢
      have := ih (n / 128) (by omega) (acc ++ [((n % 128 + 128 : Nat) : Int)]) (by simp at hl ⊢; omega)
      rw [List.append_assoc] at this
      refine Ev.step (fun k => ?_) this
      simp only [codec_PutUvarint.l0]
      rw [if_pos (by omega), if_pos (by simp at hl; omega), or128, show (n : Int) / 128 = ((n / 128 : Nat) : Int) by omega]
theorem PutUvarint_ev (n : Nat) (l : List Int) (hn : n < 18446744073709551616) (hl : l.length + 10 < 140737488355328) : Ev (fun k => codec_PutUvarint.f k l (n : Int)) (l ++ uv n) := by
  have h10 := uv_len64 hn
  refine Ev.congr (f := fun k => codec_PutUvarint.l0 k (n : Int) l) (fun k => ?_) (PutUvarint_l0 n l (by omega))
  unfold codec_PutUvarint.f
  rw [Clone_eq (by omega)]
  rfl
/-! ### Texts -/
/-- What bytes that begin with a text tell: the text's bytes, how many were read, the error. -/
def txd (l : List Int) : List Int × Nat × Nat :=
  if (uvd l 0 0).2.2 = 0 then (if (uvd l 0 0).1 > l.length - (uvd l 0 0).2.1 then ([], 0, 10) else ((l.drop (uvd l 0 0).2.1).take (uvd l 0 0).1, (uvd l 0 0).2.1 + (uvd l 0 0).1, 0)) else ([], 0, (uvd l 0 0).2.2)
end Go.Proofs.Ythdemdjobgbpdaa.Q
namespace Go.Proofs.Ythdemdjobgbpdaa.Q
open Go.RowKit Go.Proofs.YthdemdjobgbpdaaW.PrintWords Go.Proofs.YthdemdjobgbpdaaW.PrintLast Go.Proofs.YthdemdjobgbpdaaW.PrintMore Go.Proofs.Ythdemdjobgbpdaa.P Go.Proofs.Ythdemdjobgbpdaa.M

def chk (s : ByteArray) (q d : Int) : Int := if (s.size : Int) > 64 then 21 else if q > 72057594037927935 then 22 else if d = 0 then 0 else if d = 1 then 0 else 23
theorem Check_eq (s : ByteArray) (q d : Int) : ikey_Check.f s q d = some (chk s q d) := by
  unfold ikey_Check.f chk
  split
  · rfl
  · split
    · rfl
    · split
      · rfl
      · split <;> rfl
theorem chk_zero {s : ByteArray} {q d : Int} (h : chk s q d = 0) : s.size ≤ 64 ∧ q ≤ 72057594037927935 ∧ (d = 0 ∨ d = 1) := by
  unfold chk at h
  split at h
  · omega
  · split at h
    · omega
    · split at h
      · exact ⟨by omega, by omega, .inl (by assumption)⟩
      · split at h
        · exact ⟨by omega, by omega, .inr (by assumption)⟩
        · omega
/-- A key's bytes. -/
def enc (s : ByteArray) (q d : Int) : List Int × Int := if chk s q d = 0 then (bytesOf s ++ fx 8 (q.toNat * 256 + d.toNat), 0) else ([], chk s q d)
theorem or_kind (q d : Int) (q0 : 0 ≤ q) (q1 : q ≤ 72057594037927935) (hd : d = 0 ∨ d = 1) : Go.bits .or .u64 (IntKind.u64.wrap (q * 256)) (IntKind.u64.wrap d) = ((q.toNat * 256 + d.toNat : Nat) : Int) := by
  rw [wU64 (n := q * 256) (by omega) (by omega), wU64 (n := d) (by omega) (by omega), or_add64 _ _ 8 (by omega) (by omega) (by omega) (by omega) (by omega) (by omega)]
  omega
theorem Encode_ev (s : ByteArray) (q d : Int) (q0 : 0 ≤ q) : Ev (fun k => ikey_Encode.f k s q d) (enc s q d) := by
  unfold enc
  by_cases h : chk s q d = 0
  · rw [if_pos h]
    obtain ⟨h1, h2, h3⟩ := chk_zero h
    have hp := PutFixed_ev (q.toNat * 256 + d.toNat) 8 (bytesOf s) (by omega) (by rw [bytesOf_length]; omega)
    refine Ev.congr (f := fun k => (codec_PutFixed.f k (bytesOf s) ((q.toNat * 256 + d.toNat : Nat) : Int) ((8 : Nat) : Int)).bind fun t112 => some (t112, 0)) (fun k => ?_) (Ev.bind hp (Ev.now _))
    unfold ikey_Encode.f
    rw [Check_eq, Option.bind_some, if_pos h, if_pos (by omega), or_kind q d q0 h2 h3]
    rfl
  · rw [if_neg h]
    refine Ev.congr (f := fun _ => some ([], chk s q d)) (fun k => ?_) (Ev.now _)
    unfold ikey_Encode.f
    rw [Check_eq, Option.bind_some, if_neg h]
/-! ### Reading -/
def dec (l : List Int) : ByteArray × Int × Int × Int :=
  if l.length < 8 ∨ 72 < l.length ∨ 1 < fxd (l.drop (l.length - 8)) % 256 then ((⟨#[]⟩ : ByteArray), 0, 0, 20)
  else (strOfNums (l.take (l.length - 8)), ((fxd (l.drop (l.length - 8)) / 256 : Nat) : Int), ((fxd (l.drop (l.length - 8)) % 256 : Nat) : Int), 0)
/-! ### Order -/
def kcmp (s1 : ByteArray) (q1 d1 : Int) (s2 : ByteArray) (q2 d2 : Int) : Int :=
  if Lib.compareBytes s1.data.toList s2.data.toList = 0 then (if ikey_cmp q2 q1 = 0 then ikey_cmp d2 d1 else ikey_cmp q2 q1) else Lib.compareBytes s1.data.toList s2.data.toList
theorem icmp_spec (x y : Int) : (ikey_cmp x y = -1 ∧ x < y) ∨ (ikey_cmp x y = 1 ∧ y < x) ∨ (ikey_cmp x y = 0 ∧ x = y) := by
  unfold ikey_cmp
  split
  · exact .inl ⟨rfl, by assumption⟩
  · split
    · exact .inr (.inl ⟨rfl, by assumption⟩)
    · exact .inr (.inr ⟨rfl, by omega⟩)
end Go.Proofs.Ythdemdjobgbpdaa.Q
set_option linter.unusedVariables false
namespace Go.Proofs.Ythdemdjobgbpdaa.Q
open Go.RowKit Go.Proofs.Ythdemdjobgbpdaa.P Go.Proofs.YthdemdjobgbpdaaW.PrintWords Go.Proofs.YthdemdjobgbpdaaW.PrintMore Go.Proofs.Ythdemdjobgbpdaa.M
/-! ### Lines -/
theorem icmp_zero (x y : Int) : ikey_cmp x y = 0 ↔ x = y := by
  rcases icmp_spec x y with ⟨e, h⟩ | ⟨e, h⟩ | ⟨e, h⟩ <;> rw [e] <;> constructor <;> intro g <;> omega
theorem kcmp_zero (s1 : ByteArray) (q1 d1 : Int) (s2 : ByteArray) (q2 d2 : Int) : kcmp s1 q1 d1 s2 q2 d2 = 0 ↔ s1 = s2 ∧ q1 = q2 ∧ d1 = d2 := by
  unfold kcmp
  have hs : s1.data.toList = s2.data.toList ↔ s1 = s2 := ⟨ba_ext, fun h => by rw [h]⟩
  have hc := cmp_zero s1.data.toList s2.data.toList
  by_cases h : Lib.compareBytes s1.data.toList s2.data.toList = 0
  · rw [if_pos h]
    have e1 := hs.1 (hc.1 h)
    by_cases h2 : ikey_cmp q2 q1 = 0
    · rw [if_pos h2, icmp_zero]
      have := (icmp_zero _ _).1 h2
      exact ⟨fun g => ⟨e1, this.symm, g.symm⟩, fun g => g.2.2.symm⟩
    · rw [if_neg h2]
      exact ⟨fun g => absurd g h2, fun g => absurd ((icmp_zero _ _).2 g.2.1.symm) h2⟩
  · rw [if_neg h]
    exact ⟨fun g => absurd g h, fun g => absurd (hc.2 (hs.2 g.1)) h⟩
/-- A key is ahead. -/
def kless (s1 : ByteArray) (q1 d1 : Int) (s2 : ByteArray) (q2 d2 : Int) : Prop := Op.bytesLess s1.data.toList s2.data.toList = true ∨ s1 = s2 ∧ (q2 < q1 ∨ q1 = q2 ∧ d2 < d1)
theorem kcmp_less (s1 : ByteArray) (q1 d1 : Int) (s2 : ByteArray) (q2 d2 : Int) : kcmp s1 q1 d1 s2 q2 d2 < 0 ↔ kless s1 q1 d1 s2 q2 d2 := by
  unfold kcmp kless
  rcases cmp_spec s1.data.toList s2.data.toList with ⟨e, h1, h2, h3⟩ | ⟨e, h1, h2, h3⟩ | ⟨e, h1, h2, h3⟩
  · rw [e, h1]; simp
  · rw [e, h1]
    have : s1 ≠ s2 := fun g => h3 (by rw [g])
    simp [this]
  · rw [e, h1]
    have g := ba_ext h3
    rw [if_pos rfl]
    rcases icmp_spec q2 q1 with ⟨f, g1⟩ | ⟨f, g1⟩ | ⟨f, g1⟩
    · rw [f]; simp [g, g1]
    · rw [f]; simp [g]; omega
    · rw [f]
      rcases icmp_spec d2 d1 with ⟨f2, g2⟩ | ⟨f2, g2⟩ | ⟨f2, g2⟩
      · rw [f2]; simp [g, g1, g2]
      · rw [f2]; simp [g]; omega
      · rw [f2]; simp [g]; omega
theorem kless_trans {s1 : ByteArray} {q1 d1 : Int} {s2 : ByteArray} {q2 d2 : Int} {s3 : ByteArray} {q3 d3 : Int} (h : kless s1 q1 d1 s2 q2 d2) (k : kless s2 q2 d2 s3 q3 d3) : kless s1 q1 d1 s3 q3 d3 := by
  unfold kless at *
  rcases h with h | ⟨rfl, h⟩
  · rcases k with k | ⟨rfl, k⟩
    · exact .inl (bl_trans _ _ _ h k)
    · exact .inl h
  · rcases k with k | ⟨rfl, k⟩
    · exact .inl k
    · exact .inr ⟨rfl, by omega⟩
end Go.Proofs.Ythdemdjobgbpdaa.Q
namespace Go.Proofs.Ythdemdjobgbpdaa.Q
open Go.RowKit Go.Proofs.YthdemdjobgbpdaaW.PrintWords Go.Proofs.YthdemdjobgbpdaaW.PrintLast Go.Proofs.YthdemdjobgbpdaaW.PrintMore Go.Proofs.Ythdemdjobgbpdaa.P Go.Proofs.Ythdemdjobgbpdaa.M

/-! ### What is laid -/
def kb (e : S47) : List Int := bytesOf e.f0.f0 ++ fx 8 (e.f0.f1.toNat * 256 + e.f0.f2.toNat)
def kk (a b : S47) : Int := kcmp a.f0.f0 a.f0.f1 a.f0.f2 b.f0.f0 b.f0.f1 b.f0.f2
def ck1 (e : S47) : Int := chk e.f0.f0 e.f0.f1 e.f0.f2
def ckAt (p : Option S47) (e : S47) : Int :=
  if ck1 e = 0 then (if (e.f1.size : Int) > 1000 then 31 else match p with | none => 0 | some p => if kk p e ≥ 0 then 110 else 0) else ck1 e
def ck : Option S47 → List S47 → Int
  | _, [] => 0
  | p, e :: t => if ckAt p e = 0 then ck (some e) t else ckAt p e
def sh : List Int → List Int → Nat
  | a :: s, b :: t => if a = b then sh s t + 1 else 0
  | [], _ => 0
  | _, [] => 0
def ent (n : Nat) (key : List Int) (v : ByteArray) : List Int := uv n ++ (uv (key.length - n) ++ (uv v.size ++ (key.drop n ++ bytesOf v)))
def nsh (iv i : Nat) (last key : List Int) : Nat := if i % iv = 0 then 0 else sh last key
def body (iv : Nat) : Nat → List Int → List S47 → List Int
  | _, _, [] => []
  | i, last, e :: t => ent (nsh iv i last (kb e)) (kb e) e.f1 ++ body iv (i + 1) (kb e) t
def mks (iv : Nat) : Nat → List Int → Nat → List S47 → List Nat
  | _, _, _, [] => []
  | i, last, o, e :: t => (if i % iv = 0 then [o] else []) ++ mks iv (i + 1) (kb e) (o + (ent (nsh iv i last (kb e)) (kb e) e.f1).length) t
def mfx : List Nat → List Int
  | [] => []
  | o :: t => fx 4 o ++ mfx t
def lay (iv : Nat) (l : List S47) : List Int := body iv 0 [] l ++ (mfx (mks iv 0 [] 0 l) ++ ((iv : Int) :: fx 4 (mks iv 0 [] 0 l).length))
def blt (l : List S47) (iv : Int) : List Int × Int := if iv < 1 ∨ 16 < iv then ([], 1) else if ck none l = 0 then (lay iv.toNat l, 0) else ([], ck none l)

theorem enc_kb (e : S47) : enc e.f0.f0 e.f0.f1 e.f0.f2 = if ck1 e = 0 then (kb e, 0) else ([], ck1 e) := rfl
theorem kb_length (e : S47) : (kb e).length = e.f0.f0.size + 8 := by unfold kb; rw [List.length_append, bytesOf_length, fx_length]
theorem ck1_size {e : S47} (h : ck1 e = 0) : e.f0.f0.size ≤ 64 := (chk_zero h).1
theorem sh_le : ∀ (a b : List Int), sh a b ≤ a.length ∧ sh a b ≤ b.length
  | [], _ => by simp [sh]
  | _ :: _, [] => by simp [sh]
  | a :: s, b :: t => by
    have := sh_le s t
    unfold sh
    split
    · simp only [List.length_cons]; omega
    · simp
theorem nsh_le (iv i : Nat) (last key : List Int) : nsh iv i last key ≤ key.length := by
  unfold nsh
  split
  · omega
  · exact (sh_le _ _).2
theorem ent_length (n : Nat) (key : List Int) (v : ByteArray) (hk : key.length ≤ 72) (hn : n ≤ key.length) (hv : v.size ≤ 1000) : (ent n key v).length ≤ 1110 := by
  unfold ent
  have h1 := uv_len64 (n := n) (by omega)
  have h2 := uv_len64 (n := key.length - n) (by omega)
  have h3 := uv_len64 (n := v.size) (by omega)
  simp only [List.length_append, List.length_drop, bytesOf_length]
  omega
theorem mfx_length : ∀ l : List Nat, (mfx l).length = 4 * l.length
  | [] => rfl
  | o :: t => by rw [mfx, List.length_append, fx_length, mfx_length t, List.length_cons]; omega
/-! ### block.Build, by XP8 -/
theorem ev_eq {α : Type} {f : Nat → Option α} {a b : α} (e : a = b) (h : Ev f a) : Ev f b := e ▸ h
theorem ckAt_zero {p : Option S47} {e : S47} (h : ckAt p e = 0) : ck1 e = 0 ∧ e.f1.size ≤ 1000 ∧ ∀ q, p = some q → kk q e < 0 := by
  unfold ckAt at h
  by_cases h0 : ck1 e = 0
  · rw [if_pos h0] at h
    by_cases hv : (e.f1.size : Int) > 1000
    · rw [if_pos hv] at h; omega
    · rw [if_neg hv] at h
      refine ⟨h0, by omega, fun q hq => ?_⟩
      subst hq
      simp only [] at h
      by_cases hk : kk q e ≥ 0
      · rw [if_pos hk] at h; omega
      · omega
  · rw [if_neg h0] at h; exact absurd h h0
theorem ck_cons {p : Option S47} {e : S47} {t : List S47} (h : ck p (e :: t) = 0) : ckAt p e = 0 ∧ ck (some e) t = 0 := by
  rw [ck] at h
  by_cases h0 : ckAt p e = 0
  · rw [if_pos h0] at h; exact ⟨h0, h⟩
  · rw [if_neg h0] at h; exact absurd h h0
theorem ck_all : ∀ {l : List S47} {p : Option S47}, ck p l = 0 → ∀ e ∈ l, ck1 e = 0 ∧ e.f1.size ≤ 1000
  | [], _, _, e, he => by cases he
  | x :: t, p, h, e, he => by
    obtain ⟨h1, h2⟩ := ck_cons h
    rcases List.mem_cons.1 he with rfl | ht
    · exact ⟨(ckAt_zero h1).1, (ckAt_zero h1).2.1⟩
    · exact ck_all h2 e ht
theorem shp_sh : ∀ (a b : List Int), shp a b = sh a b
  | [], _ => by simp [shp, sh]
  | _ :: _, [] => by simp [shp, sh]
  | a :: s, b :: t => by
    simp only [shp, sh]
    rw [shp_sh s t]
theorem wcast (n : Nat) (h : n < 18446744073709551616) : IntKind.u64.wrap (n : Int) = (n : Int) := wU64 (by omega) (by omega)
theorem bbk_row_ev (n : Nat) (key : List Int) (v : ByteArray) (out : List Int) (hn : n ≤ key.length) (hk : key.length ≤ 100) (hv : v.size ≤ 1000) (ho : out.length ≤ 10000000000) : Ev (fun k => bbk_row k n key v out) (out ++ ent n key v) := by
  have e1 := PutUvarint_ev n [] (by omega) (by simp)
  have e2 := PutUvarint_ev (key.length - n) [] (by omega) (by simp)
  have e3 := PutUvarint_ev v.size [] (by omega) (by simp)
  have l1 := uv_len64 (n := n) (by omega)
  have l2 := uv_len64 (n := key.length - n) (by omega)
  have l3 := uv_len64 (n := v.size) (by omega)
  rw [List.nil_append] at e1 e2 e3
  unfold bbk_row
  have hz : Ev (fun k => bbk_sz k [(n : Int), ((key.length - n : Nat) : Int), (v.size : Int)] out) (out ++ uv n ++ uv (key.length - n) ++ uv v.size) := by
    simp only [bbk_sz]
    rw [wcast n (by omega), wcast (key.length - n) (by omega), wcast v.size (by omega)]
    exact Ev.bind e1 (Ev.ifT (by omega) (Ev.bind e2 (Ev.ifT (by simp only [List.length_append]; omega) (Ev.bind e3 (Ev.ifT (by simp only [List.length_append]; omega) (Ev.now _))))))
  refine Ev.bind hz (Ev.ifT (by simp only [List.length_append]; omega) (ev_eq ?_ (Ev.now _)))
  simp [ent, List.append_assoc]
theorem bbk_l_ev (iv : Nat) : ∀ (rest : List S47) (p : Option S47) (i : Nat) (out ms last : List Int) (c : Nat), (∀ e ∈ rest, 0 ≤ e.f0.f1) → out.length + 1200 * rest.length ≤ 10000000000 → ms.length + 4 * rest.length ≤ 10000000000 → c + rest.length ≤ 100000000 → last.length ≤ 72 →
    Ev (fun k => bbk_l k iv p rest i out ms last c) (if ck p rest = 0 then (out ++ (body iv i last rest ++ (ms ++ mfx (mks iv i last out.length rest) ++ ((iv : Int) :: fx 4 (c + (mks iv i last out.length rest).length)))), 0) else ([], ck p rest))
  | [], p, i, out, ms, last, c, _, ho, hm, hc, hla => by
    have hp := PutFixed_ev c 4 (out ++ ms ++ [(iv : Int)]) (by decide) (by simp only [List.length_append, List.length_singleton]; omega)
    simp only [bbk_l]
    refine Ev.ifT (by omega) ?_
    obtain ⟨K, hK⟩ := hp
    refine ⟨K, fun k hk => ?_⟩
    have := hK k hk
    simp only [] at this ⊢
    rw [show ((4 : Nat) : Int) = 4 from rfl] at this
    rw [this, Option.map_some, show ck p [] = 0 from rfl]
    simp [body, mks, mfx, List.append_assoc]
  | e :: t, p, i, out, ms, last, c, hw, ho, hm, hc, hla => by
    have hq := hw e List.mem_cons_self
    have hen := Encode_ev e.f0.f0 e.f0.f1 e.f0.f2 hq
    rw [enc_kb] at hen
    have hck : ck p (e :: t) = if ckAt p e = 0 then ck (some e) t else ckAt p e := rfl
    rw [hck]
    simp only [bbk_l]
    by_cases h0 : ck1 e = 0
    case neg =>
      have hA : ckAt p e = ck1 e := by unfold ckAt; rw [if_neg h0]
      rw [hA, if_neg h0, if_neg h0]
      rw [if_neg h0] at hen
      exact Ev.bind hen (Ev.ifT h0 (Ev.now _))
    rw [if_pos h0] at hen
    refine Ev.bind hen (Ev.ifF (by simp) ?_)
    by_cases hv : 1000 < (e.f1.size : Int)
    · have hA : ckAt p e = 31 := by unfold ckAt; rw [if_pos h0, if_pos hv]
      rw [hA]
      exact Ev.ifT hv (Ev.now _)
    refine Ev.ifF hv ?_
    have hqq : ∃ q, bbk_q p e = some q ∧ ckAt p e = if 0 ≤ q then 110 else 0 := by
      unfold ckAt
      rw [if_pos h0, if_neg hv]
      cases p with
      | none => exact ⟨-1, rfl, rfl⟩
      | some y => exact ⟨kk y e, rfl, rfl⟩
    obtain ⟨q, hq1, hA⟩ := hqq
    rw [hq1]
    simp only [Option.bind_some]
    by_cases hqn : 0 ≤ q
    · rw [if_pos hqn] at hA
      rw [hA]
      exact Ev.ifT hqn (Ev.now _)
    rw [if_neg hqn] at hA
    rw [if_pos hA]
    have hs := ck1_size h0
    have hkl := kb_length e
    have hnl := nsh_le iv i last (kb e)
    have hel := ent_length (nsh iv i last (kb e)) (kb e) e.f1 (by omega) hnl (by omega)
    rw [List.length_cons] at ho hm hc
    have hr := bbk_row_ev (nsh iv i last (kb e)) (kb e) e.f1 out hnl (by omega) (by omega) (by omega)
    have en : (if i % iv = 0 then 0 else shp last (kb e)) = nsh iv i last (kb e) := by unfold nsh; rw [shp_sh]
    have hmk : Ev (fun k => bbk_mk k i iv out ms) (ms ++ mfx (if i % iv = 0 then [out.length] else [])) := by
      unfold bbk_mk
      by_cases h : i % iv = 0
      · have hf := PutFixed_ev out.length 4 [] (by decide) (by simp)
        rw [List.nil_append] at hf
        rw [wcast out.length (by omega), if_pos h]
        exact Ev.ifT h (Ev.bind hf (Ev.ifT (by rw [fx_length]; omega) (ev_eq (by simp [mfx]) (Ev.now _))))
      · rw [if_neg h]
        exact Ev.ifF h (ev_eq (by simp [mfx]) (Ev.now _))
    have hml : (mfx (if i % iv = 0 then [out.length] else [])).length ≤ 4 := by split <;> simp [mfx, fx_length]
    have ih := bbk_l_ev iv t (some e) (i + 1) (out ++ ent (nsh iv i last (kb e)) (kb e) e.f1) (ms ++ mfx (if i % iv = 0 then [out.length] else [])) (kb e) (if i % iv = 0 then c + 1 else c) (fun x hx => hw x (List.mem_cons_of_mem _ hx))
      (by rw [List.length_append]; omega) (by rw [List.length_append]; omega) (by split <;> omega) (by omega)
    rw [List.length_append] at ih
    refine Ev.ifF hqn (Ev.ifT ⟨by omega, by omega, by omega⟩ (Ev.bind hmk ?_))
    rw [en]
    refine Ev.bind hr (ev_eq ?_ ih)
    rw [body, mks]
    by_cases h : i % iv = 0
    · simp only [h, if_true, List.singleton_append, mfx, List.append_nil, List.append_assoc, List.length_cons]
      rw [show c + 1 + (mks iv (i + 1) (kb e) (out.length + (ent (nsh iv i last (kb e)) (kb e) e.f1).length) t).length = c + ((mks iv (i + 1) (kb e) (out.length + (ent (nsh iv i last (kb e)) (kb e) e.f1).length) t).length + 1) by omega]
    · simp [h, mfx, List.append_assoc]
theorem Build_evg (l : List S47) (iv : Int) (hl : l.length ≤ 2000000) (hw : ∀ e ∈ l, 0 ≤ e.f0.f1) : Ev (fun k => block_Build.f k l iv) (blt l iv) := by
  unfold blt
  simp only [block_Build.f]
  by_cases h1 : iv < 1
  · rw [if_pos (.inl h1)]
    exact Ev.ifT h1 (Ev.now _)
  by_cases h2 : 16 < iv
  · rw [if_pos (.inr h2)]
    exact Ev.ifF h1 (Ev.ifT h2 (Ev.now _))
  rw [if_neg (by omega)]
  have := bbk_l_ev iv.toNat l none 0 [] [] [] 0 hw (by simp only [List.length_nil]; omega) (by simp only [List.length_nil]; omega) (by omega) (by simp)
  refine Ev.ifF h1 (Ev.ifF h2 (Ev.ifT (by omega) (ev_eq ?_ this)))
  simp only [List.nil_append, List.length_nil, Nat.zero_add, lay]
theorem Build_ev (l : List S47) (iv : Int) (hl : l.length ≤ 1000) (hw : ∀ e ∈ l, 0 ≤ e.f0.f1) : Ev (fun k => block_Build.f k l iv) (blt l iv) := Build_evg l iv (by omega) hw
end Go.Proofs.Ythdemdjobgbpdaa.Q
namespace Go.Proofs.Ythdemdjobgbpdaa.Q
open Go.RowKit Go.Proofs.YthdemdjobgbpdaaW.PrintWords Go.Proofs.YthdemdjobgbpdaaW.PrintLast Go.Proofs.YthdemdjobgbpdaaW.PrintMore Go.Proofs.Ythdemdjobgbpdaa.P Go.Proofs.Ythdemdjobgbpdaa.M Go.Proofs.Ythdemdjobgbpdaa.B

def Fit (l : List S47) : Prop := ∀ e ∈ l, ck1 e = 0 ∧ e.f1.size ≤ 1000 ∧ 0 ≤ e.f0.f1
theorem Fit.of {l : List S47} (h : ck none l = 0) (hw : ∀ e ∈ l, 0 ≤ e.f0.f1) : Fit l := fun e he => ⟨(ck_all h e he).1, (ck_all h e he).2, hw e he⟩
theorem kb_IsB (e : S47) : IsB (kb e) := (IsB.bytesOf _).append (fx_IsB _ _)
theorem ent_IsB (n : Nat) {key : List Int} (v : ByteArray) (h : IsB key) : IsB (ent n key v) := (uv_IsB _).append ((uv_IsB _).append ((uv_IsB _).append ((h.drop _).append (IsB.bytesOf _))))
theorem body_IsB (iv : Nat) : ∀ (l : List S47) (i : Nat) (last : List Int), IsB (body iv i last l)
  | [], _, _ => IsB.nil
  | e :: t, i, last => by rw [body]; exact (ent_IsB _ _ (kb_IsB e)).append (body_IsB iv t (i + 1) (kb e))
theorem mfx_IsB : ∀ l : List Nat, IsB (mfx l)
  | [] => IsB.nil
  | o :: t => by rw [mfx]; exact (fx_IsB _ _).append (mfx_IsB t)
theorem lay_IsB (iv : Nat) (h : iv ≤ 16) (l : List S47) : IsB (lay iv l) := (body_IsB iv l 0 []).append ((mfx_IsB _).append (IsB.cons (by omega) (by omega) (fx_IsB _ _)))
theorem body_length (iv : Nat) : ∀ (l : List S47) (i : Nat) (last : List Int), Fit l → (body iv i last l).length ≤ 1110 * l.length
  | [], _, _, _ => by simp [body]
  | e :: t, i, last, hf => by
    obtain ⟨h0, hv, _⟩ := hf e (by simp)
    have hs := ck1_size h0
    have hkl := kb_length e
    have h1 := ent_length (nsh iv i last (kb e)) (kb e) e.f1 (by omega) (nsh_le ..) hv
    have h2 := body_length iv t (i + 1) (kb e) (fun x hx => hf x (by simp [hx]))
    rw [body, List.length_append, List.length_cons]
    omega
theorem mks_length (iv : Nat) : ∀ (l : List S47) (i : Nat) (last : List Int) (o : Nat), (mks iv i last o l).length ≤ l.length
  | [], _, _, _ => by simp [mks]
  | e :: t, i, last, o => by
    have := mks_length iv t (i + 1) (kb e) (o + (ent (nsh iv i last (kb e)) (kb e) e.f1).length)
    rw [mks, List.length_append, List.length_cons]
    split <;> simp only [List.length_cons, List.length_nil] <;> omega
theorem lay_length (iv : Nat) (l : List S47) (hf : Fit l) (hl : l.length ≤ 1000) : (lay iv l).length = (body iv 0 [] l).length + 4 * (mks iv 0 [] 0 l).length + 5 ∧ (lay iv l).length ≤ 2000000 := by
  have h1 := body_length iv l 0 [] hf
  have h2 := mks_length iv l 0 [] 0
  unfold lay
  simp only [List.length_append, List.length_cons, fx_length, mfx_length]
  omega
theorem blt_ok {l : List S47} {iv : Nat} (h1 : 1 ≤ iv) (h16 : iv ≤ 16) (hc : ck none l = 0) : blt l (iv : Int) = (lay iv l, 0) := by
  unfold blt
  rw [if_neg (by omega), if_pos hc, Int.toNat_natCast]
/-! ### What is found -/
def kq (x : S47) (q : S45) : Int := kcmp x.f0.f0 x.f0.f1 x.f0.f2 q.f0 q.f1 q.f2
def fi : List S47 → S45 → Nat
  | [], _ => 0
  | e :: t, q => if kq e q < 0 then fi t q + 1 else 0
theorem kq_step {a b : S47} {q : S45} (h : kk a b < 0) (hq : kq b q ≤ 0) : kq a q < 0 := by
  have h1 := (kcmp_less a.f0.f0 a.f0.f1 a.f0.f2 b.f0.f0 b.f0.f1 b.f0.f2).1 h
  unfold kq at *
  by_cases hz : kcmp b.f0.f0 b.f0.f1 b.f0.f2 q.f0 q.f1 q.f2 = 0
  · obtain ⟨e1, e2, e3⟩ := (kcmp_zero ..).1 hz
    rw [← e1, ← e2, ← e3]
    exact h
  · exact (kcmp_less ..).2 (kless_trans h1 ((kcmp_less ..).1 (by omega)))
theorem Ev.all {α : Type} {f : Nat → Nat → Option α} {r : Nat → α} : ∀ n : Nat, (∀ i, i < n → Ev (f i) (r i)) → ∃ K, ∀ k, K ≤ k → ∀ i, i < n → f i k = some (r i)
  | 0, _ => ⟨0, fun _ _ i hi => by omega⟩
  | n + 1, h => by
    obtain ⟨K1, h1⟩ := Ev.all n (fun i hi => h i (by omega))
    obtain ⟨K2, h2⟩ := h n (by omega)
    refine ⟨max K1 K2, fun k hk i hi => ?_⟩
    rcases Nat.lt_or_ge i n with hin | hin
    · exact h1 k (by omega) i hin
    · rw [show i = n by omega]; exact h2 k (by omega)
end Go.Proofs.Ythdemdjobgbpdaa.Q
namespace Go.Proofs.Ythdemdjobgbpdaa.Q
open Go.RowKit Go.Proofs.YthdemdjobgbpdaaW.PrintWords Go.Proofs.YthdemdjobgbpdaaW.PrintLast Go.Proofs.YthdemdjobgbpdaaW.PrintMore Go.Proofs.Ythdemdjobgbpdaa.P Go.Proofs.Ythdemdjobgbpdaa.M Go.Proofs.Ythdemdjobgbpdaa.B

def ua (D : List Int) : Nat := (uvd D 0 0).1
def uk (D : List Int) : Nat := (uvd D 0 0).2.1
def ue (D : List Int) : Nat := (uvd D 0 0).2.2
def ud (D : List Int) : List Int := D.drop (uk D)
/-- the bytes of the next key, and what is behind -/
def pkey (D last : List Int) : List Int := last.take (ua D) ++ (ud (ud (ud D))).take (ua (ud D))
def prest (D : List Int) : List Int := (ud (ud (ud D))).drop (ua (ud D))
def POk (D last : List Int) : Prop := ue D = 0 ∧ ua D ≤ last.length ∧ ue (ud D) = 0 ∧ ue (ud (ud D)) = 0 ∧ ua (ud D) ≤ (ud (ud (ud D))).length ∧ (dec (pkey D last)).2.2.2 = 0 ∧ ua (ud (ud D)) ≤ (prest D).length
instance (D last : List Int) : Decidable (POk D last) := by unfold POk; infer_instance
def pent (D last : List Int) : S47 := ⟨⟨(dec (pkey D last)).1, (dec (pkey D last)).2.1, (dec (pkey D last)).2.2.1⟩, strOfNums ((prest D).take (ua (ud (ud D))))⟩
def pr : Nat → List Int → List Int → List S47 → Option (List S47)
  | 0, _, _, _ => none
  | f + 1, D, last, acc => if D.length = 0 then some acc else if POk D last then pr f ((prest D).drop (ua (ud (ud D)))) (pkey D last) (acc ++ [pent D last]) else none
/-! ### block.read -/
def mk4 (b : List Int) : Nat := fxd (b.drop (b.length - 4))
def rg (b : List Int) : Option (List S47 × Int) := if b.length < 5 then none else if mk4 b ≤ (b.length - 5) / 4 then (pr (b.length + 1) (b.take (b.length - 5 - 4 * mk4 b)) [] []).map (fun l => (l, rd b ((b.length : Int) - 5))) else none
def og (b : List Int) : Option (List S47 × Int) := match rg b with
  | none => none
  | some x => if (blt x.1 x.2).2 = 0 then (if (strOfNums (blt x.1 x.2).1).toList = (strOfNums b).toList then some x else none) else none
end Go.Proofs.Ythdemdjobgbpdaa.Q
namespace Go.Proofs.Ythdemdjobgbpdaa.M
open Go.RowKit Go.Proofs.YthdemdjobgbpdaaW.PrintWords Go.Proofs.YthdemdjobgbpdaaW.PrintLast Go.Proofs.YthdemdjobgbpdaaW.PrintMore

/-! ### The step on bit vectors -/
def cP : BitVec 32 := 0x82F63B78#32
def cS (n : BitVec 32) : BitVec 32 := (n >>> 1) ^^^ (if n.getLsbD 0 then cP else 0#32)
def cSn : Nat → BitVec 32 → BitVec 32
  | 0, n => n
  | k + 1, n => cSn k (cS n)
theorem ite_xor (a b : Bool) (p : BitVec 32) : (if (a ^^ b) = true then p else 0#32) = (if a = true then p else 0#32) ^^^ (if b = true then p else 0#32) := by
  cases a <;> cases b <;> simp
theorem shr_xor (a b : BitVec 32) (k : Nat) : (a ^^^ b) >>> k = (a >>> k) ^^^ (b >>> k) := by
  apply BitVec.eq_of_getLsbD_eq
  intro i hi
  simp
theorem cS_xor (a b : BitVec 32) : cS (a ^^^ b) = cS a ^^^ cS b := by
  unfold cS
  rw [shr_xor, BitVec.getLsbD_xor, ite_xor]
  ac_rfl
theorem cSn_xor : ∀ (k : Nat) (a b : BitVec 32), cSn k (a ^^^ b) = cSn k a ^^^ cSn k b
  | 0, _, _ => rfl
  | k + 1, a, b => by simp only [cSn]; rw [cS_xor, cSn_xor]
theorem cS_even (a : BitVec 32) (h : a.getLsbD 0 = false) : cS a = a >>> 1 := by
  unfold cS
  rw [h]
  simp
theorem cSn_high : ∀ (k : Nat) (a : BitVec 32), (∀ i, i < k → a.getLsbD i = false) → cSn k a = a >>> k
  | 0, a, _ => by simp [cSn]
  | k + 1, a, h => by
    simp only [cSn]
    rw [cS_even a (h 0 (by omega)), cSn_high k (a >>> 1) (fun i hi => by rw [BitVec.getLsbD_ushiftRight]; exact h _ (by omega)), ← BitVec.shiftRight_add]
    rw [Nat.add_comm]
/-! ### One byte; a list of bytes -/
def cB (s c : BitVec 32) : BitVec 32 := cSn 8 (s ^^^ c)
theorem low_high (a : BitVec 32) : a = (a &&& 0xFF#32) ^^^ (a &&& 0xFFFFFF00#32) := by
  apply BitVec.eq_of_getLsbD_eq
  intro i hi
  have h : ∀ i : Fin 32, (0xFFFFFF00#32).getLsbD i.val = !(0xFF#32).getLsbD i.val := by decide
  have := h ⟨i, hi⟩
  simp only [BitVec.getLsbD_xor, BitVec.getLsbD_and] at *
  rw [this]
  cases a.getLsbD i <;> cases (0xFF#32).getLsbD i <;> rfl
theorem high_low8 (a : BitVec 32) : ∀ i, i < 8 → (a &&& 0xFFFFFF00#32).getLsbD i = false := by
  intro i hi
  have h : ∀ i : Fin 8, (0xFFFFFF00#32).getLsbD i.val = false := by decide
  rw [BitVec.getLsbD_and, h ⟨i, hi⟩, Bool.and_false]
theorem low_shr8 (a : BitVec 32) : (a &&& 0xFF#32) >>> 8 = 0#32 := by
  apply BitVec.eq_of_getLsbD_eq
  intro i hi
  rw [BitVec.getLsbD_ushiftRight, BitVec.getLsbD_and]
  by_cases hlt : 8 + i < 32
  · have h : ∀ i : Fin 24, (0xFF#32).getLsbD (8 + i.val) = false := by decide
    rw [h ⟨i, by omega⟩]
    simp
  · rw [BitVec.getLsbD_of_ge _ _ (by omega)]
    simp
/-- The table's way: the entry of the lowest byte, and the others moved down. -/
theorem cSn8_table (a : BitVec 32) : cSn 8 a = (a >>> 8) ^^^ cSn 8 (a &&& 0xFF#32) := by
  have h1 : cSn 8 a = cSn 8 (a &&& 0xFF#32) ^^^ cSn 8 (a &&& 0xFFFFFF00#32) := by
    rw [← cSn_xor, ← low_high]
  rw [h1, cSn_high 8 _ (high_low8 a), BitVec.xor_comm]
  congr 1
  have h2 := congrArg (fun x : BitVec 32 => x >>> 8) (low_high a)
  simp only [shr_xor, low_shr8, BitVec.zero_xor] at h2
  exact h2.symm
def bv (c : Int) : BitVec 32 := BitVec.ofInt 32 c
def cF (s : BitVec 32) (l : List Int) : BitVec 32 := l.foldl (fun s c => cB s (bv c)) s
theorem cF_nil (s : BitVec 32) : cF s [] = s := rfl
theorem cF_cons (s : BitVec 32) (c : Int) (l : List Int) : cF s (c :: l) = cF (cB s (bv c)) l := rfl
/-- THE SUM -/
def crc (l : List Int) : Int := ((~~~ (cF (BitVec.allOnes 32) l)).toNat : Int)
theorem crc_range (l : List Int) : 0 ≤ crc l ∧ crc l < 4294967296 := by
  unfold crc
  have := (~~~ (cF (BitVec.allOnes 32) l)).isLt
  omega
/-! ### Whole numbers -/
theorem bits_xor32 (x y : Int) : Go.bits .xor .u32 x y = ((bv x ^^^ bv y).toNat : Int) := by
  have h := (bv x ^^^ bv y).isLt
  show IntKind.u32.wrap ((bv x ^^^ bv y).toNat : Int) = _
  rw [IntKind.wrap_u32']
  omega
theorem bv_toNat (b : BitVec 32) : bv (b.toNat : Int) = b := by
  unfold bv
  rw [BitVec.ofInt_natCast]
  simp
theorem bv_div (b : BitVec 32) (k : Nat) : bv ((b.toNat : Int) / ((2 ^ k : Nat) : Int)) = b >>> k := by
  rw [← Int.natCast_ediv]
  apply BitVec.eq_of_toNat_eq
  unfold bv
  rw [BitVec.ofInt_natCast, BitVec.toNat_ofNat, BitVec.toNat_ushiftRight, Nat.shiftRight_eq_div_pow]
  have h : b.toNat / 2 ^ k ≤ b.toNat := Nat.div_le_self _ _
  exact Nat.mod_eq_of_lt (Nat.lt_of_le_of_lt h b.isLt)
theorem and_one (b : BitVec 32) : Go.bits .and .u32 (b.toNat : Int) 1 = 1 ↔ b.getLsbD 0 = true := by
  have h : Go.bits .and .u32 (b.toNat : Int) 1 = ((b.toNat &&& 1 : Nat) : Int) := by
    exact u32_and_nat b.toNat 1 b.isLt (by decide)
  rw [h, Nat.and_one_is_mod]
  have : b.getLsbD 0 = b.toNat.testBit 0 := rfl
  rw [this, Nat.testBit_zero]
  simp
  omega
end Go.Proofs.Ythdemdjobgbpdaa.M
namespace Go.Proofs.Ythdemdjobgbpdaa.Q
open Go.RowKit Go.Proofs.YthdemdjobgbpdaaW.PrintWords Go.Proofs.YthdemdjobgbpdaaW.PrintLast Go.Proofs.YthdemdjobgbpdaaW.PrintMore Go.Proofs.Ythdemdjobgbpdaa.P Go.Proofs.Ythdemdjobgbpdaa.M

/-! ### The program's sum -/
theorem step_bv (b : BitVec 32) : crcStep (b.toNat : Int) = ((cS b).toNat : Int) := by
  unfold crcStep cS
  have hd : bv ((b.toNat : Int) / 2) = b >>> 1 := bv_div b 1
  by_cases h : b.getLsbD 0 = true
  · rw [if_pos ((and_one b).mpr h), if_pos h, bits_xor32, hd]
    rfl
  · rw [if_neg (fun k => h ((and_one b).mp k)), if_neg h, BitVec.xor_zero, ← hd]
    unfold bv
    rw [BitVec.toNat_ofInt]
    have := b.isLt
    omega
theorem steps_bv : ∀ (k : Nat) (b : BitVec 32), crcSteps k (b.toNat : Int) = ((cSn k b).toNat : Int)
  | 0, b => by unfold crcSteps; rfl
  | k + 1, b => by
    unfold crcSteps
    rw [step_bv, steps_bv k]
    rfl
theorem entry_bv (i : Nat) (h : i < 256) : crcEntry i = ((cSn 8 (BitVec.ofNat 32 i)).toNat : Int) := by
  rw [crcEntry_eq]
  have := steps_bv 8 (BitVec.ofNat 32 i)
  rwa [BitVec.toNat_ofNat, Nat.mod_eq_of_lt (by omega)] at this
theorem byte_bv (b : BitVec 32) (c : Int) (h0 : 0 ≤ c) (h1 : c < 256) : crcByte (b.toNat : Int) c = ((cB b (bv c)).toNat : Int) := by
  unfold crcByte
  obtain ⟨n, rfl⟩ := Int.eq_ofNat_of_zero_le h0
  have hn : n < 256 := by omega
  have hx : Go.bits .xor .u8 ((b.toNat : Int) % 256) (n : Int) = ((b.toNat % 256 ^^^ n : Nat) : Int) := by
    have := u8_xor_nat (b.toNat % 256) n (Nat.mod_lt _ (by decide)) hn
    simpa using this
  have hlt : b.toNat % 256 ^^^ n < 256 := Nat.xor_lt_two_pow (n := 8) (Nat.mod_lt _ (by decide)) hn
  rw [hx, Int.toNat_natCast, entry_bv _ hlt, bits_xor32, bv_toNat, show ((b.toNat : Int) / 256) = (b.toNat : Int) / ((2 ^ 8 : Nat) : Int) from rfl, bv_div]
  unfold cB
  rw [cSn8_table (b ^^^ bv n)]
  have hb : bv (n : Int) = BitVec.ofNat 32 n := by unfold bv; rw [BitVec.ofInt_natCast]
  have e1 : (b ^^^ bv (n : Int)) >>> 8 = b >>> 8 := by
    rw [shr_xor, hb]
    have : (BitVec.ofNat 32 n) >>> 8 = 0#32 := by
      apply BitVec.eq_of_toNat_eq
      rw [BitVec.toNat_ushiftRight, BitVec.toNat_ofNat, Nat.shiftRight_eq_div_pow, Nat.mod_eq_of_lt (by omega)]
      exact Nat.div_eq_of_lt hn
    rw [this, BitVec.xor_zero]
  have e2 : (b ^^^ bv (n : Int)) &&& 0xFF#32 = BitVec.ofNat 32 (b.toNat % 256 ^^^ n) := by
    apply BitVec.eq_of_toNat_eq
    rw [hb, BitVec.toNat_and, BitVec.toNat_xor, BitVec.toNat_ofNat, BitVec.toNat_ofNat, BitVec.toNat_ofNat, Nat.mod_eq_of_lt (show n < 2 ^ 32 by omega), Nat.mod_eq_of_lt (show 255 < 2 ^ 32 by decide), Nat.mod_eq_of_lt (show _ < 2 ^ 32 by omega)]
    rw [show (255 : Nat) = 2 ^ 8 - 1 from rfl, Nat.and_two_pow_sub_one_eq_mod, Nat.xor_mod_two_pow, Nat.mod_eq_of_lt (show n < 2 ^ 8 from hn)]
  rw [e1, e2]
theorem fold_bv : ∀ (l : List Int) (b : BitVec 32), (∀ x ∈ l, 0 ≤ x ∧ x < 256) → l.foldl crcByte (b.toNat : Int) = ((cF b l).toNat : Int)
  | [], _, _ => rfl
  | c :: l, b, h => by
    have hc := h c (List.mem_cons_self ..)
    rw [List.foldl_cons, byte_bv b c hc.1 hc.2, fold_bv l _ (fun x hx => h x (List.mem_cons_of_mem _ hx))]
    rfl
theorem Crc_eq (l : List Int) (h : ∀ x ∈ l, 0 ≤ x ∧ x < 256) : codec_Crc.f l = some (crc l) := by
  unfold codec_Crc.f crc
  have h1 : (4294967295 : Int) = ((BitVec.allOnes 32).toNat : Int) := by decide
  rw [h1, fold_bv l _ h, bits_xor32, bv_toNat, bv_toNat, BitVec.allOnes_xor]

/-! ### The document's sum -/
theorem or_add32 (x y : Int) (i : Nat) (hx0 : 0 ≤ x) (hx : x % 2 ^ i = 0) (hx1 : x < 4294967296) (hy0 : 0 ≤ y) (hy : y < 2 ^ i) (hy1 : y < 4294967296) : Go.bits .or .u32 x y = x + y := by
  refine bits_join .u32 32 (by decide) (fun n h0 h1 => ?_) i x y hx0 hx hx1 hy0 hy hy1
  rw [IntKind.wrap_u32']
  omega
theorem or_comm32 (x y : Int) : Go.bits .or .u32 x y = Go.bits .or .u32 y x := by
  unfold Go.bits
  simp only [BitVec.or_comm]
def mask (n : Int) : Int := (n / 32768 + n % 32768 * 131072 + 2726488792) % 4294967296
def unmask (n : Int) : Int := (((n - 2726488792) % 4294967296) / 131072) + (((n - 2726488792) % 4294967296) % 131072) * 32768
theorem Mask_eq (n : Int) (_h0 : 0 ≤ n) (_h1 : n < 4294967296) : codec_Mask.f n = some (mask n) := by
  unfold codec_Mask.f mask
  rw [or_comm32, or_add32 _ _ 17 (by omega) (by omega) (by omega) (by omega) (by omega) (by omega)]
  congr 1
  omega
theorem mask_range (n : Int) : 0 ≤ mask n ∧ mask n < 4294967296 := by unfold mask; omega
end Go.Proofs.Ythdemdjobgbpdaa.Q
