/- Numbers as bytes in plain Lean: sevens of bits, fixed bytes, texts; what is laid is read. No program here. Texts between two, behind one; the order of bytes: plain Lean, no program here. Bits, and slices.Clone of bytes: what the printed functions of layers 1 and 2 share. What the printed codec functions come to: MNum's words. What the printed PutFixed and Fixed come to: MNum's words. What ikey.Check, Encode, Decode, Compare, and the reference's, come to. Keys there and back, and their order's laws, over what QIkey says. What edit's Check, and the document's, come to. What edit's Encode comes to. An edit is the same as itself. -/
import Derived.Test.YthkkbgehmiobaaaWMore
import Derived.Laws.BitsAllLaws
import Derived.Lib.Bytealg
import Derived.Lib.Strings
import Derived.Lib.SmallJoins
import Derived.Laws.Strings
import Derived.WideShapes
import Derived.Test.YthkkbgehmiobaaaP8
import Derived.Test.YthkkbgehmiobaaaP9
import Derived.Test.YthkkbgehmiobaaaP13
import Derived.Test.YthkkbgehmiobaaaP14
import Derived.Test.YthkkbgehmiobaaaP4
import Derived.Test.YthkkbgehmiobaaaP5
import Derived.Test.YthkkbgehmiobaaaP7
import Derived.Test.YthkkbgehmiobaaaP6
import Derived.Test.YthkkbgehmiobaaaP3
import Derived.Test.YthkkbgehmiobaaaEE
import Derived.Test.YthkkbgehmiobaaaP12
import Derived.Test.YthkkbgehmiobaaaP11
namespace Go.Proofs.Ythkkbgehmiobaaa.M
open Go.RowKit Go.Proofs.YthkkbgehmiobaaaW.PrintWords Go.Proofs.YthkkbgehmiobaaaW.PrintLast Go.Proofs.YthkkbgehmiobaaaW.PrintMore

theorem Ev.ifT {α : Type} {c : Prop} [Decidable c] {A B : Nat → Option α} {r : α} (hc : c) (h : Ev A r) : Ev (fun n => if c then A n else B n) r := by
  simp only [if_pos hc]
  exact h
theorem Ev.ifF {α : Type} {c : Prop} [Decidable c] {A B : Nat → Option α} {r : α} (hc : ¬ c) (h : Ev B r) : Ev (fun n => if c then A n else B n) r := by
  simp only [if_neg hc]
  exact h
theorem Ev.some_ {α β : Type} {a : α} {f : Nat → α → Option β} {r : β} (h : Ev (fun n => f n a) r) : Ev (fun n => (some a).bind (f n)) r := h
def IsB (l : List Int) : Prop := ∀ x ∈ l, 0 ≤ x ∧ x < 256
theorem IsB.nil : IsB [] := fun _ h => by cases h
theorem IsB.cons {c : Int} {l : List Int} (h0 : 0 ≤ c) (h1 : c < 256) (h : IsB l) : IsB (c :: l) := fun x hx => by
  rcases List.mem_cons.1 hx with e | e
  · subst e; exact ⟨h0, h1⟩
  · exact h x e
theorem IsB.append {l r : List Int} (h : IsB l) (k : IsB r) : IsB (l ++ r) := fun x hx => (List.mem_append.1 hx).elim (h x) (k x)
theorem IsB.left {l r : List Int} (h : IsB (l ++ r)) : IsB l := fun x hx => h x (List.mem_append_left _ hx)
theorem IsB.right {l r : List Int} (h : IsB (l ++ r)) : IsB r := fun x hx => h x (List.mem_append_right _ hx)
theorem IsB.head {c : Int} {l : List Int} (h : IsB (c :: l)) : 0 ≤ c ∧ c < 256 := h c (List.mem_cons_self ..)
theorem IsB.tail {c : Int} {l : List Int} (h : IsB (c :: l)) : IsB l := fun x hx => h x (List.mem_cons_of_mem _ hx)
theorem IsB.take {l : List Int} (h : IsB l) (n : Nat) : IsB (l.take n) := fun x hx => h x (List.mem_of_mem_take hx)
theorem IsB.drop {l : List Int} (h : IsB l) (n : Nat) : IsB (l.drop n) := fun x hx => h x (List.mem_of_mem_drop hx)
theorem IsB.of_wf {l : List Int} (h : ∀ x ∈ l, (Lit.int .u8 x).wf = true) : IsB l := fun x hx => by
  have := h x hx
  simp [Lit.wf, IntKind.min, IntKind.max, IntKind.signed, IntKind.bits] at this
  omega
theorem IsB.bytesOf (s : ByteArray) : IsB (bytesOf s) := fun x hx => by
  unfold Go.Proofs.YthkkbgehmiobaaaW.PrintWords.bytesOf at hx
  obtain ⟨b, _, rfl⟩ := List.mem_map.1 hx
  have := b.toNat_lt
  omega
theorem w64 {n : Int} (h0 : -9223372036854775808 ≤ n) (h1 : n < 9223372036854775808) : wrap64 n = n := by unfold wrap64; omega
theorem wrapU64 (n : Int) : IntKind.u64.wrap n = n % 18446744073709551616 := by simp [IntKind.wrap, IntKind.bits, IntKind.signed]
theorem wU64 {n : Int} (h0 : 0 ≤ n) (h1 : n < 18446744073709551616) : IntKind.u64.wrap n = n := by rw [wrapU64]; omega

/-! ### Sevens of bits -/
def uv (n : Nat) : List Int := if n < 128 then [(n : Int)] else ((n % 128 + 128 : Nat) : Int) :: uv (n / 128)
termination_by n
decreasing_by omega
theorem uv_small {n : Nat} (h : n < 128) : uv n = [(n : Int)] := by rw [uv, if_pos h]
theorem uv_big {n : Nat} (h : ¬ n < 128) : uv n = ((n % 128 + 128 : Nat) : Int) :: uv (n / 128) := by rw [uv, if_neg h]
theorem uv_IsB (n : Nat) : IsB (uv n) := by
  induction n using Nat.strongRecOn with
  | _ n ih =>
    by_cases h : n < 128
    · rw [uv_small h]; exact IsB.cons (by omega) (by omega) IsB.nil
    · rw [uv_big h]; exact IsB.cons (by omega) (by omega) (ih _ (by omega))
/-- How many sevens. -/
theorem uv_len_le : ∀ (d n : Nat), n < 2 ^ (7 * (d + 1)) → (uv n).length ≤ d + 1
  | 0, n, h => by rw [uv_small (by simpa using h)]; simp
  | d + 1, n, h => by
    by_cases hs : n < 128
    · rw [uv_small hs]; simp
    · rw [uv_big hs, List.length_cons]
      have : n / 128 < 2 ^ (7 * (d + 1)) := by
        rw [Nat.div_lt_iff_lt_mul (by decide)]
        refine Nat.lt_of_lt_of_le h ?_
        exact Nat.le_of_eq (by rw [show 7 * (d + 1 + 1) = 7 * (d + 1) + 7 by omega, Nat.pow_add])
      have := uv_len_le d _ this
      omega
theorem uv_len64 {n : Nat} (h : n < 18446744073709551616) : (uv n).length ≤ 10 := uv_len_le 9 n (Nat.lt_of_lt_of_le h (by decide))
/-- What bytes tell: the number, how many they were, and the error (0, 10, 11). -/
def uvd : List Int → Nat → Nat → Nat × Nat × Nat
  | [], _, _ => (0, 0, 10)
  | c :: r, i, acc => if i = 9 ∧ 1 < c then (0, 0, 11) else if c < 128 then (acc + (c % 128).toNat * 2 ^ (7 * i), i + 1, 0) else uvd r (i + 1) (acc + (c % 128).toNat * 2 ^ (7 * i))
theorem pow7 (i : Nat) : 2 ^ (7 * (i + 1)) = 2 ^ (7 * i) * 128 := by rw [show 7 * (i + 1) = 7 * i + 7 by omega, Nat.pow_add]
theorem uvd_uv (more : List Int) : ∀ (n i acc : Nat), i ≤ 9 → n * 2 ^ (7 * i) < 18446744073709551616 → uvd (uv n ++ more) i acc = (acc + n * 2 ^ (7 * i), i + (uv n).length, 0) := by
  intro n
  induction n using Nat.strongRecOn with
  | _ n ih =>
    intro i acc hi hn
    by_cases h : n < 128
    · rw [uv_small h]
      simp only [List.cons_append, List.nil_append, uvd]
      have h9 : ¬ (i = 9 ∧ (1 : Int) < (n : Int)) := by
        rintro ⟨rfl, h1⟩
        simp at hn
        omega
      rw [if_neg h9, if_pos (by omega)]
      have : ((n : Int) % 128).toNat = n := by omega
      rw [this]
      simp
    · rw [uv_big h]
      have h8 : i ≤ 8 := by
        rcases Nat.lt_or_ge i 9 with h9 | h9
        · omega
        · obtain rfl : i = 9 := by omega
          simp at hn
          omega
      have hmul : n / 128 * 2 ^ (7 * (i + 1)) ≤ n * 2 ^ (7 * i) := by
        rw [pow7, Nat.mul_comm (2 ^ (7 * i)) 128, ← Nat.mul_assoc]
        exact Nat.mul_le_mul_right _ (Nat.div_mul_le_self n 128)
      simp only [List.cons_append, uvd]
      rw [if_neg (by omega), if_neg (by omega), ih (n / 128) (by omega) (i + 1) _ (by omega) (by omega)]
      have e1 : ((((n % 128 + 128 : Nat) : Int)) % 128).toNat = n % 128 := by omega
      rw [e1, List.length_cons]
      refine Prod.ext ?_ (Prod.ext ?_ rfl)
      · simp only
        rw [pow7, Nat.mul_comm (2 ^ (7 * i)) 128, ← Nat.mul_assoc, Nat.add_assoc, ← Nat.add_mul]
        congr 2
        omega
      · simp only
        omega
/-- What is told of bytes that are a number. -/
theorem uvd_ok : ∀ (l : List Int) (i acc n k : Nat), IsB l → i ≤ 9 → acc < 2 ^ (7 * i) → uvd l i acc = (n, k, 0) → i < k ∧ k ≤ i + l.length ∧ k ≤ 10 ∧ n < 18446744073709551616
  | [], _, _, _, _, _, _, _, h => by simp [uvd] at h
  | c :: r, i, acc, n, k, hb, hi, ha, h => by
    have hc := hb.head
    simp only [uvd] at h
    by_cases h9 : i = 9 ∧ 1 < c
    · rw [if_pos h9] at h; simp at h
    · rw [if_neg h9] at h
      have hp : 2 ^ (7 * i) ≤ 2 ^ 63 := Nat.pow_le_pow_right (by decide) (by omega)
      by_cases h128 : c < 128
      · rw [if_pos h128] at h
        simp only [Prod.mk.injEq] at h
        obtain ⟨rfl, rfl, _⟩ := h
        refine ⟨by omega, by simp only [List.length_cons]; omega, by omega, ?_⟩
        by_cases e9 : i = 9
        · subst e9
          have : (c % 128).toNat ≤ 1 := by omega
          have := Nat.mul_le_mul_right (2 ^ (7 * 9)) this
          have e63 : (2 : Nat) ^ (7 * 9) = 9223372036854775808 := by decide
          rw [e63] at *
          omega
        · have hp8 : 2 ^ (7 * i) ≤ 2 ^ 56 := Nat.pow_le_pow_right (by decide) (by omega)
          have : (c % 128).toNat ≤ 127 := by omega
          have := Nat.mul_le_mul this hp8
          have e56 : (2 : Nat) ^ 56 = 72057594037927936 := by decide
          omega
      · rw [if_neg h128] at h
        have h8 : i ≤ 8 := by omega
        have ha2 : acc + (c % 128).toNat * 2 ^ (7 * i) < 2 ^ (7 * (i + 1)) := by
          rw [pow7]
          have : (c % 128).toNat ≤ 127 := by omega
          have := Nat.mul_le_mul_right (2 ^ (7 * i)) this
          omega
        have := uvd_ok r (i + 1) _ n k hb.tail (by omega) ha2 h
        refine ⟨by omega, by simp only [List.length_cons]; omega, this.2.2.1, this.2.2.2⟩
/-! ### Fixed bytes -/
def fx : Nat → Nat → List Int
  | 0, _ => []
  | s + 1, n => ((n % 256 : Nat) : Int) :: fx s (n / 256)
theorem fx_length : ∀ (s n : Nat), (fx s n).length = s
  | 0, _ => rfl
  | s + 1, n => by rw [fx, List.length_cons, fx_length]
theorem fx_IsB : ∀ (s n : Nat), IsB (fx s n)
  | 0, _ => IsB.nil
  | s + 1, n => by rw [fx]; exact IsB.cons (by omega) (by omega) (fx_IsB s _)
/-- The number of bytes, the lowest first. -/
def fxd : List Int → Nat
  | [] => 0
  | c :: r => c.toNat + 256 * fxd r
theorem fxd_fx : ∀ (s n : Nat), fxd (fx s n) = n % 256 ^ s
  | 0, n => by rw [fx, fxd, Nat.pow_zero, Nat.mod_one]
  | s + 1, n => by
    rw [fx, fxd, fxd_fx s, Nat.pow_succ, Nat.mul_comm (256 ^ s) 256, Nat.mod_mul]
    rw [Int.toNat_natCast]
theorem fxd_lt : ∀ (l : List Int), IsB l → fxd l < 256 ^ l.length
  | [], _ => by simp [fxd]
  | c :: r, h => by
    have hc := h.head
    have := fxd_lt r h.tail
    rw [fxd, List.length_cons, Nat.pow_succ]
    omega
theorem fx_succ (s n : Nat) : fx (s + 1) n = ((n % 256 : Nat) : Int) :: fx s (n / 256) := by rw [fx]
/-! ### Texts -/
def tx (b : List Int) : List Int := uv b.length ++ b
theorem bytesOf_str (l : List Int) (h : IsB l) : bytesOf (strOfNums l) = l := by
  unfold Go.Proofs.YthkkbgehmiobaaaW.PrintWords.bytesOf strOfNums
  simp only [List.map_map]
  have : l.map ((fun b : UInt8 => (b.toNat : Int)) ∘ fun n => UInt8.ofNat n.toNat) = l.map id := by
    refine List.map_congr_left (fun x hx => ?_)
    have := h x hx
    simp only [Function.comp, id, UInt8.toNat_ofNat']
    omega
  rw [this, List.map_id]
theorem str_bytesOf (s : ByteArray) : strOfNums (bytesOf s) = s := by
  unfold Go.Proofs.YthkkbgehmiobaaaW.PrintWords.bytesOf strOfNums
  rw [List.map_map]
  have : s.data.toList.map ((fun n : Int => UInt8.ofNat n.toNat) ∘ fun b : UInt8 => (b.toNat : Int)) = s.data.toList.map id := by
    refine List.map_congr_left (fun x _ => ?_)
    simp
  rw [this, List.map_id]
theorem str_inj {l r : List Int} (hl : IsB l) (hr : IsB r) (h : strOfNums l = strOfNums r) : l = r := by rw [← bytesOf_str l hl, ← bytesOf_str r hr, h]
theorem str_size (l : List Int) : (strOfNums l).size = l.length := by
  unfold strOfNums
  show (List.toArray _).size = _
  simp
end Go.Proofs.Ythkkbgehmiobaaa.M
namespace Go.Proofs.Ythkkbgehmiobaaa.M
set_option linter.unusedSimpArgs false
open Go.RowKit Go.Proofs.YthkkbgehmiobaaaW.PrintWords Go.Proofs.YthkkbgehmiobaaaW.PrintLast Go.Proofs.YthkkbgehmiobaaaW.PrintMore

theorem ba_ext {a b : ByteArray} (h : a.data.toList = b.data.toList) : a = b := by
  obtain ⟨⟨a⟩⟩ := a
  obtain ⟨⟨b⟩⟩ := b
  cases h
  rfl
def S (l : List UInt8) : ByteArray := ⟨l.toArray⟩
/-- A short text that is not less than one, and less than another one. -/
def btw : List UInt8 → List UInt8 → List UInt8
  | a :: as1, b :: bs => if a = b then a :: btw as1 bs else if a.toNat + 1 < b.toNat then [UInt8.ofNat (a.toNat + 1)] else a :: as1
  | as1, _ => as1
/-- A short text behind one. -/
def beh : List UInt8 → List UInt8
  | [] => []
  | a :: as1 => if a.toNat = 255 then a :: beh as1 else [UInt8.ofNat (a.toNat + 1)]

theorem u8_lt (a b : UInt8) : a < b ↔ a.toNat < b.toNat := UInt8.lt_iff_toNat_lt
/-! ### The order of bytes -/
theorem cmp_spec : ∀ a b : List UInt8, (Lib.compareBytes a b = -1 ∧ Op.bytesLess a b = true ∧ Op.bytesLess b a = false ∧ a ≠ b) ∨ (Lib.compareBytes a b = 1 ∧ Op.bytesLess a b = false ∧ Op.bytesLess b a = true ∧ a ≠ b) ∨ (Lib.compareBytes a b = 0 ∧ Op.bytesLess a b = false ∧ Op.bytesLess b a = false ∧ a = b)
  | [], [] => .inr (.inr ⟨rfl, rfl, rfl, rfl⟩)
  | [], _ :: _ => .inl ⟨rfl, rfl, rfl, by simp⟩
  | _ :: _, [] => .inr (.inl ⟨rfl, rfl, rfl, by simp⟩)
  | a :: as1, b :: bs => by
    have ih := cmp_spec as1 bs
    unfold Lib.compareBytes
    by_cases h1 : a < b
    · rw [if_pos h1]
      have h2 : ¬ b < a := fun h => by rw [u8_lt] at h h1; omega
      have h3 : a ≠ b := fun e => by subst e; rw [u8_lt] at h1; omega
      have h4 : b ≠ a := fun e => h3 e.symm
      exact .inl ⟨rfl, by simp [Op.bytesLess, h1], by simp [Op.bytesLess, h2, h4], by simp [h3]⟩
    · rw [if_neg h1]
      by_cases h2 : b < a
      · rw [if_pos h2]
        have h3 : a ≠ b := fun e => by subst e; rw [u8_lt] at h2; omega
        exact .inr (.inl ⟨rfl, by simp [Op.bytesLess, h1, h3], by simp [Op.bytesLess, h2], by simp [h3]⟩)
      · rw [if_neg h2]
        have h3 : a = b := UInt8.toNat_inj.1 (by rw [u8_lt] at h1 h2; omega)
        subst h3
        simpa [Op.bytesLess, h1] using ih
theorem cmp_neg (a b : List UInt8) : Lib.compareBytes b a = - Lib.compareBytes a b := by
  rcases cmp_spec a b with ⟨e, h1, h2, h3⟩ | ⟨e, h1, h2, h3⟩ | ⟨e, h1, h2, h3⟩ <;> rcases cmp_spec b a with ⟨f, g1, g2, g3⟩ | ⟨f, g1, g2, g3⟩ | ⟨f, g1, g2, g3⟩ <;> rw [e, f] <;> first | rfl | exact absurd g3.symm h3 | exact absurd h3.symm g3 | (rw [h1] at g2; exact absurd g2 (by decide)) | (rw [h2] at g1; exact absurd g1 (by decide)) | (rw [h1] at g2; exact absurd g2.symm (by decide))
/-! ### Short texts -/
end Go.Proofs.Ythkkbgehmiobaaa.M
namespace Go.Proofs.Ythkkbgehmiobaaa.Q
open Go.RowKit Go.Proofs.YthkkbgehmiobaaaW.PrintWords Go.Proofs.YthkkbgehmiobaaaW.PrintLast Go.Proofs.YthkkbgehmiobaaaW.PrintMore Go.Proofs.Ythkkbgehmiobaaa.P Go.Proofs.Ythkkbgehmiobaaa.M
theorem or128 (n : Nat) : Go.bits .or .u8 ((n : Int) % 256) 128 = ((n % 128 + 128 : Nat) : Int) := by
  have h : Go.bits .or .u8 ((n % 256 : Nat) : Int) ((128 : Nat) : Int) = ((n % 256 ||| 128 : Nat) : Int) := u8_or_nat (n % 256) 128 (Nat.mod_lt _ (by decide)) (by decide)
  have h2 : n % 256 ||| 128 = n % 128 + 128 := by
    have : ∀ i : Fin 256, i.val ||| 128 = i.val % 128 + 128 := by decide +kernel
    have := this ⟨n % 256, Nat.mod_lt _ (by decide)⟩
    simp only at this
    rw [this]
    omega
  rw [h2] at h
  rw [← h]
  congr 1
theorem Clone_eq {l : List Int} (h : l.length < 140737488355328) : slices_Clone_byte_byte.f l = some l := by
  unfold slices_Clone_byte_byte.f
  rw [if_pos h]
theorem and127 (c : Int) (h0 : 0 ≤ c) (h1 : c < 256) : Go.bits .and .u8 c 127 = c % 128 := bits_mask .u8 8 (by decide) wraps_u8 7 (by decide) c h0 (by omega)
theorem or_add64 (x y : Int) (i : Nat) (hx0 : 0 ≤ x) (hx : x % 2 ^ i = 0) (hx1 : x < 18446744073709551616) (hy0 : 0 ≤ y) (hy : y < 2 ^ i) (hy1 : y < 18446744073709551616) : Go.bits .or .u64 x y = x + y := by
  refine bits_join .u64 64 (by decide) (fun n h0 h1 => ?_) i x y hx0 hx hx1 hy0 hy hy1
  rw [wrapU64]
  omega
theorem or_comm64 (x y : Int) : Go.bits .or .u64 x y = Go.bits .or .u64 y x := by
  unfold Go.bits
  simp only [BitVec.or_comm]
theorem shl64 (m : Nat) (y : Nat) (hy : y ≤ 64) (h : m * 2 ^ y < 18446744073709551616) : shl .u64 (m : Int) (y : Int) = ((m * 2 ^ y : Nat) : Int) := by
  unfold shl
  have e : (m : Int) * 2 ^ y = ((m * 2 ^ y : Nat) : Int) := by rw [Int.natCast_mul, Int.natCast_pow]; rfl
  rw [Int.toNat_natCast, Nat.min_eq_left (show y ≤ IntKind.u64.bits from hy), e, wU64 (by omega) (by omega)]
theorem join7 (acc m i : Nat) (ha : acc < 2 ^ i) (hm : m * 2 ^ i < 18446744073709551616) (hi : i ≤ 63) : Go.bits .or .u64 (acc : Int) ((m * 2 ^ i : Nat) : Int) = ((acc + m * 2 ^ i : Nat) : Int) := by
  have hp : 2 ^ i ≤ 2 ^ 63 := Nat.pow_le_pow_right (by decide) hi
  rw [or_comm64, or_add64 _ _ i (by omega) ?_ (by omega) (by omega) ?_ (by omega)]
  · omega
  · have : (m * 2 ^ i) % 2 ^ i = 0 := Nat.mul_mod_left _ _
    exact_mod_cast this
  · exact_mod_cast ha
end Go.Proofs.Ythkkbgehmiobaaa.Q
namespace Go.Proofs.Ythkkbgehmiobaaa.Q
open Go.RowKit Go.Proofs.YthkkbgehmiobaaaW.PrintWords Go.Proofs.YthkkbgehmiobaaaW.PrintLast Go.Proofs.YthkkbgehmiobaaaW.PrintMore Go.Proofs.Ythkkbgehmiobaaa.P Go.Proofs.Ythkkbgehmiobaaa.M

theorem PutUvarint_l0 : ∀ (n : Nat) (acc : List Int), acc.length + (uv n).length ≤ 140737488355328 → Ev (fun k => codec_PutUvarint.l0 k (n : Int) acc) (acc ++ uv n) := by
  intro n
  induction n using Nat.strongRecOn with
  | _ n ih =>
    intro acc hl
    by_cases h : n < 128
    · rw [uv_small h] at hl ⊢
      refine Ev.step (f := fun _ => some (acc ++ [(n : Int)])) (fun k => ?_) (Ev.now _)
      simp only [codec_PutUvarint.l0]
      rw [if_neg (by omega), if_pos (by simp at hl; omega), show (n : Int) % 256 = (n : Int) by omega]
    · rw [uv_big h] at hl ⊢
      have := ih (n / 128) (by omega) (acc ++ [((n % 128 + 128 : Nat) : Int)]) (by simp at hl ⊢; omega)
      rw [List.append_assoc] at this
      refine Ev.step (fun k => ?_) this
      simp only [codec_PutUvarint.l0]
      rw [if_pos (by omega), if_pos (by simp at hl; omega), or128, show (n : Int) / 128 = ((n / 128 : Nat) : Int) by omega]
theorem PutUvarint_ev (n : Nat) (l : List Int) (hn : n < 18446744073709551616) (hl : l.length + 10 < 140737488355328) : Ev (fun k => codec_PutUvarint.f k l (n : Int)) (l ++ uv n) := by
  have h10 := uv_len64 hn
  refine Ev.congr (f := fun k => codec_PutUvarint.l0 k (n : Int) l) (fun k => ?_) (PutUvarint_l0 n l (by omega))
  unfold codec_PutUvarint.f
  rw [Clone_eq (by omega)]
  rfl
theorem Uvarint_l0 (l : List Int) (hb : IsB l) : ∀ (d i acc : Nat), i + d = l.length → i ≤ 9 → acc < 2 ^ (7 * i) →
    Ev (fun k => codec_Uvarint.l0 k (acc : Int) l (l.length : Int) (i : Int)) (((uvd (l.drop i) i acc).1 : Int), ((uvd (l.drop i) i acc).2.1 : Int), ((uvd (l.drop i) i acc).2.2 : Int)) := by
  intro d
  induction d with
  | zero =>
    intro i acc hi _ _
    have hd : l.drop i = [] := by rw [List.drop_eq_nil_iff]; omega
    rw [hd]
    refine Ev.step (f := fun _ => some (0, 0, 10)) (fun k => ?_) (Ev.now _)
    simp only [codec_Uvarint.l0]
    rw [if_neg (by omega)]
  | succ d ih =>
    intro i acc hi h9 ha
    have hlt : i < l.length := by omega
    obtain ⟨c, hc⟩ : ∃ c, l[i] = c := ⟨_, rfl⟩
    have hcb := hb c (by rw [← hc]; exact List.getElem_mem hlt)
    have hrd : rd l (i : Int) = c := by simp [rd, List.getD_eq_getElem?_getD, hlt, hc]
    have hdrop : l.drop i = c :: l.drop (i + 1) := by rw [List.drop_eq_getElem_cons hlt, hc]
    rw [hdrop]
    have e7 : wrap64 (7 * (i : Int)) = ((7 * i : Nat) : Int) := by rw [w64 (by omega) (by omega)]; omega
    have e1 : wrap64 ((i : Int) + 1) = ((i + 1 : Nat) : Int) := by rw [w64 (by omega) (by omega)]; omega
    have hj : ∀ k, codec_Uvarint.l0 (k + 1) (acc : Int) l (l.length : Int) (i : Int) = codec_Uvarint.j1 k (acc : Int) (i : Int) c l (l.length : Int) (i : Int) (decide (i = 9 ∧ 1 < c)) := by
      intro k
      simp only [codec_Uvarint.l0]
      rw [if_pos (by omega), if_pos (by omega), if_pos (by omega), hrd]
      by_cases h : i = 9
      · rw [if_pos (by omega)]
        congr 1
        simp [h]
      · rw [if_neg (by omega)]
        congr 1
        simp [h]
    refine Ev.step hj ?_
    by_cases h91 : i = 9 ∧ 1 < c
    · simp only [uvd]
      rw [if_pos h91]
      refine Ev.step (f := fun _ => some (0, 0, 11)) (fun k => ?_) (Ev.now _)
      simp only [codec_Uvarint.j1]
      rw [if_pos (by simpa using h91)]
    · have hm : (c % 128).toNat * 2 ^ (7 * i) < 18446744073709551616 := by
        by_cases e9 : i = 9
        · subst e9
          have : (c % 128).toNat ≤ 1 := by omega
          have := Nat.mul_le_mul_right (2 ^ (7 * 9)) this
          have e63 : (2 : Nat) ^ (7 * 9) = 9223372036854775808 := by decide
          omega
        · have hp8 : 2 ^ (7 * i) ≤ 2 ^ 56 := Nat.pow_le_pow_right (by decide) (by omega)
          have : (c % 128).toNat ≤ 127 := by omega
          have := Nat.mul_le_mul this hp8
          have e56 : (2 : Nat) ^ 56 = 72057594037927936 := by decide
          omega
      have hval : Go.bits .or .u64 (acc : Int) (shl .u64 (IntKind.u64.wrap (Go.bits .and .u8 c 127)) (wrap64 (7 * (i : Int)))) = ((acc + (c % 128).toNat * 2 ^ (7 * i) : Nat) : Int) := by
        rw [and127 c hcb.1 hcb.2, wU64 (by omega) (by omega), e7, show c % 128 = (((c % 128).toNat : Nat) : Int) by omega, shl64 _ _ (by omega) hm, join7 _ _ _ ha hm (by omega)]
        simp
      have hjj : ∀ k, codec_Uvarint.j1 (k + 1) (acc : Int) (i : Int) c l (l.length : Int) (i : Int) (decide (i = 9 ∧ 1 < c)) = if c < 128 then some (((acc + (c % 128).toNat * 2 ^ (7 * i) : Nat) : Int), ((i + 1 : Nat) : Int), 0) else codec_Uvarint.l0 k ((acc + (c % 128).toNat * 2 ^ (7 * i) : Nat) : Int) l (l.length : Int) ((i + 1 : Nat) : Int) := by
        intro k
        simp only [codec_Uvarint.j1]
        rw [if_neg (by simpa using h91), hval, if_pos (by rw [e7]; omega), e1]
      simp only [uvd]
      rw [if_neg h91]
      by_cases h128 : c < 128
      · rw [if_pos h128]
        refine Ev.step (f := fun _ => some (((acc + (c % 128).toNat * 2 ^ (7 * i) : Nat) : Int), ((i + 1 : Nat) : Int), 0)) (fun k => ?_) (Ev.now _)
        rw [hjj k, if_pos h128]
      · rw [if_neg h128]
        have h8 : i ≤ 8 := by omega
        have ha2 : acc + (c % 128).toNat * 2 ^ (7 * i) < 2 ^ (7 * (i + 1)) := by
          rw [pow7]
          have : (c % 128).toNat ≤ 127 := by omega
          have := Nat.mul_le_mul_right (2 ^ (7 * i)) this
          omega
        refine Ev.step (fun k => ?_) (ih (i + 1) _ (by omega) (by omega) ha2)
        rw [hjj k, if_neg h128]
theorem Uvarint_ev (l : List Int) (hb : IsB l) : Ev (fun k => codec_Uvarint.f k l) (((uvd l 0 0).1 : Int), ((uvd l 0 0).2.1 : Int), ((uvd l 0 0).2.2 : Int)) :=
  Uvarint_l0 l hb l.length 0 0 (by omega) (by omega) (by decide)

/-! ### Texts -/
/-- What bytes that begin with a text tell: the text's bytes, how many were read, the error. -/
def txd (l : List Int) : List Int × Nat × Nat :=
  if (uvd l 0 0).2.2 = 0 then (if (uvd l 0 0).1 > l.length - (uvd l 0 0).2.1 then ([], 0, 10) else ((l.drop (uvd l 0 0).2.1).take (uvd l 0 0).1, (uvd l 0 0).2.1 + (uvd l 0 0).1, 0)) else ([], 0, (uvd l 0 0).2.2)
theorem Text_ev (l : List Int) (hb : IsB l) (hl : l.length ≤ 140737488355328) : Ev (fun k => codec_Text.f k l) (strOfNums (txd l).1, ((txd l).2.1 : Int), ((txd l).2.2 : Int)) := by
  have hu := Uvarint_ev l hb
  obtain ⟨n, hn⟩ : ∃ n, (uvd l 0 0).1 = n := ⟨_, rfl⟩
  obtain ⟨m, hm⟩ : ∃ m, (uvd l 0 0).2.1 = m := ⟨_, rfl⟩
  obtain ⟨e, he⟩ : ∃ e, (uvd l 0 0).2.2 = e := ⟨_, rfl⟩
  unfold txd
  rw [hn, hm, he] at hu ⊢
  refine Ev.bind hu ?_
  by_cases h0 : e = 0
  · subst h0
    have hok := uvd_ok l 0 0 n m hb (by omega) (by decide) (by rw [← hn, ← hm]; exact Prod.ext rfl (Prod.ext rfl he))
    rw [if_pos rfl]
    have e1 : IntKind.u64.wrap (wrap64 ((l.length : Int) - (m : Int))) = ((l.length - m : Nat) : Int) := by rw [w64 (by omega) (by omega), wU64 (by omega) (by omega)]; omega
    by_cases hgt : n > l.length - m
    · rw [if_pos hgt]
      refine Ev.congr (f := fun _ => some (strOfNums [], ((0 : Nat) : Int), ((10 : Nat) : Int))) (fun k => ?_) (Ev.now _)
      simp only
      rw [if_pos (by rfl), e1, if_pos (by omega)]
      rfl
    · rw [if_neg hgt]
      have e2 : wrap64 ((m : Int) + wrap64 (n : Int)) = ((m + n : Nat) : Int) := by rw [w64 (n := (n : Int)) (by omega) (by omega), w64 (by omega) (by omega)]; omega
      refine Ev.congr (f := fun _ => some (strOfNums ((l.drop m).take n), ((m + n : Nat) : Int), ((0 : Nat) : Int))) (fun k => ?_) (Ev.now _)
      simp only
      rw [if_pos (by rfl), e1, if_neg (by omega), if_pos (by omega), e2, if_pos (by omega), if_pos (by omega), Int.toNat_natCast, Int.toNat_natCast, List.drop_take]
      rw [show m + n - m = n by omega]
      rfl
  · rw [if_neg h0]
    refine Ev.congr (f := fun _ => some (strOfNums [], ((0 : Nat) : Int), (e : Int))) (fun k => ?_) (Ev.now _)
    simp only
    rw [if_neg (by omega)]
    rfl
theorem PutText_ev (l : List Int) (s : ByteArray) (hl : l.length + 10 + s.size < 140737488355328) : Ev (fun k => codec_PutText.f k l s) (l ++ tx (bytesOf s)) := by
  have h := PutUvarint_ev s.size l (by omega) (by omega)
  have h10 := uv_len64 (n := s.size) (by omega)
  unfold codec_PutText.f
  rw [wU64 (by omega) (by omega)]
  refine Ev.bind h ?_
  rw [if_pos (by rw [List.length_append]; omega)]
  unfold tx
  rw [bytesOf_length, List.append_assoc]
  exact Ev.now _
theorem txd_tx (b more : List Int) (hb : b.length < 18446744073709551616) : txd (tx b ++ more) = (b, (tx b).length, 0) := by
  have h := uvd_uv (b ++ more) b.length 0 0 (by omega) (by simpa using hb)
  unfold txd tx
  rw [List.append_assoc, h]
  simp only [Nat.mul_zero, Nat.pow_zero, Nat.mul_one, Nat.zero_add]
  rw [if_pos trivial, if_neg (by simp only [List.length_append]; omega), List.drop_left' rfl, List.take_left' rfl, List.length_append]
theorem tx_IsB {b : List Int} (h : IsB b) : IsB (tx b) := (uv_IsB _).append h
end Go.Proofs.Ythkkbgehmiobaaa.Q
namespace Go.Proofs.Ythkkbgehmiobaaa.Q
open Go.RowKit Go.Proofs.YthkkbgehmiobaaaW.PrintWords Go.Proofs.YthkkbgehmiobaaaW.PrintLast Go.Proofs.YthkkbgehmiobaaaW.PrintMore Go.Proofs.Ythkkbgehmiobaaa.P Go.Proofs.Ythkkbgehmiobaaa.M

theorem shr64 (n i : Nat) (hi : i < 8) : (shr .u64 (n : Int) (((8 * i : Nat) : Int))) % 256 = ((n / 256 ^ i % 256 : Nat) : Int) := by
  unfold shr
  rw [Int.toNat_natCast, Nat.min_eq_left (show 8 * i ≤ IntKind.u64.bits from (show 8 * i ≤ 64 by omega))]
  have e : (2 : Int) ^ (8 * i) = ((256 ^ i : Nat) : Int) := by
    rw [show (256 : Nat) = 2 ^ 8 from rfl, ← Nat.pow_mul]
    simp
  rw [e]
  omega
theorem PutFixed_l0 (n : Nat) (s : Nat) (hs : s ≤ 8) : ∀ (d i : Nat) (acc : List Int), i + d = s → acc.length + d ≤ 140737488355328 → Ev (fun k => codec_PutFixed.l0 k (n : Int) (s : Int) acc (i : Int)) (acc ++ fx d (n / 256 ^ i))
  | 0, i, acc, hi, _ => by
    refine Ev.step (f := fun _ => some (acc ++ fx 0 (n / 256 ^ i))) (fun k => ?_) (Ev.now _)
    simp only [codec_PutFixed.l0]
    rw [if_neg (by omega), fx, List.append_nil]
  | d + 1, i, acc, hi, hl => by
    have ih := PutFixed_l0 n s hs d (i + 1) (acc ++ [((n / 256 ^ i % 256 : Nat) : Int)]) (by omega) (by simp; omega)
    rw [List.append_assoc, Nat.pow_succ, ← Nat.div_div_eq_div_mul] at ih
    refine Ev.step (fun k => ?_) ih
    simp only [codec_PutFixed.l0]
    have e8 : wrap64 (8 * (i : Int)) = ((8 * i : Nat) : Int) := by rw [w64 (by omega) (by omega)]; omega
    have e1 : wrap64 ((i : Int) + 1) = ((i + 1 : Nat) : Int) := by rw [w64 (by omega) (by omega)]; omega
    rw [if_pos (by omega), e8, if_pos (by omega), if_pos (by omega), shr64 n i (by omega), e1]
theorem PutFixed_ev (n s : Nat) (l : List Int) (hs : s ≤ 8) (hl : l.length + 8 < 140737488355328) : Ev (fun k => codec_PutFixed.f k l (n : Int) (s : Int)) (l ++ fx s n) := by
  have h := PutFixed_l0 n s hs s 0 l (by omega) (by omega)
  rw [Nat.pow_zero, Nat.div_one] at h
  refine Ev.congr (fun k => ?_) h
  unfold codec_PutFixed.f
  rw [Clone_eq (by omega), Option.bind_some, if_neg (by omega)]
  rfl
theorem pow256 (i : Nat) : (2 : Nat) ^ (8 * i) = 256 ^ i := by rw [Nat.pow_mul]
theorem Fixed_l0 (l : List Int) (hb : IsB l) (s : Nat) (hs : s ≤ 8) (hl : s ≤ l.length) : ∀ (d i acc : Nat), i + d = s → acc < 256 ^ i →
    Ev (fun k => codec_Fixed.l0 k l (acc : Int) (s : Int) (i : Int)) (((acc + 256 ^ i * fxd ((l.drop i).take d) : Nat) : Int), 0)
  | 0, i, acc, hi, _ => by
    refine Ev.step (f := fun _ => some ((acc : Int), 0)) (fun k => ?_) ?_
    · simp only [codec_Fixed.l0]
      rw [if_neg (by omega)]
    · rw [List.take_zero, fxd, Nat.mul_zero, Nat.add_zero]
      exact Ev.now _
  | d + 1, i, acc, hi, ha => by
    have hlt : i < l.length := by omega
    obtain ⟨c, hc⟩ : ∃ c, l[i] = c := ⟨_, rfl⟩
    have hcb := hb c (by rw [← hc]; exact List.getElem_mem hlt)
    have hrd : rd l (i : Int) = c := by simp [rd, List.getD_eq_getElem?_getD, hlt, hc]
    have hdrop : l.drop i = c :: l.drop (i + 1) := by rw [List.drop_eq_getElem_cons hlt, hc]
    obtain ⟨m, rfl⟩ := Int.eq_ofNat_of_zero_le hcb.1
    have hm : m < 256 := by omega
    have ha2 : acc + m * 256 ^ i < 256 ^ (i + 1) := by
      rw [Nat.pow_succ]
      have := Nat.mul_le_mul_right (256 ^ i) (show m ≤ 255 by omega)
      omega
    have h64 : m * 256 ^ i < 18446744073709551616 := by
      have h7 : 256 ^ i ≤ 256 ^ 7 := Nat.pow_le_pow_right (by decide) (by omega)
      have := Nat.mul_le_mul (show m ≤ 255 by omega) h7
      have e7 : (256 : Nat) ^ 7 = 72057594037927936 := by decide
      omega
    have h64' : m * 2 ^ (8 * i) < 18446744073709551616 := (congrArg (fun x => m * x < 18446744073709551616) (pow256 i)).mpr h64
    have ha' : acc < 2 ^ (8 * i) := (congrArg (fun x => acc < x) (pow256 i)).mpr ha
    have ih := Fixed_l0 l hb s hs hl d (i + 1) (acc + m * 256 ^ i) (by omega) ha2
    have i64 : 8 * i ≤ 64 := by omega
    have i63 : 8 * i ≤ 63 := by omega
    have c1 : (i : Int) < (s : Int) := by omega
    have c2 : (0 : Int) ≤ (i : Int) := by omega
    have c3 : (i : Int) < (l.length : Int) := by omega
    have c4 : (0 : Int) ≤ ((8 * i : Nat) : Int) := by omega
    have w1 : IntKind.u64.wrap (m : Int) = (m : Int) := wU64 (by omega) (by omega)
    have e8 : wrap64 (8 * (i : Int)) = ((8 * i : Nat) : Int) := by rw [w64 (by omega) (by omega)]; omega
    have e1 : wrap64 ((i : Int) + 1) = ((i + 1 : Nat) : Int) := by clear e8; rw [w64 (by omega) (by omega)]; omega
    have hv : Go.bits .or .u64 (acc : Int) (shl .u64 (IntKind.u64.wrap (m : Int)) (wrap64 (8 * (i : Int)))) = ((acc + m * 256 ^ i : Nat) : Int) := by
      rw [w1, e8, shl64 m (8 * i) i64 h64', join7 acc m (8 * i) ha' h64' i63, pow256]
    have hr : acc + 256 ^ i * fxd ((l.drop i).take (d + 1)) = acc + m * 256 ^ i + 256 ^ (i + 1) * fxd ((l.drop (i + 1)).take d) := by
      rw [hdrop, List.take_succ_cons, fxd, Int.toNat_natCast, Nat.mul_add, Nat.pow_succ, Nat.mul_comm m, Nat.mul_assoc, Nat.add_assoc]
    rw [hr]
    refine Ev.step (fun k => ?_) ih
    simp only [codec_Fixed.l0]
    rw [if_pos c1, if_pos c2, if_pos c3, if_pos (by rw [e8]; exact c4), hrd, hv, e1]
/-- What bytes that begin with a number of so many bytes tell. -/
theorem Fixed_ev (l : List Int) (hb : IsB l) (s : Nat) (h1 : 1 ≤ s) (hs : s ≤ 8) : Ev (fun k => codec_Fixed.f k l (s : Int)) (if l.length < s then (0, 10) else ((fxd (l.take s) : Int), 0)) := by
  have hj : ∀ k, codec_Fixed.f k l (s : Int) = codec_Fixed.j0 k l (s : Int) false := by
    intro k
    unfold codec_Fixed.f
    rw [if_neg (by omega)]
    congr 1
    simp
    omega
  refine Ev.congr hj ?_
  by_cases hlt : l.length < s
  · rw [if_pos hlt]
    refine Ev.step (f := fun _ => some (0, 10)) (fun k => ?_) (Ev.now _)
    simp only [codec_Fixed.j0]
    rw [if_neg (by decide), if_pos (by omega)]
  · rw [if_neg hlt]
    have h := Fixed_l0 l hb s hs (by omega) s 0 0 (by omega) (by decide)
    rw [Nat.pow_zero, Nat.one_mul, Nat.zero_add, List.drop_zero] at h
    refine Ev.step (fun k => ?_) h
    simp only [codec_Fixed.j0]
    rw [if_neg (by decide), if_neg (by omega)]
    rfl
end Go.Proofs.Ythkkbgehmiobaaa.Q
namespace Go.Proofs.Ythkkbgehmiobaaa.Q
open Go.RowKit Go.Proofs.YthkkbgehmiobaaaW.PrintWords Go.Proofs.YthkkbgehmiobaaaW.PrintLast Go.Proofs.YthkkbgehmiobaaaW.PrintMore Go.Proofs.Ythkkbgehmiobaaa.P Go.Proofs.Ythkkbgehmiobaaa.M

def chk (s : ByteArray) (q d : Int) : Int := if (s.size : Int) > 64 then 21 else if q > 72057594037927935 then 22 else if d = 0 then 0 else if d = 1 then 0 else 23
theorem Check_eq (s : ByteArray) (q d : Int) : ikey_Check.f s q d = some (chk s q d) := by
  unfold ikey_Check.f chk
  split
  · rfl
  · split
    · rfl
    · split
      · rfl
      · split <;> rfl
theorem chk_zero {s : ByteArray} {q d : Int} (h : chk s q d = 0) : s.size ≤ 64 ∧ q ≤ 72057594037927935 ∧ (d = 0 ∨ d = 1) := by
  unfold chk at h
  split at h
  · omega
  · split at h
    · omega
    · split at h
      · exact ⟨by omega, by omega, .inl (by assumption)⟩
      · split at h
        · exact ⟨by omega, by omega, .inr (by assumption)⟩
        · omega
/-- A key's bytes. -/
def enc (s : ByteArray) (q d : Int) : List Int × Int := if chk s q d = 0 then (bytesOf s ++ fx 8 (q.toNat * 256 + d.toNat), 0) else ([], chk s q d)
theorem or_kind (q d : Int) (q0 : 0 ≤ q) (q1 : q ≤ 72057594037927935) (hd : d = 0 ∨ d = 1) : Go.bits .or .u64 (IntKind.u64.wrap (q * 256)) (IntKind.u64.wrap d) = ((q.toNat * 256 + d.toNat : Nat) : Int) := by
  rw [wU64 (n := q * 256) (by omega) (by omega), wU64 (n := d) (by omega) (by omega), or_add64 _ _ 8 (by omega) (by omega) (by omega) (by omega) (by omega) (by omega)]
  omega
theorem Encode_ev (s : ByteArray) (q d : Int) (q0 : 0 ≤ q) : Ev (fun k => ikey_Encode.f k s q d) (enc s q d) := by
  unfold enc
  by_cases h : chk s q d = 0
  · rw [if_pos h]
    obtain ⟨h1, h2, h3⟩ := chk_zero h
    have hp := PutFixed_ev (q.toNat * 256 + d.toNat) 8 (bytesOf s) (by omega) (by rw [bytesOf_length]; omega)
    refine Ev.congr (f := fun k => (codec_PutFixed.f k (bytesOf s) ((q.toNat * 256 + d.toNat : Nat) : Int) ((8 : Nat) : Int)).bind fun t112 => some (t112, 0)) (fun k => ?_) (Ev.bind hp (Ev.now _))
    unfold ikey_Encode.f
    rw [Check_eq, Option.bind_some, if_pos h, if_pos (by omega), or_kind q d q0 h2 h3]
    rfl
  · rw [if_neg h]
    refine Ev.congr (f := fun _ => some ([], chk s q d)) (fun k => ?_) (Ev.now _)
    unfold ikey_Encode.f
    rw [Check_eq, Option.bind_some, if_neg h]
/-! ### Reading -/
def dec (l : List Int) : ByteArray × Int × Int × Int :=
  if l.length < 8 ∨ 72 < l.length ∨ 1 < fxd (l.drop (l.length - 8)) % 256 then ((⟨#[]⟩ : ByteArray), 0, 0, 20)
  else (strOfNums (l.take (l.length - 8)), ((fxd (l.drop (l.length - 8)) / 256 : Nat) : Int), ((fxd (l.drop (l.length - 8)) % 256 : Nat) : Int), 0)
theorem fxd_head (l : List Int) (h : IsB l) (h8 : 8 ≤ l.length) : rd l ((l.length - 8 : Nat) : Int) = ((fxd (l.drop (l.length - 8)) % 256 : Nat) : Int) := by
  have hlt : l.length - 8 < l.length := by omega
  rw [List.drop_eq_getElem_cons hlt]
  have hb := h _ (List.getElem_mem hlt)
  have e : rd l ((l.length - 8 : Nat) : Int) = l[l.length - 8] := by
    unfold rd
    rw [Int.toNat_natCast, List.getD_eq_getElem?_getD, List.getElem?_eq_getElem hlt]
    rfl
  rw [e, fxd]
  omega
theorem fxd8 (l : List Int) (h : IsB l) (h8 : 8 ≤ l.length) : fxd (l.drop (l.length - 8)) < 18446744073709551616 := by
  have := fxd_lt _ (h.drop (l.length - 8))
  rw [List.length_drop, show l.length - (l.length - 8) = 8 by omega] at this
  exact Nat.lt_of_lt_of_le this (by decide)
theorem wlen (l : List Int) (hl : l.length ≤ 140737488351232) (h8 : 8 ≤ l.length) : wrap64 ((l.length : Int) - 8) = ((l.length - 8 : Nat) : Int) := by
  rw [w64 (by omega) (by omega)]
  omega
theorem and255 (n : Nat) (h : n < 18446744073709551616) : Go.bits .and .u64 (n : Int) 255 = ((n % 256 : Nat) : Int) := by
  have h2 : Go.bits .and .u64 (n : Int) (2 ^ 8 - 1) = (n : Int) % 2 ^ 8 := bits_mask .u64 64 (by decide) (fun n h0 h1 => by rw [wrapU64]; omega) 8 (by decide) (n : Int) (by omega) (by omega)
  have h3 : ((2 : Int) ^ 8 - 1) = 255 := by decide
  rw [h3] at h2
  rw [h2]
  omega
theorem Decode_ev (l : List Int) (hb : IsB l) (hl : l.length ≤ 140737488351232) : Ev (fun k => ikey_Decode.f k l) (dec l) := by
  unfold dec
  by_cases h8 : l.length < 8
  · rw [if_pos (.inl h8)]
    refine Ev.congr (f := fun _ => some _) (fun k => ?_) (Ev.now _)
    unfold ikey_Decode.f
    rw [if_pos (by rw [w64 (by omega) (by omega)]; omega)]
  · have hw := wlen l hl (by omega)
    by_cases h72 : 72 < l.length
    · rw [if_pos (.inr (.inl h72))]
      refine Ev.congr (f := fun _ => some _) (fun k => ?_) (Ev.now _)
      unfold ikey_Decode.f
      rw [hw, if_neg (by omega), if_pos (by omega)]
    · have hr := fxd_head l hb (by omega)
      by_cases h1 : 1 < fxd (l.drop (l.length - 8)) % 256
      · rw [if_pos (.inr (.inr h1))]
        refine Ev.congr (f := fun _ => some _) (fun k => ?_) (Ev.now _)
        unfold ikey_Decode.f
        rw [hw, if_neg (by omega), if_neg (by omega), if_pos (by omega), if_pos (by omega), hr, if_pos (by omega)]
      · rw [if_neg (by omega)]
        have hf := Fixed_ev (l.drop (l.length - 8)) (hb.drop _) 8 (by omega) (by omega)
        have hlen : (l.drop (l.length - 8)).length = 8 := by rw [List.length_drop]; omega
        rw [if_neg (by omega), List.take_of_length_le (by omega)] at hf
        have hlt := fxd8 l hb (by omega)
        refine Ev.congr (f := fun k => (codec_Fixed.f k (l.drop (l.length - 8)) ((8 : Nat) : Int)).bind fun bt => some (strOfNums (l.take (l.length - 8)), bt.1 / 256, wrap64 (Go.bits .and .u64 bt.1 255), 0)) (fun k => ?_) (Ev.bind hf ?_)
        · unfold ikey_Decode.f
          rw [hw, if_neg (by omega), if_neg (by omega), if_pos (by omega), if_pos (by omega), hr, if_neg (by omega), if_pos (by omega), Int.toNat_natCast]
          rfl
        · simp only []
          rw [and255 _ hlt, w64 (by omega) (by omega)]
          exact Ev.now _
/-! ### Order -/
def kcmp (s1 : ByteArray) (q1 d1 : Int) (s2 : ByteArray) (q2 d2 : Int) : Int :=
  if Lib.compareBytes s1.data.toList s2.data.toList = 0 then (if ikey_cmp q2 q1 = 0 then ikey_cmp d2 d1 else ikey_cmp q2 q1) else Lib.compareBytes s1.data.toList s2.data.toList
theorem Compare_eq (s1 : ByteArray) (q1 d1 : Int) (s2 : ByteArray) (q2 d2 : Int) : ikey_Compare.f s1 q1 d1 s2 q2 d2 = some (kcmp s1 q1 d1 s2 q2 d2) := rfl
theorem icmp_spec (x y : Int) : (ikey_cmp x y = -1 ∧ x < y) ∨ (ikey_cmp x y = 1 ∧ y < x) ∨ (ikey_cmp x y = 0 ∧ x = y) := by
  unfold ikey_cmp
  split
  · exact .inl ⟨rfl, by assumption⟩
  · split
    · exact .inr (.inl ⟨rfl, by assumption⟩)
    · exact .inr (.inr ⟨rfl, by omega⟩)
end Go.Proofs.Ythkkbgehmiobaaa.Q
set_option linter.unusedVariables false
namespace Go.Proofs.Ythkkbgehmiobaaa.Q
open Go.RowKit Go.Proofs.Ythkkbgehmiobaaa.P Go.Proofs.YthkkbgehmiobaaaW.PrintWords Go.Proofs.YthkkbgehmiobaaaW.PrintMore Go.Proofs.Ythkkbgehmiobaaa.M
theorem dec_enc (s : ByteArray) (q d : Int) (q0 : 0 ≤ q) (h : chk s q d = 0) : dec (bytesOf s ++ fx 8 (q.toNat * 256 + d.toNat)) = (s, q, d, 0) := by
  obtain ⟨h1, h2, h3⟩ := chk_zero h
  have hlen : (bytesOf s ++ fx 8 (q.toNat * 256 + d.toNat)).length = s.size + 8 := by rw [List.length_append, bytesOf_length, fx_length]
  have e1 : (bytesOf s ++ fx 8 (q.toNat * 256 + d.toNat)).drop ((bytesOf s ++ fx 8 (q.toNat * 256 + d.toNat)).length - 8) = fx 8 (q.toNat * 256 + d.toNat) := by
    rw [hlen, show s.size + 8 - 8 = (bytesOf s).length by rw [bytesOf_length]; omega, List.drop_left]
  have e2 : (bytesOf s ++ fx 8 (q.toNat * 256 + d.toNat)).take ((bytesOf s ++ fx 8 (q.toNat * 256 + d.toNat)).length - 8) = bytesOf s := by
    rw [hlen, show s.size + 8 - 8 = (bytesOf s).length by rw [bytesOf_length]; omega, List.take_left]
  have e3 : fxd (fx 8 (q.toNat * 256 + d.toNat)) = q.toNat * 256 + d.toNat := by
    rw [fxd_fx]
    exact Nat.mod_eq_of_lt (Nat.lt_of_lt_of_le (show q.toNat * 256 + d.toNat < 18446744073709551616 by omega) (by decide))
  unfold dec
  rw [e1, e2, e3, hlen, if_neg (by omega), str_bytesOf]
  have e4 : (((q.toNat * 256 + d.toNat) / 256 : Nat) : Int) = q := by omega
  have e5 : (((q.toNat * 256 + d.toNat) % 256 : Nat) : Int) = d := by omega
  rw [e4, e5]
/-! ### Lines -/
theorem icmp_neg (x y : Int) : ikey_cmp y x = - ikey_cmp x y := by
  rcases icmp_spec x y with ⟨e, h⟩ | ⟨e, h⟩ | ⟨e, h⟩ <;> rcases icmp_spec y x with ⟨f, g⟩ | ⟨f, g⟩ | ⟨f, g⟩ <;> rw [e, f] <;> omega
theorem kcmp_neg (s1 : ByteArray) (q1 d1 : Int) (s2 : ByteArray) (q2 d2 : Int) : kcmp s2 q2 d2 s1 q1 d1 = - kcmp s1 q1 d1 s2 q2 d2 := by
  unfold kcmp
  rw [cmp_neg s1.data.toList s2.data.toList, icmp_neg q2 q1, icmp_neg d2 d1]
  by_cases h : Lib.compareBytes s1.data.toList s2.data.toList = 0
  · rw [if_pos h, if_pos (by omega)]
    by_cases h2 : ikey_cmp q2 q1 = 0
    · rw [if_pos h2, if_pos (by omega)]
    · rw [if_neg h2, if_neg (by omega)]
  · rw [if_neg h, if_neg (by omega)]
/-- A key is ahead. -/
def kless (s1 : ByteArray) (q1 d1 : Int) (s2 : ByteArray) (q2 d2 : Int) : Prop := Op.bytesLess s1.data.toList s2.data.toList = true ∨ s1 = s2 ∧ (q2 < q1 ∨ q1 = q2 ∧ d2 < d1)
end Go.Proofs.Ythkkbgehmiobaaa.Q
namespace Go.Proofs.Ythkkbgehmiobaaa.Q
open Go.RowKit Go.Proofs.YthkkbgehmiobaaaW.PrintWords Go.Proofs.YthkkbgehmiobaaaW.PrintLast Go.Proofs.YthkkbgehmiobaaaW.PrintMore Go.Proofs.Ythkkbgehmiobaaa.P Go.Proofs.Ythkkbgehmiobaaa.M
theorem ev_eq {α : Type} {f : Nat → Option α} {a b : α} (e : a = b) (h : Ev f a) : Ev f b := e ▸ h
/-- a level and a number -/
def pl (l n : Int) : Int := if l < 0 ∨ l ≥ 4 then 130 else if n < 1 ∨ n > 1099511627776 then 132 else 0
theorem pl_zero {l n : Int} (h : pl l n = 0) : (0 ≤ l ∧ l < 4) ∧ 1 ≤ n ∧ n ≤ 1099511627776 := by
  unfold pl at h
  split at h
  · exact absurd h (by decide)
  · split at h
    · exact absurd h (by decide)
    · omega
def plj (n : Int) (b : Bool) : Int := if b = true then 130 else if n < 1 ∨ n > 1099511627776 then 132 else 0
theorem pl_j (l n : Int) : pl l n = if l < 0 then plj n true else plj n (decide (l ≥ 4)) := by
  unfold pl plj
  by_cases h1 : l < 0
  · rw [if_pos (.inl h1), if_pos h1, if_pos rfl]
  · rw [if_neg h1]
    by_cases h2 : l ≥ 4
    · rw [if_pos (.inr h2), if_pos (decide_eq_true h2)]
    · rw [if_neg (show ¬ (l < 0 ∨ l ≥ 4) by omega), if_neg (show ¬ (decide (l ≥ 4) = true) by simp only [decide_eq_true_eq]; exact h2)]
theorem place_j (n : Int) (b : Bool) : Ev (fun k => edit_place.j0 k n b) (plj n b) := by
  refine Ev.step (fun k => edit_place.j0.eq_2 (k := k) ..) ?_
  unfold plj
  by_cases h : b = true
  · refine Ev.ifT h ?_; rw [if_pos h]; exact Ev.now _
  refine Ev.ifF h ?_
  rw [if_neg h]
  by_cases h1 : n < 1
  · refine Ev.ifT h1 ?_; rw [if_pos (.inl h1)]; exact Ev.now _
  refine Ev.ifF h1 ?_
  by_cases h2 : n > 1099511627776
  · refine Ev.ifT h2 ?_; rw [if_pos (.inr h2)]; exact Ev.now _
  · refine Ev.ifF h2 ?_; rw [if_neg (by omega)]; exact Ev.now _
theorem place_ev (l n : Int) : Ev (fun k => edit_place.f k l n) (pl l n) := by
  rw [pl_j]
  unfold edit_place.f
  by_cases h1 : l < 0
  · refine Ev.ifT h1 ?_
    rw [if_pos h1]; exact place_j ..
  · refine Ev.ifF h1 ?_
    rw [if_neg h1]; exact place_j ..
/-! ### a file -/
def kchk (x : S42) : Int := chk x.f0 x.f1 x.f2
def kcf (x y : S42) : Int := kcmp x.f0 x.f1 x.f2 y.f0 y.f1 y.f2
/-- the keys of a file -/
def fkk (x y : S42) : Int := if kchk x = 0 then (if kchk y = 0 then (if kcf x y > 0 then 132 else 0) else kchk y) else kchk x
def flj (x y : S42) (b : Bool) : Int := if b = true then 132 else fkk x y
def fl (f : S44) : Int := if pl f.f0 f.f1 = 0 then (if f.f2 < 1 then flj f.f3 f.f4 true else flj f.f3 f.f4 (decide (f.f2 > 2147483647))) else pl f.f0 f.f1
theorem fl_zero {f : S44} (h : fl f = 0) : pl f.f0 f.f1 = 0 ∧ (1 ≤ f.f2 ∧ f.f2 ≤ 2147483647) ∧ kchk f.f3 = 0 ∧ kchk f.f4 = 0 := by
  unfold fl at h
  split at h
  case isFalse h2 => exact absurd h h2
  rename_i hp
  refine ⟨hp, ?_⟩
  have key : ∀ b, flj f.f3 f.f4 b = 0 → b = false ∧ kchk f.f3 = 0 ∧ kchk f.f4 = 0 := by
    intro b hb
    unfold flj at hb
    split at hb
    · exact absurd hb (by decide)
    · rename_i hb2
      refine ⟨by simpa using hb2, ?_⟩
      unfold fkk at hb
      split at hb
      · rename_i h3
        refine ⟨h3, ?_⟩
        split at hb
        · assumption
        · exact hb
      · rename_i h3; exact absurd hb h3
  split at h
  · exact absurd (key _ h).1 (by decide)
  · rename_i h1
    have := key _ h
    have h2 : ¬ f.f2 > 2147483647 := by simpa using this.1
    exact ⟨by omega, this.2⟩
theorem file_j (a b c : Int) (x y : S42) (t : Bool) : Ev (fun k => edit_file.j0 k t a b c x.f0 x.f1 x.f2 y.f0 y.f1 y.f2) (flj x y t) := by
  refine Ev.step (fun k => edit_file.j0.eq_2 (k := k) ..) ?_
  unfold flj
  by_cases h : t = true
  · refine Ev.ifT h ?_; rw [if_pos h]; exact Ev.now _
  refine Ev.ifF h ?_
  rw [if_neg h]
  refine Ev.some_ ?_
  have e1 : wrap64 ((0 : Int) + 1) = 1 := by rw [w64 (by omega) (by omega)]; rfl
  have e2 : wrap64 ((1 : Int) + 1) = 2 := by rw [w64 (by omega) (by omega)]; rfl
  unfold fkk
  refine Ev.step (fun k => edit_file.l0.eq_2 (k := k) ..) (Ev.ifT (by simp) (Ev.ifT (by decide) (Ev.ifT (by simp) ?_)))
  refine Ev.bind (a := kchk x) (Ev.congr (f := fun _ => some (kchk x)) (fun k => Check_eq ..) (Ev.now _)) ?_
  by_cases hx : kchk x = 0
  case neg => refine Ev.ifF hx ?_; rw [if_neg hx]; exact Ev.now _
  refine Ev.ifT hx ?_
  rw [if_pos hx, e1]
  refine Ev.step (fun k => edit_file.l0.eq_2 (k := k) ..) (Ev.ifT (by simp) (Ev.ifT (by decide) (Ev.ifT (by simp) ?_)))
  refine Ev.bind (a := kchk y) (Ev.congr (f := fun _ => some (kchk y)) (fun k => Check_eq ..) (Ev.now _)) ?_
  by_cases hy : kchk y = 0
  case neg => refine Ev.ifF hy ?_; rw [if_neg hy]; exact Ev.now _
  refine Ev.ifT hy ?_
  rw [if_pos hy, e2]
  refine Ev.step (fun k => edit_file.l0.eq_2 (k := k) ..) (Ev.ifF (by simp) ?_)
  refine Ev.bind (a := kcf x y) (Ev.congr (f := fun _ => some (kcf x y)) (fun k => Compare_eq ..) (Ev.now _)) ?_
  by_cases hc : kcf x y > 0
  · refine Ev.ifT hc ?_; rw [if_pos hc]; exact Ev.now _
  · refine Ev.ifF hc ?_; rw [if_neg hc]; exact Ev.now _
theorem file_ev (f : S44) : Ev (fun k => edit_file.f k f.f0 f.f1 f.f2 f.f3.f0 f.f3.f1 f.f3.f2 f.f4.f0 f.f4.f1 f.f4.f2) (fl f) := by
  unfold edit_file.f
  refine Ev.bind (place_ev f.f0 f.f1) ?_
  unfold fl
  by_cases h : pl f.f0 f.f1 = 0
  · refine Ev.ifT h ?_
    rw [if_pos h]
    by_cases h1 : f.f2 < 1
    · refine Ev.ifT h1 ?_; rw [if_pos h1]; exact file_j ..
    · refine Ev.ifF h1 ?_; rw [if_neg h1]; exact file_j ..
  · refine Ev.ifF h ?_; rw [if_neg h]; exact Ev.now _
/-! ### an edit -/
def dl : List S40 → Int
  | [] => 0
  | d :: l => if pl d.f0 d.f1 = 0 then dl l else pl d.f0 d.f1
def fls : List S44 → Int
  | [] => 0
  | f :: l => if fl f = 0 then fls l else fl f
def eck2 (c : Int) (D : List S40) (L : List S44) (t : Bool) : Int := if t = true then 132 else if c > 72057594037927935 then 22 else if dl D = 0 then fls L else dl D
def eck1 (a b c : Int) (D : List S40) (L : List S44) (t : Bool) : Int := if t = true then 131 else if a > 1099511627776 then eck2 c D L true else eck2 c D L (decide (b > 1099511627776))
def eck (a b c : Int) (D : List S40) (L : List S44) : Int := if (D.length : Int) > 20000 then eck1 a b c D L true else eck1 a b c D L (decide ((L.length : Int) > 100))
theorem dl_all : ∀ {D : List S40}, dl D = 0 → ∀ d ∈ D, pl d.f0 d.f1 = 0
  | [], _, _, h => by cases h
  | d :: l, h, x, hx => by
    unfold dl at h
    split at h
    · rename_i h0
      rcases List.mem_cons.1 hx with rfl | hx
      · exact h0
      · exact dl_all h x hx
    · rename_i h0; exact absurd h h0
theorem dl_of : ∀ {D : List S40}, (∀ d ∈ D, pl d.f0 d.f1 = 0) → dl D = 0
  | [], _ => rfl
  | d :: l, h => by
    unfold dl
    rw [if_pos (h d (List.mem_cons_self ..))]
    exact dl_of (fun x hx => h x (List.mem_cons_of_mem _ hx))
theorem fls_all : ∀ {L : List S44}, fls L = 0 → ∀ f ∈ L, fl f = 0
  | [], _, _, h => by cases h
  | d :: l, h, x, hx => by
    unfold fls at h
    split at h
    · rename_i h0
      rcases List.mem_cons.1 hx with rfl | hx
      · exact h0
      · exact fls_all h x hx
    · rename_i h0; exact absurd h h0
theorem eck_zero {a b c : Int} {D : List S40} {L : List S44} (h : eck a b c D L = 0) : D.length ≤ 20000 ∧ L.length ≤ 100 ∧ a ≤ 1099511627776 ∧ b ≤ 1099511627776 ∧ c ≤ 72057594037927935 ∧ dl D = 0 ∧ fls L = 0 := by
  have k2 : ∀ t, eck2 c D L t = 0 → t = false ∧ c ≤ 72057594037927935 ∧ dl D = 0 ∧ fls L = 0 := by
    intro t ht
    unfold eck2 at ht
    split at ht
    · exact absurd ht (by decide)
    rename_i h1
    split at ht
    · exact absurd ht (by decide)
    rename_i h2
    split at ht
    · rename_i h3; exact ⟨by simpa using h1, by omega, h3, ht⟩
    · rename_i h3; exact absurd ht h3
  have k1 : ∀ t, eck1 a b c D L t = 0 → t = false ∧ a ≤ 1099511627776 ∧ b ≤ 1099511627776 ∧ c ≤ 72057594037927935 ∧ dl D = 0 ∧ fls L = 0 := by
    intro t ht
    unfold eck1 at ht
    split at ht
    · exact absurd ht (by decide)
    rename_i h1
    split at ht
    · exact absurd (k2 _ ht).1 (by decide)
    · rename_i h2
      have := k2 _ ht
      have hb : ¬ b > 1099511627776 := by simpa using this.1
      exact ⟨by simpa using h1, by omega, by omega, this.2⟩
  unfold eck at h
  split at h
  · exact absurd (k1 _ h).1 (by decide)
  · rename_i h1
    have := k1 _ h
    have hb : ¬ (L.length : Int) > 100 := by simpa using this.1
    exact ⟨by omega, by omega, this.2⟩
theorem w_succ (n : Nat) (h : n ≤ 1000000) : wrap64 ((n : Int) + 1) = ((n + 1 : Nat) : Int) := by rw [w64 (by omega) (by omega)]; rfl
theorem rd40_at (pre : List S40) (e : S40) (t : List S40) : rd_T40 (pre ++ e :: t) (pre.length : Int) = e := by
  simp only [rd_T40, Int.toNat_natCast]
  simp [List.getD]
theorem rd44_at (pre : List S44) (e : S44) (t : List S44) : rd_T44 (pre ++ e :: t) (pre.length : Int) = e := by
  simp only [rd_T44, Int.toNat_natCast]
  simp [List.getD]
theorem Check_l1 (L : List S44) (hL : L.length ≤ 100000) : ∀ (rest pre : List S44), L = pre ++ rest → Ev (fun k => edit_Check.l1 k L (L.length : Int) (pre.length : Int)) (fls rest)
  | [], pre, hp => by
    have hlen : L.length = pre.length := by rw [hp, List.append_nil]
    exact Ev.step (fun k => edit_Check.l1.eq_2 (k := k) ..) (Ev.ifF (by omega) (Ev.now _))
  | f :: t, pre, hp => by
    have hlt : pre.length < L.length := by rw [hp, List.length_append, List.length_cons]; omega
    have hrd : rd_T44 L (pre.length : Int) = f := by rw [hp, rd44_at]
    refine Ev.step (fun k => edit_Check.l1.eq_2 (k := k) ..) (Ev.ifT (by omega) (Ev.ifT (by omega) (Ev.ifT (by omega) ?_)))
    rw [hrd]
    refine Ev.bind (file_ev f) ?_
    have ih := Check_l1 L hL t (pre ++ [f]) (by rw [hp]; simp)
    rw [show (pre ++ [f]).length = pre.length + 1 by simp, ← w_succ pre.length (by omega)] at ih
    unfold fls
    by_cases h : fl f = 0
    · refine Ev.ifT h ?_; rw [if_pos h]; exact ih
    · refine Ev.ifF h ?_; rw [if_neg h]; exact Ev.now _
theorem Check_l0 (a b c : Int) (D : List S40) (L : List S44) (hD : D.length ≤ 100000) (hL : L.length ≤ 100000) : ∀ (rest pre : List S40), D = pre ++ rest → Ev (fun k => edit_Check.l0 k D (D.length : Int) (pre.length : Int) a b c D L) (if dl rest = 0 then fls L else dl rest)
  | [], pre, hp => by
    have hlen : D.length = pre.length := by rw [hp, List.append_nil]
    refine Ev.step (fun k => edit_Check.l0.eq_2 (k := k) ..) (Ev.ifF (by omega) ?_)
    exact Check_l1 L hL L [] rfl
  | f :: t, pre, hp => by
    have hlt : pre.length < D.length := by rw [hp, List.length_append, List.length_cons]; omega
    have hrd : rd_T40 D (pre.length : Int) = f := by rw [hp, rd40_at]
    refine Ev.step (fun k => edit_Check.l0.eq_2 (k := k) ..) (Ev.ifT (by omega) (Ev.ifT (by omega) (Ev.ifT (by omega) ?_)))
    rw [hrd]
    refine Ev.bind (place_ev f.f0 f.f1) ?_
    have ih := Check_l0 a b c D L hD hL t (pre ++ [f]) (by rw [hp]; simp)
    rw [show (pre ++ [f]).length = pre.length + 1 by simp, ← w_succ pre.length (by omega)] at ih
    have hdl : dl (f :: t) = if pl f.f0 f.f1 = 0 then dl t else pl f.f0 f.f1 := rfl
    rw [hdl]
    by_cases h : pl f.f0 f.f1 = 0
    · refine Ev.ifT h ?_; rw [if_pos h]; exact ih
    · refine Ev.ifF h ?_; rw [if_neg h, if_neg h]; exact Ev.now _
theorem Check_j1 (a b c : Int) (D : List S40) (L : List S44) (hD : D.length ≤ 100000) (hL : L.length ≤ 100000) (t : Bool) : Ev (fun k => edit_Check.j1 k t a b c D L) (eck2 c D L t) := by
  refine Ev.step (fun k => edit_Check.j1.eq_2 (k := k) ..) ?_
  unfold eck2
  by_cases h : t = true
  · refine Ev.ifT h ?_; rw [if_pos h]; exact Ev.now _
  refine Ev.ifF h ?_
  rw [if_neg h]
  by_cases h2 : c > 72057594037927935
  · refine Ev.ifT h2 ?_; rw [if_pos h2]; exact Ev.now _
  refine Ev.ifF h2 ?_
  rw [if_neg h2]
  exact Check_l0 a b c D L hD hL D [] rfl
theorem ECheck_ev (a b c : Int) (D : List S40) (L : List S44) : Ev (fun k => edit_Check.f k a b c D L) (eck a b c D L) := by
  have hj : ∀ t, (t = false → D.length ≤ 100000 ∧ L.length ≤ 100000) → Ev (fun k => edit_Check.j0 k t a b c D L) (eck1 a b c D L t) := by
    intro t ht
    refine Ev.step (fun k => edit_Check.j0.eq_2 (k := k) ..) ?_
    unfold eck1
    by_cases h : t = true
    · refine Ev.ifT h ?_; rw [if_pos h]; exact Ev.now _
    have hl := ht (by simpa using h)
    refine Ev.ifF h ?_
    rw [if_neg h]
    by_cases h2 : a > 1099511627776
    · refine Ev.ifT h2 ?_; rw [if_pos h2]; exact Check_j1 _ _ _ _ _ hl.1 hl.2 _
    · refine Ev.ifF h2 ?_; rw [if_neg h2]; exact Check_j1 _ _ _ _ _ hl.1 hl.2 _
  unfold edit_Check.f eck
  by_cases h : (D.length : Int) > 20000
  · refine Ev.ifT h ?_; rw [if_pos h]; exact hj _ (fun e => by cases e)
  · refine Ev.ifF h ?_; rw [if_neg h]
    refine hj _ (fun e => ?_)
    have hb : ¬ (L.length : Int) > 100 := by simpa using e
    omega
end Go.Proofs.Ythkkbgehmiobaaa.Q
namespace Go.Proofs.Ythkkbgehmiobaaa.Q
open Go.RowKit Go.Proofs.YthkkbgehmiobaaaW.PrintWords Go.Proofs.YthkkbgehmiobaaaW.PrintLast Go.Proofs.YthkkbgehmiobaaaW.PrintMore Go.Proofs.Ythkkbgehmiobaaa.P Go.Proofs.Ythkkbgehmiobaaa.M Go.Proofs.Ythkkbgehmiobaaa.E
def uvs : List Int → List Int
  | [] => []
  | n :: l => uv n.toNat ++ uvs l
/-- a key's bytes -/
def kb (x : S42) : List Int := bytesOf x.f0 ++ fx 8 (x.f1.toNat * 256 + x.f2.toNat)
def dbs : List S40 → List Int
  | [] => []
  | d :: l => uv d.f0.toNat ++ (uv d.f1.toNat ++ dbs l)
def fb (f : S44) : List Int := uv f.f0.toNat ++ (uv f.f1.toNat ++ (uv f.f2.toNat ++ (tx (kb f.f3) ++ tx (kb f.f4))))
def fbs : List S44 → List Int
  | [] => []
  | f :: l => fb f ++ fbs l
def lay (a b c : Int) (D : List S40) (L : List S44) : List Int := uv a.toNat ++ (uv b.toNat ++ (uv c.toNat ++ (uv D.length ++ (dbs D ++ (uv L.length ++ fbs L)))))
def eblt (a b c : Int) (D : List S40) (L : List S44) : List Int × Int := if eck a b c D L = 0 then (lay a b c D L, 0) else ([], eck a b c D L)
def KW (L : List S44) : Prop := ∀ f ∈ L, 0 ≤ f.f3.f1 ∧ 0 ≤ f.f4.f1
theorem KW.tail {f : S44} {L : List S44} (h : KW (f :: L)) : KW L := fun x hx => h x (List.mem_cons_of_mem _ hx)
theorem KW.head {f : S44} {L : List S44} (h : KW (f :: L)) : 0 ≤ f.f3.f1 ∧ 0 ≤ f.f4.f1 := h f (List.mem_cons_self ..)
theorem u_len {n : Int} (h0 : 0 ≤ n) (h1 : n < 18446744073709551616) : (uv n.toNat).length ≤ 10 := uv_len64 (by omega)
theorem put_u (n : Int) (h0 : 0 ≤ n) (h1 : n < 18446744073709551616) : Ev (fun k => codec_PutUvarint.f k [] n) (uv n.toNat) := by
  have h := PutUvarint_ev n.toNat [] (by omega) (by simp)
  rw [List.nil_append, Int.toNat_of_nonneg h0] at h
  exact h
theorem put_ev : ∀ (l out : List Int), (∀ n ∈ l, 0 ≤ n ∧ n < 18446744073709551616) → out.length + 10 * l.length < 140737488355328 → Ev (fun k => put_f k l out) (out ++ uvs l)
  | [], out, _, _ => by rw [uvs, List.append_nil]; exact Ev.now _
  | n :: l, out, hn, hl => by
    have h1 := hn n (List.mem_cons_self ..)
    have h2 := u_len h1.1 h1.2
    rw [List.length_cons] at hl
    refine Ev.bind (put_u n h1.1 h1.2) (Ev.ifT (by omega) ?_)
    have ih := put_ev l (out ++ uv n.toNat) (fun x hx => hn x (List.mem_cons_of_mem _ hx)) (by rw [List.length_append]; omega)
    rw [List.append_assoc] at ih
    exact ih
theorem kb_IsB (x : S42) : IsB (kb x) := (IsB.bytesOf _).append (fx_IsB _ _)
theorem kb_len {x : S42} (h : kchk x = 0) : (kb x).length ≤ 72 := by
  have := (chk_zero h).1
  unfold kb
  rw [List.length_append, bytesOf_length, fx_length]
  omega
theorem tk_len {x : S42} (h : kchk x = 0) : (tx (kb x)).length ≤ 82 := by
  have h1 := kb_len h
  have h2 := uv_len64 (n := (kb x).length) (by omega)
  unfold tx
  rw [List.length_append]
  omega
theorem enc_kb {x : S42} (h : kchk x = 0) : enc x.f0 x.f1 x.f2 = (kb x, 0) := by
  unfold enc
  rw [if_pos (show chk x.f0 x.f1 x.f2 = 0 from h)]
  rfl
theorem key_ev (x : S42) (out : List Int) (h : kchk x = 0) (h0 : 0 ≤ x.f1) (hl : out.length + 82 < 140737488355328) : Ev (fun k => key_f k x out) (out ++ tx (kb x)) := by
  have hk := kb_len h
  have ht := tk_len h
  have hp := PutText_ev [] (strOfNums (kb x)) (by rw [str_size]; simp only [List.length_nil]; omega)
  rw [List.nil_append, bytesOf_str _ (kb_IsB x)] at hp
  have he := Encode_ev x.f0 x.f1 x.f2 h0
  rw [enc_kb h] at he
  unfold key_f
  exact Ev.bind he (Ev.bind hp (Ev.ifT (by omega) (Ev.now _)))
theorem wu (n : Int) (h0 : 0 ≤ n) (h1 : n < 18446744073709551616) : IntKind.u64.wrap n = n := wU64 h0 h1
theorem dels_ev : ∀ (l : List S40) (out : List Int), dl l = 0 → out.length + 20 * l.length < 100000000000 → Ev (fun k => dels_f k l out) (out ++ dbs l)
  | [], out, _, _ => by rw [dbs, List.append_nil]; exact Ev.now _
  | d :: l, out, hd, hl => by
    rw [List.length_cons] at hl
    have hp := pl_zero (dl_all hd d (List.mem_cons_self ..))
    have ht : dl l = 0 := dl_of (fun x hx => dl_all hd x (List.mem_cons_of_mem _ hx))
    have hu := put_ev [d.f0, d.f1] out (fun n hn => by simp only [List.mem_cons, List.not_mem_nil, or_false] at hn; rcases hn with rfl | rfl <;> omega) (by simp only [List.length_cons, List.length_nil]; omega)
    have l1 := u_len (n := d.f0) (by omega) (by omega)
    have l2 := u_len (n := d.f1) (by omega) (by omega)
    have e : out ++ uvs [d.f0, d.f1] = out ++ (uv d.f0.toNat ++ uv d.f1.toNat) := by simp [uvs]
    rw [e] at hu
    have ih := dels_ev l (out ++ (uv d.f0.toNat ++ uv d.f1.toNat)) ht (by rw [List.length_append, List.length_append]; omega)
    refine Ev.congr (f := fun k => (put_f k [d.f0, d.f1] out).bind fun o2 => dels_f k l o2) (fun k => ?_) (ev_eq ?_ (Ev.bind hu ih))
    · show (put_f k [IntKind.u64.wrap d.f0, d.f1] out).bind _ = _
      rw [wu d.f0 (by omega) (by omega)]
    · simp [dbs]
theorem fl_parts {f : S44} (h : fl f = 0) : (0 ≤ f.f0 ∧ f.f0 < 4) ∧ (1 ≤ f.f1 ∧ f.f1 ≤ 1099511627776) ∧ (1 ≤ f.f2 ∧ f.f2 ≤ 2147483647) ∧ kchk f.f3 = 0 ∧ kchk f.f4 = 0 := by
  have h1 := fl_zero h
  have h2 := pl_zero h1.1
  exact ⟨h2.1, ⟨h2.2.1, h2.2.2⟩, h1.2⟩
theorem fb_len {f : S44} (h : fl f = 0) : (fb f).length ≤ 194 := by
  have hp := fl_parts h
  have l1 := u_len (n := f.f0) (by omega) (by omega)
  have l2 := u_len (n := f.f1) (by omega) (by omega)
  have l3 := u_len (n := f.f2) (by omega) (by omega)
  have l4 := tk_len hp.2.2.2.1
  have l5 := tk_len hp.2.2.2.2
  unfold fb
  simp only [List.length_append]
  omega
theorem fls_tail {f : S44} {l : List S44} (h : fls (f :: l) = 0) : fl f = 0 ∧ fls l = 0 := by
  have h0 := fls_all h f (List.mem_cons_self ..)
  refine ⟨h0, ?_⟩
  unfold fls at h
  rw [if_pos h0] at h
  exact h
theorem adds_ev : ∀ (l : List S44) (out : List Int), fls l = 0 → KW l → out.length + 200 * l.length < 100000000000 → Ev (fun k => adds_f k l out) (out ++ fbs l)
  | [], out, _, _, _ => by rw [fbs, List.append_nil]; exact Ev.now _
  | f :: l, out, hf, hw, hl => by
    rw [List.length_cons] at hl
    have ht := fls_tail hf
    have hp := fl_parts ht.1
    have l1 := u_len (n := f.f0) (by omega) (by omega)
    have l2 := u_len (n := f.f1) (by omega) (by omega)
    have l3 := u_len (n := f.f2) (by omega) (by omega)
    have l4 := tk_len hp.2.2.2.1
    have l5 := tk_len hp.2.2.2.2
    have hu := put_ev [f.f0, f.f1, f.f2] out (fun n hn => by simp only [List.mem_cons, List.not_mem_nil, or_false] at hn; rcases hn with rfl | rfl | rfl <;> omega) (by simp only [List.length_cons, List.length_nil]; omega)
    have e : out ++ uvs [f.f0, f.f1, f.f2] = out ++ (uv f.f0.toNat ++ (uv f.f1.toNat ++ uv f.f2.toNat)) := by simp [uvs]
    rw [e] at hu
    have hs := key_ev f.f3 (out ++ (uv f.f0.toNat ++ (uv f.f1.toNat ++ uv f.f2.toNat))) hp.2.2.2.1 hw.head.1 (by simp only [List.length_append]; omega)
    have hg := key_ev f.f4 (out ++ (uv f.f0.toNat ++ (uv f.f1.toNat ++ uv f.f2.toNat)) ++ tx (kb f.f3)) hp.2.2.2.2 hw.head.2 (by simp only [List.length_append]; omega)
    have e2 : out ++ (uv f.f0.toNat ++ (uv f.f1.toNat ++ uv f.f2.toNat)) ++ tx (kb f.f3) ++ tx (kb f.f4) = out ++ fb f := by simp [fb]
    rw [e2] at hg
    have hfl := fb_len ht.1
    have ih := adds_ev l (out ++ fb f) ht.2 hw.tail (by rw [List.length_append]; omega)
    refine Ev.congr (f := fun k => (put_f k [f.f0, f.f1, f.f2] out).bind fun o2 => (key_f k f.f3 o2).bind fun o3 => (key_f k f.f4 o3).bind fun o4 => adds_f k l o4) (fun k => ?_) (ev_eq ?_ (Ev.bind hu (Ev.bind hs (Ev.bind hg ih))))
    · show (put_f k [IntKind.u64.wrap f.f0, f.f1, IntKind.u64.wrap f.f2] out).bind _ = _
      rw [wu f.f0 (by omega) (by omega), wu f.f2 (by omega) (by omega)]
    · simp [fbs]
theorem dbs_len : ∀ {l : List S40}, dl l = 0 → (dbs l).length ≤ 20 * l.length
  | [], _ => by simp [dbs]
  | d :: l, hd => by
    have hp := pl_zero (dl_all hd d (List.mem_cons_self ..))
    have ih := dbs_len (l := l) (dl_of (fun x hx => dl_all hd x (List.mem_cons_of_mem _ hx)))
    have l1 := u_len (n := d.f0) (by omega) (by omega)
    have l2 := u_len (n := d.f1) (by omega) (by omega)
    unfold dbs
    simp only [List.length_append, List.length_cons]
    omega
theorem Enc_ev (a b c : Int) (D : List S40) (L : List S44) (a0 : 0 ≤ a) (b0 : 0 ≤ b) (c0 : 0 ≤ c) (hw : KW L) : Ev (fun k => enc_f k a b c D L) (eblt a b c D L) := by
  unfold enc_f
  refine Ev.bind (ECheck_ev a b c D L) ?_
  unfold eblt
  by_cases h : eck a b c D L = 0
  case neg =>
    refine Ev.ifF h ?_
    rw [if_neg h]
    exact Ev.now _
  refine Ev.ifT h ?_
  rw [if_pos h]
  have hz := eck_zero h
  have h1 := u_len a0 (by omega)
  have h2 := u_len b0 (by omega)
  have h3 := u_len c0 (by omega)
  have h4 := uv_len64 (n := D.length) (by omega)
  have h5 := uv_len64 (n := L.length) (by omega)
  have h6 := dbs_len hz.2.2.2.2.2.1
  have eD : IntKind.u64.wrap (D.length : Int) = (D.length : Int) := wu _ (by omega) (by omega)
  have eL : IntKind.u64.wrap (L.length : Int) = (L.length : Int) := wu _ (by omega) (by omega)
  rw [eD, eL]
  have p1 := put_ev [a, b, c, (D.length : Int)] [] (fun n hn => by simp only [List.mem_cons, List.not_mem_nil, or_false] at hn; rcases hn with rfl | rfl | rfl | rfl <;> omega) (by simp)
  have e1 : [] ++ uvs [a, b, c, (D.length : Int)] = uv a.toNat ++ (uv b.toNat ++ (uv c.toNat ++ uv D.length)) := by simp [uvs]
  rw [e1] at p1
  have p2 := dels_ev D (uv a.toNat ++ (uv b.toNat ++ (uv c.toNat ++ uv D.length))) hz.2.2.2.2.2.1 (by simp only [List.length_append]; omega)
  have p3 := put_ev [(L.length : Int)] (uv a.toNat ++ (uv b.toNat ++ (uv c.toNat ++ uv D.length)) ++ dbs D) (fun n hn => by simp only [List.mem_cons, List.not_mem_nil, or_false] at hn; subst hn; omega) (by simp only [List.length_append, List.length_cons, List.length_nil]; omega)
  have e3 : uv a.toNat ++ (uv b.toNat ++ (uv c.toNat ++ uv D.length)) ++ dbs D ++ uvs [(L.length : Int)] = uv a.toNat ++ (uv b.toNat ++ (uv c.toNat ++ uv D.length)) ++ dbs D ++ uv L.length := by simp [uvs]
  rw [e3] at p3
  have p4 := adds_ev L (uv a.toNat ++ (uv b.toNat ++ (uv c.toNat ++ uv D.length)) ++ dbs D ++ uv L.length) hz.2.2.2.2.2.2 hw (by simp only [List.length_append]; omega)
  refine Ev.bind p1 (Ev.bind p2 (Ev.bind p3 (Ev.bind p4 (ev_eq ?_ (Ev.now _)))))
  simp [lay]
end Go.Proofs.Ythkkbgehmiobaaa.Q
namespace Go.Proofs.Ythkkbgehmiobaaa.Q
open Go.RowKit Go.Proofs.YthkkbgehmiobaaaW.PrintWords Go.Proofs.YthkkbgehmiobaaaW.PrintLast Go.Proofs.YthkkbgehmiobaaaW.PrintMore Go.Proofs.Ythkkbgehmiobaaa.P Go.Proofs.Ythkkbgehmiobaaa.M
theorem SameF_l0 (l : List S44) (hl : l.length ≤ 4611686018427387904) : ∀ (d i : Nat), i + d = l.length → Ev (fun k => staddleref13_SameFiles.l0 k l l (i : Int)) true
  | 0, i, h => Ev.step (fun k => staddleref13_SameFiles.l0.eq_2 (k := k) ..) (Ev.ifF (by omega) (Ev.now _))
  | d + 1, i, h => by
    refine Ev.step (fun k => staddleref13_SameFiles.l0.eq_2 (k := k) ..) (Ev.ifT (by omega) (Ev.ifT (by omega) (Ev.ifT (by omega) (Ev.ifF (by simp) ?_))))
    rw [w64 (by omega) (by omega)]
    exact SameF_l0 l hl d (i + 1) (by omega)
theorem Same_l0 (a b c : Int) (l : List S40) (L : List S44) (hl : l.length ≤ 4611686018427387904) : ∀ (d i : Nat), i + d = l.length → Ev (fun k => staddleref13_Same.l0 k (i : Int) a b c l L a b c l L) true
  | 0, i, h => Ev.step (fun k => staddleref13_Same.l0.eq_2 (k := k) ..) (Ev.ifF (by omega) (Ev.now _))
  | d + 1, i, h => by
    refine Ev.step (fun k => staddleref13_Same.l0.eq_2 (k := k) ..) (Ev.ifT (by omega) (Ev.ifT (by omega) (Ev.ifT (by omega) (Ev.ifF (by simp) ?_))))
    rw [w64 (by omega) (by omega)]
    exact Same_l0 a b c l L hl d (i + 1) (by omega)
theorem Same_ev (a b c : Int) (D : List S40) (L : List S44) (hD : D.length ≤ 4611686018427387904) (hL : L.length ≤ 4611686018427387904) : Ev (fun k => staddleref13_Same.f k a b c D L a b c D L) true := by
  unfold staddleref13_Same.f
  refine Ev.bind (a := true) ?_ ?_
  · unfold staddleref13_SameFiles.f
    exact Ev.ifT rfl (SameF_l0 L hL L.length 0 (by omega))
  · refine Ev.ifT rfl (Ev.ifT rfl (Ev.ifT rfl (Ev.ifT rfl ?_)))
    refine Ev.step (fun k => staddleref13_Same.j0.eq_2 (k := k) ..) (Ev.ifF (by simp) ?_)
    exact Same_l0 a b c D L hD D.length 0 (by omega)
theorem eblt_err (a b c : Int) (D : List S40) (L : List S44) : (eblt a b c D L).2 = eck a b c D L := by
  unfold eblt
  split
  · rename_i h; exact h.symm
  · rfl
end Go.Proofs.Ythkkbgehmiobaaa.Q
