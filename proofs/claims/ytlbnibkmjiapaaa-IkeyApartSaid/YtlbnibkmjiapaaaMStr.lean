/- Texts between two, behind one; the order of bytes: plain Lean, no program here. -/
import Derived.Test.YtlbnibkmjiapaaaMNum
import Derived.Lib.Bytealg
import Derived.Lib.Strings
import Derived.Lib.SmallJoins
import Derived.Laws.Strings
import Derived.WideShapes
namespace Go.Proofs.Ytlbnibkmjiapaaa.M
open Go.RowKit Go.Proofs.YtlbnibkmjiapaaaW.PrintWords Go.Proofs.YtlbnibkmjiapaaaW.PrintLast Go.Proofs.YtlbnibkmjiapaaaW.PrintMore

theorem ba_ext {a b : ByteArray} (h : a.data.toList = b.data.toList) : a = b := by
  obtain ⟨⟨a⟩⟩ := a
  obtain ⟨⟨b⟩⟩ := b
  cases h
  rfl
def S (l : List UInt8) : ByteArray := ⟨l.toArray⟩
theorem S_data (l : List UInt8) : (S l).data.toList = l := rfl
theorem S_toList (l : List UInt8) : (S l).toList = l := by rw [ByteArray.toList_eq, S_data]
theorem S_self (s : ByteArray) : S s.data.toList = s := ba_ext (S_data _)
theorem S_inj {a b : List UInt8} (h : S a = S b) : a = b := by rw [← S_data a, h, S_data]
theorem S_size (l : List UInt8) : (S l).size = l.length := rfl
theorem size_data (s : ByteArray) : s.size = s.data.toList.length := rfl
theorem bt_data (s : ByteArray) (i : Nat) (c : UInt8) (l : List UInt8) (h : s.data.toList.drop i = c :: l) : bt s (i : Int) = (c.toNat : Int) := by
  have hlt : i < s.data.toList.length := by
    rcases Nat.lt_or_ge i s.data.toList.length with h1 | h1
    · exact h1
    · rw [List.drop_eq_nil_of_le h1] at h; cases h
  have hg : s.data.toList[i] = c := by
    rw [List.drop_eq_getElem_cons hlt] at h
    exact (List.cons.inj h).1
  unfold bt
  rw [dif_pos (by rw [Int.toNat_natCast]; exact hlt)]
  rw [← hg]
  rfl
theorem cut_join (s : ByteArray) (i : Nat) (x : Int) : (s.extract 0 (i : Int).toNat) ++ strOfNums [x] = S (s.data.toList.take i ++ [UInt8.ofNat x.toNat]) := by
  apply ba_ext
  rw [S_data, Go.Joins.data_append, Lib.extract_data]
  simp [strOfNums]
theorem take_snoc {α : Type} {l : List α} {i : Nat} {c : α} {r : List α} (h : l.drop i = c :: r) : l.take i ++ [c] = l.take (i + 1) ∧ l.drop (i + 1) = r := by
  have hlt : i < l.length := by
    rcases Nat.lt_or_ge i l.length with h1 | h1
    · exact h1
    · rw [List.drop_eq_nil_of_le h1] at h; cases h
  rw [List.drop_eq_getElem_cons hlt] at h
  obtain ⟨e1, e2⟩ := List.cons.inj h
  exact ⟨by rw [← e1]; exact (List.take_succ_eq_append_getElem hlt).symm, e2⟩

/-- A short text that is not less than one, and less than another one. -/
def btw : List UInt8 → List UInt8 → List UInt8
  | a :: as, b :: bs => if a = b then a :: btw as bs else if a.toNat + 1 < b.toNat then [UInt8.ofNat (a.toNat + 1)] else a :: as
  | as, _ => as
theorem btw_nil_right (a : List UInt8) : btw a [] = a := by cases a <;> rfl
/-- A short text behind one. -/
def beh : List UInt8 → List UInt8
  | [] => []
  | a :: as => if a.toNat = 255 then a :: beh as else [UInt8.ofNat (a.toNat + 1)]

theorem u8_lt (a b : UInt8) : a < b ↔ a.toNat < b.toNat := UInt8.lt_iff_toNat_lt
theorem u8_of (n : Nat) (h : n < 256) : (UInt8.ofNat n).toNat = n := by simp [UInt8.toNat_ofNat, Nat.mod_eq_of_lt h]
/-! ### The order of bytes -/
theorem bl_irrefl : ∀ a, Op.bytesLess a a = false
  | [] => rfl
  | a :: as => by simp [Op.bytesLess, bl_irrefl as, u8_lt]
theorem bl_nil (a : List UInt8) : Op.bytesLess a [] = false := by cases a <;> rfl
theorem bl_cons (a b : UInt8) (x y : List UInt8) : Op.bytesLess (a :: x) (b :: y) = true ↔ a < b ∨ (a = b ∧ Op.bytesLess x y = true) := by
  simp [Op.bytesLess]
theorem cmp_spec : ∀ a b : List UInt8, (Lib.compareBytes a b = -1 ∧ Op.bytesLess a b = true ∧ Op.bytesLess b a = false ∧ a ≠ b) ∨ (Lib.compareBytes a b = 1 ∧ Op.bytesLess a b = false ∧ Op.bytesLess b a = true ∧ a ≠ b) ∨ (Lib.compareBytes a b = 0 ∧ Op.bytesLess a b = false ∧ Op.bytesLess b a = false ∧ a = b)
  | [], [] => .inr (.inr ⟨rfl, rfl, rfl, rfl⟩)
  | [], _ :: _ => .inl ⟨rfl, rfl, rfl, by simp⟩
  | _ :: _, [] => .inr (.inl ⟨rfl, rfl, rfl, by simp⟩)
  | a :: as, b :: bs => by
    have ih := cmp_spec as bs
    unfold Lib.compareBytes
    by_cases h1 : a < b
    · rw [if_pos h1]
      have h2 : ¬ b < a := fun h => by rw [u8_lt] at h h1; omega
      have h3 : a ≠ b := fun e => by subst e; rw [u8_lt] at h1; omega
      have h4 : b ≠ a := fun e => h3 e.symm
      exact .inl ⟨rfl, by simp [Op.bytesLess, h1], by simp [Op.bytesLess, h2, h4], by simp [h3]⟩
    · rw [if_neg h1]
      by_cases h2 : b < a
      · rw [if_pos h2]
        have h3 : a ≠ b := fun e => by subst e; rw [u8_lt] at h2; omega
        exact .inr (.inl ⟨rfl, by simp [Op.bytesLess, h1, h3], by simp [Op.bytesLess, h2], by simp [h3]⟩)
      · rw [if_neg h2]
        have h3 : a = b := UInt8.toNat_inj.1 (by rw [u8_lt] at h1 h2; omega)
        subst h3
        simpa [Op.bytesLess, h1] using ih
theorem cmp_neg (a b : List UInt8) : Lib.compareBytes b a = - Lib.compareBytes a b := by
  rcases cmp_spec a b with ⟨e, h1, h2, h3⟩ | ⟨e, h1, h2, h3⟩ | ⟨e, h1, h2, h3⟩ <;> rcases cmp_spec b a with ⟨f, g1, g2, g3⟩ | ⟨f, g1, g2, g3⟩ | ⟨f, g1, g2, g3⟩ <;> rw [e, f] <;> first | rfl | exact absurd g3.symm h3 | exact absurd h3.symm g3 | (rw [h1] at g2; exact absurd g2 (by decide)) | (rw [h2] at g1; exact absurd g1 (by decide)) | (rw [h1] at g2; exact absurd g2.symm (by decide))
theorem cmp_zero (a b : List UInt8) : Lib.compareBytes a b = 0 ↔ a = b := by
  rcases cmp_spec a b with ⟨e, h1, h2, h3⟩ | ⟨e, h1, h2, h3⟩ | ⟨e, h1, h2, h3⟩ <;> rw [e] <;> simp [h3]
theorem bl_trans : ∀ a b c : List UInt8, Op.bytesLess a b = true → Op.bytesLess b c = true → Op.bytesLess a c = true
  | a, [], c, h, _ => by rw [bl_nil] at h; cases h
  | a, b, [], _, k => by rw [bl_nil] at k; cases k
  | [], b :: bs, c :: cs, _, _ => rfl
  | a :: as, b :: bs, c :: cs, h, k => by
    rw [bl_cons] at h k ⊢
    rcases h with h | ⟨rfl, h⟩
    · rcases k with k | ⟨rfl, _⟩
      · exact .inl (by rw [u8_lt] at h k ⊢; omega)
      · exact .inl h
    · rcases k with k | ⟨rfl, k⟩
      · exact .inl k
      · exact .inr ⟨rfl, bl_trans _ _ _ h k⟩
/-! ### Short texts -/
theorem btw_len : ∀ a b : List UInt8, (btw a b).length ≤ a.length
  | [], _ => by simp [btw]
  | _ :: _, [] => by simp [btw]
  | a :: as, b :: bs => by
    unfold btw
    have := btw_len as bs
    split
    · simp; exact this
    · split <;> simp
theorem beh_len : ∀ a : List UInt8, (beh a).length ≤ a.length
  | [] => by simp [beh]
  | a :: as => by
    unfold beh
    have := beh_len as
    split <;> simp
    exact this
theorem beh_not_less : ∀ a : List UInt8, Op.bytesLess (beh a) a = false
  | [] => rfl
  | a :: as => by
    unfold beh
    have := beh_not_less as
    split
    · simp [Op.bytesLess, this, u8_lt]
    · have h : (UInt8.ofNat (a.toNat + 1)).toNat = a.toNat + 1 := u8_of _ (by have := a.toNat_lt; omega)
      generalize UInt8.ofNat (a.toNat + 1) = q at h ⊢
      have h1 : ¬ q < a := by rw [u8_lt, h]; omega
      have h2 : q ≠ a := fun e => by rw [e] at h; omega
      simp [Op.bytesLess, h1, h2]
theorem btw_not_less : ∀ a b : List UInt8, Op.bytesLess (btw a b) a = false
  | [], _ => by simp [btw, Op.bytesLess]
  | a :: as, [] => by rw [btw_nil_right]; exact bl_irrefl _
  | a :: as, b :: bs => by
    unfold btw
    have := btw_not_less as bs
    split
    · simp [Op.bytesLess, this, u8_lt]
    · split
      · have hb := b.toNat_lt
        have h : (UInt8.ofNat (a.toNat + 1)).toNat = a.toNat + 1 := u8_of _ (by omega)
        generalize UInt8.ofNat (a.toNat + 1) = q at h ⊢
        have h1 : ¬ q < a := by rw [u8_lt, h]; omega
        have h2 : q ≠ a := fun e => by rw [e] at h; omega
        simp [Op.bytesLess, h1, h2]
      · exact bl_irrefl _
theorem btw_less : ∀ a b : List UInt8, Op.bytesLess a b = true → Op.bytesLess (btw a b) b = true
  | a, [], h => by rw [bl_nil] at h; cases h
  | [], b :: bs, _ => rfl
  | a :: as, b :: bs, h => by
    have h' := h
    rw [bl_cons] at h
    unfold btw
    rcases h with h | ⟨rfl, h⟩
    · have h3 : a ≠ b := fun e => by subst e; rw [u8_lt] at h; omega
      rw [if_neg h3]
      split
      · have hb := b.toNat_lt
        rename_i hlt
        rw [bl_cons]
        exact .inl (by rw [u8_lt, u8_of _ (by omega)]; exact hlt)
      · exact h'
    · rw [if_pos rfl, bl_cons]
      exact .inr ⟨rfl, btw_less _ _ h⟩
theorem btw_self : ∀ a b : List UInt8, Op.bytesLess a b = false → btw a b = a
  | [], _, _ => by simp [btw]
  | a :: as, [], _ => btw_nil_right _
  | a :: as, b :: bs, h => by
    have h1 : ¬ (a < b ∨ (a = b ∧ Op.bytesLess as bs = true)) := by rw [← bl_cons, h]; decide
    unfold btw
    split
    · rename_i e
      have : Op.bytesLess as bs = false := by
        cases hq : Op.bytesLess as bs
        · rfl
        · exact absurd (.inr ⟨e, hq⟩) h1
      rw [btw_self as bs this]
    · rw [if_neg]
      intro hlt
      exact h1 (.inl (by rw [u8_lt]; omega))
end Go.Proofs.Ytlbnibkmjiapaaa.M
