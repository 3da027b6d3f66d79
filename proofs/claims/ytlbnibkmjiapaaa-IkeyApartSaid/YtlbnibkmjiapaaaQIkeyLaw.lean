/- Keys there and back, and their order's laws, over what QIkey says. -/
import Derived.Test.YtlbnibkmjiapaaaQAwake02
import Derived.Test.YtlbnibkmjiapaaaQIkey
set_option linter.unusedVariables false
namespace Go.Proofs.Ytlbnibkmjiapaaa.Q
open Go.RowKit Go.Proofs.Ytlbnibkmjiapaaa.P Go.Proofs.YtlbnibkmjiapaaaW.PrintWords Go.Proofs.YtlbnibkmjiapaaaW.PrintMore Go.Proofs.Ytlbnibkmjiapaaa.M
theorem dec_ok {l : List Int} (hb : IsB l) (h : (dec l).2.2.2 = 0) : 8 ≤ l.length ∧ l.length ≤ 72 ∧ fxd (l.drop (l.length - 8)) % 256 ≤ 1 ∧ dec l = (strOfNums (l.take (l.length - 8)), ((fxd (l.drop (l.length - 8)) / 256 : Nat) : Int), ((fxd (l.drop (l.length - 8)) % 256 : Nat) : Int), 0) := by
  unfold dec at h ⊢
  by_cases hc : l.length < 8 ∨ 72 < l.length ∨ 1 < fxd (l.drop (l.length - 8)) % 256
  · rw [if_pos hc] at h
    exact absurd h (by decide)
  · rw [if_neg hc]
    exact ⟨by omega, by omega, by omega, rfl⟩
theorem enc_len {s : ByteArray} {q d : Int} (h : (enc s q d).2 = 0) : chk s q d = 0 ∧ (enc s q d) = (bytesOf s ++ fx 8 (q.toNat * 256 + d.toNat), 0) := by
  unfold enc at h ⊢
  by_cases hc : chk s q d = 0
  · rw [if_pos hc]; exact ⟨hc, rfl⟩
  · rw [if_neg hc] at h; exact absurd h hc
theorem enc_err (s : ByteArray) (q d : Int) : (enc s q d).2 = chk s q d := by
  unfold enc
  split
  · rename_i h; exact h.symm
  · rfl
theorem dec_enc (s : ByteArray) (q d : Int) (q0 : 0 ≤ q) (h : chk s q d = 0) : dec (bytesOf s ++ fx 8 (q.toNat * 256 + d.toNat)) = (s, q, d, 0) := by
  obtain ⟨h1, h2, h3⟩ := chk_zero h
  have hlen : (bytesOf s ++ fx 8 (q.toNat * 256 + d.toNat)).length = s.size + 8 := by rw [List.length_append, bytesOf_length, fx_length]
  have e1 : (bytesOf s ++ fx 8 (q.toNat * 256 + d.toNat)).drop ((bytesOf s ++ fx 8 (q.toNat * 256 + d.toNat)).length - 8) = fx 8 (q.toNat * 256 + d.toNat) := by
    rw [hlen, show s.size + 8 - 8 = (bytesOf s).length by rw [bytesOf_length]; omega, List.drop_left]
  have e2 : (bytesOf s ++ fx 8 (q.toNat * 256 + d.toNat)).take ((bytesOf s ++ fx 8 (q.toNat * 256 + d.toNat)).length - 8) = bytesOf s := by
    rw [hlen, show s.size + 8 - 8 = (bytesOf s).length by rw [bytesOf_length]; omega, List.take_left]
  have e3 : fxd (fx 8 (q.toNat * 256 + d.toNat)) = q.toNat * 256 + d.toNat := by
    rw [fxd_fx]
    exact Nat.mod_eq_of_lt (Nat.lt_of_lt_of_le (show q.toNat * 256 + d.toNat < 18446744073709551616 by omega) (by decide))
  unfold dec
  rw [e1, e2, e3, hlen, if_neg (by omega), str_bytesOf]
  have e4 : (((q.toNat * 256 + d.toNat) / 256 : Nat) : Int) = q := by omega
  have e5 : (((q.toNat * 256 + d.toNat) % 256 : Nat) : Int) = d := by omega
  rw [e4, e5]
/-! ### Lines -/
theorem icmp_neg (x y : Int) : ikey_cmp y x = - ikey_cmp x y := by
  rcases icmp_spec x y with ⟨e, h⟩ | ⟨e, h⟩ | ⟨e, h⟩ <;> rcases icmp_spec y x with ⟨f, g⟩ | ⟨f, g⟩ | ⟨f, g⟩ <;> rw [e, f] <;> omega
theorem cmp_range (a b : List UInt8) : -1 ≤ Lib.compareBytes a b ∧ Lib.compareBytes a b ≤ 1 := by
  rcases cmp_spec a b with ⟨e, _⟩ | ⟨e, _⟩ | ⟨e, _⟩ <;> rw [e] <;> decide
theorem icmp_range (x y : Int) : -1 ≤ ikey_cmp x y ∧ ikey_cmp x y ≤ 1 := by
  rcases icmp_spec x y with ⟨e, _⟩ | ⟨e, _⟩ | ⟨e, _⟩ <;> rw [e] <;> decide
theorem kcmp_range (s1 : ByteArray) (q1 d1 : Int) (s2 : ByteArray) (q2 d2 : Int) : -1 ≤ kcmp s1 q1 d1 s2 q2 d2 ∧ kcmp s1 q1 d1 s2 q2 d2 ≤ 1 := by
  unfold kcmp
  split
  · split
    · exact icmp_range _ _
    · exact icmp_range _ _
  · exact cmp_range _ _
theorem kcmp_neg (s1 : ByteArray) (q1 d1 : Int) (s2 : ByteArray) (q2 d2 : Int) : kcmp s2 q2 d2 s1 q1 d1 = - kcmp s1 q1 d1 s2 q2 d2 := by
  unfold kcmp
  rw [cmp_neg s1.data.toList s2.data.toList, icmp_neg q2 q1, icmp_neg d2 d1]
  by_cases h : Lib.compareBytes s1.data.toList s2.data.toList = 0
  · rw [if_pos h, if_pos (by omega)]
    by_cases h2 : ikey_cmp q2 q1 = 0
    · rw [if_pos h2, if_pos (by omega)]
    · rw [if_neg h2, if_neg (by omega)]
  · rw [if_neg h, if_neg (by omega)]
theorem icmp_zero (x y : Int) : ikey_cmp x y = 0 ↔ x = y := by
  rcases icmp_spec x y with ⟨e, h⟩ | ⟨e, h⟩ | ⟨e, h⟩ <;> rw [e] <;> constructor <;> intro g <;> omega
theorem kcmp_zero (s1 : ByteArray) (q1 d1 : Int) (s2 : ByteArray) (q2 d2 : Int) : kcmp s1 q1 d1 s2 q2 d2 = 0 ↔ s1 = s2 ∧ q1 = q2 ∧ d1 = d2 := by
  unfold kcmp
  have hs : s1.data.toList = s2.data.toList ↔ s1 = s2 := ⟨ba_ext, fun h => by rw [h]⟩
  have hc := cmp_zero s1.data.toList s2.data.toList
  by_cases h : Lib.compareBytes s1.data.toList s2.data.toList = 0
  · rw [if_pos h]
    have e1 := hs.1 (hc.1 h)
    by_cases h2 : ikey_cmp q2 q1 = 0
    · rw [if_pos h2, icmp_zero]
      have := (icmp_zero _ _).1 h2
      exact ⟨fun g => ⟨e1, this.symm, g.symm⟩, fun g => g.2.2.symm⟩
    · rw [if_neg h2]
      exact ⟨fun g => absurd g h2, fun g => absurd ((icmp_zero _ _).2 g.2.1.symm) h2⟩
  · rw [if_neg h]
    exact ⟨fun g => absurd g h, fun g => absurd (hc.2 (hs.2 g.1)) h⟩
/-- A key is ahead. -/
def kless (s1 : ByteArray) (q1 d1 : Int) (s2 : ByteArray) (q2 d2 : Int) : Prop := Op.bytesLess s1.data.toList s2.data.toList = true ∨ s1 = s2 ∧ (q2 < q1 ∨ q1 = q2 ∧ d2 < d1)
theorem kcmp_less (s1 : ByteArray) (q1 d1 : Int) (s2 : ByteArray) (q2 d2 : Int) : kcmp s1 q1 d1 s2 q2 d2 < 0 ↔ kless s1 q1 d1 s2 q2 d2 := by
  unfold kcmp kless
  rcases cmp_spec s1.data.toList s2.data.toList with ⟨e, h1, h2, h3⟩ | ⟨e, h1, h2, h3⟩ | ⟨e, h1, h2, h3⟩
  · rw [e, h1]; simp
  · rw [e, h1]
    have : s1 ≠ s2 := fun g => h3 (by rw [g])
    simp [this]
  · rw [e, h1]
    have g := ba_ext h3
    rw [if_pos rfl]
    rcases icmp_spec q2 q1 with ⟨f, g1⟩ | ⟨f, g1⟩ | ⟨f, g1⟩
    · rw [f]; simp [g, g1]
    · rw [f]; simp [g]; omega
    · rw [f]
      rcases icmp_spec d2 d1 with ⟨f2, g2⟩ | ⟨f2, g2⟩ | ⟨f2, g2⟩
      · rw [f2]; simp [g, g1, g2]
      · rw [f2]; simp [g]; omega
      · rw [f2]; simp [g]; omega
theorem kless_trans {s1 : ByteArray} {q1 d1 : Int} {s2 : ByteArray} {q2 d2 : Int} {s3 : ByteArray} {q3 d3 : Int} (h : kless s1 q1 d1 s2 q2 d2) (k : kless s2 q2 d2 s3 q3 d3) : kless s1 q1 d1 s3 q3 d3 := by
  unfold kless at *
  rcases h with h | ⟨rfl, h⟩
  · rcases k with k | ⟨rfl, k⟩
    · exact .inl (bl_trans _ _ _ h k)
    · exact .inl h
  · rcases k with k | ⟨rfl, k⟩
    · exact .inl k
    · exact .inr ⟨rfl, by omega⟩
theorem kcmp_trans (s1 : ByteArray) (q1 d1 : Int) (s2 : ByteArray) (q2 d2 : Int) (s3 : ByteArray) (q3 d3 : Int) (h : kcmp s1 q1 d1 s2 q2 d2 ≤ 0) (k : kcmp s2 q2 d2 s3 q3 d3 ≤ 0) :
    kcmp s1 q1 d1 s3 q3 d3 ≤ 0 ∧ (kcmp s2 q2 d2 s3 q3 d3 < 0 → kcmp s1 q1 d1 s3 q3 d3 < 0) := by
  rcases Int.lt_or_eq_of_le h with h' | h'
  · rcases Int.lt_or_eq_of_le k with k' | k'
    · have := (kcmp_less _ _ _ _ _ _).2 (kless_trans ((kcmp_less _ _ _ _ _ _).1 h') ((kcmp_less _ _ _ _ _ _).1 k'))
      exact ⟨by omega, fun _ => this⟩
    · obtain ⟨rfl, rfl, rfl⟩ := (kcmp_zero _ _ _ _ _ _).1 k'
      exact ⟨h, fun g => by omega⟩
  · obtain ⟨rfl, rfl, rfl⟩ := (kcmp_zero _ _ _ _ _ _).1 h'
    exact ⟨k, fun g => g⟩
end Go.Proofs.Ytlbnibkmjiapaaa.Q
