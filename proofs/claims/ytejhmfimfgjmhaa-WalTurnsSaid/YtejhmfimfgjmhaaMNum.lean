/- Numbers as bytes in plain Lean: sevens of bits, fixed bytes, texts; what is laid is read. No program here. -/
import Derived.Test.YtejhmfimfgjmhaaWMore
import Derived.Laws.BitsAllLaws
namespace Go.Proofs.Ytejhmfimfgjmhaa.M
open Go.RowKit Go.Proofs.YtejhmfimfgjmhaaW.PrintWords Go.Proofs.YtejhmfimfgjmhaaW.PrintLast Go.Proofs.YtejhmfimfgjmhaaW.PrintMore

theorem Ev.ifT {α : Type} {c : Prop} [Decidable c] {A B : Nat → Option α} {r : α} (hc : c) (h : Ev A r) : Ev (fun n => if c then A n else B n) r := by
  simp only [if_pos hc]
  exact h
theorem Ev.ifF {α : Type} {c : Prop} [Decidable c] {A B : Nat → Option α} {r : α} (hc : ¬ c) (h : Ev B r) : Ev (fun n => if c then A n else B n) r := by
  simp only [if_neg hc]
  exact h
theorem Ev.some_ {α β : Type} {a : α} {f : Nat → α → Option β} {r : β} (h : Ev (fun n => f n a) r) : Ev (fun n => (some a).bind (f n)) r := h
def IsB (l : List Int) : Prop := ∀ x ∈ l, 0 ≤ x ∧ x < 256
theorem IsB.nil : IsB [] := fun _ h => by cases h
theorem IsB.cons {c : Int} {l : List Int} (h0 : 0 ≤ c) (h1 : c < 256) (h : IsB l) : IsB (c :: l) := fun x hx => by
  rcases List.mem_cons.1 hx with e | e
  · subst e; exact ⟨h0, h1⟩
  · exact h x e
theorem IsB.append {l r : List Int} (h : IsB l) (k : IsB r) : IsB (l ++ r) := fun x hx => (List.mem_append.1 hx).elim (h x) (k x)
theorem IsB.left {l r : List Int} (h : IsB (l ++ r)) : IsB l := fun x hx => h x (List.mem_append_left _ hx)
theorem IsB.right {l r : List Int} (h : IsB (l ++ r)) : IsB r := fun x hx => h x (List.mem_append_right _ hx)
theorem IsB.head {c : Int} {l : List Int} (h : IsB (c :: l)) : 0 ≤ c ∧ c < 256 := h c (List.mem_cons_self ..)
theorem IsB.tail {c : Int} {l : List Int} (h : IsB (c :: l)) : IsB l := fun x hx => h x (List.mem_cons_of_mem _ hx)
theorem IsB.take {l : List Int} (h : IsB l) (n : Nat) : IsB (l.take n) := fun x hx => h x (List.mem_of_mem_take hx)
theorem IsB.drop {l : List Int} (h : IsB l) (n : Nat) : IsB (l.drop n) := fun x hx => h x (List.mem_of_mem_drop hx)
theorem IsB.of_wf {l : List Int} (h : ∀ x ∈ l, (Lit.int .u8 x).wf = true) : IsB l := fun x hx => by
  have := h x hx
  simp [Lit.wf, IntKind.min, IntKind.max, IntKind.signed, IntKind.bits] at this
  omega
theorem IsB.bytesOf (s : ByteArray) : IsB (bytesOf s) := fun x hx => by
  unfold Go.Proofs.YtejhmfimfgjmhaaW.PrintWords.bytesOf at hx
  obtain ⟨b, _, rfl⟩ := List.mem_map.1 hx
  have := b.toNat_lt
  omega
theorem wf_u64 {n : Int} (h : (Lit.int .u64 n).wf = true) : 0 ≤ n ∧ n < 18446744073709551616 := by
  simp [Lit.wf, IntKind.min, IntKind.max, IntKind.signed, IntKind.bits] at h
  omega
theorem wf_u32 {n : Int} (h : (Lit.int .u32 n).wf = true) : 0 ≤ n ∧ n < 4294967296 := by
  simp [Lit.wf, IntKind.min, IntKind.max, IntKind.signed, IntKind.bits] at h
  omega
theorem wf_i64 {n : Int} (h : (Lit.int .i64 n).wf = true) : -9223372036854775808 ≤ n ∧ n < 9223372036854775808 := by
  simp [Lit.wf, IntKind.min, IntKind.max, IntKind.signed, IntKind.bits] at h
  omega
theorem w64 {n : Int} (h0 : -9223372036854775808 ≤ n) (h1 : n < 9223372036854775808) : wrap64 n = n := by unfold wrap64; omega
theorem wrapU64 (n : Int) : IntKind.u64.wrap n = n % 18446744073709551616 := by simp [IntKind.wrap, IntKind.bits, IntKind.signed]
theorem wU64 {n : Int} (h0 : 0 ≤ n) (h1 : n < 18446744073709551616) : IntKind.u64.wrap n = n := by rw [wrapU64]; omega

/-! ### Sevens of bits -/
def uv (n : Nat) : List Int := if n < 128 then [(n : Int)] else ((n % 128 + 128 : Nat) : Int) :: uv (n / 128)
termination_by n
decreasing_by omega
theorem uv_small {n : Nat} (h : n < 128) : uv n = [(n : Int)] := by rw [uv, if_pos h]
theorem uv_big {n : Nat} (h : ¬ n < 128) : uv n = ((n % 128 + 128 : Nat) : Int) :: uv (n / 128) := by rw [uv, if_neg h]
theorem uv_ne_nil (n : Nat) : uv n ≠ [] := by
  by_cases h : n < 128
  · rw [uv_small h]; simp
  · rw [uv_big h]; simp
theorem uv_IsB (n : Nat) : IsB (uv n) := by
  induction n using Nat.strongRecOn with
  | _ n ih =>
    by_cases h : n < 128
    · rw [uv_small h]; exact IsB.cons (by omega) (by omega) IsB.nil
    · rw [uv_big h]; exact IsB.cons (by omega) (by omega) (ih _ (by omega))
theorem uv_pos (n : Nat) : 1 ≤ (uv n).length := by
  by_cases h : n < 128
  · rw [uv_small h]; simp
  · rw [uv_big h]; simp
/-- How many sevens. -/
theorem uv_len_le : ∀ (d n : Nat), n < 2 ^ (7 * (d + 1)) → (uv n).length ≤ d + 1
  | 0, n, h => by rw [uv_small (by simpa using h)]; simp
  | d + 1, n, h => by
    by_cases hs : n < 128
    · rw [uv_small hs]; simp
    · rw [uv_big hs, List.length_cons]
      have : n / 128 < 2 ^ (7 * (d + 1)) := by
        rw [Nat.div_lt_iff_lt_mul (by decide)]
        refine Nat.lt_of_lt_of_le h ?_
        exact Nat.le_of_eq (by rw [show 7 * (d + 1 + 1) = 7 * (d + 1) + 7 by omega, Nat.pow_add])
      have := uv_len_le d _ this
      omega
theorem uv_len64 {n : Nat} (h : n < 18446744073709551616) : (uv n).length ≤ 10 := uv_len_le 9 n (Nat.lt_of_lt_of_le h (by decide))
/-- All sevens but the last are wanted. -/
theorem uv_few : ∀ (d n : Nat), (uv n).length = d + 2 → 2 ^ (7 * (d + 1)) ≤ n
  | d, n, h => by
    by_cases hs : n < 128
    · rw [uv_small hs] at h; simp at h
    · rw [uv_big hs, List.length_cons] at h
      cases d with
      | zero => simpa using hs
      | succ d =>
        have ih := uv_few d (n / 128) (by omega)
        rw [show 7 * (d + 1 + 1) = 7 * (d + 1) + 7 by omega, Nat.pow_add]
        have : 2 ^ (7 * (d + 1)) * 128 ≤ n := by
          have := Nat.mul_le_mul_right 128 ih
          have h2 := Nat.div_mul_le_self n 128
          omega
        exact this
/-- What bytes tell: the number, how many they were, and the error (0, 10, 11). -/
def uvd : List Int → Nat → Nat → Nat × Nat × Nat
  | [], _, _ => (0, 0, 10)
  | c :: r, i, acc => if i = 9 ∧ 1 < c then (0, 0, 11) else if c < 128 then (acc + (c % 128).toNat * 2 ^ (7 * i), i + 1, 0) else uvd r (i + 1) (acc + (c % 128).toNat * 2 ^ (7 * i))
theorem pow7 (i : Nat) : 2 ^ (7 * (i + 1)) = 2 ^ (7 * i) * 128 := by rw [show 7 * (i + 1) = 7 * i + 7 by omega, Nat.pow_add]
theorem uvd_uv (more : List Int) : ∀ (n i acc : Nat), i ≤ 9 → n * 2 ^ (7 * i) < 18446744073709551616 → uvd (uv n ++ more) i acc = (acc + n * 2 ^ (7 * i), i + (uv n).length, 0) := by
  intro n
  induction n using Nat.strongRecOn with
  | _ n ih =>
    intro i acc hi hn
    by_cases h : n < 128
    · rw [uv_small h]
      simp only [List.cons_append, List.nil_append, uvd]
      have h9 : ¬ (i = 9 ∧ (1 : Int) < (n : Int)) := by
        rintro ⟨rfl, h1⟩
        simp at hn
        omega
      rw [if_neg h9, if_pos (by omega)]
      have : ((n : Int) % 128).toNat = n := by omega
      rw [this]
      simp
    · rw [uv_big h]
      have h8 : i ≤ 8 := by
        rcases Nat.lt_or_ge i 9 with h9 | h9
        · omega
        · obtain rfl : i = 9 := by omega
          simp at hn
          omega
      have hmul : n / 128 * 2 ^ (7 * (i + 1)) ≤ n * 2 ^ (7 * i) := by
        rw [pow7, Nat.mul_comm (2 ^ (7 * i)) 128, ← Nat.mul_assoc]
        exact Nat.mul_le_mul_right _ (Nat.div_mul_le_self n 128)
      simp only [List.cons_append, uvd]
      rw [if_neg (by omega), if_neg (by omega), ih (n / 128) (by omega) (i + 1) _ (by omega) (by omega)]
      have e1 : ((((n % 128 + 128 : Nat) : Int)) % 128).toNat = n % 128 := by omega
      rw [e1, List.length_cons]
      refine Prod.ext ?_ (Prod.ext ?_ rfl)
      · simp only
        rw [pow7, Nat.mul_comm (2 ^ (7 * i)) 128, ← Nat.mul_assoc, Nat.add_assoc, ← Nat.add_mul]
        congr 2
        omega
      · simp only
        omega
theorem uvd_cut : ∀ (n i acc j : Nat), i ≤ 9 → n * 2 ^ (7 * i) < 18446744073709551616 → j < (uv n).length → uvd ((uv n).take j) i acc = (0, 0, 10) := by
  intro n
  induction n using Nat.strongRecOn with
  | _ n ih =>
    intro i acc j hi hn hj
    cases j with
    | zero => rfl
    | succ j =>
      by_cases h : n < 128
      · rw [uv_small h] at hj; simp at hj
      · rw [uv_big h] at hj ⊢
        have h8 : i ≤ 8 := by
          rcases Nat.lt_or_ge i 9 with h9 | h9
          · omega
          · obtain rfl : i = 9 := by omega
            simp at hn
            omega
        have hmul : n / 128 * 2 ^ (7 * (i + 1)) ≤ n * 2 ^ (7 * i) := by
          rw [pow7, Nat.mul_comm (2 ^ (7 * i)) 128, ← Nat.mul_assoc]
          exact Nat.mul_le_mul_right _ (Nat.div_mul_le_self n 128)
        simp only [List.take_succ_cons, uvd]
        rw [if_neg (by omega), if_neg (by omega)]
        exact ih (n / 128) (by omega) (i + 1) _ j (by omega) (by omega) (by simpa using hj)
theorem uv_inj {n m : Nat} (hn : n < 18446744073709551616) (hm : m < 18446744073709551616) (h : uv n = uv m) : n = m := by
  have h1 := uvd_uv [] n 0 0 (by omega) (by simpa using hn)
  have h2 := uvd_uv [] m 0 0 (by omega) (by simpa using hm)
  rw [h, h2] at h1
  simp at h1
  exact h1.symm
/-- What is told of bytes that are a number. -/
theorem uvd_ok : ∀ (l : List Int) (i acc n k : Nat), IsB l → i ≤ 9 → acc < 2 ^ (7 * i) → uvd l i acc = (n, k, 0) → i < k ∧ k ≤ i + l.length ∧ k ≤ 10 ∧ n < 18446744073709551616
  | [], _, _, _, _, _, _, _, h => by simp [uvd] at h
  | c :: r, i, acc, n, k, hb, hi, ha, h => by
    have hc := hb.head
    simp only [uvd] at h
    by_cases h9 : i = 9 ∧ 1 < c
    · rw [if_pos h9] at h; simp at h
    · rw [if_neg h9] at h
      have hp : 2 ^ (7 * i) ≤ 2 ^ 63 := Nat.pow_le_pow_right (by decide) (by omega)
      by_cases h128 : c < 128
      · rw [if_pos h128] at h
        simp only [Prod.mk.injEq] at h
        obtain ⟨rfl, rfl, _⟩ := h
        refine ⟨by omega, by simp only [List.length_cons]; omega, by omega, ?_⟩
        by_cases e9 : i = 9
        · subst e9
          have : (c % 128).toNat ≤ 1 := by omega
          have := Nat.mul_le_mul_right (2 ^ (7 * 9)) this
          have e63 : (2 : Nat) ^ (7 * 9) = 9223372036854775808 := by decide
          rw [e63] at *
          omega
        · have hp8 : 2 ^ (7 * i) ≤ 2 ^ 56 := Nat.pow_le_pow_right (by decide) (by omega)
          have : (c % 128).toNat ≤ 127 := by omega
          have := Nat.mul_le_mul this hp8
          have e56 : (2 : Nat) ^ 56 = 72057594037927936 := by decide
          omega
      · rw [if_neg h128] at h
        have h8 : i ≤ 8 := by omega
        have ha2 : acc + (c % 128).toNat * 2 ^ (7 * i) < 2 ^ (7 * (i + 1)) := by
          rw [pow7]
          have : (c % 128).toNat ≤ 127 := by omega
          have := Nat.mul_le_mul_right (2 ^ (7 * i)) this
          omega
        have := uvd_ok r (i + 1) _ n k hb.tail (by omega) ha2 h
        refine ⟨by omega, by simp only [List.length_cons]; omega, this.2.2.1, this.2.2.2⟩
theorem uvd_err : ∀ (l : List Int) (i acc : Nat), (uvd l i acc).2.2 ≠ 0 → (uvd l i acc).1 = 0 ∧ (uvd l i acc).2.1 = 0 ∧ ((uvd l i acc).2.2 = 10 ∨ (uvd l i acc).2.2 = 11)
  | [], _, _, _ => by simp [uvd]
  | c :: r, i, acc, h => by
    simp only [uvd] at h ⊢
    by_cases h9 : i = 9 ∧ 1 < c
    · rw [if_pos h9]; simp
    · rw [if_neg h9] at h ⊢
      by_cases h128 : c < 128
      · rw [if_pos h128] at h; simp at h
      · rw [if_neg h128] at h ⊢
        exact uvd_err r _ _ h

/-! ### Fixed bytes -/
def fx : Nat → Nat → List Int
  | 0, _ => []
  | s + 1, n => ((n % 256 : Nat) : Int) :: fx s (n / 256)
theorem fx_length : ∀ (s n : Nat), (fx s n).length = s
  | 0, _ => rfl
  | s + 1, n => by rw [fx, List.length_cons, fx_length]
theorem fx_IsB : ∀ (s n : Nat), IsB (fx s n)
  | 0, _ => IsB.nil
  | s + 1, n => by rw [fx]; exact IsB.cons (by omega) (by omega) (fx_IsB s _)
theorem fx_snoc : ∀ (s n : Nat), fx (s + 1) n = fx s n ++ [((n / 256 ^ s % 256 : Nat) : Int)]
  | 0, n => by simp [fx]
  | s + 1, n => by
    rw [fx, fx_snoc s (n / 256), fx]
    rw [List.cons_append, Nat.div_div_eq_div_mul, Nat.pow_succ, Nat.mul_comm 256]
/-- The number of bytes, the lowest first. -/
def fxd : List Int → Nat
  | [] => 0
  | c :: r => c.toNat + 256 * fxd r
theorem fxd_fx : ∀ (s n : Nat), fxd (fx s n) = n % 256 ^ s
  | 0, n => by rw [fx, fxd, Nat.pow_zero, Nat.mod_one]
  | s + 1, n => by
    rw [fx, fxd, fxd_fx s, Nat.pow_succ, Nat.mul_comm (256 ^ s) 256, Nat.mod_mul]
    rw [Int.toNat_natCast]
theorem fx_fxd : ∀ (l : List Int), IsB l → fx l.length (fxd l) = l
  | [], _ => rfl
  | c :: r, h => by
    have hc := h.head
    rw [List.length_cons, fx, fxd]
    have e1 : (c.toNat + 256 * fxd r) % 256 = c.toNat := by omega
    have e2 : (c.toNat + 256 * fxd r) / 256 = fxd r := by omega
    rw [e1, e2, fx_fxd r h.tail]
    congr 1
    omega
theorem fxd_lt : ∀ (l : List Int), IsB l → fxd l < 256 ^ l.length
  | [], _ => by simp [fxd]
  | c :: r, h => by
    have hc := h.head
    have := fxd_lt r h.tail
    rw [fxd, List.length_cons, Nat.pow_succ]
    omega
theorem fxd_append : ∀ (l r : List Int), fxd (l ++ r) = fxd l + 256 ^ l.length * fxd r
  | [], r => by simp [fxd]
  | c :: l, r => by
    rw [List.cons_append, fxd, fxd, fxd_append l r, List.length_cons, Nat.pow_succ, Nat.mul_add, Nat.add_assoc, Nat.mul_comm (256 ^ l.length) 256, Nat.mul_assoc]

/-! ### Texts -/
def tx (b : List Int) : List Int := uv b.length ++ b
theorem bytesOf_str (l : List Int) (h : IsB l) : bytesOf (strOfNums l) = l := by
  unfold Go.Proofs.YtejhmfimfgjmhaaW.PrintWords.bytesOf strOfNums
  simp only [List.map_map]
  have : l.map ((fun b : UInt8 => (b.toNat : Int)) ∘ fun n => UInt8.ofNat n.toNat) = l.map id := by
    refine List.map_congr_left (fun x hx => ?_)
    have := h x hx
    simp only [Function.comp, id, UInt8.toNat_ofNat']
    omega
  rw [this, List.map_id]
theorem str_bytesOf (s : ByteArray) : strOfNums (bytesOf s) = s := by
  unfold Go.Proofs.YtejhmfimfgjmhaaW.PrintWords.bytesOf strOfNums
  rw [List.map_map]
  have : s.data.toList.map ((fun n : Int => UInt8.ofNat n.toNat) ∘ fun b : UInt8 => (b.toNat : Int)) = s.data.toList.map id := by
    refine List.map_congr_left (fun x _ => ?_)
    simp
  rw [this, List.map_id]
theorem bytesOf_inj {s t : ByteArray} (h : bytesOf s = bytesOf t) : s = t := by rw [← str_bytesOf s, ← str_bytesOf t, h]
theorem str_inj {l r : List Int} (hl : IsB l) (hr : IsB r) (h : strOfNums l = strOfNums r) : l = r := by rw [← bytesOf_str l hl, ← bytesOf_str r hr, h]
theorem str_size (l : List Int) : (strOfNums l).size = l.length := by
  unfold strOfNums
  show (List.toArray _).size = _
  simp
end Go.Proofs.Ytejhmfimfgjmhaa.M
