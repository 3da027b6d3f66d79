/- What the printed codec functions come to: MNum's words. -/
import Derived.Test.YtbmhcdledmolgaaP4
import Derived.Test.YtbmhcdledmolgaaP7
import Derived.Test.YtbmhcdledmolgaaQBits
import Derived.WideShapes
namespace Go.Proofs.Ytbmhcdledmolgaa.Q
open Go.RowKit Go.Proofs.YtbmhcdledmolgaaW.PrintWords Go.Proofs.YtbmhcdledmolgaaW.PrintLast Go.Proofs.YtbmhcdledmolgaaW.PrintMore Go.Proofs.Ytbmhcdledmolgaa.P Go.Proofs.Ytbmhcdledmolgaa.M

theorem PutUvarint_l0 : ∀ (n : Nat) (acc : List Int), acc.length + (uv n).length ≤ 140737488355328 → Ev (fun k => codec_PutUvarint.l0 k (n : Int) acc) (acc ++ uv n) := by
  intro n
  induction n using Nat.strongRecOn with
  | _ n ih =>
    intro acc hl
    by_cases h : n < 128
    · rw [uv_small h] at hl ⊢
      refine Ev.step (f := fun _ => some (acc ++ [(n : Int)])) (fun k => ?_) (Ev.now _)
      simp only [codec_PutUvarint.l0]
      rw [if_neg (by omega), if_pos (by simp at hl; omega), show (n : Int) % 256 = (n : Int) by omega]
    · rw [uv_big h] at hl ⊢
      have := ih (n / 128) (by omega) (acc ++ [((n % 128 + 128 : Nat) : Int)]) (by simp at hl ⊢; omega)
      rw [List.append_assoc] at this
      refine Ev.step (fun k => ?_) this
      simp only [codec_PutUvarint.l0]
      rw [if_pos (by omega), if_pos (by simp at hl; omega), or128, show (n : Int) / 128 = ((n / 128 : Nat) : Int) by omega]
theorem PutUvarint_ev (n : Nat) (l : List Int) (hn : n < 18446744073709551616) (hl : l.length + 10 < 140737488355328) : Ev (fun k => codec_PutUvarint.f k l (n : Int)) (l ++ uv n) := by
  have h10 := uv_len64 hn
  refine Ev.congr (f := fun k => codec_PutUvarint.l0 k (n : Int) l) (fun k => ?_) (PutUvarint_l0 n l (by omega))
  unfold codec_PutUvarint.f
  rw [Clone_eq (by omega)]
  rfl
theorem Uvarint_l0 (l : List Int) (hb : IsB l) : ∀ (d i acc : Nat), i + d = l.length → i ≤ 9 → acc < 2 ^ (7 * i) →
    Ev (fun k => codec_Uvarint.l0 k (acc : Int) l (l.length : Int) (i : Int)) (((uvd (l.drop i) i acc).1 : Int), ((uvd (l.drop i) i acc).2.1 : Int), ((uvd (l.drop i) i acc).2.2 : Int)) := by
  intro d
  induction d with
  | zero =>
    intro i acc hi _ _
    have hd : l.drop i = [] := by rw [List.drop_eq_nil_iff]; omega
    rw [hd]
    refine Ev.step (f := fun _ => some (0, 0, 10)) (fun k => ?_) (Ev.now _)
    simp only [codec_Uvarint.l0]
    rw [if_neg (by omega)]
  | succ d ih =>
    intro i acc hi h9 ha
    have hlt : i < l.length := by omega
    obtain ⟨c, hc⟩ : ∃ c, l[i] = c := ⟨_, rfl⟩
    have hcb := hb c (by rw [← hc]; exact List.getElem_mem hlt)
    have hrd : rd l (i : Int) = c := by simp [rd, List.getD_eq_getElem?_getD, hlt, hc]
    have hdrop : l.drop i = c :: l.drop (i + 1) := by rw [List.drop_eq_getElem_cons hlt, hc]
    rw [hdrop]
    have e7 : wrap64 (7 * (i : Int)) = ((7 * i : Nat) : Int) := by rw [w64 (by omega) (by omega)]; omega
    have e1 : wrap64 ((i : Int) + 1) = ((i + 1 : Nat) : Int) := by rw [w64 (by omega) (by omega)]; omega
    have hj : ∀ k, codec_Uvarint.l0 (k + 1) (acc : Int) l (l.length : Int) (i : Int) = codec_Uvarint.j1 k (acc : Int) (i : Int) c l (l.length : Int) (i : Int) (decide (i = 9 ∧ 1 < c)) := by
      intro k
      simp only [codec_Uvarint.l0]
      rw [if_pos (by omega), if_pos (by omega), if_pos (by omega), hrd]
      by_cases h : i = 9
      · rw [if_pos (by omega)]
        congr 1
        simp [h]
      · rw [if_neg (by omega)]
        congr 1
        simp [h]
    refine Ev.step hj ?_
    by_cases h91 : i = 9 ∧ 1 < c
    · simp only [uvd]
      rw [if_pos h91]
      refine Ev.step (f := fun _ => some (0, 0, 11)) (fun k => ?_) (Ev.now _)
      simp only [codec_Uvarint.j1]
      rw [if_pos (by simpa using h91)]
    · have hm : (c % 128).toNat * 2 ^ (7 * i) < 18446744073709551616 := by
        by_cases e9 : i = 9
        · subst e9
          have : (c % 128).toNat ≤ 1 := by omega
          have := Nat.mul_le_mul_right (2 ^ (7 * 9)) this
          have e63 : (2 : Nat) ^ (7 * 9) = 9223372036854775808 := by decide
          omega
        · have hp8 : 2 ^ (7 * i) ≤ 2 ^ 56 := Nat.pow_le_pow_right (by decide) (by omega)
          have : (c % 128).toNat ≤ 127 := by omega
          have := Nat.mul_le_mul this hp8
          have e56 : (2 : Nat) ^ 56 = 72057594037927936 := by decide
          omega
      have hval : Go.bits .or .u64 (acc : Int) (shl .u64 (IntKind.u64.wrap (Go.bits .and .u8 c 127)) (wrap64 (7 * (i : Int)))) = ((acc + (c % 128).toNat * 2 ^ (7 * i) : Nat) : Int) := by
        rw [and127 c hcb.1 hcb.2, wU64 (by omega) (by omega), e7, show c % 128 = (((c % 128).toNat : Nat) : Int) by omega, shl64 _ _ (by omega) hm, join7 _ _ _ ha hm (by omega)]
        simp
      have hjj : ∀ k, codec_Uvarint.j1 (k + 1) (acc : Int) (i : Int) c l (l.length : Int) (i : Int) (decide (i = 9 ∧ 1 < c)) = if c < 128 then some (((acc + (c % 128).toNat * 2 ^ (7 * i) : Nat) : Int), ((i + 1 : Nat) : Int), 0) else codec_Uvarint.l0 k ((acc + (c % 128).toNat * 2 ^ (7 * i) : Nat) : Int) l (l.length : Int) ((i + 1 : Nat) : Int) := by
        intro k
        simp only [codec_Uvarint.j1]
        rw [if_neg (by simpa using h91), hval, if_pos (by rw [e7]; omega), e1]
      simp only [uvd]
      rw [if_neg h91]
      by_cases h128 : c < 128
      · rw [if_pos h128]
        refine Ev.step (f := fun _ => some (((acc + (c % 128).toNat * 2 ^ (7 * i) : Nat) : Int), ((i + 1 : Nat) : Int), 0)) (fun k => ?_) (Ev.now _)
        rw [hjj k, if_pos h128]
      · rw [if_neg h128]
        have h8 : i ≤ 8 := by omega
        have ha2 : acc + (c % 128).toNat * 2 ^ (7 * i) < 2 ^ (7 * (i + 1)) := by
          rw [pow7]
          have : (c % 128).toNat ≤ 127 := by omega
          have := Nat.mul_le_mul_right (2 ^ (7 * i)) this
          omega
        refine Ev.step (fun k => ?_) (ih (i + 1) _ (by omega) (by omega) ha2)
        rw [hjj k, if_neg h128]
theorem Uvarint_ev (l : List Int) (hb : IsB l) : Ev (fun k => codec_Uvarint.f k l) (((uvd l 0 0).1 : Int), ((uvd l 0 0).2.1 : Int), ((uvd l 0 0).2.2 : Int)) :=
  Uvarint_l0 l hb l.length 0 0 (by omega) (by omega) (by decide)

/-! ### Texts -/
/-- What bytes that begin with a text tell: the text's bytes, how many were read, the error. -/
def txd (l : List Int) : List Int × Nat × Nat :=
  if (uvd l 0 0).2.2 = 0 then (if (uvd l 0 0).1 > l.length - (uvd l 0 0).2.1 then ([], 0, 10) else ((l.drop (uvd l 0 0).2.1).take (uvd l 0 0).1, (uvd l 0 0).2.1 + (uvd l 0 0).1, 0)) else ([], 0, (uvd l 0 0).2.2)
theorem Text_ev (l : List Int) (hb : IsB l) (hl : l.length ≤ 140737488355328) : Ev (fun k => codec_Text.f k l) (strOfNums (txd l).1, ((txd l).2.1 : Int), ((txd l).2.2 : Int)) := by
  have hu := Uvarint_ev l hb
  obtain ⟨n, hn⟩ : ∃ n, (uvd l 0 0).1 = n := ⟨_, rfl⟩
  obtain ⟨m, hm⟩ : ∃ m, (uvd l 0 0).2.1 = m := ⟨_, rfl⟩
  obtain ⟨e, he⟩ : ∃ e, (uvd l 0 0).2.2 = e := ⟨_, rfl⟩
  unfold txd
  rw [hn, hm, he] at hu ⊢
  refine Ev.bind hu ?_
  by_cases h0 : e = 0
  · subst h0
    have hok := uvd_ok l 0 0 n m hb (by omega) (by decide) (by rw [← hn, ← hm]; exact Prod.ext rfl (Prod.ext rfl he))
    rw [if_pos rfl]
    have e1 : IntKind.u64.wrap (wrap64 ((l.length : Int) - (m : Int))) = ((l.length - m : Nat) : Int) := by rw [w64 (by omega) (by omega), wU64 (by omega) (by omega)]; omega
    by_cases hgt : n > l.length - m
    · rw [if_pos hgt]
      refine Ev.congr (f := fun _ => some (strOfNums [], ((0 : Nat) : Int), ((10 : Nat) : Int))) (fun k => ?_) (Ev.now _)
      simp only
      rw [if_pos (by rfl), e1, if_pos (by omega)]
      rfl
    · rw [if_neg hgt]
      have e2 : wrap64 ((m : Int) + wrap64 (n : Int)) = ((m + n : Nat) : Int) := by rw [w64 (n := (n : Int)) (by omega) (by omega), w64 (by omega) (by omega)]; omega
      refine Ev.congr (f := fun _ => some (strOfNums ((l.drop m).take n), ((m + n : Nat) : Int), ((0 : Nat) : Int))) (fun k => ?_) (Ev.now _)
      simp only
      rw [if_pos (by rfl), e1, if_neg (by omega), if_pos (by omega), e2, if_pos (by omega), if_pos (by omega), Int.toNat_natCast, Int.toNat_natCast, List.drop_take]
      rw [show m + n - m = n by omega]
      rfl
  · rw [if_neg h0]
    refine Ev.congr (f := fun _ => some (strOfNums [], ((0 : Nat) : Int), (e : Int))) (fun k => ?_) (Ev.now _)
    simp only
    rw [if_neg (by omega)]
    rfl
theorem PutText_ev (l : List Int) (s : ByteArray) (hl : l.length + 10 + s.size < 140737488355328) : Ev (fun k => codec_PutText.f k l s) (l ++ tx (bytesOf s)) := by
  have h := PutUvarint_ev s.size l (by omega) (by omega)
  have h10 := uv_len64 (n := s.size) (by omega)
  unfold codec_PutText.f
  rw [wU64 (by omega) (by omega)]
  refine Ev.bind h ?_
  rw [if_pos (by rw [List.length_append]; omega)]
  unfold tx
  rw [bytesOf_length, List.append_assoc]
  exact Ev.now _
theorem txd_tx (b more : List Int) (hb : b.length < 18446744073709551616) : txd (tx b ++ more) = (b, (tx b).length, 0) := by
  have h := uvd_uv (b ++ more) b.length 0 0 (by omega) (by simpa using hb)
  unfold txd tx
  rw [List.append_assoc, h]
  simp only [Nat.mul_zero, Nat.pow_zero, Nat.mul_one, Nat.zero_add]
  rw [if_pos trivial, if_neg (by simp only [List.length_append]; omega), List.drop_left' rfl, List.take_left' rfl, List.length_append]
theorem txd_cut (b : List Int) (j : Nat) (hb : b.length < 18446744073709551616) (hj : j < (tx b).length) : txd ((tx b).take j) = ([], 0, 10) := by
  unfold tx at hj ⊢
  rw [List.length_append] at hj
  rcases Nat.lt_or_ge j (uv b.length).length with h | h
  · rw [List.take_append_of_le_length (by omega)]
    have := uvd_cut b.length 0 0 j (by omega) (by simpa using hb) h
    unfold txd
    rw [this]
    rfl
  · have hu := uvd_uv (b.take (j - (uv b.length).length)) b.length 0 0 (by omega) (by simpa using hb)
    have ht : (uv b.length ++ b).take j = uv b.length ++ b.take (j - (uv b.length).length) := by
      rw [List.take_append, List.take_of_length_le h]
    unfold txd
    rw [ht, hu]
    simp only [Nat.mul_zero, Nat.pow_zero, Nat.mul_one, Nat.zero_add]
    rw [if_pos trivial, if_pos]
    simp only [List.length_append, List.length_take]
    omega
theorem tx_inj {b c : List Int} (hb : b.length < 18446744073709551616) (hc : c.length < 18446744073709551616) (h : tx b = tx c) : b = c := by
  have h1 := txd_tx b [] hb
  have h2 := txd_tx c [] hc
  rw [h, h2] at h1
  simp at h1
  exact h1.symm
theorem tx_IsB {b : List Int} (h : IsB b) : IsB (tx b) := (uv_IsB _).append h
end Go.Proofs.Ytbmhcdledmolgaa.Q
