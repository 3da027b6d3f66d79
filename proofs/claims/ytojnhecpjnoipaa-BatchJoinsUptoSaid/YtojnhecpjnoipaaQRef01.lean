/- What the document's own PutFixed, Fixed, PutUvarint, Uvarint, PutText, Text come to: MNum's words. -/
import Derived.Test.YtojnhecpjnoipaaP11
import Derived.Test.YtojnhecpjnoipaaP13
import Derived.Test.YtojnhecpjnoipaaP14
import Derived.Test.YtojnhecpjnoipaaQNum
import Derived.Test.YtojnhecpjnoipaaQFix
namespace Go.Proofs.Ytojnhecpjnoipaa.Q
open Go.RowKit Go.Proofs.YtojnhecpjnoipaaW.PrintWords Go.Proofs.YtojnhecpjnoipaaW.PrintLast Go.Proofs.YtojnhecpjnoipaaW.PrintMore Go.Proofs.Ytojnhecpjnoipaa.P Go.Proofs.Ytojnhecpjnoipaa.M

theorem fx_succ (s n : Nat) : fx (s + 1) n = ((n % 256 : Nat) : Int) :: fx s (n / 256) := by rw [fx]
theorem refPutFixed_l0 : ∀ (s i n : Nat) (l : List Int), n < 18446744073709551616 → i + s ≤ 8 → l.length + s ≤ 140737488355328 → Ev (fun k => staddleref01_PutFixed.l0 k (n : Int) ((i + s : Nat) : Int) l (i : Int)) (l ++ fx s n)
  | 0, i, n, l, hn, hi, hl => by
    refine Ev.step (f := fun _ => some (l ++ fx 0 n)) (fun k => ?_) (Ev.now _)
    simp only [staddleref01_PutFixed.l0]
    rw [if_neg (by omega), fx, List.append_nil]
  | s + 1, i, n, l, hn, hi, hl => by
    have ih := refPutFixed_l0 s (i + 1) (n / 256) (l ++ [((n % 256 : Nat) : Int)]) (by omega) (by omega) (by simp; omega)
    rw [List.append_assoc, List.singleton_append, ← fx_succ] at ih
    refine Ev.step (fun k => ?_) ih
    simp only [staddleref01_PutFixed.l0]
    have e1 : IntKind.u64.wrap (Int.tdiv (n : Int) 256) = ((n / 256 : Nat) : Int) := by
      rw [show Int.tdiv (n : Int) 256 = ((n / 256 : Nat) : Int) from rfl, wU64 (by omega) (by omega)]
    have e2 : (Int.tmod (n : Int) 256) % 256 = ((n % 256 : Nat) : Int) := by
      rw [show Int.tmod (n : Int) 256 = ((n % 256 : Nat) : Int) from rfl]
      omega
    have e3 : wrap64 ((i : Int) + 1) = ((i + 1 : Nat) : Int) := by rw [w64 (by omega) (by omega)]; rfl
    rw [if_pos (by omega), if_pos (by omega), e1, e2, e3]
    congr 1
    omega
theorem refPutFixed_ev (n s : Nat) (l : List Int) (hn : n < 18446744073709551616) (h1 : 1 ≤ s) (hs : s ≤ 8) (hl : l.length + 8 < 140737488355328) : Ev (fun k => staddleref01_PutFixed.f k l (n : Int) (s : Int)) (l ++ fx s n) := by
  have h := refPutFixed_l0 s 0 n l hn (by omega) (by omega)
  rw [Nat.zero_add] at h
  have hj : Ev (fun k => staddleref01_PutFixed.j0 k (n : Int) (s : Int) l false) (l ++ fx s n) := by
    refine Ev.step (fun k => ?_) h
    simp only [staddleref01_PutFixed.j0]
    rw [if_neg (by decide)]
    rfl
  refine Ev.congr (fun k => ?_) hj
  unfold staddleref01_PutFixed.f
  rw [Option.bind_some, if_pos (by simp only [List.length_nil]; omega), Option.bind_some, if_neg (by omega), List.nil_append]
  rw [decide_eq_false (show ¬ (s : Int) > 8 by omega)]
theorem refFixed_l0 (l : List Int) (hb : IsB l) (s : Nat) (hs : s ≤ 8) (hl : s ≤ l.length) : ∀ (i : Nat), i ≤ s → Ev (fun k => staddleref01_Fixed.l0 k l ((fxd ((l.take s).drop i) : Nat) : Int) ((i : Int) - 1)) (((fxd (l.take s) : Nat) : Int), 0)
  | 0, _ => by
    refine Ev.step (f := fun _ => some (((fxd (l.take s) : Nat) : Int), 0)) (fun k => ?_) (Ev.now _)
    simp only [staddleref01_Fixed.l0]
    rw [if_neg (by omega), List.drop_zero]
  | i + 1, hi => by
    have ih := refFixed_l0 l hb s hs hl i (by omega)
    have hlen : (l.take s).length = s := by rw [List.length_take]; omega
    have hbt : IsB (l.take s) := hb.take s
    have hlt : i < (l.take s).length := by omega
    have hd := List.drop_eq_getElem_cons hlt
    have hc := hbt _ (List.getElem_mem hlt)
    have hq := fxd_lt _ (hbt.drop i)
    have hpow : 256 ^ ((l.take s).drop i).length ≤ 18446744073709551616 := by
      rw [List.length_drop]
      exact Nat.le_trans (Nat.pow_le_pow_right (by decide) (show (l.take s).length - i ≤ 8 by omega)) (by decide)
    have e0 : rd l (((i + 1 : Nat) : Int) - 1) = (l.take s)[i] := by
      unfold rd
      rw [show (((i + 1 : Nat) : Int) - 1).toNat = i by omega, List.getD_eq_getElem?_getD, List.getElem?_eq_getElem (show i < l.length by omega), List.getElem_take]
      rfl
    have ed : fxd ((l.take s).drop i) = ((l.take s)[i]).toNat + 256 * fxd ((l.take s).drop (i + 1)) := by rw [hd, fxd]
    refine Ev.step (fun k => ?_) ih
    simp only [staddleref01_Fixed.l0]
    rw [if_pos (by omega), if_pos (by omega), if_pos (by omega), e0]
    generalize fxd ((l.take s).drop i) = x at *
    generalize fxd ((l.take s).drop (i + 1)) = y at *
    generalize (l.take s)[i] = c at *
    have e1 : IntKind.u64.wrap ((IntKind.u64.wrap ((y : Int) * 256)) + (IntKind.u64.wrap c)) = (x : Int) := by
      rw [wU64 (n := (y : Int) * 256) (by omega) (by omega), wU64 (n := c) (by omega) (by omega), wU64 (by omega) (by omega)]
      omega
    have e2 : wrap64 (((i + 1 : Nat) : Int) - 1 - 1) = (i : Int) - 1 := by rw [w64 (by omega) (by omega)]; omega
    rw [e1, e2]
theorem refFixed_ev (l : List Int) (hb : IsB l) (s : Nat) (h1 : 1 ≤ s) (hs : s ≤ 8) : Ev (fun k => staddleref01_Fixed.f k l (s : Int)) (if l.length < s then (0, 10) else ((fxd (l.take s) : Int), 0)) := by
  have hj : ∀ k, staddleref01_Fixed.f k l (s : Int) = staddleref01_Fixed.j0 k l (s : Int) false := by
    intro k
    unfold staddleref01_Fixed.f
    rw [if_neg (by omega), decide_eq_false (show ¬ (s : Int) > 8 by omega)]
  refine Ev.congr hj ?_
  by_cases hlt : l.length < s
  · rw [if_pos hlt]
    refine Ev.step (f := fun _ => some (0, 10)) (fun k => ?_) (Ev.now _)
    simp only [staddleref01_Fixed.j0]
    rw [if_neg (by decide), if_pos (by omega)]
  · rw [if_neg hlt]
    have h := refFixed_l0 l hb s hs (by omega) s (Nat.le_refl _)
    rw [List.drop_of_length_le (show (l.take s).length ≤ s by rw [List.length_take]; omega)] at h
    refine Ev.step (fun k => ?_) h
    simp only [staddleref01_Fixed.j0]
    rw [if_neg (by decide), if_neg (by omega), show wrap64 ((s : Int) - 1) = (s : Int) - 1 from w64 (by omega) (by omega)]
    rfl
theorem refPutUvarint_l0 : ∀ (n : Nat) (acc : List Int), n < 18446744073709551616 → acc.length + (uv n).length ≤ 140737488355328 → Ev (fun k => staddleref01_PutUvarint.l0 k (n : Int) acc) (acc ++ uv n) := by
  intro n
  induction n using Nat.strongRecOn with
  | _ n ih =>
    intro acc hn hl
    by_cases h : n < 128
    · rw [uv_small h] at hl ⊢
      refine Ev.step (f := fun _ => some (acc ++ [(n : Int)])) (fun k => ?_) (Ev.now _)
      simp only [staddleref01_PutUvarint.l0]
      rw [if_neg (by omega), if_pos (by simp at hl; omega), show (n : Int) % 256 = (n : Int) by omega]
    · rw [uv_big h] at hl ⊢
      have := ih (n / 128) (by omega) (acc ++ [((n % 128 + 128 : Nat) : Int)]) (by omega) (by simp at hl ⊢; omega)
      rw [List.append_assoc] at this
      refine Ev.step (fun k => ?_) this
      simp only [staddleref01_PutUvarint.l0]
      have e1 : IntKind.u64.wrap (Int.tdiv (n : Int) 128) = ((n / 128 : Nat) : Int) := by
        rw [show Int.tdiv (n : Int) 128 = ((n / 128 : Nat) : Int) from rfl, wU64 (by omega) (by omega)]
      have e2 : (((Int.tmod (n : Int) 128) % 256) + 128) % 256 = ((n % 128 + 128 : Nat) : Int) := by
        rw [show Int.tmod (n : Int) 128 = ((n % 128 : Nat) : Int) from rfl]
        omega
      rw [if_pos (by omega), if_pos (by simp at hl; omega), e1, e2]
theorem refPutUvarint_ev (n : Nat) (l : List Int) (hn : n < 18446744073709551616) (hl : l.length + 10 < 140737488355328) : Ev (fun k => staddleref01_PutUvarint.f k l (n : Int)) (l ++ uv n) := by
  have h10 := uv_len64 hn
  refine Ev.congr (f := fun k => staddleref01_PutUvarint.l0 k (n : Int) l) (fun k => ?_) (refPutUvarint_l0 n l hn (by omega))
  unfold staddleref01_PutUvarint.f
  rw [Option.bind_some, if_pos (by simp only [List.length_nil]; omega), List.nil_append]
theorem refPutText_ev (l : List Int) (s : ByteArray) (hl : l.length + 10 + s.size < 140737488355328) : Ev (fun k => staddleref01_PutText.f k l s) (l ++ tx (bytesOf s)) := by
  have h := refPutUvarint_ev s.size l (by omega) (by omega)
  have h10 := uv_len64 (n := s.size) (by omega)
  unfold staddleref01_PutText.f
  rw [wU64 (by omega) (by omega)]
  refine Ev.bind h ?_
  rw [if_pos (by omega)]
  refine Ev.some_ ?_
  rw [if_pos (by rw [List.length_append, bytesOf_length]; omega)]
  unfold tx
  rw [bytesOf_length, List.append_assoc]
  exact Ev.now _
theorem refUvarint_l0 (l : List Int) (hb : IsB l) : ∀ (d i acc : Nat), i + d = l.length → i ≤ 9 → acc < 2 ^ (7 * i) →
    Ev (fun k => staddleref01_Uvarint.l0 k l (acc : Int) (i : Int)) (((uvd (l.drop i) i acc).1 : Int), ((uvd (l.drop i) i acc).2.1 : Int), ((uvd (l.drop i) i acc).2.2 : Int)) := by
  intro d
  induction d with
  | zero =>
    intro i acc hi h9 _
    have hd : l.drop i = [] := by rw [List.drop_eq_nil_iff]; omega
    rw [hd]
    refine Ev.step (f := fun _ => some (0, 0, 10)) (fun k => ?_) (Ev.now _)
    simp only [staddleref01_Uvarint.l0]
    rw [if_pos (by omega), if_pos (by omega)]
  | succ d ih =>
    intro i acc hi h9 ha
    have hlt : i < l.length := by omega
    obtain ⟨c, hc⟩ : ∃ c, l[i] = c := ⟨_, rfl⟩
    have hcb := hb c (by rw [← hc]; exact List.getElem_mem hlt)
    have hrd : rd l (i : Int) = c := by simp [rd, List.getD_eq_getElem?_getD, hlt, hc]
    have hdrop : l.drop i = c :: l.drop (i + 1) := by rw [List.drop_eq_getElem_cons hlt, hc]
    rw [hdrop]
    have e7 : IntKind.u64.wrap (wrap64 (7 * (i : Int))) = ((7 * i : Nat) : Int) := by rw [w64 (by omega) (by omega), wU64 (by omega) (by omega)]; omega
    have e1 : wrap64 ((i : Int) + 1) = ((i + 1 : Nat) : Int) := by rw [w64 (by omega) (by omega)]; omega
    have hj : ∀ k, staddleref01_Uvarint.l0 (k + 1) l (acc : Int) (i : Int) = staddleref01_Uvarint.j1 k l (acc : Int) (i : Int) (decide (i = 9 ∧ 1 < c)) := by
      intro k
      simp only [staddleref01_Uvarint.l0]
      rw [if_pos (by omega), if_neg (by omega)]
      by_cases h : i = 9
      · rw [if_pos (by omega), if_pos (by omega), if_pos (by omega), hrd]
        congr 1
        simp [h]
      · rw [if_neg (by omega)]
        congr 1
        simp [h]
    refine Ev.step hj ?_
    by_cases h91 : i = 9 ∧ 1 < c
    · simp only [uvd]
      rw [if_pos h91]
      refine Ev.step (f := fun _ => some (0, 0, 11)) (fun k => ?_) (Ev.now _)
      simp only [staddleref01_Uvarint.j1]
      rw [if_pos (by simpa using h91)]
    · have hm : (c % 128).toNat * 2 ^ (7 * i) < 18446744073709551616 := by
        by_cases e9 : i = 9
        · subst e9
          have : (c % 128).toNat ≤ 1 := by omega
          have := Nat.mul_le_mul_right (2 ^ (7 * 9)) this
          have e63 : (2 : Nat) ^ (7 * 9) = 9223372036854775808 := by decide
          omega
        · have hp8 : 2 ^ (7 * i) ≤ 2 ^ 56 := Nat.pow_le_pow_right (by decide) (by omega)
          have : (c % 128).toNat ≤ 127 := by omega
          have := Nat.mul_le_mul this hp8
          have e56 : (2 : Nat) ^ 56 = 72057594037927936 := by decide
          omega
      have ha63 : acc < 9223372036854775808 := Nat.lt_of_lt_of_le ha (Nat.le_trans (Nat.pow_le_pow_right (by decide) (show 7 * i ≤ 63 by omega)) (by decide))
      have hsum : acc + (c % 128).toNat * 2 ^ (7 * i) < 18446744073709551616 := by
        by_cases e9 : i = 9
        · subst e9
          have : (c % 128).toNat ≤ 1 := by omega
          have := Nat.mul_le_mul_right (2 ^ (7 * 9)) this
          have e63 : (2 : Nat) ^ (7 * 9) = 9223372036854775808 := by decide
          omega
        · have hp8 : 2 ^ (7 * i) ≤ 2 ^ 56 := Nat.pow_le_pow_right (by decide) (by omega)
          have : (c % 128).toNat ≤ 127 := by omega
          have := Nat.mul_le_mul this hp8
          have e56 : (2 : Nat) ^ 56 = 72057594037927936 := by decide
          omega
      have hval : IntKind.u64.wrap ((acc : Int) + (shl .u64 (IntKind.u64.wrap (Int.tmod c 128)) (IntKind.u64.wrap (wrap64 (7 * (i : Int)))))) = ((acc + (c % 128).toNat * 2 ^ (7 * i) : Nat) : Int) := by
        rw [Int.tmod_eq_emod_of_nonneg hcb.1, wU64 (n := c % 128) (by omega) (by omega), e7, show c % 128 = (((c % 128).toNat : Nat) : Int) by omega, shl64 _ _ (by omega) hm]
        simp only [Int.toNat_natCast]
        generalize (c % 128).toNat * 2 ^ (7 * i) = z at *
        rw [wU64 (by omega) (by omega)]
        omega
      have hjj : ∀ k, staddleref01_Uvarint.j1 (k + 1) l (acc : Int) (i : Int) (decide (i = 9 ∧ 1 < c)) = if c < 128 then some (((acc + (c % 128).toNat * 2 ^ (7 * i) : Nat) : Int), ((i + 1 : Nat) : Int), 0) else staddleref01_Uvarint.l0 k l ((acc + (c % 128).toNat * 2 ^ (7 * i) : Nat) : Int) ((i + 1 : Nat) : Int) := by
        intro k
        simp only [staddleref01_Uvarint.j1]
        rw [if_neg (by simpa using h91), if_pos (by omega), if_pos (by omega), hrd, hval, if_pos (by rw [e7]; omega), e1]
      simp only [uvd]
      rw [if_neg h91]
      by_cases h128 : c < 128
      · rw [if_pos h128]
        refine Ev.step (f := fun _ => some (((acc + (c % 128).toNat * 2 ^ (7 * i) : Nat) : Int), ((i + 1 : Nat) : Int), 0)) (fun k => ?_) (Ev.now _)
        rw [hjj k, if_pos h128]
      · rw [if_neg h128]
        have h8 : i ≤ 8 := by omega
        have ha2 : acc + (c % 128).toNat * 2 ^ (7 * i) < 2 ^ (7 * (i + 1)) := by
          rw [pow7]
          have : (c % 128).toNat ≤ 127 := by omega
          have := Nat.mul_le_mul_right (2 ^ (7 * i)) this
          omega
        refine Ev.step (fun k => ?_) (ih (i + 1) _ (by omega) (by omega) ha2)
        rw [hjj k, if_neg h128]
theorem refUvarint_ev (l : List Int) (hb : IsB l) : Ev (fun k => staddleref01_Uvarint.f k l) (((uvd l 0 0).1 : Int), ((uvd l 0 0).2.1 : Int), ((uvd l 0 0).2.2 : Int)) :=
  refUvarint_l0 l hb l.length 0 0 (by omega) (by omega) (by decide)
theorem refText_ev (l : List Int) (hb : IsB l) (hl : l.length ≤ 140737488355328) : Ev (fun k => staddleref01_Text.f k l) (strOfNums (txd l).1, ((txd l).2.1 : Int), ((txd l).2.2 : Int)) := by
  have hu := refUvarint_ev l hb
  obtain ⟨n, hn⟩ : ∃ n, (uvd l 0 0).1 = n := ⟨_, rfl⟩
  obtain ⟨m, hm⟩ : ∃ m, (uvd l 0 0).2.1 = m := ⟨_, rfl⟩
  obtain ⟨e, he⟩ : ∃ e, (uvd l 0 0).2.2 = e := ⟨_, rfl⟩
  unfold txd
  rw [hn, hm, he] at hu ⊢
  refine Ev.bind hu ?_
  by_cases h0 : e = 0
  · subst h0
    have hok := uvd_ok l 0 0 n m hb (by omega) (by decide) (by rw [← hn, ← hm]; exact Prod.ext rfl (Prod.ext rfl he))
    rw [if_pos rfl]
    have e1 : IntKind.u64.wrap (wrap64 ((l.length : Int) - (m : Int))) = ((l.length - m : Nat) : Int) := by rw [w64 (by omega) (by omega), wU64 (by omega) (by omega)]; omega
    by_cases hgt : n > l.length - m
    · rw [if_pos hgt]
      refine Ev.congr (f := fun _ => some (strOfNums [], ((0 : Nat) : Int), ((10 : Nat) : Int))) (fun k => ?_) (Ev.now _)
      simp only
      rw [if_pos (by rfl), e1, if_pos (by omega)]
      rfl
    · rw [if_neg hgt]
      have e2 : wrap64 ((m : Int) + wrap64 (n : Int)) = ((m + n : Nat) : Int) := by rw [w64 (n := (n : Int)) (by omega) (by omega), w64 (by omega) (by omega)]; omega
      refine Ev.congr (f := fun _ => some (strOfNums ((l.drop m).take n), ((m + n : Nat) : Int), ((0 : Nat) : Int))) (fun k => ?_) (Ev.now _)
      simp only
      rw [if_pos (by rfl), e1, if_neg (by omega), if_pos (by omega), e2, if_pos (by omega), if_pos (by omega), Int.toNat_natCast, Int.toNat_natCast, List.drop_take]
      rw [show m + n - m = n by omega]
      rfl
  · rw [if_neg h0]
    refine Ev.congr (f := fun _ => some (strOfNums [], ((0 : Nat) : Int), (e : Int))) (fun k => ?_) (Ev.now _)
    simp only
    rw [if_neg (by omega)]
    rfl
end Go.Proofs.Ytojnhecpjnoipaa.Q
