/- What ikey.Between and Behind, and the reference's, come to. -/
import Derived.Test.YtlbnibkmjiapaaaP6
import Derived.Test.YtlbnibkmjiapaaaP7
import Derived.Test.YtlbnibkmjiapaaaP12
import Derived.Test.YtlbnibkmjiapaaaP13
import Derived.Test.YtlbnibkmjiapaaaMStr
namespace Go.Proofs.Ytlbnibkmjiapaaa.Q
open Go.RowKit Go.Proofs.YtlbnibkmjiapaaaW.PrintWords Go.Proofs.YtlbnibkmjiapaaaW.PrintLast Go.Proofs.YtlbnibkmjiapaaaW.PrintMore Go.Proofs.Ytlbnibkmjiapaaa.P Go.Proofs.Ytlbnibkmjiapaaa.M

theorem byte_step (c : UInt8) (h : c.toNat < 255) : UInt8.ofNat ((((c.toNat : Int) + 1) % 256)).toNat = UInt8.ofNat (c.toNat + 1) := by
  congr 1
  omega
theorem cut_size (s : ByteArray) (i : Nat) (x : Int) (hi : i < s.size) (hs : s.size ≤ 9223372036854775807) : (s.extract 0 (i : Int).toNat).size + (strOfNums [x]).size ≤ 9223372036854775807 := by
  have h : (strOfNums [x]).size = 1 := rfl
  rw [h, size_data, Lib.extract_data]
  rw [size_data] at hi hs
  simp
  omega
theorem drop_of {l : List UInt8} {i : Nat} (h : i < l.length) : ∃ c r, l.drop i = c :: r := ⟨_, _, List.drop_eq_getElem_cons h⟩
theorem wr1 (i : Nat) (h : i + 1 ≤ 9223372036854775807) : wrap64 ((i : Int) + 1) = ((i + 1 : Nat) : Int) := by
  rw [w64 (by omega) (by omega)]
  rfl
theorem Between_l0 (a b : ByteArray) (ha : a.size ≤ 9223372036854775807) (hb : b.size ≤ 9223372036854775807) : ∀ (d i : Nat), i + d = min a.size b.size →
    Ev (fun k => ikey_Between.l0 k a b (i : Int)) (S (a.data.toList.take i ++ btw (a.data.toList.drop i) (b.data.toList.drop i)))
  | 0, i, hi => by
    have hm : mn (a.size : Int) (b.size : Int) = (i : Int) := by unfold mn; split <;> omega
    have hout : S (a.data.toList.take i ++ btw (a.data.toList.drop i) (b.data.toList.drop i)) = a := by
      rcases Nat.le_total a.size b.size with h | h
      · have e : a.data.toList.drop i = [] := List.drop_eq_nil_of_le (by rw [← size_data]; omega)
        rw [e]
        have e2 : a.data.toList.take i = a.data.toList := List.take_of_length_le (by rw [← size_data]; omega)
        rw [e2]
        unfold btw
        rw [List.append_nil, S_self]
      · have e : b.data.toList.drop i = [] := List.drop_eq_nil_of_le (by rw [← size_data]; omega)
        rw [e, btw_nil_right, List.take_append_drop, S_self]
    rw [hout]
    refine Ev.step (f := fun _ => some a) (fun k => ?_) (Ev.now _)
    simp only [ikey_Between.l0]
    rw [hm, if_neg (by omega), if_pos rfl]
  | d + 1, i, hi => by
    have hm : (i : Int) < mn (a.size : Int) (b.size : Int) := by unfold mn; split <;> omega
    have hia : i < a.size := by omega
    have hib : i < b.size := by omega
    obtain ⟨c, r, ec⟩ := drop_of (l := a.data.toList) (i := i) (by rw [← size_data]; omega)
    obtain ⟨c2, r2, ec2⟩ := drop_of (l := b.data.toList) (i := i) (by rw [← size_data]; omega)
    have b1 := bt_data a i c r ec
    have b2 := bt_data b i c2 r2 ec2
    obtain ⟨t1, t2⟩ := take_snoc ec
    obtain ⟨t3, t4⟩ := take_snoc ec2
    have hc := c.toNat_lt
    have hc2 := c2.toNat_lt
    have ih := Between_l0 a b ha hb d (i + 1) (by omega)
    rw [ec, ec2]
    by_cases heq : c = c2
    · subst heq
      rw [show btw (c :: r) (c :: r2) = c :: btw r r2 by rw [btw, if_pos rfl], List.append_cons, t1]
      rw [t2, t4] at ih
      refine Ev.step (fun k => ?_) ih
      simp only [ikey_Between.l0]
      rw [b1, b2, if_pos hm, if_pos (by omega), if_pos (by omega), if_pos (by omega), if_pos rfl, wr1 i (by omega)]
    · have hne : (c.toNat : Int) ≠ (c2.toNat : Int) := fun h => heq (UInt8.toNat_inj.1 (by omega))
      have hm2 : ¬ (i : Int) = mn (a.size : Int) (b.size : Int) := by omega
      by_cases hlt : c.toNat + 1 < c2.toNat
      · rw [show btw (c :: r) (c2 :: r2) = [UInt8.ofNat (c.toNat + 1)] by rw [btw, if_neg heq, if_pos hlt], ← byte_step c (by omega), ← cut_join]
        refine Ev.step (f := fun _ => some _) (fun k => ?_) (Ev.now _)
        simp only [ikey_Between.l0]
        rw [b1, b2, if_pos hm, if_pos (by omega), if_pos (by omega), if_pos (by omega), if_neg hne, if_neg hm2, if_neg (by omega), if_neg (by omega), if_pos (by omega), Option.bind_some, if_pos (cut_size a i _ (by omega) ha)]
      · rw [show btw (c :: r) (c2 :: r2) = c :: r by rw [btw, if_neg heq, if_neg hlt], ← ec, List.take_append_drop, S_self]
        refine Ev.step (f := fun _ => some a) (fun k => ?_) (Ev.now _)
        simp only [ikey_Between.l0]
        rw [b1, b2, if_pos hm, if_pos (by omega), if_pos (by omega), if_pos (by omega), if_neg hne, if_neg hm2]
        by_cases h255 : (c.toNat : Int) = 255
        · rw [if_pos h255]
        · rw [if_neg h255, if_pos (by omega)]
theorem Between_ev (a b : ByteArray) (ha : a.size ≤ 9223372036854775807) (hb : b.size ≤ 9223372036854775807) : Ev (fun k => ikey_Between.f k a b) (S (btw a.data.toList b.data.toList)) := by
  have h := Between_l0 a b ha hb (min a.size b.size) 0 (by omega)
  simp only [List.take_zero, List.drop_zero, List.nil_append] at h
  exact h
theorem hw2_ (c : UInt8) : wrap64 (c.toNat : Int) = (c.toNat : Int) := by
  have hc := c.toNat_lt
  exact w64 (by omega) (by omega)
theorem hw1_ (c : UInt8) : wrap64 ((wrap64 (c.toNat : Int)) + 1) = (c.toNat : Int) + 1 := by
  have hc := c.toNat_lt
  rw [hw2_]
  exact w64 (by omega) (by omega)
theorem refBetween_l0 (a b : ByteArray) (ha : a.size ≤ 9223372036854775807) (hb : b.size ≤ 9223372036854775807) : ∀ (d i : Nat), i + d = min a.size b.size →
    Ev (fun k => staddleref02_Between.l0 k a b (i : Int)) (S (a.data.toList.take i ++ btw (a.data.toList.drop i) (b.data.toList.drop i)))
  | 0, i, hi => by
    have hout : S (a.data.toList.take i ++ btw (a.data.toList.drop i) (b.data.toList.drop i)) = a := by
      rcases Nat.le_total a.size b.size with h | h
      · have e : a.data.toList.drop i = [] := List.drop_eq_nil_of_le (by rw [← size_data]; omega)
        rw [e]
        have e2 : a.data.toList.take i = a.data.toList := List.take_of_length_le (by rw [← size_data]; omega)
        rw [e2]
        unfold btw
        rw [List.append_nil, S_self]
      · have e : b.data.toList.drop i = [] := List.drop_eq_nil_of_le (by rw [← size_data]; omega)
        rw [e, btw_nil_right, List.take_append_drop, S_self]
    rw [hout]
    have h2 : Ev (fun k => staddleref02_Between.j2 k a b (i : Int) true) a := by
      refine Ev.step (f := fun _ => some a) (fun k => ?_) (Ev.now _)
      simp only [staddleref02_Between.j2]
      rw [if_pos trivial]
    have h1 : Ev (fun k => staddleref02_Between.j1 k a b (i : Int)) a := by
      refine Ev.step (fun k => ?_) h2
      simp only [staddleref02_Between.j1]
      by_cases h : (i : Int) = (a.size : Int)
      · rw [if_pos h]
      · rw [if_neg h]
        congr 1
        simp
        omega
    refine Ev.step (fun k => ?_) h1
    simp only [staddleref02_Between.l0]
    by_cases h : (i : Int) < (a.size : Int)
    · rw [if_pos h, if_neg (by omega)]
    · rw [if_neg h]
  | d + 1, i, hi => by
    have hia : i < a.size := by omega
    have hib : i < b.size := by omega
    obtain ⟨c, r, ec⟩ := drop_of (l := a.data.toList) (i := i) (by rw [← size_data]; omega)
    obtain ⟨c2, r2, ec2⟩ := drop_of (l := b.data.toList) (i := i) (by rw [← size_data]; omega)
    have b1 := bt_data a i c r ec
    have b2 := bt_data b i c2 r2 ec2
    obtain ⟨t1, t2⟩ := take_snoc ec
    obtain ⟨t3, t4⟩ := take_snoc ec2
    have hc := c.toNat_lt
    have hc2 := c2.toNat_lt
    have ih := refBetween_l0 a b ha hb d (i + 1) (by omega)
    rw [ec, ec2]
    by_cases heq : c = c2
    · subst heq
      rw [show btw (c :: r) (c :: r2) = c :: btw r r2 by rw [btw, if_pos rfl], List.append_cons, t1]
      rw [t2, t4] at ih
      refine Ev.step (fun k => ?_) ih
      simp only [staddleref02_Between.l0]
      rw [b1, b2, if_pos (by omega), if_pos (by omega), if_pos (by omega), if_pos rfl, wr1 i (by omega)]
    · have hne : (c.toNat : Int) ≠ (c2.toNat : Int) := fun h => heq (UInt8.toNat_inj.1 (by omega))
      have j2 : Ev (fun k => staddleref02_Between.j2 k a b (i : Int) false) (S (a.data.toList.take i ++ btw (c :: r) (c2 :: r2))) := by
        by_cases hlt : c.toNat + 1 < c2.toNat
        · rw [show btw (c :: r) (c2 :: r2) = [UInt8.ofNat (c.toNat + 1)] by rw [btw, if_neg heq, if_pos hlt], ← byte_step c (by omega), ← cut_join]
          refine Ev.step (f := fun _ => some _) (fun k => ?_) (Ev.now _)
          simp only [staddleref02_Between.j2]
          rw [b1, b2, if_neg (by decide), if_pos (by omega), if_pos (by omega), if_pos (by omega), if_pos (by omega), hw1_ c, hw2_ c2, if_pos (by omega), if_pos (by omega), Option.bind_some, if_pos (cut_size a i _ (by omega) ha)]
        · rw [show btw (c :: r) (c2 :: r2) = c :: r by rw [btw, if_neg heq, if_neg hlt], ← ec, List.take_append_drop, S_self]
          refine Ev.step (f := fun _ => some a) (fun k => ?_) (Ev.now _)
          simp only [staddleref02_Between.j2]
          rw [b1, b2, if_neg (by decide), if_pos (by omega), if_pos (by omega)]
          by_cases h255 : (c.toNat : Int) < 255
          · rw [if_pos h255, if_pos (by omega), hw1_ c, hw2_ c2, if_neg (by omega)]
          · rw [if_neg h255]
      have h1 : Ev (fun k => staddleref02_Between.j1 k a b (i : Int)) (S (a.data.toList.take i ++ btw (c :: r) (c2 :: r2))) := by
        refine Ev.step (fun k => ?_) j2
        simp only [staddleref02_Between.j1]
        rw [if_neg (by omega)]
        congr 1
        simp
        omega
      refine Ev.step (fun k => ?_) h1
      simp only [staddleref02_Between.l0]
      rw [b1, b2, if_pos (by omega), if_pos (by omega), if_pos (by omega), if_neg hne]
theorem refBetween_ev (a b : ByteArray) (ha : a.size ≤ 9223372036854775807) (hb : b.size ≤ 9223372036854775807) : Ev (fun k => staddleref02_Between.f k a b) (S (btw a.data.toList b.data.toList)) := by
  have h := refBetween_l0 a b ha hb (min a.size b.size) 0 (by omega)
  simp only [List.take_zero, List.drop_zero, List.nil_append] at h
  exact h
theorem Behind_l0 (a : ByteArray) (ha : a.size ≤ 9223372036854775807) : ∀ (d i : Nat), i + d = a.size →
    Ev (fun k => ikey_Behind.l0 k a (a.size : Int) (i : Int)) (S (a.data.toList.take i ++ beh (a.data.toList.drop i)))
  | 0, i, hi => by
    have e : a.data.toList.drop i = [] := List.drop_eq_nil_of_le (by rw [← size_data]; omega)
    have e2 : a.data.toList.take i = a.data.toList := List.take_of_length_le (by rw [← size_data]; omega)
    rw [e, e2, beh, List.append_nil, S_self]
    refine Ev.step (f := fun _ => some a) (fun k => ?_) (Ev.now _)
    simp only [ikey_Behind.l0]
    rw [if_neg (by omega)]
  | d + 1, i, hi => by
    obtain ⟨c, r, ec⟩ := drop_of (l := a.data.toList) (i := i) (by rw [← size_data]; omega)
    have b1 := bt_data a i c r ec
    obtain ⟨t1, t2⟩ := take_snoc ec
    have hc := c.toNat_lt
    have ih := Behind_l0 a ha d (i + 1) (by omega)
    rw [ec]
    by_cases h255 : c.toNat = 255
    · rw [show beh (c :: r) = c :: beh r by rw [beh, if_pos h255], List.append_cons, t1]
      rw [t2] at ih
      refine Ev.step (fun k => ?_) ih
      simp only [ikey_Behind.l0]
      rw [b1, if_pos (by omega), if_pos (by omega), if_pos (by omega), if_pos (by omega), wr1 i (by omega)]
    · rw [show beh (c :: r) = [UInt8.ofNat (c.toNat + 1)] by rw [beh, if_neg h255], ← byte_step c (by omega), ← cut_join]
      refine Ev.step (f := fun _ => some _) (fun k => ?_) (Ev.now _)
      simp only [ikey_Behind.l0]
      rw [b1, if_pos (by omega), if_pos (by omega), if_pos (by omega), if_neg (by omega), if_pos (by omega), Option.bind_some, if_pos (cut_size a i _ (by omega) ha)]
theorem Behind_ev (a : ByteArray) (ha : a.size ≤ 9223372036854775807) : Ev (fun k => ikey_Behind.f k a) (S (beh a.data.toList)) := by
  have h := Behind_l0 a ha a.size 0 (by omega)
  simp only [List.take_zero, List.drop_zero, List.nil_append] at h
  exact h
theorem refBehind_l0 (a : ByteArray) (ha : a.size ≤ 9223372036854775807) : ∀ (d i : Nat), i + d = a.size →
    Ev (fun k => staddleref02_Behind.l0 k a (i : Int)) (S (a.data.toList.take i ++ beh (a.data.toList.drop i)))
  | 0, i, hi => by
    have e : a.data.toList.drop i = [] := List.drop_eq_nil_of_le (by rw [← size_data]; omega)
    have e2 : a.data.toList.take i = a.data.toList := List.take_of_length_le (by rw [← size_data]; omega)
    rw [e, e2, beh, List.append_nil, S_self]
    refine Ev.step (f := fun _ => some a) (fun k => ?_) (Ev.now _)
    simp only [staddleref02_Behind.l0]
    rw [if_neg (by omega)]
  | d + 1, i, hi => by
    obtain ⟨c, r, ec⟩ := drop_of (l := a.data.toList) (i := i) (by rw [← size_data]; omega)
    have b1 := bt_data a i c r ec
    obtain ⟨t1, t2⟩ := take_snoc ec
    have hc := c.toNat_lt
    have ih := refBehind_l0 a ha d (i + 1) (by omega)
    rw [ec]
    by_cases h255 : c.toNat = 255
    · rw [show beh (c :: r) = c :: beh r by rw [beh, if_pos h255], List.append_cons, t1]
      rw [t2] at ih
      refine Ev.step (fun k => ?_) ih
      simp only [staddleref02_Behind.l0]
      rw [b1, if_pos (by omega), if_pos (by omega), if_neg (by omega), wr1 i (by omega)]
    · rw [show beh (c :: r) = [UInt8.ofNat (c.toNat + 1)] by rw [beh, if_neg h255], ← byte_step c (by omega), ← cut_join]
      refine Ev.step (f := fun _ => some _) (fun k => ?_) (Ev.now _)
      simp only [staddleref02_Behind.l0]
      rw [b1, if_pos (by omega), if_pos (by omega), if_pos (by omega), if_pos (by omega), Option.bind_some, if_pos (cut_size a i _ (by omega) ha)]
theorem refBehind_ev (a : ByteArray) (ha : a.size ≤ 9223372036854775807) : Ev (fun k => staddleref02_Behind.f k a) (S (beh a.data.toList)) := by
  have h := refBehind_l0 a ha a.size 0 (by omega)
  simp only [List.take_zero, List.drop_zero, List.nil_append] at h
  exact h
end Go.Proofs.Ytlbnibkmjiapaaa.Q
