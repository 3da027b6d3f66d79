/- What the document's own PutFixed, PutUvarint, PutText come to: MNum's words. What the document's own Fixed, Uvarint, Text come to: MNum's words. What the document's Build and Same come to. -/
import Derived.Test.YtppkpleagnddeaaQA
import Derived.Test.YtppkpleagnddeaaP14
import Derived.Test.YtppkpleagnddeaaP15
import Derived.Test.YtppkpleagnddeaaP18
import Derived.Test.YtppkpleagnddeaaP12
import Derived.Test.YtppkpleagnddeaaP19
import Derived.Test.YtppkpleagnddeaaP16
import Derived.Test.YtppkpleagnddeaaP13
set_option linter.unusedVariables false
set_option linter.unusedSimpArgs false
namespace Go.Proofs.Ytppkpleagnddeaa.Q
open Go.RowKit Go.Proofs.YtppkpleagnddeaaW.PrintWords Go.Proofs.YtppkpleagnddeaaW.PrintLast Go.Proofs.YtppkpleagnddeaaW.PrintMore Go.Proofs.Ytppkpleagnddeaa.P Go.Proofs.Ytppkpleagnddeaa.M

theorem refPutFixed_l0 : ∀ (s i n : Nat) (l : List Int), n < 18446744073709551616 → i + s ≤ 8 → l.length + s ≤ 140737488355328 → Ev (fun k => staddleref01_PutFixed.l0 k (n : Int) ((i + s : Nat) : Int) l (i : Int)) (l ++ fx s n)
  | 0, i, n, l, hn, hi, hl => by
    refine Ev.step (f := fun _ => some (l ++ fx 0 n)) (fun k => ?_) (Ev.now _)
    simp only [staddleref01_PutFixed.l0]
    rw [if_neg (by omega), fx, List.append_nil]
  | s + 1, i, n, l, hn, hi, hl => by
    have ih := refPutFixed_l0 s (i + 1) (n / 256) (l ++ [((n % 256 : Nat) : Int)]) (by omega) (by omega) (by simp; omega)
    rw [List.append_assoc, List.singleton_append, ← fx_succ] at ih
    refine Ev.step (fun k => ?_) ih
    simp only [staddleref01_PutFixed.l0]
    have e1 : IntKind.u64.wrap (Int.tdiv (n : Int) 256) = ((n / 256 : Nat) : Int) := by
      rw [show Int.tdiv (n : Int) 256 = ((n / 256 : Nat) : Int) from rfl, wU64 (by omega) (by omega)]
    have e2 : (Int.tmod (n : Int) 256) % 256 = ((n % 256 : Nat) : Int) := by
      rw [show Int.tmod (n : Int) 256 = ((n % 256 : Nat) : Int) from rfl]
      omega
    have e3 : wrap64 ((i : Int) + 1) = ((i + 1 : Nat) : Int) := by rw [w64 (by omega) (by omega)]; rfl
    rw [if_pos (by omega), if_pos (by omega), e1, e2, e3]
    congr 1
    omega
theorem refPutFixed_ev (n s : Nat) (l : List Int) (hn : n < 18446744073709551616) (h1 : 1 ≤ s) (hs : s ≤ 8) (hl : l.length + 8 < 140737488355328) : Ev (fun k => staddleref01_PutFixed.f k l (n : Int) (s : Int)) (l ++ fx s n) := by
  have h := refPutFixed_l0 s 0 n l hn (by omega) (by omega)
  rw [Nat.zero_add] at h
  have hj : Ev (fun k => staddleref01_PutFixed.j0 k (n : Int) (s : Int) l false) (l ++ fx s n) := by
    refine Ev.step (fun k => ?_) h
    simp only [staddleref01_PutFixed.j0]
    rw [if_neg (by decide)]
    rfl
  refine Ev.congr (fun k => ?_) hj
  unfold staddleref01_PutFixed.f
  rw [Option.bind_some, if_pos (by simp only [List.length_nil]; omega), Option.bind_some, if_neg (by omega), List.nil_append]
  rw [decide_eq_false (show ¬ (s : Int) > 8 by omega)]
theorem refPutUvarint_l0 : ∀ (n : Nat) (acc : List Int), n < 18446744073709551616 → acc.length + (uv n).length ≤ 140737488355328 → Ev (fun k => staddleref01_PutUvarint.l0 k (n : Int) acc) (acc ++ uv n) := by
  intro n
  induction n using Nat.strongRecOn with
  | _ n ih =>
    intro acc hn hl
    by_cases h : n < 128
    · rw [uv_small h] at hl ⊢
      refine Ev.step (f := fun _ => some (acc ++ [(n : Int)])) (fun k => ?_) (Ev.now _)
      simp only [staddleref01_PutUvarint.l0]
      rw [if_neg (by omega), if_pos (by simp at hl; omega), show (n : Int) % 256 = (n : Int) by omega]
    · rw [uv_big h] at hl ⊢
      have := ih (n / 128) (by omega) (acc ++ [((n % 128 + 128 : Nat) : Int)]) (by omega) (by simp at hl ⊢; omega)
      rw [List.append_assoc] at this
      refine Ev.step (fun k => ?_) this
      simp only [staddleref01_PutUvarint.l0]
      have e1 : IntKind.u64.wrap (Int.tdiv (n : Int) 128) = ((n / 128 : Nat) : Int) := by
        rw [show Int.tdiv (n : Int) 128 = ((n / 128 : Nat) : Int) from rfl, wU64 (by omega) (by omega)]
      have e2 : (((Int.tmod (n : Int) 128) % 256) + 128) % 256 = ((n % 128 + 128 : Nat) : Int) := by
        rw [show Int.tmod (n : Int) 128 = ((n % 128 : Nat) : Int) from rfl]
        omega
      rw [if_pos (by omega), if_pos (by simp at hl; omega), e1, e2]
theorem refPutUvarint_ev (n : Nat) (l : List Int) (hn : n < 18446744073709551616) (hl : l.length + 10 < 140737488355328) : Ev (fun k => staddleref01_PutUvarint.f k l (n : Int)) (l ++ uv n) := by
  have h10 := uv_len64 hn
  refine Ev.congr (f := fun k => staddleref01_PutUvarint.l0 k (n : Int) l) (fun k => ?_) (refPutUvarint_l0 n l hn (by omega))
  unfold staddleref01_PutUvarint.f
  rw [Option.bind_some, if_pos (by simp only [List.length_nil]; omega), List.nil_append]
theorem refCheck_eq (s : ByteArray) (q d : Int) : staddleref02_Check.f s q d = some (chk s q d) := by
  unfold staddleref02_Check.f chk
  split
  · rfl
  · split
    · rfl
    · split
      · rfl
      · split <;> rfl
theorem refPutFixed8_l0 : ∀ (s i n : Nat) (l : List Int), n < 18446744073709551616 → i + s ≤ 8 → l.length + s ≤ 140737488355328 → Ev (fun k => staddleref01_PutFixed.l0 k (n : Int) ((i + s : Nat) : Int) l (i : Int)) (l ++ fx s n)
  | 0, i, n, l, hn, hi, hl => by
    refine Ev.step (f := fun _ => some (l ++ fx 0 n)) (fun k => ?_) (Ev.now _)
    simp only [staddleref01_PutFixed.l0]
    rw [if_neg (by omega), fx, List.append_nil]
  | s + 1, i, n, l, hn, hi, hl => by
    have ih := refPutFixed8_l0 s (i + 1) (n / 256) (l ++ [((n % 256 : Nat) : Int)]) (by omega) (by omega) (by simp; omega)
    rw [List.append_assoc, List.singleton_append, ← fx_succ] at ih
    refine Ev.step (fun k => ?_) ih
    simp only [staddleref01_PutFixed.l0]
    have e1 : IntKind.u64.wrap (Int.tdiv (n : Int) 256) = ((n / 256 : Nat) : Int) := by
      rw [show Int.tdiv (n : Int) 256 = ((n / 256 : Nat) : Int) from rfl, wU64 (by omega) (by omega)]
    have e2 : (Int.tmod (n : Int) 256) % 256 = ((n % 256 : Nat) : Int) := by
      rw [show Int.tmod (n : Int) 256 = ((n % 256 : Nat) : Int) from rfl]
      omega
    have e3 : wrap64 ((i : Int) + 1) = ((i + 1 : Nat) : Int) := by rw [w64 (by omega) (by omega)]; rfl
    rw [if_pos (by omega), if_pos (by omega), e1, e2, e3]
    congr 1
    omega
theorem refPutFixed8_ev (n : Nat) (l : List Int) (hn : n < 18446744073709551616) (hl : l.length + 8 < 140737488355328) : Ev (fun k => staddleref01_PutFixed.f k l (n : Int) 8) (l ++ fx 8 n) := by
  have h := refPutFixed8_l0 8 0 n l hn (by omega) (by omega)
  have hj : Ev (fun k => staddleref01_PutFixed.j0 k (n : Int) 8 l false) (l ++ fx 8 n) := by
    refine Ev.step (fun k => ?_) h
    simp only [staddleref01_PutFixed.j0]
    rw [if_neg (by decide)]
    rfl
  refine Ev.congr (fun k => ?_) hj
  unfold staddleref01_PutFixed.f
  rw [Option.bind_some, if_pos (by simp only [List.length_nil]; omega), Option.bind_some, if_neg (by decide), List.nil_append]
  rfl
theorem refEncode_ev (s : ByteArray) (q d : Int) (q0 : 0 ≤ q) : Ev (fun k => staddleref02_Encode.f k s q d) (enc s q d) := by
  unfold enc
  by_cases h : chk s q d = 0
  · rw [if_pos h]
    obtain ⟨h1, h2, h3⟩ := chk_zero h
    have hp := refPutFixed8_ev (q.toNat * 256 + d.toNat) (bytesOf s) (by omega) (by rw [bytesOf_length]; omega)
    refine Ev.congr (f := fun k => (staddleref01_PutFixed.f k (bytesOf s) ((q.toNat * 256 + d.toNat : Nat) : Int) 8).bind fun t112 => some (t112, 0)) (fun k => ?_) (Ev.bind hp (Ev.now _))
    unfold staddleref02_Encode.f
    have e : IntKind.u64.wrap ((IntKind.u64.wrap (q * 256)) + (IntKind.u64.wrap d)) = ((q.toNat * 256 + d.toNat : Nat) : Int) := by
      rw [wU64 (n := q * 256) (by omega) (by omega), wU64 (n := d) (by omega) (by omega), wU64 (by omega) (by omega)]
      omega
    rw [refCheck_eq, Option.bind_some, if_pos h, if_pos (by omega), e]
  · rw [if_neg h]
    refine Ev.congr (f := fun _ => some ([], chk s q d)) (fun k => ?_) (Ev.now _)
    unfold staddleref02_Encode.f
    rw [refCheck_eq, Option.bind_some, if_neg h]
theorem refFixed8_l0 (l : List Int) (hb : IsB l) (hl : l.length ≤ 8) : ∀ (i : Nat), i ≤ l.length → Ev (fun k => staddleref01_Fixed.l0 k l ((fxd (l.drop i) : Nat) : Int) ((i : Int) - 1)) (((fxd l : Nat) : Int), 0)
  | 0, _ => by
    refine Ev.step (f := fun _ => some (((fxd l : Nat) : Int), 0)) (fun k => ?_) (Ev.now _)
    simp only [staddleref01_Fixed.l0]
    rw [if_neg (by omega), List.drop_zero]
  | i + 1, hi => by
    have ih := refFixed8_l0 l hb hl i (by omega)
    have hlt : i < l.length := by omega
    have hd := List.drop_eq_getElem_cons hlt
    have hc := hb _ (List.getElem_mem hlt)
    have hq := fxd_lt _ (hb.drop i)
    have hpow : 256 ^ (l.drop i).length ≤ 18446744073709551616 := by
      rw [List.length_drop]
      exact Nat.le_trans (Nat.pow_le_pow_right (by decide) (show l.length - i ≤ 8 by omega)) (by decide)
    have e0 : rd l (((i + 1 : Nat) : Int) - 1) = l[i] := by
      unfold rd
      rw [show (((i + 1 : Nat) : Int) - 1).toNat = i by omega, List.getD_eq_getElem?_getD, List.getElem?_eq_getElem hlt]
      rfl
    have ed : fxd (l.drop i) = (l[i]).toNat + 256 * fxd (l.drop (i + 1)) := by rw [hd, fxd]
    refine Ev.step (fun k => ?_) ih
    simp only [staddleref01_Fixed.l0]
    rw [if_pos (by omega), if_pos (by omega), if_pos (by omega), e0]
    generalize fxd (l.drop i) = x at *
    generalize fxd (l.drop (i + 1)) = y at *
    generalize l[i] = c at *
    have e1 : IntKind.u64.wrap ((IntKind.u64.wrap ((y : Int) * 256)) + (IntKind.u64.wrap c)) = (x : Int) := by
      rw [wU64 (n := (y : Int) * 256) (by omega) (by omega), wU64 (n := c) (by omega) (by omega), wU64 (by omega) (by omega)]
      omega
    have e2 : wrap64 (((i + 1 : Nat) : Int) - 1 - 1) = (i : Int) - 1 := by rw [w64 (by omega) (by omega)]; omega
    rw [e1, e2]
theorem refFixed8_ev (l : List Int) (hb : IsB l) (h8 : l.length = 8) : Ev (fun k => staddleref01_Fixed.f k l 8) (((fxd l : Nat) : Int), 0) := by
  have h := refFixed8_l0 l hb (by omega) l.length (Nat.le_refl _)
  rw [List.drop_length, h8] at h
  have hj : Ev (fun k => staddleref01_Fixed.j0 k l 8 false) (((fxd l : Nat) : Int), 0) := by
    refine Ev.step (fun k => ?_) h
    simp only [staddleref01_Fixed.j0]
    rw [if_neg (by decide), if_neg (by omega), show wrap64 (8 - 1) = (8 : Int) - 1 from w64 (by decide) (by decide)]
    rfl
  refine Ev.congr (fun k => ?_) hj
  unfold staddleref01_Fixed.f
  rw [if_neg (by decide)]
  rfl
theorem refDecode_ev (l : List Int) (hb : IsB l) (hl : l.length ≤ 140737488351232) : Ev (fun k => staddleref02_Decode.f k l) (dec l) := by
  unfold dec
  have jt : Ev (fun k => staddleref02_Decode.j0 k l true) ((⟨#[]⟩ : ByteArray), 0, 0, 20) := by
    refine Ev.step (f := fun _ => some _) (fun k => ?_) (Ev.now _)
    simp only [staddleref02_Decode.j0]
    rw [if_pos trivial]
  by_cases h8 : l.length < 8
  · rw [if_pos (.inl h8)]
    refine Ev.congr (fun k => ?_) jt
    unfold staddleref02_Decode.f
    rw [if_pos (by omega)]
  · have hw := wlen l hl (by omega)
    by_cases h72 : 72 < l.length
    · rw [if_pos (.inr (.inl h72))]
      refine Ev.congr (fun k => ?_) jt
      unfold staddleref02_Decode.f
      rw [if_neg (by omega)]
      congr 1
      simp
      omega
    · have hlen : (l.drop (l.length - 8)).length = 8 := by rw [List.length_drop]; omega
      have hf := refFixed8_ev (l.drop (l.length - 8)) (hb.drop _) hlen
      have hlt := fxd8 l hb (by omega)
      have jf : Ev (fun k => staddleref02_Decode.j0 k l false) (if l.length < 8 ∨ 72 < l.length ∨ 1 < fxd (l.drop (l.length - 8)) % 256 then ((⟨#[]⟩ : ByteArray), 0, 0, 20)
          else (strOfNums (l.take (l.length - 8)), ((fxd (l.drop (l.length - 8)) / 256 : Nat) : Int), ((fxd (l.drop (l.length - 8)) % 256 : Nat) : Int), 0)) := by
        refine Ev.step (f := fun k => (staddleref01_Fixed.f k (l.drop (l.length - 8)) 8).bind fun bt168 => (if (Int.tmod bt168.1 256) > 1 then (some ((⟨#[]⟩ : ByteArray), 0, 0, 20)) else (some (strOfNums (l.take (l.length - 8)), IntKind.u64.wrap (Int.tdiv bt168.1 256), wrap64 (Int.tmod bt168.1 256), 0)))) (fun k => ?_) (Ev.bind hf ?_)
        · simp only [staddleref02_Decode.j0]
          rw [if_neg (by decide), hw, if_pos (by omega), if_pos (by omega), Int.toNat_natCast]
        · simp only []
          generalize fxd (l.drop (l.length - 8)) = x at *
          have et : Int.tmod (x : Int) 256 = ((x % 256 : Nat) : Int) := rfl
          have ed : Int.tdiv (x : Int) 256 = ((x / 256 : Nat) : Int) := rfl
          rw [et, ed]
          by_cases h1 : 1 < x % 256
          · have hor : l.length < 8 ∨ 72 < l.length ∨ 1 < x % 256 := .inr (.inr h1)
            rw [if_pos hor]
            exact Ev.congr (fun k => by rw [if_pos (by omega)]) (Ev.now _)
          · have hor : ¬ (l.length < 8 ∨ 72 < l.length ∨ 1 < x % 256) := by omega
            rw [if_neg hor]
            exact Ev.congr (fun k => by rw [if_neg (by omega), wU64 (by omega) (by omega), w64 (by omega) (by omega)]) (Ev.now _)
      refine Ev.congr (fun k => ?_) jf
      unfold staddleref02_Decode.f
      rw [if_neg (by omega)]
      congr 1
      simp
      omega
theorem refCompare_ev (s1 : ByteArray) (q1 d1 : Int) (s2 : ByteArray) (q2 d2 : Int) : Ev (fun k => staddleref02_Compare.f k s1 q1 d1 s2 q2 d2) (kcmp s1 q1 d1 s2 q2 d2) := by
  have j (b : Bool) : Ev (fun k => staddleref02_Compare.j0 k b s1 q1 d1 s2 q2 d2) (if b = true then -1 else if q1 < q2 then 1 else if d1 < d2 then 1 else 0) := by
    refine Ev.step (f := fun _ => some (if b = true then -1 else if q1 < q2 then 1 else if d1 < d2 then 1 else 0)) (fun k => ?_) (Ev.now _)
    simp only [staddleref02_Compare.j0]
    split
    · rfl
    · split
      · rfl
      · split <;> rfl
  unfold kcmp
  rcases cmp_spec s1.data.toList s2.data.toList with ⟨e, h1, h2, h3⟩ | ⟨e, h1, h2, h3⟩ | ⟨e, h1, h2, h3⟩
  · rw [e, if_neg (by decide)]
    refine Ev.congr (f := fun _ => some (-1)) (fun k => ?_) (Ev.now _)
    unfold staddleref02_Compare.f
    rw [ByteArray.toList_eq, ByteArray.toList_eq, if_pos h1]
  · rw [e, if_neg (by decide)]
    refine Ev.congr (f := fun _ => some 1) (fun k => ?_) (Ev.now _)
    unfold staddleref02_Compare.f
    rw [ByteArray.toList_eq, ByteArray.toList_eq, h1, if_neg (by decide), if_pos h2]
  · rw [e, if_pos rfl]
    have hu : ∀ k, staddleref02_Compare.f k s1 q1 d1 s2 q2 d2 = if q1 > q2 then staddleref02_Compare.j0 k true s1 q1 d1 s2 q2 d2 else if q1 = q2 then staddleref02_Compare.j0 k (decide (d1 > d2)) s1 q1 d1 s2 q2 d2 else staddleref02_Compare.j0 k false s1 q1 d1 s2 q2 d2 := by
      intro k
      unfold staddleref02_Compare.f
      rw [ByteArray.toList_eq, ByteArray.toList_eq, h1, h2, if_neg (by decide), if_neg (by decide)]
    refine Ev.congr hu ?_
    rcases icmp_spec q2 q1 with ⟨f, g⟩ | ⟨f, g⟩ | ⟨f, g⟩
    · rw [f, if_neg (by decide)]
      have := j true
      rw [if_pos rfl] at this
      exact Ev.congr (fun k => by rw [if_pos (by omega)]) this
    · rw [f, if_neg (by decide)]
      have := j false
      rw [if_neg (by decide), if_pos (by omega)] at this
      exact Ev.congr (fun k => by rw [if_neg (by omega), if_neg (by omega)]) this
    · rw [f, if_pos rfl]
      have h := j (decide (d1 > d2))
      refine Ev.congr (fun k => by rw [if_neg (by omega), if_pos (by omega)]) ?_
      rcases icmp_spec d2 d1 with ⟨f2, g2⟩ | ⟨f2, g2⟩ | ⟨f2, g2⟩
      · rw [f2]
        rw [if_pos (by simp; omega)] at h
        exact h
      · rw [f2]
        rw [if_neg (by simp; omega), if_neg (by omega), if_pos (by omega)] at h
        exact h
      · rw [f2]
        rw [if_neg (by simp; omega), if_neg (by omega), if_neg (by omega)] at h
        exact h
end Go.Proofs.Ytppkpleagnddeaa.Q
namespace Go.Proofs.Ytppkpleagnddeaa.Q
open Go.RowKit Go.Proofs.YtppkpleagnddeaaW.PrintWords Go.Proofs.YtppkpleagnddeaaW.PrintLast Go.Proofs.YtppkpleagnddeaaW.PrintMore Go.Proofs.Ytppkpleagnddeaa.P Go.Proofs.Ytppkpleagnddeaa.M

theorem refFixed_l0 (l : List Int) (hb : IsB l) (s : Nat) (hs : s ≤ 8) (hl : s ≤ l.length) : ∀ (i : Nat), i ≤ s → Ev (fun k => staddleref01_Fixed.l0 k l ((fxd ((l.take s).drop i) : Nat) : Int) ((i : Int) - 1)) (((fxd (l.take s) : Nat) : Int), 0)
  | 0, _ => by
    refine Ev.step (f := fun _ => some (((fxd (l.take s) : Nat) : Int), 0)) (fun k => ?_) (Ev.now _)
    simp only [staddleref01_Fixed.l0]
    rw [if_neg (by omega), List.drop_zero]
  | i + 1, hi => by
    have ih := refFixed_l0 l hb s hs hl i (by omega)
    have hlen : (l.take s).length = s := by rw [List.length_take]; omega
    have hbt : IsB (l.take s) := hb.take s
    have hlt : i < (l.take s).length := by omega
    have hd := List.drop_eq_getElem_cons hlt
    have hc := hbt _ (List.getElem_mem hlt)
    have hq := fxd_lt _ (hbt.drop i)
    have hpow : 256 ^ ((l.take s).drop i).length ≤ 18446744073709551616 := by
      rw [List.length_drop]
      exact Nat.le_trans (Nat.pow_le_pow_right (by decide) (show (l.take s).length - i ≤ 8 by omega)) (by decide)
    have e0 : rd l (((i + 1 : Nat) : Int) - 1) = (l.take s)[i] := by
      unfold rd
      rw [show (((i + 1 : Nat) : Int) - 1).toNat = i by omega, List.getD_eq_getElem?_getD, List.getElem?_eq_getElem (show i < l.length by omega), List.getElem_take]
      rfl
    have ed : fxd ((l.take s).drop i) = ((l.take s)[i]).toNat + 256 * fxd ((l.take s).drop (i + 1)) := by rw [hd, fxd]
    refine Ev.step (fun k => ?_) ih
    simp only [staddleref01_Fixed.l0]
    rw [if_pos (by omega), if_pos (by omega), if_pos (by omega), e0]
    generalize fxd ((l.take s).drop i) = x at *
    generalize fxd ((l.take s).drop (i + 1)) = y at *
    generalize (l.take s)[i] = c at *
    have e1 : IntKind.u64.wrap ((IntKind.u64.wrap ((y : Int) * 256)) + (IntKind.u64.wrap c)) = (x : Int) := by
      rw [wU64 (n := (y : Int) * 256) (by omega) (by omega), wU64 (n := c) (by omega) (by omega), wU64 (by omega) (by omega)]
      omega
    have e2 : wrap64 (((i + 1 : Nat) : Int) - 1 - 1) = (i : Int) - 1 := by rw [w64 (by omega) (by omega)]; omega
    rw [e1, e2]
theorem refFixed_ev (l : List Int) (hb : IsB l) (s : Nat) (h1 : 1 ≤ s) (hs : s ≤ 8) : Ev (fun k => staddleref01_Fixed.f k l (s : Int)) (if l.length < s then (0, 10) else ((fxd (l.take s) : Int), 0)) := by
  have hj : ∀ k, staddleref01_Fixed.f k l (s : Int) = staddleref01_Fixed.j0 k l (s : Int) false := by
    intro k
    unfold staddleref01_Fixed.f
    rw [if_neg (by omega), decide_eq_false (show ¬ (s : Int) > 8 by omega)]
  refine Ev.congr hj ?_
  by_cases hlt : l.length < s
  · rw [if_pos hlt]
    refine Ev.step (f := fun _ => some (0, 10)) (fun k => ?_) (Ev.now _)
    simp only [staddleref01_Fixed.j0]
    rw [if_neg (by decide), if_pos (by omega)]
  · rw [if_neg hlt]
    have h := refFixed_l0 l hb s hs (by omega) s (Nat.le_refl _)
    rw [List.drop_of_length_le (show (l.take s).length ≤ s by rw [List.length_take]; omega)] at h
    refine Ev.step (fun k => ?_) h
    simp only [staddleref01_Fixed.j0]
    rw [if_neg (by decide), if_neg (by omega), show wrap64 ((s : Int) - 1) = (s : Int) - 1 from w64 (by omega) (by omega)]
    rfl
theorem refUvarint_l0 (l : List Int) (hb : IsB l) : ∀ (d i acc : Nat), i + d = l.length → i ≤ 9 → acc < 2 ^ (7 * i) →
    Ev (fun k => staddleref01_Uvarint.l0 k l (acc : Int) (i : Int)) (((uvd (l.drop i) i acc).1 : Int), ((uvd (l.drop i) i acc).2.1 : Int), ((uvd (l.drop i) i acc).2.2 : Int)) := by
  intro d
  induction d with
  | zero =>
    intro i acc hi h9 _
    have hd : l.drop i = [] := by rw [List.drop_eq_nil_iff]; omega
    rw [hd]
    refine Ev.step (f := fun _ => some (0, 0, 10)) (fun k => ?_) (Ev.now _)
    simp only [staddleref01_Uvarint.l0]
    rw [if_pos (by omega), if_pos (by omega)]
  | succ d ih =>
    intro i acc hi h9 ha
    have hlt : i < l.length := by omega
    obtain ⟨c, hc⟩ : ∃ c, l[i] = c := ⟨_, rfl⟩
    have hcb := hb c (by rw [← hc]; exact List.getElem_mem hlt)
    have hrd : rd l (i : Int) = c := by simp [rd, List.getD_eq_getElem?_getD, hlt, hc]
    have hdrop : l.drop i = c :: l.drop (i + 1) := by rw [List.drop_eq_getElem_cons hlt, hc]
    rw [hdrop]
    have e7 : IntKind.u64.wrap (wrap64 (7 * (i : Int))) = ((7 * i : Nat) : Int) := by rw [w64 (by omega) (by omega), wU64 (by omega) (by omega)]; omega
    have e1 : wrap64 ((i : Int) + 1) = ((i + 1 : Nat) : Int) := by rw [w64 (by omega) (by omega)]; omega
    have hj : ∀ k, staddleref01_Uvarint.l0 (k + 1) l (acc : Int) (i : Int) = staddleref01_Uvarint.j1 k l (acc : Int) (i : Int) (decide (i = 9 ∧ 1 < c)) := by
      intro k
      simp only [staddleref01_Uvarint.l0]
      rw [if_pos (by omega), if_neg (by omega)]
      by_cases h : i = 9
      · rw [if_pos (by omega), if_pos (by omega), if_pos (by omega), hrd]
        congr 1
        simp [h]
      · rw [if_neg (by omega)]
        congr 1
        simp [h]
    refine Ev.step hj ?_
    by_cases h91 : i = 9 ∧ 1 < c
    · simp only [uvd]
      rw [if_pos h91]
      refine Ev.step (f := fun _ => some (0, 0, 11)) (fun k => ?_) (Ev.now _)
      simp only [staddleref01_Uvarint.j1]
      rw [if_pos (by simpa using h91)]
    · have hm : (c % 128).toNat * 2 ^ (7 * i) < 18446744073709551616 := by
        by_cases e9 : i = 9
        · subst e9
          have : (c % 128).toNat ≤ 1 := by omega
          have := Nat.mul_le_mul_right (2 ^ (7 * 9)) this
          have e63 : (2 : Nat) ^ (7 * 9) = 9223372036854775808 := by decide
          omega
        · have hp8 : 2 ^ (7 * i) ≤ 2 ^ 56 := Nat.pow_le_pow_right (by decide) (by omega)
          have : (c % 128).toNat ≤ 127 := by omega
          have := Nat.mul_le_mul this hp8
          have e56 : (2 : Nat) ^ 56 = 72057594037927936 := by decide
          omega
      have ha63 : acc < 9223372036854775808 := Nat.lt_of_lt_of_le ha (Nat.le_trans (Nat.pow_le_pow_right (by decide) (show 7 * i ≤ 63 by omega)) (by decide))
      have hsum : acc + (c % 128).toNat * 2 ^ (7 * i) < 18446744073709551616 := by
        by_cases e9 : i = 9
        · subst e9
          have : (c % 128).toNat ≤ 1 := by omega
          have := Nat.mul_le_mul_right (2 ^ (7 * 9)) this
          have e63 : (2 : Nat) ^ (7 * 9) = 9223372036854775808 := by decide
          omega
        · have hp8 : 2 ^ (7 * i) ≤ 2 ^ 56 := Nat.pow_le_pow_right (by decide) (by omega)
          have : (c % 128).toNat ≤ 127 := by omega
          have := Nat.mul_le_mul this hp8
          have e56 : (2 : Nat) ^ 56 = 72057594037927936 := by decide
          omega
      have hval : IntKind.u64.wrap ((acc : Int) + (shl .u64 (IntKind.u64.wrap (Int.tmod c 128)) (IntKind.u64.wrap (wrap64 (7 * (i : Int)))))) = ((acc + (c % 128).toNat * 2 ^ (7 * i) : Nat) : Int) := by
        rw [Int.tmod_eq_emod_of_nonneg hcb.1, wU64 (n := c % 128) (by omega) (by omega), e7, show c % 128 = (((c % 128).toNat : Nat) : Int) by omega, shl64 _ _ (by omega) hm]
        simp only [Int.toNat_natCast]
        generalize (c % 128).toNat * 2 ^ (7 * i) = z at *
        rw [wU64 (by omega) (by omega)]
        omega
      have hjj : ∀ k, staddleref01_Uvarint.j1 (k + 1) l (acc : Int) (i : Int) (decide (i = 9 ∧ 1 < c)) = if c < 128 then some (((acc + (c % 128).toNat * 2 ^ (7 * i) : Nat) : Int), ((i + 1 : Nat) : Int), 0) else staddleref01_Uvarint.l0 k l ((acc + (c % 128).toNat * 2 ^ (7 * i) : Nat) : Int) ((i + 1 : Nat) : Int) := by
        intro k
        simp only [staddleref01_Uvarint.j1]
        rw [if_neg (by simpa using h91), if_pos (by omega), if_pos (by omega), hrd, hval, if_pos (by rw [e7]; omega), e1]
      simp only [uvd]
      rw [if_neg h91]
      by_cases h128 : c < 128
      · rw [if_pos h128]
        refine Ev.step (f := fun _ => some (((acc + (c % 128).toNat * 2 ^ (7 * i) : Nat) : Int), ((i + 1 : Nat) : Int), 0)) (fun k => ?_) (Ev.now _)
        rw [hjj k, if_pos h128]
      · rw [if_neg h128]
        have h8 : i ≤ 8 := by omega
        have ha2 : acc + (c % 128).toNat * 2 ^ (7 * i) < 2 ^ (7 * (i + 1)) := by
          rw [pow7]
          have : (c % 128).toNat ≤ 127 := by omega
          have := Nat.mul_le_mul_right (2 ^ (7 * i)) this
          omega
        refine Ev.step (fun k => ?_) (ih (i + 1) _ (by omega) (by omega) ha2)
        rw [hjj k, if_neg h128]
theorem refUvarint_ev (l : List Int) (hb : IsB l) : Ev (fun k => staddleref01_Uvarint.f k l) (((uvd l 0 0).1 : Int), ((uvd l 0 0).2.1 : Int), ((uvd l 0 0).2.2 : Int)) :=
  refUvarint_l0 l hb l.length 0 0 (by omega) (by omega) (by decide)
end Go.Proofs.Ytppkpleagnddeaa.Q
namespace Go.Proofs.Ytppkpleagnddeaa.Q
open Go.RowKit Go.Proofs.YtppkpleagnddeaaW.PrintWords Go.Proofs.YtppkpleagnddeaaW.PrintLast Go.Proofs.YtppkpleagnddeaaW.PrintMore Go.Proofs.Ytppkpleagnddeaa.P Go.Proofs.Ytppkpleagnddeaa.M

/-! ### The document's Build -/
theorem w64_succ (n : Nat) (h : n ≤ 1000000) : wrap64 ((n : Int) + 1) = ((n + 1 : Nat) : Int) := by rw [w64 (by omega) (by omega)]; rfl
theorem refCheck_l0 (l : List S42) (hl : l.length ≤ 1000000) : ∀ (rest pre : List S42), l = pre ++ rest → Ev (fun k => staddleref11_Check.l0 k l (pre.length : Int)) (ck pre.getLast? rest)
  | [], pre, hp => by
    have hlen : l.length = pre.length := by rw [hp, List.append_nil]
    exact Ev.step (fun k => staddleref11_Check.l0.eq_2 (k := k) ..) (Ev.ifF (by omega) (Ev.now _))
  | e :: t, pre, hp => by
    have hlt : pre.length < l.length := by rw [hp, List.length_append, List.length_cons]; omega
    have hrd : rd_T42 l (pre.length : Int) = e := by rw [hp, rd_at]
    refine Ev.step (fun k => staddleref11_Check.l0.eq_2 (k := k) ..) (Ev.ifT (by omega) (Ev.ifT (by omega) ?_))
    rw [hrd]
    refine Ev.bind (a := ck1 e) (Ev.congr (f := fun _ => some (ck1 e)) (fun k => refCheck_eq ..) (Ev.now _)) ?_
    have ih := refCheck_l0 l hl t (pre ++ [e]) (by rw [hp]; simp)
    rw [show (pre ++ [e]).getLast? = some e by simp, show (pre ++ [e]).length = pre.length + 1 by simp] at ih
    have hck : ck pre.getLast? (e :: t) = if ckAt pre.getLast? e = 0 then ck (some e) t else ckAt pre.getLast? e := rfl
    rw [hck]
    by_cases h0 : ck1 e = 0
    case neg =>
      have hA : ckAt pre.getLast? e = ck1 e := by unfold ckAt; rw [if_neg h0]
      rw [hA, if_neg h0]
      exact Ev.ifF h0 (Ev.now _)
    refine Ev.ifT h0 ?_
    by_cases hv : (e.f1.size : Int) > 1000
    · have hA : ckAt pre.getLast? e = 31 := by unfold ckAt; rw [if_pos h0, if_pos hv]
      rw [hA]
      exact Ev.ifT hv (Ev.now _)
    refine Ev.ifF hv ?_
    rw [w64_succ pre.length (by omega)]
    rcases List.eq_nil_or_concat pre with rfl | ⟨p', p, rfl⟩
    · have hA : ckAt ([] : List S42).getLast? e = 0 := by unfold ckAt; rw [if_pos h0, if_neg hv]; rfl
      rw [if_pos hA]
      exact Ev.ifF (by simp) ih
    · rw [List.concat_eq_append] at *
      have hpr : rd_T42 l (wrap64 (((p' ++ [p]).length : Int) - 1)) = p := by rw [hp]; exact rd_prev p' p (e :: t) (by omega)
      have hpl : (p' ++ [p]).length = p'.length + 1 := by simp
      have hwr : wrap64 (((p' ++ [p]).length : Int) - 1) = (p'.length : Int) := by rw [hpl, w64 (by omega) (by omega)]; omega
      have hgl : (p' ++ [p]).getLast? = some p := by simp
      refine Ev.ifT (by omega) (Ev.ifT (by omega) (Ev.ifT (by omega) ?_))
      rw [hpr]
      refine Ev.bind (a := kk p e) (refCompare_ev ..) ?_
      by_cases hq : kk p e ≥ 0
      · have hA : ckAt (p' ++ [p]).getLast? e = 110 := by rw [hgl]; unfold ckAt; rw [if_pos h0, if_neg hv]; simp only []; rw [if_pos hq]
        rw [hA]
        exact Ev.ifT hq (Ev.now _)
      · have hA : ckAt (p' ++ [p]).getLast? e = 0 := by rw [hgl]; unfold ckAt; rw [if_pos h0, if_neg hv]; simp only []; rw [if_neg hq]
        rw [if_pos hA]
        exact Ev.ifF hq ih
theorem refBlockCheck_ev (l : List S42) (hl : l.length ≤ 1000000) : Ev (fun k => staddleref11_Check.f k l) (ck none l) := refCheck_l0 l hl l [] rfl
theorem refShared_l0 (a b : List Int) (ha : a.length ≤ 1000000) : ∀ (dd n : Nat), n + dd = a.length → Ev (fun k => staddleref11_shared.l0 k a b (n : Int)) ((n + sh (a.drop n) (b.drop n) : Nat) : Int)
  | 0, n, hd => by
    refine Ev.step (fun k => staddleref11_shared.l0.eq_2 (k := k) ..) (Ev.ifF (by omega) ?_)
    rw [(List.drop_eq_nil_iff (l := a)).2 (by omega)]
    exact ev_eq (by simp [sh]) (Ev.now _)
  | dd + 1, n, hd => by
    refine Ev.step (fun k => staddleref11_shared.l0.eq_2 (k := k) ..) (Ev.ifT (by omega) ?_)
    have hlt : n < a.length := by omega
    by_cases hk : n < b.length
    · rw [List.drop_eq_getElem_cons hlt, List.drop_eq_getElem_cons hk, sh]
      have r1 : rd a (n : Int) = a[n] := by unfold rd; rw [Int.toNat_natCast, List.getD_eq_getElem?_getD, List.getElem?_eq_getElem hlt]; rfl
      have r2 : rd b (n : Int) = b[n] := by unfold rd; rw [Int.toNat_natCast, List.getD_eq_getElem?_getD, List.getElem?_eq_getElem hk]; rfl
      refine Ev.ifT (by omega) (Ev.ifT (by omega) ?_)
      rw [r1, r2]
      by_cases he : a[n] = b[n]
      · rw [if_pos he]
        refine Ev.ifT he ?_
        rw [w64 (by omega) (by omega)]
        exact ev_eq (by omega) (refShared_l0 a b ha dd (n + 1) (by omega))
      · rw [if_neg he]
        exact Ev.ifF he (Ev.now _)
    · rw [(List.drop_eq_nil_iff (l := b)).2 (by omega)]
      have hz : sh (a.drop n) [] = 0 := by cases a.drop n <;> rfl
      rw [hz]
      exact Ev.ifF (by omega) (Ev.now _)
theorem refShared_ev (a b : List Int) (ha : a.length ≤ 1000000) : Ev (fun k => staddleref11_shared.f k a b) ((sh a b : Nat) : Int) := by
  have := refShared_l0 a b ha a.length 0 (by omega)
  rw [List.drop_zero, List.drop_zero, Nat.zero_add] at this
  exact this
theorem refBuild_l1 (iv : Nat) (h1 : 1 ≤ iv) (h16 : iv ≤ 16) (ms : List Nat) (hms : ms.length ≤ 400000) (hm : ∀ o ∈ ms, o < 4294967296) : ∀ (rest pre : List Nat) (out : List Int), ms = pre ++ rest → out.length ≤ 1000000000 + 4 * pre.length →
    Ev (fun k => staddleref11_Build.l1 k (iv : Int) out (ms.map (fun n : Nat => (n : Int))) (pre.length : Int)) (out ++ (mfx rest ++ ((iv : Int) :: fx 4 ms.length)), 0)
  | [], pre, out, hp, ho => by
    have hlen : ms.length = pre.length := by rw [hp, List.append_nil]
    refine Ev.step (fun k => staddleref11_Build.l1.eq_2 (k := k) ..) (Ev.ifF (by rw [List.length_map]; omega) (Ev.ifT (by omega) ?_))
    rw [List.length_map, wU64 (by omega) (by omega), show ((iv : Int) % 256) = (iv : Int) by omega]
    refine Ev.bind (refPutFixed_ev ms.length 4 (out ++ [(iv : Int)]) (by omega) (by decide) (by decide) (by simp only [List.length_append, List.length_singleton]; omega)) (ev_eq ?_ (Ev.now _))
    simp [mfx]
  | o :: t, pre, out, hp, ho => by
    have hlt : pre.length < ms.length := by rw [hp, List.length_append, List.length_cons]; omega
    have hrd : rd (ms.map (fun n : Nat => (n : Int))) (pre.length : Int) = (o : Int) := by
      unfold rd
      rw [Int.toNat_natCast, hp]
      simp [List.getD_eq_getElem?_getD]
    have hob := hm o (by rw [hp]; simp)
    refine Ev.step (fun k => staddleref11_Build.l1.eq_2 (k := k) ..) (Ev.ifT (by rw [List.length_map]; omega) (Ev.ifT (by omega) ?_))
    rw [hrd, wU64 (by omega) (by omega)]
    have hf := refPutFixed_ev o 4 [] (by omega) (by decide) (by decide) (by simp)
    rw [List.nil_append] at hf
    refine Ev.bind hf (Ev.ifT (by rw [fx_length]; omega) ?_)
    have ih := refBuild_l1 iv h1 h16 ms hms hm t (pre ++ [o]) (out ++ fx 4 o) (by rw [hp]; simp) (by simp only [List.length_append, fx_length, List.length_singleton]; omega)
    rw [w64 (by omega) (by omega), show ((pre.length : Int) + 1) = ((pre.length + 1 : Nat) : Int) from rfl]
    rw [show (pre ++ [o]).length = pre.length + 1 by simp] at ih
    refine ev_eq ?_ ih
    rw [mfx]
    simp only [List.append_assoc]
theorem refBuild_l0 (l : List S42) (iv : Nat) (h1 : 1 ≤ iv) (h16 : iv ≤ 16) (hl : l.length ≤ 400000) (hw : ∀ e ∈ l, 0 ≤ e.f0.f1) (hck : ∀ e ∈ l, ck1 e = 0 ∧ e.f1.size ≤ 1000) : ∀ (rest pre : List S42) (out last : List Int) (ms : List Nat), l = pre ++ rest → out.length ≤ 1200 * pre.length → ms.length ≤ pre.length → (∀ o ∈ ms, o < 4294967296) → last.length ≤ 72 →
    Ev (fun k => staddleref11_Build.l0 k l (iv : Int) out (ms.map (fun n : Nat => (n : Int))) last (pre.length : Int))
      (out ++ (body iv pre.length last rest ++ (mfx (ms ++ mks iv pre.length last out.length rest) ++ ((iv : Int) :: fx 4 (ms ++ mks iv pre.length last out.length rest).length))), 0)
  | [], pre, out, last, ms, hp, ho, hm, hmb, hla => by
    have hlen : l.length = pre.length := by rw [hp, List.append_nil]
    refine Ev.step (fun k => staddleref11_Build.l0.eq_2 (k := k) ..) (Ev.ifF (by omega) ?_)
    have := refBuild_l1 iv h1 h16 ms (by omega) hmb ms [] out rfl (by simp only [List.length_nil]; omega)
    simpa [body, mks] using this
  | e :: t, pre, out, last, ms, hp, ho, hm, hmb, hla => by
    have hlt : pre.length < l.length := by rw [hp, List.length_append, List.length_cons]; omega
    have hrd : rd_T42 l (pre.length : Int) = e := by rw [hp, rd_at]
    have he : e ∈ l := by rw [hp]; simp
    obtain ⟨h0, hv⟩ := hck e he
    have hs := ck1_size h0
    have hkl := kb_length e
    have hel := ent_length (nsh iv pre.length last (kb e)) (kb e) e.f1 (by omega) (nsh_le ..) hv
    have ih := refBuild_l0 l iv h1 h16 hl hw hck t (pre ++ [e]) (out ++ ent (nsh iv pre.length last (kb e)) (kb e) e.f1) (kb e) (ms ++ (if pre.length % iv = 0 then [out.length] else []))
      (by rw [hp]; simp) (by simp only [List.length_append, List.length_singleton]; omega) (by simp only [List.length_append, List.length_singleton]; split <;> simp only [List.length_cons, List.length_nil] <;> omega)
      (fun o hmem => by
        rcases List.mem_append.1 hmem with h | h
        · exact hmb o h
        · split at h
          · simp only [List.mem_singleton] at h; omega
          · cases h) (by omega)
    rw [show (pre ++ [e]).length = pre.length + 1 by simp, show (out ++ ent (nsh iv pre.length last (kb e)) (kb e) e.f1).length = out.length + (ent (nsh iv pre.length last (kb e)) (kb e) e.f1).length from List.length_append] at ih
    refine Ev.step (fun k => staddleref11_Build.l0.eq_2 (k := k) ..) (Ev.ifT (by omega) (Ev.ifT (by omega) ?_))
    rw [hrd]
    have hen := refEncode_ev e.f0.f0 e.f0.f1 e.f0.f2 (hw e he)
    rw [enc_kb, if_pos h0] at hen
    refine Ev.bind hen (Ev.bind (refShared_ev last (kb e) (by omega)) (Ev.ifF (by omega) ?_))
    simp only []
    have em : Int.tmod (pre.length : Int) (iv : Int) = ((pre.length % iv : Nat) : Int) := rfl
    rw [em]
    have e3 := refPutUvarint_ev e.f1.size [] (by omega) (by simp)
    have l3 := uv_len64 (n := e.f1.size) (by omega)
    have hsz : e.f1.size ≤ 9223372036854775807 := by omega
    rw [w64_succ pre.length (by omega), body, mks]
    by_cases hm0 : pre.length % iv = 0
    · have hn0 : nsh iv pre.length last (kb e) = 0 := by unfold nsh; rw [if_pos hm0]
      rw [hn0, if_pos hm0] at ih
      rw [hn0, if_pos hm0]
      have e1 := refPutUvarint_ev 0 [] (by omega) (by simp)
      have l1 := uv_len64 (n := 0) (by omega)
      have e2 := refPutUvarint_ev (kb e).length [] (by omega) (by simp)
      have l2 := uv_len64 (n := (kb e).length) (by omega)
      rw [List.nil_append] at e1 e2 e3
      refine Ev.ifT (by omega) (Ev.ifT (by rw [List.length_map]; omega) (Ev.bind e1 (Ev.ifT (by omega) (Ev.some_ ?_))))
      rw [show wrap64 (((kb e).length : Int) - 0) = (((kb e).length : Nat) : Int) by rw [w64 (by omega) (by omega)]; omega, wU64 (by omega) (by omega)]
      refine Ev.bind e2 (Ev.ifT (by simp only [List.length_append]; omega) (Ev.some_ ?_))
      rw [wU64 (by omega) (by omega)]
      refine Ev.bind e3 (Ev.ifT (by simp only [List.length_append]; omega) (Ev.some_ (Ev.ifT (by omega) (Ev.some_ (Ev.ifT (by simp only [List.length_append, List.length_drop]; omega) (Ev.some_ (Ev.ifT hsz (Ev.some_ (Ev.ifT (by simp only [List.length_append, List.length_drop, bytesOf_length]; omega) ?_)))))))))
      simpa [ent, List.append_assoc, List.map_append] using ih
    · have hn0 : nsh iv pre.length last (kb e) = sh last (kb e) := by unfold nsh; rw [if_neg hm0]
      rw [hn0, if_neg hm0] at ih
      rw [hn0, if_neg hm0]
      have hsl := (sh_le last (kb e)).2
      have e1 := refPutUvarint_ev (sh last (kb e)) [] (by omega) (by simp)
      have l1 := uv_len64 (n := sh last (kb e)) (by omega)
      have e2 := refPutUvarint_ev ((kb e).length - sh last (kb e)) [] (by omega) (by simp)
      have l2 := uv_len64 (n := (kb e).length - sh last (kb e)) (by omega)
      rw [List.nil_append] at e1 e2 e3
      refine Ev.ifF (by omega) ?_
      rw [wU64 (n := ((sh last (kb e) : Nat) : Int)) (by omega) (by omega)]
      refine Ev.bind e1 (Ev.ifT (by omega) (Ev.some_ ?_))
      rw [show wrap64 (((kb e).length : Int) - ((sh last (kb e) : Nat) : Int)) = (((kb e).length - sh last (kb e) : Nat) : Int) by rw [w64 (by omega) (by omega)]; omega, wU64 (n := (((kb e).length - sh last (kb e) : Nat) : Int)) (by omega) (by omega)]
      refine Ev.bind e2 (Ev.ifT (by simp only [List.length_append]; omega) (Ev.some_ ?_))
      rw [wU64 (by omega) (by omega)]
      refine Ev.bind e3 (Ev.ifT (by simp only [List.length_append]; omega) (Ev.some_ (Ev.ifT (by omega) (Ev.ifT (by omega) (Ev.some_ ?_)))))
      rw [Int.toNat_natCast]
      refine Ev.ifT (by simp only [List.length_append, List.length_drop]; omega) (Ev.some_ (Ev.ifT hsz (Ev.some_ (Ev.ifT (by simp only [List.length_append, List.length_drop, bytesOf_length]; omega) ?_))))
      simpa [ent, List.append_assoc] using ih
theorem refBuild_evg (l : List S42) (iv : Int) (hl : l.length ≤ 400000) (hw : ∀ e ∈ l, 0 ≤ e.f0.f1) : Ev (fun k => staddleref11_Build.f k l iv) (blt l iv) := by
  unfold blt
  have hj : ∀ b : Bool, b = decide (iv < 1 ∨ 16 < iv) → Ev (fun k => staddleref11_Build.j0 k l iv b) (if iv < 1 ∨ 16 < iv then ([], 1) else if ck none l = 0 then (lay iv.toNat l, 0) else ([], ck none l)) := by
    intro b hb
    refine Ev.step (fun k => staddleref11_Build.j0.eq_2 (k := k) ..) ?_
    by_cases h : iv < 1 ∨ 16 < iv
    · rw [if_pos h]
      exact Ev.ifT (by rw [hb, decide_eq_true h]) (Ev.now _)
    · rw [if_neg h]
      refine Ev.ifF (by rw [hb, decide_eq_false h]; decide) (Ev.bind (refBlockCheck_ev l (by omega)) ?_)
      by_cases hc : ck none l = 0
      · rw [if_pos hc]
        refine Ev.ifT hc ?_
        have := refBuild_l0 l iv.toNat (by omega) (by omega) hl hw (ck_all hc) l [] [] [] [] (by simp) (by simp) (by simp) (by simp) (by simp)
        rw [show ((iv.toNat : Nat) : Int) = iv by omega] at this
        simpa [lay, show ((iv.toNat : Nat) : Int) = iv by omega] using this
      · rw [if_neg hc]
        exact Ev.ifF hc (Ev.now _)
  by_cases h1 : iv < 1
  · exact Ev.congr (fun k => by unfold staddleref11_Build.f; rw [if_pos h1]) (hj true (by simp [h1]))
  · exact Ev.congr (fun k => by unfold staddleref11_Build.f; rw [if_neg h1]) (hj (decide (iv > 16)) (by simp [h1]))
end Go.Proofs.Ytppkpleagnddeaa.Q
