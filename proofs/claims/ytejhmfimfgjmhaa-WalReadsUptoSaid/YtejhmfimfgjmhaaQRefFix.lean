/- What the document's own PutFixed and Fixed come to: the words of MNum (a seat without its Uvarint and Text). -/
import Derived.Test.YtejhmfimfgjmhaaP11
import Derived.Test.YtejhmfimfgjmhaaP9
import Derived.Test.YtejhmfimfgjmhaaQFix
namespace Go.Proofs.Ytejhmfimfgjmhaa.Q
open Go.RowKit Go.Proofs.YtejhmfimfgjmhaaW.PrintWords Go.Proofs.YtejhmfimfgjmhaaW.PrintLast Go.Proofs.YtejhmfimfgjmhaaW.PrintMore Go.Proofs.Ytejhmfimfgjmhaa.P Go.Proofs.Ytejhmfimfgjmhaa.M

theorem fx_succ (s n : Nat) : fx (s + 1) n = ((n % 256 : Nat) : Int) :: fx s (n / 256) := by rw [fx]
theorem refPutFixed_l0 : ∀ (s i n : Nat) (l : List Int), n < 18446744073709551616 → i + s ≤ 8 → l.length + s ≤ 140737488355328 → Ev (fun k => staddleref01_PutFixed.l0 k (n : Int) ((i + s : Nat) : Int) l (i : Int)) (l ++ fx s n)
  | 0, i, n, l, hn, hi, hl => by
    refine Ev.step (f := fun _ => some (l ++ fx 0 n)) (fun k => ?_) (Ev.now _)
    simp only [staddleref01_PutFixed.l0]
    rw [if_neg (by omega), fx, List.append_nil]
  | s + 1, i, n, l, hn, hi, hl => by
    have ih := refPutFixed_l0 s (i + 1) (n / 256) (l ++ [((n % 256 : Nat) : Int)]) (by omega) (by omega) (by simp; omega)
    rw [List.append_assoc, List.singleton_append, ← fx_succ] at ih
    refine Ev.step (fun k => ?_) ih
    simp only [staddleref01_PutFixed.l0]
    have e1 : IntKind.u64.wrap (Int.tdiv (n : Int) 256) = ((n / 256 : Nat) : Int) := by
      rw [show Int.tdiv (n : Int) 256 = ((n / 256 : Nat) : Int) from rfl, wU64 (by omega) (by omega)]
    have e2 : (Int.tmod (n : Int) 256) % 256 = ((n % 256 : Nat) : Int) := by
      rw [show Int.tmod (n : Int) 256 = ((n % 256 : Nat) : Int) from rfl]
      omega
    have e3 : wrap64 ((i : Int) + 1) = ((i + 1 : Nat) : Int) := by rw [w64 (by omega) (by omega)]; rfl
    rw [if_pos (by omega), if_pos (by omega), e1, e2, e3]
    congr 1
    omega
theorem refPutFixed_ev (n s : Nat) (l : List Int) (hn : n < 18446744073709551616) (h1 : 1 ≤ s) (hs : s ≤ 8) (hl : l.length + 8 < 140737488355328) : Ev (fun k => staddleref01_PutFixed.f k l (n : Int) (s : Int)) (l ++ fx s n) := by
  have h := refPutFixed_l0 s 0 n l hn (by omega) (by omega)
  rw [Nat.zero_add] at h
  have hj : Ev (fun k => staddleref01_PutFixed.j0 k (n : Int) (s : Int) l false) (l ++ fx s n) := by
    refine Ev.step (fun k => ?_) h
    simp only [staddleref01_PutFixed.j0]
    rw [if_neg (by decide)]
    rfl
  refine Ev.congr (fun k => ?_) hj
  unfold staddleref01_PutFixed.f
  rw [Option.bind_some, if_pos (by simp only [List.length_nil]; omega), Option.bind_some, if_neg (by omega), List.nil_append]
  rw [decide_eq_false (show ¬ (s : Int) > 8 by omega)]
theorem refFixed_l0 (l : List Int) (hb : IsB l) (s : Nat) (hs : s ≤ 8) (hl : s ≤ l.length) : ∀ (i : Nat), i ≤ s → Ev (fun k => staddleref01_Fixed.l0 k l ((fxd ((l.take s).drop i) : Nat) : Int) ((i : Int) - 1)) (((fxd (l.take s) : Nat) : Int), 0)
  | 0, _ => by
    refine Ev.step (f := fun _ => some (((fxd (l.take s) : Nat) : Int), 0)) (fun k => ?_) (Ev.now _)
    simp only [staddleref01_Fixed.l0]
    rw [if_neg (by omega), List.drop_zero]
  | i + 1, hi => by
    have ih := refFixed_l0 l hb s hs hl i (by omega)
    have hlen : (l.take s).length = s := by rw [List.length_take]; omega
    have hbt : IsB (l.take s) := hb.take s
    have hlt : i < (l.take s).length := by omega
    have hd := List.drop_eq_getElem_cons hlt
    have hc := hbt _ (List.getElem_mem hlt)
    have hq := fxd_lt _ (hbt.drop i)
    have hpow : 256 ^ ((l.take s).drop i).length ≤ 18446744073709551616 := by
      rw [List.length_drop]
      exact Nat.le_trans (Nat.pow_le_pow_right (by decide) (show (l.take s).length - i ≤ 8 by omega)) (by decide)
    have e0 : rd l (((i + 1 : Nat) : Int) - 1) = (l.take s)[i] := by
      unfold rd
      rw [show (((i + 1 : Nat) : Int) - 1).toNat = i by omega, List.getD_eq_getElem?_getD, List.getElem?_eq_getElem (show i < l.length by omega), List.getElem_take]
      rfl
    have ed : fxd ((l.take s).drop i) = ((l.take s)[i]).toNat + 256 * fxd ((l.take s).drop (i + 1)) := by rw [hd, fxd]
    refine Ev.step (fun k => ?_) ih
    simp only [staddleref01_Fixed.l0]
    rw [if_pos (by omega), if_pos (by omega), if_pos (by omega), e0]
    generalize fxd ((l.take s).drop i) = x at *
    generalize fxd ((l.take s).drop (i + 1)) = y at *
    generalize (l.take s)[i] = c at *
    have e1 : IntKind.u64.wrap ((IntKind.u64.wrap ((y : Int) * 256)) + (IntKind.u64.wrap c)) = (x : Int) := by
      rw [wU64 (n := (y : Int) * 256) (by omega) (by omega), wU64 (n := c) (by omega) (by omega), wU64 (by omega) (by omega)]
      omega
    have e2 : wrap64 (((i + 1 : Nat) : Int) - 1 - 1) = (i : Int) - 1 := by rw [w64 (by omega) (by omega)]; omega
    rw [e1, e2]
theorem refFixed_ev (l : List Int) (hb : IsB l) (s : Nat) (h1 : 1 ≤ s) (hs : s ≤ 8) : Ev (fun k => staddleref01_Fixed.f k l (s : Int)) (if l.length < s then (0, 10) else ((fxd (l.take s) : Int), 0)) := by
  have hj : ∀ k, staddleref01_Fixed.f k l (s : Int) = staddleref01_Fixed.j0 k l (s : Int) false := by
    intro k
    unfold staddleref01_Fixed.f
    rw [if_neg (by omega), decide_eq_false (show ¬ (s : Int) > 8 by omega)]
  refine Ev.congr hj ?_
  by_cases hlt : l.length < s
  · rw [if_pos hlt]
    refine Ev.step (f := fun _ => some (0, 10)) (fun k => ?_) (Ev.now _)
    simp only [staddleref01_Fixed.j0]
    rw [if_neg (by decide), if_pos (by omega)]
  · rw [if_neg hlt]
    have h := refFixed_l0 l hb s hs (by omega) s (Nat.le_refl _)
    rw [List.drop_of_length_le (show (l.take s).length ≤ s by rw [List.length_take]; omega)] at h
    refine Ev.step (fun k => ?_) h
    simp only [staddleref01_Fixed.j0]
    rw [if_neg (by decide), if_neg (by omega), show wrap64 ((s : Int) - 1) = (s : Int) - 1 from w64 (by omega) (by omega)]
    rfl
end Go.Proofs.Ytejhmfimfgjmhaa.Q
