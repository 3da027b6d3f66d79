/- What the document's own PutFixed, PutUvarint, PutText come to: MNum's words. -/
import Derived.Test.YtbmhcdledmolgaaP12
import Derived.Test.YtbmhcdledmolgaaQNum
import Derived.Test.YtbmhcdledmolgaaQFix
namespace Go.Proofs.Ytbmhcdledmolgaa.Q
open Go.RowKit Go.Proofs.YtbmhcdledmolgaaW.PrintWords Go.Proofs.YtbmhcdledmolgaaW.PrintLast Go.Proofs.YtbmhcdledmolgaaW.PrintMore Go.Proofs.Ytbmhcdledmolgaa.P Go.Proofs.Ytbmhcdledmolgaa.M

theorem fx_succ (s n : Nat) : fx (s + 1) n = ((n % 256 : Nat) : Int) :: fx s (n / 256) := by rw [fx]
theorem refPutFixed_l0 : ∀ (s i n : Nat) (l : List Int), n < 18446744073709551616 → i + s ≤ 8 → l.length + s ≤ 140737488355328 → Ev (fun k => staddleref01_PutFixed.l0 k (n : Int) ((i + s : Nat) : Int) l (i : Int)) (l ++ fx s n)
  | 0, i, n, l, hn, hi, hl => by
    refine Ev.step (f := fun _ => some (l ++ fx 0 n)) (fun k => ?_) (Ev.now _)
    simp only [staddleref01_PutFixed.l0]
    rw [if_neg (by omega), fx, List.append_nil]
  | s + 1, i, n, l, hn, hi, hl => by
    have ih := refPutFixed_l0 s (i + 1) (n / 256) (l ++ [((n % 256 : Nat) : Int)]) (by omega) (by omega) (by simp; omega)
    rw [List.append_assoc, List.singleton_append, ← fx_succ] at ih
    refine Ev.step (fun k => ?_) ih
    simp only [staddleref01_PutFixed.l0]
    have e1 : IntKind.u64.wrap (Int.tdiv (n : Int) 256) = ((n / 256 : Nat) : Int) := by
      rw [show Int.tdiv (n : Int) 256 = ((n / 256 : Nat) : Int) from rfl, wU64 (by omega) (by omega)]
    have e2 : (Int.tmod (n : Int) 256) % 256 = ((n % 256 : Nat) : Int) := by
      rw [show Int.tmod (n : Int) 256 = ((n % 256 : Nat) : Int) from rfl]
      omega
    have e3 : wrap64 ((i : Int) + 1) = ((i + 1 : Nat) : Int) := by rw [w64 (by omega) (by omega)]; rfl
    rw [if_pos (by omega), if_pos (by omega), e1, e2, e3]
    congr 1
    omega
theorem refPutFixed_ev (n s : Nat) (l : List Int) (hn : n < 18446744073709551616) (h1 : 1 ≤ s) (hs : s ≤ 8) (hl : l.length + 8 < 140737488355328) : Ev (fun k => staddleref01_PutFixed.f k l (n : Int) (s : Int)) (l ++ fx s n) := by
  have h := refPutFixed_l0 s 0 n l hn (by omega) (by omega)
  rw [Nat.zero_add] at h
  have hj : Ev (fun k => staddleref01_PutFixed.j0 k (n : Int) (s : Int) l false) (l ++ fx s n) := by
    refine Ev.step (fun k => ?_) h
    simp only [staddleref01_PutFixed.j0]
    rw [if_neg (by decide)]
    rfl
  refine Ev.congr (fun k => ?_) hj
  unfold staddleref01_PutFixed.f
  rw [Option.bind_some, if_pos (by simp only [List.length_nil]; omega), Option.bind_some, if_neg (by omega), List.nil_append]
  rw [decide_eq_false (show ¬ (s : Int) > 8 by omega)]
theorem refPutUvarint_l0 : ∀ (n : Nat) (acc : List Int), n < 18446744073709551616 → acc.length + (uv n).length ≤ 140737488355328 → Ev (fun k => staddleref01_PutUvarint.l0 k (n : Int) acc) (acc ++ uv n) := by
  intro n
  induction n using Nat.strongRecOn with
  | _ n ih =>
    intro acc hn hl
    by_cases h : n < 128
    · rw [uv_small h] at hl ⊢
      refine Ev.step (f := fun _ => some (acc ++ [(n : Int)])) (fun k => ?_) (Ev.now _)
      simp only [staddleref01_PutUvarint.l0]
      rw [if_neg (by omega), if_pos (by simp at hl; omega), show (n : Int) % 256 = (n : Int) by omega]
    · rw [uv_big h] at hl ⊢
      have := ih (n / 128) (by omega) (acc ++ [((n % 128 + 128 : Nat) : Int)]) (by omega) (by simp at hl ⊢; omega)
      rw [List.append_assoc] at this
      refine Ev.step (fun k => ?_) this
      simp only [staddleref01_PutUvarint.l0]
      have e1 : IntKind.u64.wrap (Int.tdiv (n : Int) 128) = ((n / 128 : Nat) : Int) := by
        rw [show Int.tdiv (n : Int) 128 = ((n / 128 : Nat) : Int) from rfl, wU64 (by omega) (by omega)]
      have e2 : (((Int.tmod (n : Int) 128) % 256) + 128) % 256 = ((n % 128 + 128 : Nat) : Int) := by
        rw [show Int.tmod (n : Int) 128 = ((n % 128 : Nat) : Int) from rfl]
        omega
      rw [if_pos (by omega), if_pos (by simp at hl; omega), e1, e2]
theorem refPutUvarint_ev (n : Nat) (l : List Int) (hn : n < 18446744073709551616) (hl : l.length + 10 < 140737488355328) : Ev (fun k => staddleref01_PutUvarint.f k l (n : Int)) (l ++ uv n) := by
  have h10 := uv_len64 hn
  refine Ev.congr (f := fun k => staddleref01_PutUvarint.l0 k (n : Int) l) (fun k => ?_) (refPutUvarint_l0 n l hn (by omega))
  unfold staddleref01_PutUvarint.f
  rw [Option.bind_some, if_pos (by simp only [List.length_nil]; omega), List.nil_append]
theorem refPutText_ev (l : List Int) (s : ByteArray) (hl : l.length + 10 + s.size < 140737488355328) : Ev (fun k => staddleref01_PutText.f k l s) (l ++ tx (bytesOf s)) := by
  have h := refPutUvarint_ev s.size l (by omega) (by omega)
  have h10 := uv_len64 (n := s.size) (by omega)
  unfold staddleref01_PutText.f
  rw [wU64 (by omega) (by omega)]
  refine Ev.bind h ?_
  rw [if_pos (by omega)]
  refine Ev.some_ ?_
  rw [if_pos (by rw [List.length_append, bytesOf_length]; omega)]
  unfold tx
  rw [bytesOf_length, List.append_assoc]
  exact Ev.now _
theorem refPutFixed_out (n : Int) (s : Int) (l : List Int) (hs : s < 1 ∨ 8 < s) (hl : l.length < 140737488355328) : Ev (fun k => staddleref01_PutFixed.f k l n s) l := by
  have hj : Ev (fun k => staddleref01_PutFixed.j0 k n s l true) l := by
    refine Ev.step (f := fun _ => some l) (fun k => ?_) (Ev.now _)
    simp only [staddleref01_PutFixed.j0]
    rw [if_pos trivial]
  refine Ev.congr (fun k => ?_) hj
  unfold staddleref01_PutFixed.f
  rw [Option.bind_some, if_pos (by simp only [List.length_nil]; omega), Option.bind_some, List.nil_append]
  by_cases h1 : s < 1
  · rw [if_pos h1]
  · rw [if_neg h1, decide_eq_true (show s > 8 by omega)]
end Go.Proofs.Ytbmhcdledmolgaa.Q
