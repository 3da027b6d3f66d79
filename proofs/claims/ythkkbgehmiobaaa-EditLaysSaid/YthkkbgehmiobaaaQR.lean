/- What the document's own PutFixed, PutUvarint, PutText come to: MNum's words. What the document's Encode of an edit comes to. -/
import Derived.Test.YthkkbgehmiobaaaQA
import Derived.Test.YthkkbgehmiobaaaP20
import Derived.Test.YthkkbgehmiobaaaP16
import Derived.Test.YthkkbgehmiobaaaP17
import Derived.Test.YthkkbgehmiobaaaP18
import Derived.Test.YthkkbgehmiobaaaP19
import Derived.Test.YthkkbgehmiobaaaP21
set_option linter.unusedVariables false
set_option linter.unusedSimpArgs false
namespace Go.Proofs.Ythkkbgehmiobaaa.Q
open Go.RowKit Go.Proofs.YthkkbgehmiobaaaW.PrintWords Go.Proofs.YthkkbgehmiobaaaW.PrintLast Go.Proofs.YthkkbgehmiobaaaW.PrintMore Go.Proofs.Ythkkbgehmiobaaa.P Go.Proofs.Ythkkbgehmiobaaa.M

theorem refPutFixed_l0 : ∀ (s i n : Nat) (l : List Int), n < 18446744073709551616 → i + s ≤ 8 → l.length + s ≤ 140737488355328 → Ev (fun k => staddleref01_PutFixed.l0 k (n : Int) ((i + s : Nat) : Int) l (i : Int)) (l ++ fx s n)
  | 0, i, n, l, hn, hi, hl => by
    refine Ev.step (f := fun _ => some (l ++ fx 0 n)) (fun k => ?_) (Ev.now _)
    simp only [staddleref01_PutFixed.l0]
    rw [if_neg (by omega), fx, List.append_nil]
  | s + 1, i, n, l, hn, hi, hl => by
    have ih := refPutFixed_l0 s (i + 1) (n / 256) (l ++ [((n % 256 : Nat) : Int)]) (by omega) (by omega) (by simp; omega)
    rw [List.append_assoc, List.singleton_append, ← fx_succ] at ih
    refine Ev.step (fun k => ?_) ih
    simp only [staddleref01_PutFixed.l0]
    have e1 : IntKind.u64.wrap (Int.tdiv (n : Int) 256) = ((n / 256 : Nat) : Int) := by
      rw [show Int.tdiv (n : Int) 256 = ((n / 256 : Nat) : Int) from rfl, wU64 (by omega) (by omega)]
    have e2 : (Int.tmod (n : Int) 256) % 256 = ((n % 256 : Nat) : Int) := by
      rw [show Int.tmod (n : Int) 256 = ((n % 256 : Nat) : Int) from rfl]
      omega
    have e3 : wrap64 ((i : Int) + 1) = ((i + 1 : Nat) : Int) := by rw [w64 (by omega) (by omega)]; rfl
    rw [if_pos (by omega), if_pos (by omega), e1, e2, e3]
    congr 1
    omega
theorem refPutFixed_ev (n s : Nat) (l : List Int) (hn : n < 18446744073709551616) (h1 : 1 ≤ s) (hs : s ≤ 8) (hl : l.length + 8 < 140737488355328) : Ev (fun k => staddleref01_PutFixed.f k l (n : Int) (s : Int)) (l ++ fx s n) := by
  have h := refPutFixed_l0 s 0 n l hn (by omega) (by omega)
  rw [Nat.zero_add] at h
  have hj : Ev (fun k => staddleref01_PutFixed.j0 k (n : Int) (s : Int) l false) (l ++ fx s n) := by
    refine Ev.step (fun k => ?_) h
    simp only [staddleref01_PutFixed.j0]
    rw [if_neg (by decide)]
    rfl
  refine Ev.congr (fun k => ?_) hj
  unfold staddleref01_PutFixed.f
  rw [Option.bind_some, if_pos (by simp only [List.length_nil]; omega), Option.bind_some, if_neg (by omega), List.nil_append]
  rw [decide_eq_false (show ¬ (s : Int) > 8 by omega)]
theorem refPutUvarint_l0 : ∀ (n : Nat) (acc : List Int), n < 18446744073709551616 → acc.length + (uv n).length ≤ 140737488355328 → Ev (fun k => staddleref01_PutUvarint.l0 k (n : Int) acc) (acc ++ uv n) := by
  intro n
  induction n using Nat.strongRecOn with
  | _ n ih =>
    intro acc hn hl
    by_cases h : n < 128
    · rw [uv_small h] at hl ⊢
      refine Ev.step (f := fun _ => some (acc ++ [(n : Int)])) (fun k => ?_) (Ev.now _)
      simp only [staddleref01_PutUvarint.l0]
      rw [if_neg (by omega), if_pos (by simp at hl; omega), show (n : Int) % 256 = (n : Int) by omega]
    · rw [uv_big h] at hl ⊢
      have := ih (n / 128) (by omega) (acc ++ [((n % 128 + 128 : Nat) : Int)]) (by omega) (by simp at hl ⊢; omega)
      rw [List.append_assoc] at this
      refine Ev.step (fun k => ?_) this
      simp only [staddleref01_PutUvarint.l0]
      have e1 : IntKind.u64.wrap (Int.tdiv (n : Int) 128) = ((n / 128 : Nat) : Int) := by
        rw [show Int.tdiv (n : Int) 128 = ((n / 128 : Nat) : Int) from rfl, wU64 (by omega) (by omega)]
      have e2 : (((Int.tmod (n : Int) 128) % 256) + 128) % 256 = ((n % 128 + 128 : Nat) : Int) := by
        rw [show Int.tmod (n : Int) 128 = ((n % 128 : Nat) : Int) from rfl]
        omega
      rw [if_pos (by omega), if_pos (by simp at hl; omega), e1, e2]
theorem refPutUvarint_ev (n : Nat) (l : List Int) (hn : n < 18446744073709551616) (hl : l.length + 10 < 140737488355328) : Ev (fun k => staddleref01_PutUvarint.f k l (n : Int)) (l ++ uv n) := by
  have h10 := uv_len64 hn
  refine Ev.congr (f := fun k => staddleref01_PutUvarint.l0 k (n : Int) l) (fun k => ?_) (refPutUvarint_l0 n l hn (by omega))
  unfold staddleref01_PutUvarint.f
  rw [Option.bind_some, if_pos (by simp only [List.length_nil]; omega), List.nil_append]
theorem refPutText_ev (l : List Int) (s : ByteArray) (hl : l.length + 10 + s.size < 140737488355328) : Ev (fun k => staddleref01_PutText.f k l s) (l ++ tx (bytesOf s)) := by
  have h := refPutUvarint_ev s.size l (by omega) (by omega)
  have h10 := uv_len64 (n := s.size) (by omega)
  unfold staddleref01_PutText.f
  rw [wU64 (by omega) (by omega)]
  refine Ev.bind h ?_
  rw [if_pos (by omega)]
  refine Ev.some_ ?_
  rw [if_pos (by rw [List.length_append, bytesOf_length]; omega)]
  unfold tx
  rw [bytesOf_length, List.append_assoc]
  exact Ev.now _
theorem refPutFixed_out (n : Int) (s : Int) (l : List Int) (hs : s < 1 ∨ 8 < s) (hl : l.length < 140737488355328) : Ev (fun k => staddleref01_PutFixed.f k l n s) l := by
  have hj : Ev (fun k => staddleref01_PutFixed.j0 k n s l true) l := by
    refine Ev.step (f := fun _ => some l) (fun k => ?_) (Ev.now _)
    simp only [staddleref01_PutFixed.j0]
    rw [if_pos trivial]
  refine Ev.congr (fun k => ?_) hj
  unfold staddleref01_PutFixed.f
  rw [Option.bind_some, if_pos (by simp only [List.length_nil]; omega), Option.bind_some, List.nil_append]
  by_cases h1 : s < 1
  · rw [if_pos h1]
  · rw [if_neg h1, decide_eq_true (show s > 8 by omega)]
theorem refCheck_eq (s : ByteArray) (q d : Int) : staddleref02_Check.f s q d = some (chk s q d) := by
  unfold staddleref02_Check.f chk
  split
  · rfl
  · split
    · rfl
    · split
      · rfl
      · split <;> rfl
theorem refPutFixed8_l0 : ∀ (s i n : Nat) (l : List Int), n < 18446744073709551616 → i + s ≤ 8 → l.length + s ≤ 140737488355328 → Ev (fun k => staddleref01_PutFixed.l0 k (n : Int) ((i + s : Nat) : Int) l (i : Int)) (l ++ fx s n)
  | 0, i, n, l, hn, hi, hl => by
    refine Ev.step (f := fun _ => some (l ++ fx 0 n)) (fun k => ?_) (Ev.now _)
    simp only [staddleref01_PutFixed.l0]
    rw [if_neg (by omega), fx, List.append_nil]
  | s + 1, i, n, l, hn, hi, hl => by
    have ih := refPutFixed8_l0 s (i + 1) (n / 256) (l ++ [((n % 256 : Nat) : Int)]) (by omega) (by omega) (by simp; omega)
    rw [List.append_assoc, List.singleton_append, ← fx_succ] at ih
    refine Ev.step (fun k => ?_) ih
    simp only [staddleref01_PutFixed.l0]
    have e1 : IntKind.u64.wrap (Int.tdiv (n : Int) 256) = ((n / 256 : Nat) : Int) := by
      rw [show Int.tdiv (n : Int) 256 = ((n / 256 : Nat) : Int) from rfl, wU64 (by omega) (by omega)]
    have e2 : (Int.tmod (n : Int) 256) % 256 = ((n % 256 : Nat) : Int) := by
      rw [show Int.tmod (n : Int) 256 = ((n % 256 : Nat) : Int) from rfl]
      omega
    have e3 : wrap64 ((i : Int) + 1) = ((i + 1 : Nat) : Int) := by rw [w64 (by omega) (by omega)]; rfl
    rw [if_pos (by omega), if_pos (by omega), e1, e2, e3]
    congr 1
    omega
theorem refPutFixed8_ev (n : Nat) (l : List Int) (hn : n < 18446744073709551616) (hl : l.length + 8 < 140737488355328) : Ev (fun k => staddleref01_PutFixed.f k l (n : Int) 8) (l ++ fx 8 n) := by
  have h := refPutFixed8_l0 8 0 n l hn (by omega) (by omega)
  have hj : Ev (fun k => staddleref01_PutFixed.j0 k (n : Int) 8 l false) (l ++ fx 8 n) := by
    refine Ev.step (fun k => ?_) h
    simp only [staddleref01_PutFixed.j0]
    rw [if_neg (by decide)]
    rfl
  refine Ev.congr (fun k => ?_) hj
  unfold staddleref01_PutFixed.f
  rw [Option.bind_some, if_pos (by simp only [List.length_nil]; omega), Option.bind_some, if_neg (by decide), List.nil_append]
  rfl
theorem refEncode_ev (s : ByteArray) (q d : Int) (q0 : 0 ≤ q) : Ev (fun k => staddleref02_Encode.f k s q d) (enc s q d) := by
  unfold enc
  by_cases h : chk s q d = 0
  · rw [if_pos h]
    obtain ⟨h1, h2, h3⟩ := chk_zero h
    have hp := refPutFixed8_ev (q.toNat * 256 + d.toNat) (bytesOf s) (by omega) (by rw [bytesOf_length]; omega)
    refine Ev.congr (f := fun k => (staddleref01_PutFixed.f k (bytesOf s) ((q.toNat * 256 + d.toNat : Nat) : Int) 8).bind fun t112 => some (t112, 0)) (fun k => ?_) (Ev.bind hp (Ev.now _))
    unfold staddleref02_Encode.f
    have e : IntKind.u64.wrap ((IntKind.u64.wrap (q * 256)) + (IntKind.u64.wrap d)) = ((q.toNat * 256 + d.toNat : Nat) : Int) := by
      rw [wU64 (n := q * 256) (by omega) (by omega), wU64 (n := d) (by omega) (by omega), wU64 (by omega) (by omega)]
      omega
    rw [refCheck_eq, Option.bind_some, if_pos h, if_pos (by omega), e]
  · rw [if_neg h]
    refine Ev.congr (f := fun _ => some ([], chk s q d)) (fun k => ?_) (Ev.now _)
    unfold staddleref02_Encode.f
    rw [refCheck_eq, Option.bind_some, if_neg h]
theorem refCompare_ev (s1 : ByteArray) (q1 d1 : Int) (s2 : ByteArray) (q2 d2 : Int) : Ev (fun k => staddleref02_Compare.f k s1 q1 d1 s2 q2 d2) (kcmp s1 q1 d1 s2 q2 d2) := by
  have j (b : Bool) : Ev (fun k => staddleref02_Compare.j0 k b s1 q1 d1 s2 q2 d2) (if b = true then -1 else if q1 < q2 then 1 else if d1 < d2 then 1 else 0) := by
    refine Ev.step (f := fun _ => some (if b = true then -1 else if q1 < q2 then 1 else if d1 < d2 then 1 else 0)) (fun k => ?_) (Ev.now _)
    simp only [staddleref02_Compare.j0]
    split
    · rfl
    · split
      · rfl
      · split <;> rfl
  unfold kcmp
  rcases cmp_spec s1.data.toList s2.data.toList with ⟨e, h1, h2, h3⟩ | ⟨e, h1, h2, h3⟩ | ⟨e, h1, h2, h3⟩
  · rw [e, if_neg (by decide)]
    refine Ev.congr (f := fun _ => some (-1)) (fun k => ?_) (Ev.now _)
    unfold staddleref02_Compare.f
    rw [ByteArray.toList_eq, ByteArray.toList_eq, if_pos h1]
  · rw [e, if_neg (by decide)]
    refine Ev.congr (f := fun _ => some 1) (fun k => ?_) (Ev.now _)
    unfold staddleref02_Compare.f
    rw [ByteArray.toList_eq, ByteArray.toList_eq, h1, if_neg (by decide), if_pos h2]
  · rw [e, if_pos rfl]
    have hu : ∀ k, staddleref02_Compare.f k s1 q1 d1 s2 q2 d2 = if q1 > q2 then staddleref02_Compare.j0 k true s1 q1 d1 s2 q2 d2 else if q1 = q2 then staddleref02_Compare.j0 k (decide (d1 > d2)) s1 q1 d1 s2 q2 d2 else staddleref02_Compare.j0 k false s1 q1 d1 s2 q2 d2 := by
      intro k
      unfold staddleref02_Compare.f
      rw [ByteArray.toList_eq, ByteArray.toList_eq, h1, h2, if_neg (by decide), if_neg (by decide)]
    refine Ev.congr hu ?_
    rcases icmp_spec q2 q1 with ⟨f, g⟩ | ⟨f, g⟩ | ⟨f, g⟩
    · rw [f, if_neg (by decide)]
      have := j true
      rw [if_pos rfl] at this
      exact Ev.congr (fun k => by rw [if_pos (by omega)]) this
    · rw [f, if_neg (by decide)]
      have := j false
      rw [if_neg (by decide), if_pos (by omega)] at this
      exact Ev.congr (fun k => by rw [if_neg (by omega), if_neg (by omega)]) this
    · rw [f, if_pos rfl]
      have h := j (decide (d1 > d2))
      refine Ev.congr (fun k => by rw [if_neg (by omega), if_pos (by omega)]) ?_
      rcases icmp_spec d2 d1 with ⟨f2, g2⟩ | ⟨f2, g2⟩ | ⟨f2, g2⟩
      · rw [f2]
        rw [if_pos (by simp; omega)] at h
        exact h
      · rw [f2]
        rw [if_neg (by simp; omega), if_neg (by omega), if_pos (by omega)] at h
        exact h
      · rw [f2]
        rw [if_neg (by simp; omega), if_neg (by omega), if_neg (by omega)] at h
        exact h
theorem refPlace_j (n : Int) (b : Bool) : Ev (fun k => staddleref13_place.j0 k n b) (plj n b) := by
  refine Ev.step (fun k => staddleref13_place.j0.eq_2 (k := k) ..) ?_
  unfold plj
  by_cases h : b = true
  · refine Ev.ifT h ?_; rw [if_pos h]; exact Ev.now _
  refine Ev.ifF h ?_
  rw [if_neg h]
  by_cases h1 : n < 1
  · refine Ev.ifT h1 ?_; rw [if_pos (.inl h1)]; exact Ev.now _
  refine Ev.ifF h1 ?_
  by_cases h2 : n > 1099511627776
  · refine Ev.ifT h2 ?_; rw [if_pos (.inr h2)]; exact Ev.now _
  · refine Ev.ifF h2 ?_; rw [if_neg (by omega)]; exact Ev.now _
theorem refPlace_ev (l n : Int) : Ev (fun k => staddleref13_place.f k l n) (pl l n) := by
  rw [pl_j]
  unfold staddleref13_place.f
  by_cases h1 : l < 0
  · refine Ev.ifT h1 ?_
    rw [if_pos h1]; exact refPlace_j ..
  · refine Ev.ifF h1 ?_
    rw [if_neg h1]; exact refPlace_j ..
theorem refFile_j (a b c : Int) (x y : S42) (t : Bool) : Ev (fun k => staddleref13_File.j0 k t a b c x.f0 x.f1 x.f2 y.f0 y.f1 y.f2) (flj x y t) := by
  refine Ev.step (fun k => staddleref13_File.j0.eq_2 (k := k) ..) ?_
  unfold flj
  by_cases h : t = true
  · refine Ev.ifT h ?_; rw [if_pos h]; exact Ev.now _
  refine Ev.ifF h ?_
  rw [if_neg h]
  unfold fkk
  refine Ev.bind (a := kchk x) (Ev.congr (f := fun _ => some (kchk x)) (fun k => refCheck_eq ..) (Ev.now _)) ?_
  by_cases hx : kchk x = 0
  case neg => refine Ev.ifF hx ?_; rw [if_neg hx]; exact Ev.now _
  refine Ev.ifT hx ?_
  rw [if_pos hx]
  refine Ev.bind (a := kchk y) (Ev.congr (f := fun _ => some (kchk y)) (fun k => refCheck_eq ..) (Ev.now _)) ?_
  by_cases hy : kchk y = 0
  case neg => refine Ev.ifF hy ?_; rw [if_neg hy]; exact Ev.now _
  refine Ev.ifT hy ?_
  rw [if_pos hy]
  refine Ev.bind (a := kcf y x) (refCompare_ev ..) ?_
  have hn : kcf y x = - kcf x y := kcmp_neg ..
  by_cases hc : kcf x y > 0
  · refine Ev.ifT (by omega) ?_; rw [if_pos hc]; exact Ev.now _
  · refine Ev.ifF (by omega) ?_; rw [if_neg hc]; exact Ev.now _
theorem refFile_ev (f : S44) : Ev (fun k => staddleref13_File.f k f.f0 f.f1 f.f2 f.f3.f0 f.f3.f1 f.f3.f2 f.f4.f0 f.f4.f1 f.f4.f2) (fl f) := by
  unfold staddleref13_File.f
  refine Ev.bind (refPlace_ev f.f0 f.f1) ?_
  unfold fl
  by_cases h : pl f.f0 f.f1 = 0
  · refine Ev.ifT h ?_
    rw [if_pos h]
    by_cases h1 : f.f2 < 1
    · refine Ev.ifT h1 ?_; rw [if_pos h1]; exact refFile_j ..
    · refine Ev.ifF h1 ?_; rw [if_neg h1]; exact refFile_j ..
  · refine Ev.ifF h ?_; rw [if_neg h]; exact Ev.now _
theorem refECheck_l1 (a b c : Int) (D : List S40) (L : List S44) (hL : L.length ≤ 100000) : ∀ (rest pre : List S44), L = pre ++ rest → Ev (fun k => staddleref13_Check.l1 k (pre.length : Int) a b c D L) (fls rest)
  | [], pre, hp => by
    have hlen : L.length = pre.length := by rw [hp, List.append_nil]
    exact Ev.step (fun k => staddleref13_Check.l1.eq_2 (k := k) ..) (Ev.ifF (by omega) (Ev.now _))
  | f :: t, pre, hp => by
    have hlt : pre.length < L.length := by rw [hp, List.length_append, List.length_cons]; omega
    have hrd : rd_T44 L (pre.length : Int) = f := by rw [hp, rd44_at]
    refine Ev.step (fun k => staddleref13_Check.l1.eq_2 (k := k) ..) (Ev.ifT (by omega) (Ev.ifT (by omega) ?_))
    rw [hrd]
    refine Ev.bind (refFile_ev f) ?_
    have ih := refECheck_l1 a b c D L hL t (pre ++ [f]) (by rw [hp]; simp)
    rw [show (pre ++ [f]).length = pre.length + 1 by simp, ← w_succ pre.length (by omega)] at ih
    unfold fls
    by_cases h : fl f = 0
    · refine Ev.ifT h ?_; rw [if_pos h]; exact ih
    · refine Ev.ifF h ?_; rw [if_neg h]; exact Ev.now _
theorem refECheck_l0 (a b c : Int) (D : List S40) (L : List S44) (hD : D.length ≤ 100000) (hL : L.length ≤ 100000) : ∀ (rest pre : List S40), D = pre ++ rest → Ev (fun k => staddleref13_Check.l0 k (pre.length : Int) a b c D L) (if dl rest = 0 then fls L else dl rest)
  | [], pre, hp => by
    have hlen : D.length = pre.length := by rw [hp, List.append_nil]
    refine Ev.step (fun k => staddleref13_Check.l0.eq_2 (k := k) ..) (Ev.ifF (by omega) ?_)
    exact refECheck_l1 a b c D L hL L [] rfl
  | f :: t, pre, hp => by
    have hlt : pre.length < D.length := by rw [hp, List.length_append, List.length_cons]; omega
    have hrd : rd_T40 D (pre.length : Int) = f := by rw [hp, rd40_at]
    refine Ev.step (fun k => staddleref13_Check.l0.eq_2 (k := k) ..) (Ev.ifT (by omega) (Ev.ifT (by omega) ?_))
    rw [hrd]
    refine Ev.bind (refPlace_ev f.f0 f.f1) ?_
    have ih := refECheck_l0 a b c D L hD hL t (pre ++ [f]) (by rw [hp]; simp)
    rw [show (pre ++ [f]).length = pre.length + 1 by simp, ← w_succ pre.length (by omega)] at ih
    have hdl : dl (f :: t) = if pl f.f0 f.f1 = 0 then dl t else pl f.f0 f.f1 := rfl
    rw [hdl]
    by_cases h : pl f.f0 f.f1 = 0
    · refine Ev.ifT h ?_; rw [if_pos h]; exact ih
    · refine Ev.ifF h ?_; rw [if_neg h, if_neg h]; exact Ev.now _
theorem refECheck_j1 (a b c : Int) (D : List S40) (L : List S44) (hD : D.length ≤ 100000) (hL : L.length ≤ 100000) (t : Bool) : Ev (fun k => staddleref13_Check.j1 k t a b c D L) (eck2 c D L t) := by
  refine Ev.step (fun k => staddleref13_Check.j1.eq_2 (k := k) ..) ?_
  unfold eck2
  by_cases h : t = true
  · refine Ev.ifT h ?_; rw [if_pos h]; exact Ev.now _
  refine Ev.ifF h ?_
  rw [if_neg h]
  by_cases h2 : c > 72057594037927935
  · refine Ev.ifT h2 ?_; rw [if_pos h2]; exact Ev.now _
  refine Ev.ifF h2 ?_
  rw [if_neg h2]
  exact refECheck_l0 a b c D L hD hL D [] rfl
theorem refECheck_ev (a b c : Int) (D : List S40) (L : List S44) : Ev (fun k => staddleref13_Check.f k a b c D L) (eck a b c D L) := by
  have hj : ∀ t, (t = false → D.length ≤ 100000 ∧ L.length ≤ 100000) → Ev (fun k => staddleref13_Check.j0 k t a b c D L) (eck1 a b c D L t) := by
    intro t ht
    refine Ev.step (fun k => staddleref13_Check.j0.eq_2 (k := k) ..) ?_
    unfold eck1
    by_cases h : t = true
    · refine Ev.ifT h ?_; rw [if_pos h]; exact Ev.now _
    have hl := ht (by simpa using h)
    refine Ev.ifF h ?_
    rw [if_neg h]
    by_cases h2 : a > 1099511627776
    · refine Ev.ifT h2 ?_; rw [if_pos h2]; exact refECheck_j1 _ _ _ _ _ hl.1 hl.2 _
    · refine Ev.ifF h2 ?_; rw [if_neg h2]; exact refECheck_j1 _ _ _ _ _ hl.1 hl.2 _
  unfold staddleref13_Check.f eck
  by_cases h : (D.length : Int) > 20000
  · refine Ev.ifT h ?_; rw [if_pos h]; exact hj _ (fun e => by cases e)
  · refine Ev.ifF h ?_; rw [if_neg h]
    refine hj _ (fun e => ?_)
    have hb : ¬ (L.length : Int) > 100 := by simpa using e
    omega
theorem refPut_u (n : Int) (h0 : 0 ≤ n) (h1 : n < 18446744073709551616) : Ev (fun k => staddleref01_PutUvarint.f k [] n) (uv n.toNat) := by
  have h := refPutUvarint_ev n.toNat [] (by omega) (by simp)
  rw [List.nil_append, Int.toNat_of_nonneg h0] at h
  exact h
end Go.Proofs.Ythkkbgehmiobaaa.Q
namespace Go.Proofs.Ythkkbgehmiobaaa.Q
open Go.RowKit Go.Proofs.YthkkbgehmiobaaaW.PrintWords Go.Proofs.YthkkbgehmiobaaaW.PrintLast Go.Proofs.YthkkbgehmiobaaaW.PrintMore Go.Proofs.Ythkkbgehmiobaaa.P Go.Proofs.Ythkkbgehmiobaaa.M Go.Proofs.Ythkkbgehmiobaaa.E
theorem refText_kb (x : S42) (h : kchk x = 0) : Ev (fun k => staddleref01_PutText.f k [] (strOfNums (kb x))) (tx (kb x)) := by
  have hk := kb_len h
  have hp := refPutText_ev [] (strOfNums (kb x)) (by rw [str_size]; simp only [List.length_nil]; omega)
  rw [List.nil_append, bytesOf_str _ (kb_IsB x)] at hp
  exact hp
theorem refKey_ev (x : S42) (h : kchk x = 0) (h0 : 0 ≤ x.f1) : Ev (fun k => staddleref02_Encode.f k x.f0 x.f1 x.f2) (kb x, 0) := by
  have he := refEncode_ev x.f0 x.f1 x.f2 h0
  rw [enc_kb h] at he
  exact he
theorem refEnc_l1 (a b c : Int) (D : List S40) (L : List S44) (hL : L.length ≤ 100000) : ∀ (rest pre : List S44) (out : List Int), L = pre ++ rest → fls rest = 0 → KW rest → out.length + 200 * rest.length < 100000000000 → Ev (fun k => staddleref13_Encode.l1 k out (pre.length : Int) a b c D L) (out ++ fbs rest, 0)
  | [], pre, out, hp, _, _, _ => by
    have hlen : L.length = pre.length := by rw [hp, List.append_nil]
    rw [fbs, List.append_nil]
    exact Ev.step (fun k => staddleref13_Encode.l1.eq_2 (k := k) ..) (Ev.ifF (by omega) (Ev.now _))
  | f :: t, pre, out, hp, hf, hw, hl => by
    rw [List.length_cons] at hl
    have hlt : pre.length < L.length := by rw [hp, List.length_append, List.length_cons]; omega
    have hrd : rd_T44 L (pre.length : Int) = f := by rw [hp, rd44_at]
    have ht := fls_tail hf
    have hq := fl_parts ht.1
    have l1 := u_len (n := f.f0) (by omega) (by omega)
    have l2 := u_len (n := f.f1) (by omega) (by omega)
    have l3 := u_len (n := f.f2) (by omega) (by omega)
    have l4 := tk_len hq.2.2.2.1
    have l5 := tk_len hq.2.2.2.2
    have hfl := fb_len ht.1
    have ih := refEnc_l1 a b c D L hL t (pre ++ [f]) (out ++ fb f) (by rw [hp]; simp) ht.2 hw.tail (by rw [List.length_append]; omega)
    rw [show (pre ++ [f]).length = pre.length + 1 by simp, ← w_succ pre.length (by omega)] at ih
    refine Ev.step (fun k => staddleref13_Encode.l1.eq_2 (k := k) ..) (Ev.ifT (by omega) (Ev.ifT (by omega) ?_))
    rw [hrd, wu f.f0 (by omega) (by omega), wu f.f2 (by omega) (by omega)]
    refine Ev.bind (refPut_u f.f0 (by omega) (by omega)) (Ev.ifT (by omega) (Ev.some_ ?_))
    refine Ev.bind (refPut_u f.f1 (by omega) (by omega)) (Ev.ifT (by simp only [List.length_append]; omega) (Ev.some_ ?_))
    refine Ev.bind (refPut_u f.f2 (by omega) (by omega)) (Ev.ifT (by simp only [List.length_append]; omega) (Ev.some_ ?_))
    refine Ev.bind (refKey_ev f.f3 hq.2.2.2.1 hw.head.1) (Ev.bind (refKey_ev f.f4 hq.2.2.2.2 hw.head.2) ?_)
    refine Ev.bind (refText_kb f.f3 hq.2.2.2.1) (Ev.ifT (by simp only [List.length_append]; omega) (Ev.some_ ?_))
    refine Ev.bind (refText_kb f.f4 hq.2.2.2.2) (Ev.ifT (by simp only [List.length_append]; omega) ?_)
    have e : out ++ uv f.f0.toNat ++ uv f.f1.toNat ++ uv f.f2.toNat ++ tx (kb f.f3) ++ tx (kb f.f4) = out ++ fb f := by simp [fb]
    rw [e]
    refine ev_eq ?_ ih
    simp [fbs]
theorem refEnc_l0 (a b c : Int) (D : List S40) (L : List S44) (hD : D.length ≤ 100000) (hL : L.length ≤ 100000) (hf : fls L = 0) (hw : KW L) : ∀ (rest pre : List S40) (out : List Int), D = pre ++ rest → dl rest = 0 → out.length + 20 * rest.length < 10000000000 → Ev (fun k => staddleref13_Encode.l0 k out (pre.length : Int) a b c D L) (out ++ (dbs rest ++ (uv L.length ++ fbs L)), 0)
  | [], pre, out, hp, _, hl => by
    have hlen : D.length = pre.length := by rw [hp, List.append_nil]
    have h5 := uv_len64 (n := L.length) (by omega)
    refine Ev.step (fun k => staddleref13_Encode.l0.eq_2 (k := k) ..) (Ev.ifF (by omega) ?_)
    rw [wu (L.length : Int) (by omega) (by omega)]
    have hu := refPut_u (L.length : Int) (by omega) (by omega)
    rw [Int.toNat_natCast] at hu
    refine Ev.bind hu (Ev.ifT (by omega) ?_)
    have h := refEnc_l1 a b c D L hL L [] (out ++ uv L.length) rfl hf hw (by rw [List.length_append]; omega)
    refine ev_eq ?_ h
    simp [dbs]
  | d :: t, pre, out, hp, hd, hl => by
    rw [List.length_cons] at hl
    have hlt : pre.length < D.length := by rw [hp, List.length_append, List.length_cons]; omega
    have hrd : rd_T40 D (pre.length : Int) = d := by rw [hp, rd40_at]
    have hq := pl_zero (dl_all hd d (List.mem_cons_self ..))
    have ht : dl t = 0 := dl_of (fun x hx => dl_all hd x (List.mem_cons_of_mem _ hx))
    have l1 := u_len (n := d.f0) (by omega) (by omega)
    have l2 := u_len (n := d.f1) (by omega) (by omega)
    have ih := refEnc_l0 a b c D L hD hL hf hw t (pre ++ [d]) (out ++ uv d.f0.toNat ++ uv d.f1.toNat) (by rw [hp]; simp) ht (by simp only [List.length_append]; omega)
    rw [show (pre ++ [d]).length = pre.length + 1 by simp, ← w_succ pre.length (by omega)] at ih
    refine Ev.step (fun k => staddleref13_Encode.l0.eq_2 (k := k) ..) (Ev.ifT (by omega) (Ev.ifT (by omega) ?_))
    rw [hrd, wu d.f0 (by omega) (by omega)]
    refine Ev.bind (refPut_u d.f0 (by omega) (by omega)) (Ev.ifT (by omega) (Ev.some_ ?_))
    refine Ev.bind (refPut_u d.f1 (by omega) (by omega)) (Ev.ifT (by simp only [List.length_append]; omega) ?_)
    refine ev_eq ?_ ih
    simp [dbs]
theorem refEnc_ev (a b c : Int) (D : List S40) (L : List S44) (a0 : 0 ≤ a) (b0 : 0 ≤ b) (c0 : 0 ≤ c) (hw : KW L) : Ev (fun k => staddleref13_Encode.f k a b c D L) (eblt a b c D L) := by
  unfold staddleref13_Encode.f
  refine Ev.bind (refECheck_ev a b c D L) ?_
  unfold eblt
  by_cases h : eck a b c D L = 0
  case neg =>
    refine Ev.ifF h ?_
    rw [if_neg h]
    exact Ev.now _
  refine Ev.ifT h ?_
  rw [if_pos h]
  have hz := eck_zero h
  have h1 := u_len a0 (by omega)
  have h2 := u_len b0 (by omega)
  have h3 := u_len c0 (by omega)
  have h4 := uv_len64 (n := D.length) (by omega)
  rw [wu (D.length : Int) (by omega) (by omega)]
  have hu := refPut_u (D.length : Int) (by omega) (by omega)
  rw [Int.toNat_natCast] at hu
  refine Ev.bind (refPut_u a a0 (by omega)) (Ev.bind (refPut_u b b0 (by omega)) (Ev.ifT (by omega) (Ev.some_ ?_)))
  refine Ev.bind (refPut_u c c0 (by omega)) (Ev.ifT (by simp only [List.length_append]; omega) (Ev.some_ ?_))
  refine Ev.bind hu (Ev.ifT (by simp only [List.length_append]; omega) ?_)
  have h := refEnc_l0 a b c D L (by omega) (by omega) hz.2.2.2.2.2.2 hw D [] (uv a.toNat ++ uv b.toNat ++ uv c.toNat ++ uv D.length) rfl hz.2.2.2.2.2.1 (by simp only [List.length_append]; omega)
  refine ev_eq ?_ h
  simp [lay]
end Go.Proofs.Ythkkbgehmiobaaa.Q
