/- What the document's own PutFixed, PutUvarint, PutText come to: MNum's words. What the document's Encode of an edit comes to. What the document's own Fixed, Uvarint, Text come to: MNum's words. What edit's Decode comes to: what is laid is read; what is read was laid. What the document's Decode of an edit comes to: the same as the program's. -/
import Derived.Test.YthkkbgehmiobaaaQA
import Derived.Test.YthkkbgehmiobaaaP20
import Derived.Test.YthkkbgehmiobaaaP16
import Derived.Test.YthkkbgehmiobaaaP17
import Derived.Test.YthkkbgehmiobaaaP18
import Derived.Test.YthkkbgehmiobaaaP19
import Derived.Test.YthkkbgehmiobaaaP21
import Derived.Test.YthkkbgehmiobaaaP24
import Derived.Test.YthkkbgehmiobaaaP23
import Derived.Test.YthkkbgehmiobaaaEA
import Derived.Test.YthkkbgehmiobaaaEH
namespace Go.Proofs.Ythkkbgehmiobaaa.Q
open Go.RowKit Go.Proofs.YthkkbgehmiobaaaW.PrintWords Go.Proofs.YthkkbgehmiobaaaW.PrintLast Go.Proofs.YthkkbgehmiobaaaW.PrintMore Go.Proofs.Ythkkbgehmiobaaa.P Go.Proofs.Ythkkbgehmiobaaa.M

theorem refPutUvarint_l0 : ∀ (n : Nat) (acc : List Int), n < 18446744073709551616 → acc.length + (uv n).length ≤ 140737488355328 → Ev (fun k => staddleref01_PutUvarint.l0 k (n : Int) acc) (acc ++ uv n) := by
  intro n
  induction n using Nat.strongRecOn with
  | _ n ih =>
    intro acc hn hl
    by_cases h : n < 128
    · rw [uv_small h] at hl ⊢
      refine Ev.step (f := fun _ => some (acc ++ [(n : Int)])) (fun k => ?_) (Ev.now _)
      simp only [staddleref01_PutUvarint.l0]
      rw [if_neg (by omega), if_pos (by simp at hl; omega), show (n : Int) % 256 = (n : Int) by omega]
    · rw [uv_big h] at hl ⊢
      have := ih (n / 128) (by omega) (acc ++ [((n % 128 + 128 : Nat) : Int)]) (by omega) (by simp at hl ⊢; omega)
      rw [List.append_assoc] at this
      refine Ev.step (fun k => ?_) this
      simp only [staddleref01_PutUvarint.l0]
      have e1 : IntKind.u64.wrap (Int.tdiv (n : Int) 128) = ((n / 128 : Nat) : Int) := by
        rw [show Int.tdiv (n : Int) 128 = ((n / 128 : Nat) : Int) from rfl, wU64 (by omega) (by omega)]
      have e2 : (((Int.tmod (n : Int) 128) % 256) + 128) % 256 = ((n % 128 + 128 : Nat) : Int) := by
        rw [show Int.tmod (n : Int) 128 = ((n % 128 : Nat) : Int) from rfl]
        omega
      rw [if_pos (by omega), if_pos (by simp at hl; omega), e1, e2]
theorem refPutUvarint_ev (n : Nat) (l : List Int) (hn : n < 18446744073709551616) (hl : l.length + 10 < 140737488355328) : Ev (fun k => staddleref01_PutUvarint.f k l (n : Int)) (l ++ uv n) := by
  have h10 := uv_len64 hn
  refine Ev.congr (f := fun k => staddleref01_PutUvarint.l0 k (n : Int) l) (fun k => ?_) (refPutUvarint_l0 n l hn (by omega))
  unfold staddleref01_PutUvarint.f
  rw [Option.bind_some, if_pos (by simp only [List.length_nil]; omega), List.nil_append]
theorem refPutText_ev (l : List Int) (s : ByteArray) (hl : l.length + 10 + s.size < 140737488355328) : Ev (fun k => staddleref01_PutText.f k l s) (l ++ tx (bytesOf s)) := by
  have h := refPutUvarint_ev s.size l (by omega) (by omega)
  have h10 := uv_len64 (n := s.size) (by omega)
  unfold staddleref01_PutText.f
  rw [wU64 (by omega) (by omega)]
  refine Ev.bind h ?_
  rw [if_pos (by omega)]
  refine Ev.some_ ?_
  rw [if_pos (by rw [List.length_append, bytesOf_length]; omega)]
  unfold tx
  rw [bytesOf_length, List.append_assoc]
  exact Ev.now _
theorem refCheck_eq (s : ByteArray) (q d : Int) : staddleref02_Check.f s q d = some (chk s q d) := by
  unfold staddleref02_Check.f chk
  split
  · rfl
  · split
    · rfl
    · split
      · rfl
      · split <;> rfl
theorem refPutFixed8_l0 : ∀ (s i n : Nat) (l : List Int), n < 18446744073709551616 → i + s ≤ 8 → l.length + s ≤ 140737488355328 → Ev (fun k => staddleref01_PutFixed.l0 k (n : Int) ((i + s : Nat) : Int) l (i : Int)) (l ++ fx s n)
  | 0, i, n, l, hn, hi, hl => by
    refine Ev.step (f := fun _ => some (l ++ fx 0 n)) (fun k => ?_) (Ev.now _)
    simp only [staddleref01_PutFixed.l0]
    rw [if_neg (by omega), fx, List.append_nil]
  | s + 1, i, n, l, hn, hi, hl => by
    have ih := refPutFixed8_l0 s (i + 1) (n / 256) (l ++ [((n % 256 : Nat) : Int)]) (by omega) (by omega) (by simp; omega)
    rw [List.append_assoc, List.singleton_append, ← fx_succ] at ih
    refine Ev.step (fun k => ?_) ih
    simp only [staddleref01_PutFixed.l0]
    have e1 : IntKind.u64.wrap (Int.tdiv (n : Int) 256) = ((n / 256 : Nat) : Int) := by
      rw [show Int.tdiv (n : Int) 256 = ((n / 256 : Nat) : Int) from rfl, wU64 (by omega) (by omega)]
    have e2 : (Int.tmod (n : Int) 256) % 256 = ((n % 256 : Nat) : Int) := by
      rw [show Int.tmod (n : Int) 256 = ((n % 256 : Nat) : Int) from rfl]
      omega
    have e3 : wrap64 ((i : Int) + 1) = ((i + 1 : Nat) : Int) := by rw [w64 (by omega) (by omega)]; rfl
    rw [if_pos (by omega), if_pos (by omega), e1, e2, e3]
    congr 1
    omega
theorem refPutFixed8_ev (n : Nat) (l : List Int) (hn : n < 18446744073709551616) (hl : l.length + 8 < 140737488355328) : Ev (fun k => staddleref01_PutFixed.f k l (n : Int) 8) (l ++ fx 8 n) := by
  have h := refPutFixed8_l0 8 0 n l hn (by omega) (by omega)
  have hj : Ev (fun k => staddleref01_PutFixed.j0 k (n : Int) 8 l false) (l ++ fx 8 n) := by
    refine Ev.step (fun k => ?_) h
    simp only [staddleref01_PutFixed.j0]
    rw [if_neg (by decide)]
    rfl
  refine Ev.congr (fun k => ?_) hj
  unfold staddleref01_PutFixed.f
  rw [Option.bind_some, if_pos (by simp only [List.length_nil]; omega), Option.bind_some, if_neg (by decide), List.nil_append]
  rfl
theorem refEncode_ev (s : ByteArray) (q d : Int) (q0 : 0 ≤ q) : Ev (fun k => staddleref02_Encode.f k s q d) (enc s q d) := by
  unfold enc
  by_cases h : chk s q d = 0
  · rw [if_pos h]
    obtain ⟨h1, h2, h3⟩ := chk_zero h
    have hp := refPutFixed8_ev (q.toNat * 256 + d.toNat) (bytesOf s) (by omega) (by rw [bytesOf_length]; omega)
    refine Ev.congr (f := fun k => (staddleref01_PutFixed.f k (bytesOf s) ((q.toNat * 256 + d.toNat : Nat) : Int) 8).bind fun t112 => some (t112, 0)) (fun k => ?_) (Ev.bind hp (Ev.now _))
    unfold staddleref02_Encode.f
    have e : IntKind.u64.wrap ((IntKind.u64.wrap (q * 256)) + (IntKind.u64.wrap d)) = ((q.toNat * 256 + d.toNat : Nat) : Int) := by
      rw [wU64 (n := q * 256) (by omega) (by omega), wU64 (n := d) (by omega) (by omega), wU64 (by omega) (by omega)]
      omega
    rw [refCheck_eq, Option.bind_some, if_pos h, if_pos (by omega), e]
  · rw [if_neg h]
    refine Ev.congr (f := fun _ => some ([], chk s q d)) (fun k => ?_) (Ev.now _)
    unfold staddleref02_Encode.f
    rw [refCheck_eq, Option.bind_some, if_neg h]
theorem refCompare_ev (s1 : ByteArray) (q1 d1 : Int) (s2 : ByteArray) (q2 d2 : Int) : Ev (fun k => staddleref02_Compare.f k s1 q1 d1 s2 q2 d2) (kcmp s1 q1 d1 s2 q2 d2) := by
  have j (b : Bool) : Ev (fun k => staddleref02_Compare.j0 k b s1 q1 d1 s2 q2 d2) (if b = true then -1 else if q1 < q2 then 1 else if d1 < d2 then 1 else 0) := by
    refine Ev.step (f := fun _ => some (if b = true then -1 else if q1 < q2 then 1 else if d1 < d2 then 1 else 0)) (fun k => ?_) (Ev.now _)
    simp only [staddleref02_Compare.j0]
    split
    · rfl
    · split
      · rfl
      · split <;> rfl
  unfold kcmp
  rcases cmp_spec s1.data.toList s2.data.toList with ⟨e, h1, h2, h3⟩ | ⟨e, h1, h2, h3⟩ | ⟨e, h1, h2, h3⟩
  · rw [e, if_neg (by decide)]
    refine Ev.congr (f := fun _ => some (-1)) (fun k => ?_) (Ev.now _)
    unfold staddleref02_Compare.f
    rw [ByteArray.toList_eq, ByteArray.toList_eq, if_pos h1]
  · rw [e, if_neg (by decide)]
    refine Ev.congr (f := fun _ => some 1) (fun k => ?_) (Ev.now _)
    unfold staddleref02_Compare.f
    rw [ByteArray.toList_eq, ByteArray.toList_eq, h1, if_neg (by decide), if_pos h2]
  · rw [e, if_pos rfl]
    have hu : ∀ k, staddleref02_Compare.f k s1 q1 d1 s2 q2 d2 = if q1 > q2 then staddleref02_Compare.j0 k true s1 q1 d1 s2 q2 d2 else if q1 = q2 then staddleref02_Compare.j0 k (decide (d1 > d2)) s1 q1 d1 s2 q2 d2 else staddleref02_Compare.j0 k false s1 q1 d1 s2 q2 d2 := by
      intro k
      unfold staddleref02_Compare.f
      rw [ByteArray.toList_eq, ByteArray.toList_eq, h1, h2, if_neg (by decide), if_neg (by decide)]
    refine Ev.congr hu ?_
    rcases icmp_spec q2 q1 with ⟨f, g⟩ | ⟨f, g⟩ | ⟨f, g⟩
    · rw [f, if_neg (by decide)]
      have := j true
      rw [if_pos rfl] at this
      exact Ev.congr (fun k => by rw [if_pos (by omega)]) this
    · rw [f, if_neg (by decide)]
      have := j false
      rw [if_neg (by decide), if_pos (by omega)] at this
      exact Ev.congr (fun k => by rw [if_neg (by omega), if_neg (by omega)]) this
    · rw [f, if_pos rfl]
      have h := j (decide (d1 > d2))
      refine Ev.congr (fun k => by rw [if_neg (by omega), if_pos (by omega)]) ?_
      rcases icmp_spec d2 d1 with ⟨f2, g2⟩ | ⟨f2, g2⟩ | ⟨f2, g2⟩
      · rw [f2]
        rw [if_pos (by simp; omega)] at h
        exact h
      · rw [f2]
        rw [if_neg (by simp; omega), if_neg (by omega), if_pos (by omega)] at h
        exact h
      · rw [f2]
        rw [if_neg (by simp; omega), if_neg (by omega), if_neg (by omega)] at h
        exact h
theorem refPlace_j (n : Int) (b : Bool) : Ev (fun k => staddleref13_place.j0 k n b) (plj n b) := by
  refine Ev.step (fun k => staddleref13_place.j0.eq_2 (k := k) ..) ?_
  unfold plj
  by_cases h : b = true
  · refine Ev.ifT h ?_; rw [if_pos h]; exact Ev.now _
  refine Ev.ifF h ?_
  rw [if_neg h]
  by_cases h1 : n < 1
  · refine Ev.ifT h1 ?_; rw [if_pos (.inl h1)]; exact Ev.now _
  refine Ev.ifF h1 ?_
  by_cases h2 : n > 1099511627776
  · refine Ev.ifT h2 ?_; rw [if_pos (.inr h2)]; exact Ev.now _
  · refine Ev.ifF h2 ?_; rw [if_neg (by omega)]; exact Ev.now _
theorem refPlace_ev (l n : Int) : Ev (fun k => staddleref13_place.f k l n) (pl l n) := by
  rw [pl_j]
  unfold staddleref13_place.f
  by_cases h1 : l < 0
  · refine Ev.ifT h1 ?_
    rw [if_pos h1]; exact refPlace_j ..
  · refine Ev.ifF h1 ?_
    rw [if_neg h1]; exact refPlace_j ..
theorem refFile_j (a b c : Int) (x y : S42) (t : Bool) : Ev (fun k => staddleref13_File.j0 k t a b c x.f0 x.f1 x.f2 y.f0 y.f1 y.f2) (flj x y t) := by
  refine Ev.step (fun k => staddleref13_File.j0.eq_2 (k := k) ..) ?_
  unfold flj
  by_cases h : t = true
  · refine Ev.ifT h ?_; rw [if_pos h]; exact Ev.now _
  refine Ev.ifF h ?_
  rw [if_neg h]
  unfold fkk
  refine Ev.bind (a := kchk x) (Ev.congr (f := fun _ => some (kchk x)) (fun k => refCheck_eq ..) (Ev.now _)) ?_
  by_cases hx : kchk x = 0
  case neg => refine Ev.ifF hx ?_; rw [if_neg hx]; exact Ev.now _
  refine Ev.ifT hx ?_
  rw [if_pos hx]
  refine Ev.bind (a := kchk y) (Ev.congr (f := fun _ => some (kchk y)) (fun k => refCheck_eq ..) (Ev.now _)) ?_
  by_cases hy : kchk y = 0
  case neg => refine Ev.ifF hy ?_; rw [if_neg hy]; exact Ev.now _
  refine Ev.ifT hy ?_
  rw [if_pos hy]
  refine Ev.bind (a := kcf y x) (refCompare_ev ..) ?_
  have hn : kcf y x = - kcf x y := kcmp_neg ..
  by_cases hc : kcf x y > 0
  · refine Ev.ifT (by omega) ?_; rw [if_pos hc]; exact Ev.now _
  · refine Ev.ifF (by omega) ?_; rw [if_neg hc]; exact Ev.now _
theorem refFile_ev (f : S44) : Ev (fun k => staddleref13_File.f k f.f0 f.f1 f.f2 f.f3.f0 f.f3.f1 f.f3.f2 f.f4.f0 f.f4.f1 f.f4.f2) (fl f) := by
  unfold staddleref13_File.f
  refine Ev.bind (refPlace_ev f.f0 f.f1) ?_
  unfold fl
  by_cases h : pl f.f0 f.f1 = 0
  · refine Ev.ifT h ?_
    rw [if_pos h]
    by_cases h1 : f.f2 < 1
    · refine Ev.ifT h1 ?_; rw [if_pos h1]; exact refFile_j ..
    · refine Ev.ifF h1 ?_; rw [if_neg h1]; exact refFile_j ..
  · refine Ev.ifF h ?_; rw [if_neg h]; exact Ev.now _
theorem refECheck_l1 (a b c : Int) (D : List S40) (L : List S44) (hL : L.length ≤ 100000) : ∀ (rest pre : List S44), L = pre ++ rest → Ev (fun k => staddleref13_Check.l1 k (pre.length : Int) a b c D L) (fls rest)
  | [], pre, hp => by
    have hlen : L.length = pre.length := by rw [hp, List.append_nil]
    exact Ev.step (fun k => staddleref13_Check.l1.eq_2 (k := k) ..) (Ev.ifF (by omega) (Ev.now _))
  | f :: t, pre, hp => by
    have hlt : pre.length < L.length := by rw [hp, List.length_append, List.length_cons]; omega
    have hrd : rd_T44 L (pre.length : Int) = f := by rw [hp, rd44_at]
    refine Ev.step (fun k => staddleref13_Check.l1.eq_2 (k := k) ..) (Ev.ifT (by omega) (Ev.ifT (by omega) ?_))
    rw [hrd]
    refine Ev.bind (refFile_ev f) ?_
    have ih := refECheck_l1 a b c D L hL t (pre ++ [f]) (by rw [hp]; simp)
    rw [show (pre ++ [f]).length = pre.length + 1 by simp, ← w_succ pre.length (by omega)] at ih
    unfold fls
    by_cases h : fl f = 0
    · refine Ev.ifT h ?_; rw [if_pos h]; exact ih
    · refine Ev.ifF h ?_; rw [if_neg h]; exact Ev.now _
theorem refECheck_l0 (a b c : Int) (D : List S40) (L : List S44) (hD : D.length ≤ 100000) (hL : L.length ≤ 100000) : ∀ (rest pre : List S40), D = pre ++ rest → Ev (fun k => staddleref13_Check.l0 k (pre.length : Int) a b c D L) (if dl rest = 0 then fls L else dl rest)
  | [], pre, hp => by
    have hlen : D.length = pre.length := by rw [hp, List.append_nil]
    refine Ev.step (fun k => staddleref13_Check.l0.eq_2 (k := k) ..) (Ev.ifF (by omega) ?_)
    exact refECheck_l1 a b c D L hL L [] rfl
  | f :: t, pre, hp => by
    have hlt : pre.length < D.length := by rw [hp, List.length_append, List.length_cons]; omega
    have hrd : rd_T40 D (pre.length : Int) = f := by rw [hp, rd40_at]
    refine Ev.step (fun k => staddleref13_Check.l0.eq_2 (k := k) ..) (Ev.ifT (by omega) (Ev.ifT (by omega) ?_))
    rw [hrd]
    refine Ev.bind (refPlace_ev f.f0 f.f1) ?_
    have ih := refECheck_l0 a b c D L hD hL t (pre ++ [f]) (by rw [hp]; simp)
    rw [show (pre ++ [f]).length = pre.length + 1 by simp, ← w_succ pre.length (by omega)] at ih
    have hdl : dl (f :: t) = if pl f.f0 f.f1 = 0 then dl t else pl f.f0 f.f1 := rfl
    rw [hdl]
    by_cases h : pl f.f0 f.f1 = 0
    · refine Ev.ifT h ?_; rw [if_pos h]; exact ih
    · refine Ev.ifF h ?_; rw [if_neg h, if_neg h]; exact Ev.now _
theorem refECheck_j1 (a b c : Int) (D : List S40) (L : List S44) (hD : D.length ≤ 100000) (hL : L.length ≤ 100000) (t : Bool) : Ev (fun k => staddleref13_Check.j1 k t a b c D L) (eck2 c D L t) := by
  refine Ev.step (fun k => staddleref13_Check.j1.eq_2 (k := k) ..) ?_
  unfold eck2
  by_cases h : t = true
  · refine Ev.ifT h ?_; rw [if_pos h]; exact Ev.now _
  refine Ev.ifF h ?_
  rw [if_neg h]
  by_cases h2 : c > 72057594037927935
  · refine Ev.ifT h2 ?_; rw [if_pos h2]; exact Ev.now _
  refine Ev.ifF h2 ?_
  rw [if_neg h2]
  exact refECheck_l0 a b c D L hD hL D [] rfl
theorem refECheck_ev (a b c : Int) (D : List S40) (L : List S44) : Ev (fun k => staddleref13_Check.f k a b c D L) (eck a b c D L) := by
  have hj : ∀ t, (t = false → D.length ≤ 100000 ∧ L.length ≤ 100000) → Ev (fun k => staddleref13_Check.j0 k t a b c D L) (eck1 a b c D L t) := by
    intro t ht
    refine Ev.step (fun k => staddleref13_Check.j0.eq_2 (k := k) ..) ?_
    unfold eck1
    by_cases h : t = true
    · refine Ev.ifT h ?_; rw [if_pos h]; exact Ev.now _
    have hl := ht (by simpa using h)
    refine Ev.ifF h ?_
    rw [if_neg h]
    by_cases h2 : a > 1099511627776
    · refine Ev.ifT h2 ?_; rw [if_pos h2]; exact refECheck_j1 _ _ _ _ _ hl.1 hl.2 _
    · refine Ev.ifF h2 ?_; rw [if_neg h2]; exact refECheck_j1 _ _ _ _ _ hl.1 hl.2 _
  unfold staddleref13_Check.f eck
  by_cases h : (D.length : Int) > 20000
  · refine Ev.ifT h ?_; rw [if_pos h]; exact hj _ (fun e => by cases e)
  · refine Ev.ifF h ?_; rw [if_neg h]
    refine hj _ (fun e => ?_)
    have hb : ¬ (L.length : Int) > 100 := by simpa using e
    omega
theorem refPut_u (n : Int) (h0 : 0 ≤ n) (h1 : n < 18446744073709551616) : Ev (fun k => staddleref01_PutUvarint.f k [] n) (uv n.toNat) := by
  have h := refPutUvarint_ev n.toNat [] (by omega) (by simp)
  rw [List.nil_append, Int.toNat_of_nonneg h0] at h
  exact h
end Go.Proofs.Ythkkbgehmiobaaa.Q
namespace Go.Proofs.Ythkkbgehmiobaaa.Q
open Go.RowKit Go.Proofs.YthkkbgehmiobaaaW.PrintWords Go.Proofs.YthkkbgehmiobaaaW.PrintLast Go.Proofs.YthkkbgehmiobaaaW.PrintMore Go.Proofs.Ythkkbgehmiobaaa.P Go.Proofs.Ythkkbgehmiobaaa.M Go.Proofs.Ythkkbgehmiobaaa.E
theorem refText_kb (x : S42) (h : kchk x = 0) : Ev (fun k => staddleref01_PutText.f k [] (strOfNums (kb x))) (tx (kb x)) := by
  have hk := kb_len h
  have hp := refPutText_ev [] (strOfNums (kb x)) (by rw [str_size]; simp only [List.length_nil]; omega)
  rw [List.nil_append, bytesOf_str _ (kb_IsB x)] at hp
  exact hp
theorem refKey_ev (x : S42) (h : kchk x = 0) (h0 : 0 ≤ x.f1) : Ev (fun k => staddleref02_Encode.f k x.f0 x.f1 x.f2) (kb x, 0) := by
  have he := refEncode_ev x.f0 x.f1 x.f2 h0
  rw [enc_kb h] at he
  exact he
theorem refEnc_l1 (a b c : Int) (D : List S40) (L : List S44) (hL : L.length ≤ 100000) : ∀ (rest pre : List S44) (out : List Int), L = pre ++ rest → fls rest = 0 → KW rest → out.length + 200 * rest.length < 100000000000 → Ev (fun k => staddleref13_Encode.l1 k out (pre.length : Int) a b c D L) (out ++ fbs rest, 0)
  | [], pre, out, hp, _, _, _ => by
    have hlen : L.length = pre.length := by rw [hp, List.append_nil]
    rw [fbs, List.append_nil]
    exact Ev.step (fun k => staddleref13_Encode.l1.eq_2 (k := k) ..) (Ev.ifF (by omega) (Ev.now _))
  | f :: t, pre, out, hp, hf, hw, hl => by
    rw [List.length_cons] at hl
    have hlt : pre.length < L.length := by rw [hp, List.length_append, List.length_cons]; omega
    have hrd : rd_T44 L (pre.length : Int) = f := by rw [hp, rd44_at]
    have ht := fls_tail hf
    have hq := fl_parts ht.1
    have l1 := u_len (n := f.f0) (by omega) (by omega)
    have l2 := u_len (n := f.f1) (by omega) (by omega)
    have l3 := u_len (n := f.f2) (by omega) (by omega)
    have l4 := tk_len hq.2.2.2.1
    have l5 := tk_len hq.2.2.2.2
    have hfl := fb_len ht.1
    have ih := refEnc_l1 a b c D L hL t (pre ++ [f]) (out ++ fb f) (by rw [hp]; simp) ht.2 hw.tail (by rw [List.length_append]; omega)
    rw [show (pre ++ [f]).length = pre.length + 1 by simp, ← w_succ pre.length (by omega)] at ih
    refine Ev.step (fun k => staddleref13_Encode.l1.eq_2 (k := k) ..) (Ev.ifT (by omega) (Ev.ifT (by omega) ?_))
    rw [hrd, wu f.f0 (by omega) (by omega), wu f.f2 (by omega) (by omega)]
    refine Ev.bind (refPut_u f.f0 (by omega) (by omega)) (Ev.ifT (by omega) (Ev.some_ ?_))
    refine Ev.bind (refPut_u f.f1 (by omega) (by omega)) (Ev.ifT (by simp only [List.length_append]; omega) (Ev.some_ ?_))
    refine Ev.bind (refPut_u f.f2 (by omega) (by omega)) (Ev.ifT (by simp only [List.length_append]; omega) (Ev.some_ ?_))
    refine Ev.bind (refKey_ev f.f3 hq.2.2.2.1 hw.head.1) (Ev.bind (refKey_ev f.f4 hq.2.2.2.2 hw.head.2) ?_)
    refine Ev.bind (refText_kb f.f3 hq.2.2.2.1) (Ev.ifT (by simp only [List.length_append]; omega) (Ev.some_ ?_))
    refine Ev.bind (refText_kb f.f4 hq.2.2.2.2) (Ev.ifT (by simp only [List.length_append]; omega) ?_)
    have e : out ++ uv f.f0.toNat ++ uv f.f1.toNat ++ uv f.f2.toNat ++ tx (kb f.f3) ++ tx (kb f.f4) = out ++ fb f := by simp [fb]
    rw [e]
    refine ev_eq ?_ ih
    simp [fbs]
theorem refEnc_l0 (a b c : Int) (D : List S40) (L : List S44) (hD : D.length ≤ 100000) (hL : L.length ≤ 100000) (hf : fls L = 0) (hw : KW L) : ∀ (rest pre : List S40) (out : List Int), D = pre ++ rest → dl rest = 0 → out.length + 20 * rest.length < 10000000000 → Ev (fun k => staddleref13_Encode.l0 k out (pre.length : Int) a b c D L) (out ++ (dbs rest ++ (uv L.length ++ fbs L)), 0)
  | [], pre, out, hp, _, hl => by
    have hlen : D.length = pre.length := by rw [hp, List.append_nil]
    have h5 := uv_len64 (n := L.length) (by omega)
    refine Ev.step (fun k => staddleref13_Encode.l0.eq_2 (k := k) ..) (Ev.ifF (by omega) ?_)
    rw [wu (L.length : Int) (by omega) (by omega)]
    have hu := refPut_u (L.length : Int) (by omega) (by omega)
    rw [Int.toNat_natCast] at hu
    refine Ev.bind hu (Ev.ifT (by omega) ?_)
    have h := refEnc_l1 a b c D L hL L [] (out ++ uv L.length) rfl hf hw (by rw [List.length_append]; omega)
    refine ev_eq ?_ h
    simp [dbs]
  | d :: t, pre, out, hp, hd, hl => by
    rw [List.length_cons] at hl
    have hlt : pre.length < D.length := by rw [hp, List.length_append, List.length_cons]; omega
    have hrd : rd_T40 D (pre.length : Int) = d := by rw [hp, rd40_at]
    have hq := pl_zero (dl_all hd d (List.mem_cons_self ..))
    have ht : dl t = 0 := dl_of (fun x hx => dl_all hd x (List.mem_cons_of_mem _ hx))
    have l1 := u_len (n := d.f0) (by omega) (by omega)
    have l2 := u_len (n := d.f1) (by omega) (by omega)
    have ih := refEnc_l0 a b c D L hD hL hf hw t (pre ++ [d]) (out ++ uv d.f0.toNat ++ uv d.f1.toNat) (by rw [hp]; simp) ht (by simp only [List.length_append]; omega)
    rw [show (pre ++ [d]).length = pre.length + 1 by simp, ← w_succ pre.length (by omega)] at ih
    refine Ev.step (fun k => staddleref13_Encode.l0.eq_2 (k := k) ..) (Ev.ifT (by omega) (Ev.ifT (by omega) ?_))
    rw [hrd, wu d.f0 (by omega) (by omega)]
    refine Ev.bind (refPut_u d.f0 (by omega) (by omega)) (Ev.ifT (by omega) (Ev.some_ ?_))
    refine Ev.bind (refPut_u d.f1 (by omega) (by omega)) (Ev.ifT (by simp only [List.length_append]; omega) ?_)
    refine ev_eq ?_ ih
    simp [dbs]
theorem refEnc_ev (a b c : Int) (D : List S40) (L : List S44) (a0 : 0 ≤ a) (b0 : 0 ≤ b) (c0 : 0 ≤ c) (hw : KW L) : Ev (fun k => staddleref13_Encode.f k a b c D L) (eblt a b c D L) := by
  unfold staddleref13_Encode.f
  refine Ev.bind (refECheck_ev a b c D L) ?_
  unfold eblt
  by_cases h : eck a b c D L = 0
  case neg =>
    refine Ev.ifF h ?_
    rw [if_neg h]
    exact Ev.now _
  refine Ev.ifT h ?_
  rw [if_pos h]
  have hz := eck_zero h
  have h1 := u_len a0 (by omega)
  have h2 := u_len b0 (by omega)
  have h3 := u_len c0 (by omega)
  have h4 := uv_len64 (n := D.length) (by omega)
  rw [wu (D.length : Int) (by omega) (by omega)]
  have hu := refPut_u (D.length : Int) (by omega) (by omega)
  rw [Int.toNat_natCast] at hu
  refine Ev.bind (refPut_u a a0 (by omega)) (Ev.bind (refPut_u b b0 (by omega)) (Ev.ifT (by omega) (Ev.some_ ?_)))
  refine Ev.bind (refPut_u c c0 (by omega)) (Ev.ifT (by simp only [List.length_append]; omega) (Ev.some_ ?_))
  refine Ev.bind hu (Ev.ifT (by simp only [List.length_append]; omega) ?_)
  have h := refEnc_l0 a b c D L (by omega) (by omega) hz.2.2.2.2.2.2 hw D [] (uv a.toNat ++ uv b.toNat ++ uv c.toNat ++ uv D.length) rfl hz.2.2.2.2.2.1 (by simp only [List.length_append]; omega)
  refine ev_eq ?_ h
  simp [lay]
end Go.Proofs.Ythkkbgehmiobaaa.Q
namespace Go.Proofs.Ythkkbgehmiobaaa.Q
open Go.RowKit Go.Proofs.YthkkbgehmiobaaaW.PrintWords Go.Proofs.YthkkbgehmiobaaaW.PrintLast Go.Proofs.YthkkbgehmiobaaaW.PrintMore Go.Proofs.Ythkkbgehmiobaaa.P Go.Proofs.Ythkkbgehmiobaaa.M

theorem refUvarint_l0 (l : List Int) (hb : IsB l) : ∀ (d i acc : Nat), i + d = l.length → i ≤ 9 → acc < 2 ^ (7 * i) →
    Ev (fun k => staddleref01_Uvarint.l0 k l (acc : Int) (i : Int)) (((uvd (l.drop i) i acc).1 : Int), ((uvd (l.drop i) i acc).2.1 : Int), ((uvd (l.drop i) i acc).2.2 : Int)) := by
  intro d
  induction d with
  | zero =>
    intro i acc hi h9 _
    have hd : l.drop i = [] := by rw [List.drop_eq_nil_iff]; omega
    rw [hd]
    refine Ev.step (f := fun _ => some (0, 0, 10)) (fun k => ?_) (Ev.now _)
    simp only [staddleref01_Uvarint.l0]
    rw [if_pos (by omega), if_pos (by omega)]
  | succ d ih =>
    intro i acc hi h9 ha
    have hlt : i < l.length := by omega
    obtain ⟨c, hc⟩ : ∃ c, l[i] = c := ⟨_, rfl⟩
    have hcb := hb c (by rw [← hc]; exact List.getElem_mem hlt)
    have hrd : rd l (i : Int) = c := by simp [rd, List.getD_eq_getElem?_getD, hlt, hc]
    have hdrop : l.drop i = c :: l.drop (i + 1) := by rw [List.drop_eq_getElem_cons hlt, hc]
    rw [hdrop]
    have e7 : IntKind.u64.wrap (wrap64 (7 * (i : Int))) = ((7 * i : Nat) : Int) := by rw [w64 (by omega) (by omega), wU64 (by omega) (by omega)]; omega
    have e1 : wrap64 ((i : Int) + 1) = ((i + 1 : Nat) : Int) := by rw [w64 (by omega) (by omega)]; omega
    have hj : ∀ k, staddleref01_Uvarint.l0 (k + 1) l (acc : Int) (i : Int) = staddleref01_Uvarint.j1 k l (acc : Int) (i : Int) (decide (i = 9 ∧ 1 < c)) := by
      intro k
      simp only [staddleref01_Uvarint.l0]
      rw [if_pos (by omega), if_neg (by omega)]
      by_cases h : i = 9
      · rw [if_pos (by omega), if_pos (by omega), if_pos (by omega), hrd]
        congr 1
        simp [h]
      · rw [if_neg (by omega)]
        congr 1
        simp [h]
    refine Ev.step hj ?_
    by_cases h91 : i = 9 ∧ 1 < c
    · simp only [uvd]
      rw [if_pos h91]
      refine Ev.step (f := fun _ => some (0, 0, 11)) (fun k => ?_) (Ev.now _)
      simp only [staddleref01_Uvarint.j1]
      rw [if_pos (by simpa using h91)]
    · have hm : (c % 128).toNat * 2 ^ (7 * i) < 18446744073709551616 := by
        by_cases e9 : i = 9
        · subst e9
          have : (c % 128).toNat ≤ 1 := by omega
          have := Nat.mul_le_mul_right (2 ^ (7 * 9)) this
          have e63 : (2 : Nat) ^ (7 * 9) = 9223372036854775808 := by decide
          omega
        · have hp8 : 2 ^ (7 * i) ≤ 2 ^ 56 := Nat.pow_le_pow_right (by decide) (by omega)
          have : (c % 128).toNat ≤ 127 := by omega
          have := Nat.mul_le_mul this hp8
          have e56 : (2 : Nat) ^ 56 = 72057594037927936 := by decide
          omega
      have ha63 : acc < 9223372036854775808 := Nat.lt_of_lt_of_le ha (Nat.le_trans (Nat.pow_le_pow_right (by decide) (show 7 * i ≤ 63 by omega)) (by decide))
      have hsum : acc + (c % 128).toNat * 2 ^ (7 * i) < 18446744073709551616 := by
        by_cases e9 : i = 9
        · subst e9
          have : (c % 128).toNat ≤ 1 := by omega
          have := Nat.mul_le_mul_right (2 ^ (7 * 9)) this
          have e63 : (2 : Nat) ^ (7 * 9) = 9223372036854775808 := by decide
          omega
        · have hp8 : 2 ^ (7 * i) ≤ 2 ^ 56 := Nat.pow_le_pow_right (by decide) (by omega)
          have : (c % 128).toNat ≤ 127 := by omega
          have := Nat.mul_le_mul this hp8
          have e56 : (2 : Nat) ^ 56 = 72057594037927936 := by decide
          omega
      have hval : IntKind.u64.wrap ((acc : Int) + (shl .u64 (IntKind.u64.wrap (Int.tmod c 128)) (IntKind.u64.wrap (wrap64 (7 * (i : Int)))))) = ((acc + (c % 128).toNat * 2 ^ (7 * i) : Nat) : Int) := by
        rw [Int.tmod_eq_emod_of_nonneg hcb.1, wU64 (n := c % 128) (by omega) (by omega), e7, show c % 128 = (((c % 128).toNat : Nat) : Int) by omega, shl64 _ _ (by omega) hm]
        simp only [Int.toNat_natCast]
        generalize (c % 128).toNat * 2 ^ (7 * i) = z at *
        rw [wU64 (by omega) (by omega)]
        omega
      have hjj : ∀ k, staddleref01_Uvarint.j1 (k + 1) l (acc : Int) (i : Int) (decide (i = 9 ∧ 1 < c)) = if c < 128 then some (((acc + (c % 128).toNat * 2 ^ (7 * i) : Nat) : Int), ((i + 1 : Nat) : Int), 0) else staddleref01_Uvarint.l0 k l ((acc + (c % 128).toNat * 2 ^ (7 * i) : Nat) : Int) ((i + 1 : Nat) : Int) := by
        intro k
        simp only [staddleref01_Uvarint.j1]
        rw [if_neg (by simpa using h91), if_pos (by omega), if_pos (by omega), hrd, hval, if_pos (by rw [e7]; omega), e1]
      simp only [uvd]
      rw [if_neg h91]
      by_cases h128 : c < 128
      · rw [if_pos h128]
        refine Ev.step (f := fun _ => some (((acc + (c % 128).toNat * 2 ^ (7 * i) : Nat) : Int), ((i + 1 : Nat) : Int), 0)) (fun k => ?_) (Ev.now _)
        rw [hjj k, if_pos h128]
      · rw [if_neg h128]
        have h8 : i ≤ 8 := by omega
        have ha2 : acc + (c % 128).toNat * 2 ^ (7 * i) < 2 ^ (7 * (i + 1)) := by
          rw [pow7]
          have : (c % 128).toNat ≤ 127 := by omega
          have := Nat.mul_le_mul_right (2 ^ (7 * i)) this
          omega
        refine Ev.step (fun k => ?_) (ih (i + 1) _ (by omega) (by omega) ha2)
        rw [hjj k, if_neg h128]
theorem refUvarint_ev (l : List Int) (hb : IsB l) : Ev (fun k => staddleref01_Uvarint.f k l) (((uvd l 0 0).1 : Int), ((uvd l 0 0).2.1 : Int), ((uvd l 0 0).2.2 : Int)) :=
  refUvarint_l0 l hb l.length 0 0 (by omega) (by omega) (by decide)
theorem refText_ev (l : List Int) (hb : IsB l) (hl : l.length ≤ 140737488355328) : Ev (fun k => staddleref01_Text.f k l) (strOfNums (txd l).1, ((txd l).2.1 : Int), ((txd l).2.2 : Int)) := by
  have hu := refUvarint_ev l hb
  obtain ⟨n, hn⟩ : ∃ n, (uvd l 0 0).1 = n := ⟨_, rfl⟩
  obtain ⟨m, hm⟩ : ∃ m, (uvd l 0 0).2.1 = m := ⟨_, rfl⟩
  obtain ⟨e, he⟩ : ∃ e, (uvd l 0 0).2.2 = e := ⟨_, rfl⟩
  unfold txd
  rw [hn, hm, he] at hu ⊢
  refine Ev.bind hu ?_
  by_cases h0 : e = 0
  · subst h0
    have hok := uvd_ok l 0 0 n m hb (by omega) (by decide) (by rw [← hn, ← hm]; exact Prod.ext rfl (Prod.ext rfl he))
    rw [if_pos rfl]
    have e1 : IntKind.u64.wrap (wrap64 ((l.length : Int) - (m : Int))) = ((l.length - m : Nat) : Int) := by rw [w64 (by omega) (by omega), wU64 (by omega) (by omega)]; omega
    by_cases hgt : n > l.length - m
    · rw [if_pos hgt]
      refine Ev.congr (f := fun _ => some (strOfNums [], ((0 : Nat) : Int), ((10 : Nat) : Int))) (fun k => ?_) (Ev.now _)
      simp only
      rw [if_pos (by rfl), e1, if_pos (by omega)]
      rfl
    · rw [if_neg hgt]
      have e2 : wrap64 ((m : Int) + wrap64 (n : Int)) = ((m + n : Nat) : Int) := by rw [w64 (n := (n : Int)) (by omega) (by omega), w64 (by omega) (by omega)]; omega
      refine Ev.congr (f := fun _ => some (strOfNums ((l.drop m).take n), ((m + n : Nat) : Int), ((0 : Nat) : Int))) (fun k => ?_) (Ev.now _)
      simp only
      rw [if_pos (by rfl), e1, if_neg (by omega), if_pos (by omega), e2, if_pos (by omega), if_pos (by omega), Int.toNat_natCast, Int.toNat_natCast, List.drop_take]
      rw [show m + n - m = n by omega]
      rfl
  · rw [if_neg h0]
    refine Ev.congr (f := fun _ => some (strOfNums [], ((0 : Nat) : Int), (e : Int))) (fun k => ?_) (Ev.now _)
    simp only
    rw [if_neg (by omega)]
    rfl
theorem refFixed8_l0 (l : List Int) (hb : IsB l) (hl : l.length ≤ 8) : ∀ (i : Nat), i ≤ l.length → Ev (fun k => staddleref01_Fixed.l0 k l ((fxd (l.drop i) : Nat) : Int) ((i : Int) - 1)) (((fxd l : Nat) : Int), 0)
  | 0, _ => by
    refine Ev.step (f := fun _ => some (((fxd l : Nat) : Int), 0)) (fun k => ?_) (Ev.now _)
    simp only [staddleref01_Fixed.l0]
    rw [if_neg (by omega), List.drop_zero]
  | i + 1, hi => by
    have ih := refFixed8_l0 l hb hl i (by omega)
    have hlt : i < l.length := by omega
    have hd := List.drop_eq_getElem_cons hlt
    have hc := hb _ (List.getElem_mem hlt)
    have hq := fxd_lt _ (hb.drop i)
    have hpow : 256 ^ (l.drop i).length ≤ 18446744073709551616 := by
      rw [List.length_drop]
      exact Nat.le_trans (Nat.pow_le_pow_right (by decide) (show l.length - i ≤ 8 by omega)) (by decide)
    have e0 : rd l (((i + 1 : Nat) : Int) - 1) = l[i] := by
      unfold rd
      rw [show (((i + 1 : Nat) : Int) - 1).toNat = i by omega, List.getD_eq_getElem?_getD, List.getElem?_eq_getElem hlt]
      rfl
    have ed : fxd (l.drop i) = (l[i]).toNat + 256 * fxd (l.drop (i + 1)) := by rw [hd, fxd]
    refine Ev.step (fun k => ?_) ih
    simp only [staddleref01_Fixed.l0]
    rw [if_pos (by omega), if_pos (by omega), if_pos (by omega), e0]
    generalize fxd (l.drop i) = x at *
    generalize fxd (l.drop (i + 1)) = y at *
    generalize l[i] = c at *
    have e1 : IntKind.u64.wrap ((IntKind.u64.wrap ((y : Int) * 256)) + (IntKind.u64.wrap c)) = (x : Int) := by
      rw [wU64 (n := (y : Int) * 256) (by omega) (by omega), wU64 (n := c) (by omega) (by omega), wU64 (by omega) (by omega)]
      omega
    have e2 : wrap64 (((i + 1 : Nat) : Int) - 1 - 1) = (i : Int) - 1 := by rw [w64 (by omega) (by omega)]; omega
    rw [e1, e2]
theorem refFixed8_ev (l : List Int) (hb : IsB l) (h8 : l.length = 8) : Ev (fun k => staddleref01_Fixed.f k l 8) (((fxd l : Nat) : Int), 0) := by
  have h := refFixed8_l0 l hb (by omega) l.length (Nat.le_refl _)
  rw [List.drop_length, h8] at h
  have hj : Ev (fun k => staddleref01_Fixed.j0 k l 8 false) (((fxd l : Nat) : Int), 0) := by
    refine Ev.step (fun k => ?_) h
    simp only [staddleref01_Fixed.j0]
    rw [if_neg (by decide), if_neg (by omega), show wrap64 (8 - 1) = (8 : Int) - 1 from w64 (by decide) (by decide)]
    rfl
  refine Ev.congr (fun k => ?_) hj
  unfold staddleref01_Fixed.f
  rw [if_neg (by decide)]
  rfl
theorem refDecode_ev (l : List Int) (hb : IsB l) (hl : l.length ≤ 140737488351232) : Ev (fun k => staddleref02_Decode.f k l) (dec l) := by
  unfold dec
  have jt : Ev (fun k => staddleref02_Decode.j0 k l true) ((⟨#[]⟩ : ByteArray), 0, 0, 20) := by
    refine Ev.step (f := fun _ => some _) (fun k => ?_) (Ev.now _)
    simp only [staddleref02_Decode.j0]
    rw [if_pos trivial]
  by_cases h8 : l.length < 8
  · rw [if_pos (.inl h8)]
    refine Ev.congr (fun k => ?_) jt
    unfold staddleref02_Decode.f
    rw [if_pos (by omega)]
  · have hw := wlen l hl (by omega)
    by_cases h72 : 72 < l.length
    · rw [if_pos (.inr (.inl h72))]
      refine Ev.congr (fun k => ?_) jt
      unfold staddleref02_Decode.f
      rw [if_neg (by omega)]
      congr 1
      simp
      omega
    · have hlen : (l.drop (l.length - 8)).length = 8 := by rw [List.length_drop]; omega
      have hf := refFixed8_ev (l.drop (l.length - 8)) (hb.drop _) hlen
      have hlt := fxd8 l hb (by omega)
      have jf : Ev (fun k => staddleref02_Decode.j0 k l false) (if l.length < 8 ∨ 72 < l.length ∨ 1 < fxd (l.drop (l.length - 8)) % 256 then ((⟨#[]⟩ : ByteArray), 0, 0, 20)
          else (strOfNums (l.take (l.length - 8)), ((fxd (l.drop (l.length - 8)) / 256 : Nat) : Int), ((fxd (l.drop (l.length - 8)) % 256 : Nat) : Int), 0)) := by
        refine Ev.step (f := fun k => (staddleref01_Fixed.f k (l.drop (l.length - 8)) 8).bind fun bt168 => (if (Int.tmod bt168.1 256) > 1 then (some ((⟨#[]⟩ : ByteArray), 0, 0, 20)) else (some (strOfNums (l.take (l.length - 8)), IntKind.u64.wrap (Int.tdiv bt168.1 256), wrap64 (Int.tmod bt168.1 256), 0)))) (fun k => ?_) (Ev.bind hf ?_)
        · simp only [staddleref02_Decode.j0]
          rw [if_neg (by decide), hw, if_pos (by omega), if_pos (by omega), Int.toNat_natCast]
        · simp only []
          generalize fxd (l.drop (l.length - 8)) = x at *
          have et : Int.tmod (x : Int) 256 = ((x % 256 : Nat) : Int) := rfl
          have ed : Int.tdiv (x : Int) 256 = ((x / 256 : Nat) : Int) := rfl
          rw [et, ed]
          by_cases h1 : 1 < x % 256
          · have hor : l.length < 8 ∨ 72 < l.length ∨ 1 < x % 256 := .inr (.inr h1)
            rw [if_pos hor]
            exact Ev.congr (fun k => by rw [if_pos (by omega)]) (Ev.now _)
          · have hor : ¬ (l.length < 8 ∨ 72 < l.length ∨ 1 < x % 256) := by omega
            rw [if_neg hor]
            exact Ev.congr (fun k => by rw [if_neg (by omega), wU64 (by omega) (by omega), w64 (by omega) (by omega)]) (Ev.now _)
      refine Ev.congr (fun k => ?_) jf
      unfold staddleref02_Decode.f
      rw [if_neg (by omega)]
      congr 1
      simp
      omega
end Go.Proofs.Ythkkbgehmiobaaa.Q
namespace Go.Proofs.Ythkkbgehmiobaaa.Q
open Go.RowKit Go.Proofs.YthkkbgehmiobaaaW.PrintWords Go.Proofs.YthkkbgehmiobaaaW.PrintLast Go.Proofs.YthkkbgehmiobaaaW.PrintMore Go.Proofs.Ythkkbgehmiobaaa.P Go.Proofs.Ythkkbgehmiobaaa.M Go.Proofs.Ythkkbgehmiobaaa.E
/-! ### numbers and keys -/
def numd (D : List Int) (most : Nat) : Option (Int × List Int) := if (uvd D 0 0).2.2 = 0 ∧ (uvd D 0 0).1 ≤ most then some (((uvd D 0 0).1 : Int), D.drop (uvd D 0 0).2.1) else none
/-- a rest of bytes -/
def Sfx (D E : List Int) : Prop := ∃ n, E = D.drop n
theorem Sfx.IsB {D E : List Int} (h : Sfx D E) (hb : IsB D) : M.IsB E := by obtain ⟨n, rfl⟩ := h; exact hb.drop n
theorem Sfx.len {D E : List Int} (h : Sfx D E) : E.length ≤ D.length := by obtain ⟨n, rfl⟩ := h; rw [List.length_drop]; omega
theorem Sfx.trans {D E F : List Int} (h : Sfx D E) (h2 : Sfx E F) : Sfx D F := by obtain ⟨n, rfl⟩ := h; obtain ⟨m, rfl⟩ := h2; exact ⟨n + m, by rw [List.drop_drop]⟩
theorem Sfx.refl (D : List Int) : Sfx D D := ⟨0, rfl⟩
theorem numd_out {D : List Int} {most : Nat} {x : Int × List Int} (h : numd D most = some x) : (0 ≤ x.1 ∧ x.1 ≤ (most : Int)) ∧ Sfx D x.2 := by
  unfold numd at h
  split at h
  · rename_i hc
    injection h with h
    subst h
    exact ⟨⟨by omega, by omega⟩, ⟨_, rfl⟩⟩
  · cases h
theorem num_ev (D : List Int) (hb : IsB D) (most : Nat) : Ev (fun k => num_g k D (most : Int)) (numd D most) := by
  have hu := Uvarint_ev D hb
  have hok := uvd_ok D 0 0 (uvd D 0 0).1 (uvd D 0 0).2.1 hb (by omega) (by decide)
  unfold num_g numd
  generalize huv : uvd D 0 0 = u at *
  obtain ⟨n, m, e⟩ := u
  dsimp only at *
  refine Ev.bind hu ?_
  dsimp only
  by_cases h0 : e = 0
  · subst h0
    have hm := hok rfl
    by_cases hle : n ≤ most
    · refine Ev.ifT ⟨rfl, by omega, by omega, by omega, by omega⟩ ?_
      rw [if_pos ⟨rfl, hle⟩, Int.toNat_natCast]
      exact Ev.now _
    · refine Ev.ifF (fun h => hle (by have := h.2.2.1; omega)) (Ev.ifT (.inr (by omega)) ?_)
      rw [if_neg (fun h => hle h.2)]
      exact Ev.now _
  · refine Ev.ifF (fun h => h0 (by have := h.1; omega)) (Ev.ifT (.inl (by omega)) ?_)
    rw [if_neg (fun h => h0 h.1)]
    exact Ev.now _
theorem numd_uv (n most : Nat) (D : List Int) (hn : n ≤ most) (hm : most < 18446744073709551616) : numd (uv n ++ D) most = some ((n : Int), D) := by
  have h := uvd_uv D n 0 0 (by omega) (by simp; omega)
  simp only [Nat.mul_zero, Nat.pow_zero, Nat.mul_one, Nat.zero_add] at h
  unfold numd
  rw [h]
  dsimp only
  rw [if_pos ⟨rfl, hn⟩, List.drop_left]
def keyd (D : List Int) : Option (S42 × List Int) := if (txd D).2.2 = 0 then (if (dec (txd D).1).2.2.2 = 0 then some (⟨(dec (txd D).1).1, (dec (txd D).1).2.1, (dec (txd D).1).2.2.1⟩, D.drop (txd D).2.1) else none) else none
theorem txd_facts (D : List Int) (hb : IsB D) : IsB (txd D).1 ∧ (txd D).1.length ≤ D.length ∧ (txd D).2.1 ≤ D.length := by
  have hok := uvd_ok D 0 0 (uvd D 0 0).1 (uvd D 0 0).2.1 hb (by omega) (by decide)
  unfold txd
  split
  · rename_i h0
    have hm := hok (Prod.ext rfl (Prod.ext rfl h0))
    split
    · exact ⟨IsB.nil, by simp, by simp⟩
    · refine ⟨(hb.drop _).take _, ?_, ?_⟩
      · rw [List.length_take, List.length_drop]; omega
      · dsimp only; omega
  · exact ⟨IsB.nil, by simp, by simp⟩
theorem keyd_out {D : List Int} {x : S42 × List Int} (h : keyd D = some x) : 0 ≤ x.1.f1 ∧ Sfx D x.2 := by
  unfold keyd at h
  split at h
  case isFalse => cases h
  split at h
  case isFalse => cases h
  injection h with h
  subst h
  refine ⟨?_, ⟨_, rfl⟩⟩
  dsimp only
  unfold dec
  split
  · exact Int.le_refl 0
  · exact Int.natCast_nonneg _
theorem key_ev' (D : List Int) (hb : IsB D) (hl : D.length ≤ 140737488351232) : Ev (fun k => key_g k D) (keyd D) := by
  have hf := txd_facts D hb
  unfold key_g keyd
  refine Ev.bind (Text_ev D hb (by omega)) ?_
  dsimp only
  by_cases h0 : (txd D).2.2 = 0
  case neg =>
    refine Ev.ifF (fun h => h0 (by exact_mod_cast h)) ?_
    rw [if_neg h0]
    exact Ev.now _
  refine Ev.ifT (by exact_mod_cast h0) (Ev.ifT ⟨by rw [str_size]; omega, by omega, by omega⟩ ?_)
  rw [if_pos h0]
  have hd := Decode_ev (txd D).1 hf.1 (by omega)
  have e : bytesOf (strOfNums (txd D).1) = (txd D).1 := bytesOf_str _ hf.1
  refine Ev.congr (f := fun k => (ikey_Decode.f k (txd D).1).bind fun y => if y.2.2.2 = 0 then some (some (⟨y.1, y.2.1, y.2.2.1⟩, D.drop (txd D).2.1)) else some none) (fun k => ?_) (Ev.bind hd ?_)
  · rw [e, Int.toNat_natCast]
  · by_cases h1 : (dec (txd D).1).2.2.2 = 0
    · refine Ev.ifT h1 ?_; rw [if_pos h1]; exact Ev.now _
    · refine Ev.ifF h1 ?_; rw [if_neg h1]; exact Ev.now _
theorem keyd_tx (x : S42) (D : List Int) (h : kchk x = 0) (h0 : 0 ≤ x.f1) : keyd (tx (kb x) ++ D) = some (x, D) := by
  have hk := kb_len h
  have ht := txd_tx (kb x) D (by omega)
  have hd := dec_enc x.f0 x.f1 x.f2 h0 h
  unfold keyd
  rw [ht]
  dsimp only
  rw [show dec (kb x) = (x.f0, x.f1, x.f2, 0) from hd]
  dsimp only
  rw [if_pos rfl, if_pos rfl, List.drop_left]
/-! ### the lists -/
def gonesd : Nat → List Int → List S40 → Option (List Int × List S40)
  | 0, D, acc => some (D, acc)
  | c + 1, D, acc => (numd D 4).bind fun u => (numd u.2 1099511627776).bind fun v => gonesd c v.2 (acc ++ [⟨u.1, v.1⟩])
def filesd : Nat → List Int → List S44 → Option (List Int × List S44)
  | 0, D, acc => some (D, acc)
  | c + 1, D, acc => (numd D 4).bind fun u => (numd u.2 1099511627776).bind fun v => (numd v.2 2147483648).bind fun z => (keyd z.2).bind fun s => (keyd s.2).bind fun g => filesd c g.2 (acc ++ [⟨u.1, v.1, z.1, s.1, g.1⟩])
theorem nm_ev {α : Type} (D : List Int) (hb : IsB D) (most : Nat) (f : Nat → Int → List Int → Option (Option α)) (g : Int → List Int → Option α) (hf : ∀ n E, (0 ≤ n ∧ n ≤ (most : Int)) → Sfx D E → Ev (fun k => f k n E) (g n E)) : Ev (fun k => nm k D (most : Int) (f k)) ((numd D most).bind fun u => g u.1 u.2) := by
  refine Ev.bind (num_ev D hb most) ?_
  cases hq : numd D most with
  | none => exact Ev.now _
  | some x => have := numd_out hq; exact hf x.1 x.2 this.1 this.2
theorem ky_ev {α : Type} (D : List Int) (hb : IsB D) (hl : D.length ≤ 140737488351232) (f : Nat → S42 → List Int → Option (Option α)) (g : S42 → List Int → Option α) (hf : ∀ x E, 0 ≤ x.f1 → Sfx D E → Ev (fun k => f k x E) (g x E)) : Ev (fun k => ky k D (f k)) ((keyd D).bind fun u => g u.1 u.2) := by
  refine Ev.bind (key_ev' D hb hl) ?_
  cases hq : keyd D with
  | none => exact Ev.now _
  | some x => have := keyd_out hq; exact hf x.1 x.2 this.1 this.2
theorem gones_ev {α : Type} (f : Nat → List Int → List S40 → Option (Option α)) (g : List Int → List S40 → Option α) : ∀ (c : Nat) (D : List Int) (acc : List S40), IsB D → (∀ E acc', Sfx D E → Ev (fun k => f k E acc') (g E acc')) → Ev (fun k => gones_g k c D acc (f k)) ((gonesd c D acc).bind fun r => g r.1 r.2)
  | 0, D, acc, _, hf => hf D acc (Sfx.refl D)
  | c + 1, D, acc, hb, hf => by
    have h := nm_ev (α := α) D hb 4 (fun k l D1 => nm k D1 1099511627776 fun n D2 => gones_g k c D2 (acc ++ [⟨l, n⟩]) (f k)) (fun l D1 => (numd D1 1099511627776).bind fun v => (gonesd c v.2 (acc ++ [⟨l, v.1⟩])).bind fun r => g r.1 r.2)
      (fun l D1 _ s1 => nm_ev (α := α) D1 (s1.IsB hb) 1099511627776 (fun k n D2 => gones_g k c D2 (acc ++ [⟨l, n⟩]) (f k)) (fun n D2 => (gonesd c D2 (acc ++ [⟨l, n⟩])).bind fun r => g r.1 r.2)
        (fun n D2 _ s2 => gones_ev f g c D2 _ ((s1.trans s2).IsB hb) (fun E acc' s => hf E acc' ((s1.trans s2).trans s))))
    refine ev_eq ?_ h
    show _ = ((numd D 4).bind fun u => (numd u.2 1099511627776).bind fun v => gonesd c v.2 (acc ++ [⟨u.1, v.1⟩])).bind _
    rw [Option.bind_assoc]
    congr 1
    funext u
    rw [Option.bind_assoc]
set_option maxHeartbeats 4000000 in
theorem files_ev {α : Type} (f : Nat → List Int → List S44 → Option (Option α)) (g : List Int → List S44 → Option α) : ∀ (c : Nat) (D : List Int) (acc : List S44), IsB D → D.length ≤ 140737488351232 → KW acc → (∀ E acc', KW acc' → Sfx D E → Ev (fun k => f k E acc') (g E acc')) → Ev (fun k => files_g k c D acc (f k)) ((filesd c D acc).bind fun r => g r.1 r.2)
  | 0, D, acc, _, _, hw, hf => hf D acc hw (Sfx.refl D)
  | c + 1, D, acc, hb, hl, hw, hf => by
    have h := nm_ev (α := α) D hb 4 (fun k l D1 => nm k D1 1099511627776 fun n D2 => nm k D2 2147483648 fun z D3 => ky k D3 fun s D4 => ky k D4 fun t D5 => files_g k c D5 (acc ++ [⟨l, n, z, s, t⟩]) (f k))
      (fun l D1 => (numd D1 1099511627776).bind fun v => (numd v.2 2147483648).bind fun z => (keyd z.2).bind fun s => (keyd s.2).bind fun t => (filesd c t.2 (acc ++ [⟨l, v.1, z.1, s.1, t.1⟩])).bind fun r => g r.1 r.2)
      (fun l D1 _ s1 => nm_ev (α := α) D1 (s1.IsB hb) 1099511627776 (fun k n D2 => nm k D2 2147483648 fun z D3 => ky k D3 fun s D4 => ky k D4 fun t D5 => files_g k c D5 (acc ++ [⟨l, n, z, s, t⟩]) (f k))
        (fun n D2 => (numd D2 2147483648).bind fun z => (keyd z.2).bind fun s => (keyd s.2).bind fun t => (filesd c t.2 (acc ++ [⟨l, n, z.1, s.1, t.1⟩])).bind fun r => g r.1 r.2)
        (fun n D2 _ s2 => nm_ev (α := α) D2 ((s1.trans s2).IsB hb) 2147483648 (fun k z D3 => ky k D3 fun s D4 => ky k D4 fun t D5 => files_g k c D5 (acc ++ [⟨l, n, z, s, t⟩]) (f k))
          (fun z D3 => (keyd D3).bind fun s => (keyd s.2).bind fun t => (filesd c t.2 (acc ++ [⟨l, n, z, s.1, t.1⟩])).bind fun r => g r.1 r.2)
          (fun z D3 _ s3 => by
            have q3 := (s1.trans s2).trans s3
            have l3 := q3.len
            exact ky_ev (α := α) D3 (q3.IsB hb) (by omega) (fun k s D4 => ky k D4 fun t D5 => files_g k c D5 (acc ++ [⟨l, n, z, s, t⟩]) (f k))
              (fun s D4 => (keyd D4).bind fun t => (filesd c t.2 (acc ++ [⟨l, n, z, s, t.1⟩])).bind fun r => g r.1 r.2)
              (fun s D4 hs s4 => by
                have q4 := q3.trans s4
                have l4 := q4.len
                exact ky_ev (α := α) D4 (q4.IsB hb) (by omega) (fun k t D5 => files_g k c D5 (acc ++ [⟨l, n, z, s, t⟩]) (f k))
                  (fun t D5 => (filesd c D5 (acc ++ [⟨l, n, z, s, t⟩])).bind fun r => g r.1 r.2)
                  (fun t D5 ht s5 => by
                    have q5 := q4.trans s5
                    have l5 := q5.len
                    exact files_ev f g c D5 _ (q5.IsB hb) (by omega) (fun x hx => by rcases List.mem_append.1 hx with h1 | h1; exact hw x h1; simp only [List.mem_singleton] at h1; subst h1; exact ⟨hs, ht⟩) (fun E acc' hw' s => hf E acc' hw' (q5.trans s)))))))
    refine ev_eq ?_ h
    show _ = ((numd D 4).bind fun u => (numd u.2 1099511627776).bind fun v => (numd v.2 2147483648).bind fun z => (keyd z.2).bind fun s => (keyd s.2).bind fun t => filesd c t.2 (acc ++ [⟨u.1, v.1, z.1, s.1, t.1⟩])).bind _
    simp only [Option.bind_assoc]
/-! ### an edit -/
def W (x : Ed) : Prop := 0 ≤ x.l0 ∧ 0 ≤ x.l1 ∧ 0 ≤ x.l2 ∧ KW x.fs
def layx (x : Ed) : List Int := lay x.l0 x.l1 x.l2 x.ds x.fs
def eckx (x : Ed) : Int := eck x.l0 x.l1 x.l2 x.ds x.fs
def find_ (b : List Int) (x : Ed) : Option Ed := if eckx x = 0 ∧ layx x = b then some x else none
theorem uv_lay_IsB : ∀ (D : List S40), IsB (dbs D)
  | [] => IsB.nil
  | _ :: l => (uv_IsB _).append ((uv_IsB _).append (uv_lay_IsB l))
theorem fbs_IsB : ∀ (L : List S44), IsB (fbs L)
  | [] => IsB.nil
  | _ :: l => IsB.append ((uv_IsB _).append ((uv_IsB _).append ((uv_IsB _).append ((tx_IsB (kb_IsB _)).append (tx_IsB (kb_IsB _)))))) (fbs_IsB l)
theorem lay_IsB (a b c : Int) (D : List S40) (L : List S44) : IsB (lay a b c D L) := (uv_IsB _).append ((uv_IsB _).append ((uv_IsB _).append ((uv_IsB _).append ((uv_lay_IsB D).append ((uv_IsB _).append (fbs_IsB L))))))
theorem fin_ev (b : List Int) (hb : IsB b) (x : Ed) (hw : W x) : Ev (fun k => fin_g k b x) (find_ b x) := by
  unfold fin_g
  refine Ev.bind (Enc_ev x.l0 x.l1 x.l2 x.ds x.fs hw.1 hw.2.1 hw.2.2.1 hw.2.2.2) ?_
  unfold find_
  by_cases h : eckx x = 0
  case neg =>
    have h2 : (eblt x.l0 x.l1 x.l2 x.ds x.fs).2 ≠ 0 := by rw [eblt_err]; exact h
    refine Ev.ifF h2 ?_
    rw [if_neg (fun hh => h hh.1)]
    exact Ev.now _
  have h2 : (eblt x.l0 x.l1 x.l2 x.ds x.fs).2 = 0 := by rw [eblt_err]; exact h
  have h1 : (eblt x.l0 x.l1 x.l2 x.ds x.fs).1 = layx x := by unfold eblt; rw [if_pos (show eck x.l0 x.l1 x.l2 x.ds x.fs = 0 from h)]; rfl
  refine Ev.ifT h2 ?_
  rw [h1]
  unfold bytes_Equal.f
  refine Ev.some_ ?_
  by_cases he : layx x = b
  · rw [he, beq_self_eq_true]
    refine Ev.ifT rfl ?_
    rw [if_pos ⟨h, rfl⟩]
    exact Ev.now _
  · have hne : ((strOfNums (layx x)).toList == (strOfNums b).toList) = false := by
      rw [beq_eq_false_iff_ne]
      intro hh
      exact he (str_inj (lay_IsB _ _ _ _ _) hb (ba_ext (by rw [← ByteArray.toList_eq, ← ByteArray.toList_eq]; exact hh)))
    rw [hne]
    refine Ev.ifF (by decide) ?_
    rw [if_neg (fun hh => he hh.2)]
    exact Ev.now _
def decd (b : List Int) : Option Ed := (numd b 1099511627776).bind fun u0 => (numd u0.2 1099511627776).bind fun u1 => (numd u1.2 72057594037927935).bind fun u2 => (numd u2.2 20000).bind fun uc => (gonesd uc.1.toNat uc.2 []).bind fun r => (numd r.1 100).bind fun ud => (filesd ud.1.toNat ud.2 []).bind fun q => find_ b ⟨u0.1, u1.1, u2.1, r.2, q.2⟩
theorem dec_ev (b : List Int) (hb : IsB b) (hl : b.length ≤ 140737488351232) : Ev (fun k => dec_g k b) (decd b) := by
  unfold dec_g decd
  refine nm_ev b hb 1099511627776 _ (fun l0 D => (numd D 1099511627776).bind fun u1 => (numd u1.2 72057594037927935).bind fun u2 => (numd u2.2 20000).bind fun uc => (gonesd uc.1.toNat uc.2 []).bind fun r => (numd r.1 100).bind fun ud => (filesd ud.1.toNat ud.2 []).bind fun q => find_ b ⟨l0, u1.1, u2.1, r.2, q.2⟩) (fun l0 D h0 s0 => ?_)
  refine nm_ev D (s0.IsB hb) 1099511627776 _ (fun l1 D => (numd D 72057594037927935).bind fun u2 => (numd u2.2 20000).bind fun uc => (gonesd uc.1.toNat uc.2 []).bind fun r => (numd r.1 100).bind fun ud => (filesd ud.1.toNat ud.2 []).bind fun q => find_ b ⟨l0, l1, u2.1, r.2, q.2⟩) (fun l1 D1 h1 s1 => ?_)
  have t1 := s0.trans s1
  refine nm_ev D1 (t1.IsB hb) 72057594037927935 _ (fun l2 D => (numd D 20000).bind fun uc => (gonesd uc.1.toNat uc.2 []).bind fun r => (numd r.1 100).bind fun ud => (filesd ud.1.toNat ud.2 []).bind fun q => find_ b ⟨l0, l1, l2, r.2, q.2⟩) (fun l2 D2 h2 s2 => ?_)
  have t2 := t1.trans s2
  refine nm_ev D2 (t2.IsB hb) 20000 _ (fun c D => (gonesd c.toNat D []).bind fun r => (numd r.1 100).bind fun ud => (filesd ud.1.toNat ud.2 []).bind fun q => find_ b ⟨l0, l1, l2, r.2, q.2⟩) (fun c D3 h3 s3 => ?_)
  have t3 := t2.trans s3
  refine gones_ev (fun k D ds => nm k D 100 fun c2 D => files_g k c2.toNat D [] fun _ fs => fin_g k b ⟨l0, l1, l2, ds, fs⟩) (fun D ds => (numd D 100).bind fun ud => (filesd ud.1.toNat ud.2 []).bind fun q => find_ b ⟨l0, l1, l2, ds, q.2⟩) c.toNat D3 [] (t3.IsB hb) (fun D4 ds s4 => ?_)
  have t4 := t3.trans s4
  refine nm_ev D4 (t4.IsB hb) 100 _ (fun c D => (filesd c.toNat D []).bind fun q => find_ b ⟨l0, l1, l2, ds, q.2⟩) (fun c2 D5 h5 s5 => ?_)
  have t5 := t4.trans s5
  have l5 := t5.len
  refine files_ev (fun k _ fs => fin_g k b ⟨l0, l1, l2, ds, fs⟩) (fun _ fs => find_ b ⟨l0, l1, l2, ds, fs⟩) c2.toNat D5 [] (t5.IsB hb) (by omega) (fun _ h => by cases h) (fun E fs hw s => ?_)
  exact fin_ev b hb ⟨l0, l1, l2, ds, fs⟩ ⟨h0.1, h1.1, h2.1, hw⟩
/-! ### what is read was laid -/
theorem filesd_KW : ∀ (c : Nat) (D : List Int) (acc : List S44) (r : List Int × List S44), KW acc → filesd c D acc = some r → KW r.2
  | 0, D, acc, r, hw, h => by injection h with h; subst h; exact hw
  | c + 1, D, acc, r, hw, h => by
    obtain ⟨u, _, h⟩ := Option.bind_eq_some_iff.mp h
    obtain ⟨v, _, h⟩ := Option.bind_eq_some_iff.mp h
    obtain ⟨z, _, h⟩ := Option.bind_eq_some_iff.mp h
    obtain ⟨s, hs, h⟩ := Option.bind_eq_some_iff.mp h
    obtain ⟨g, hg, h⟩ := Option.bind_eq_some_iff.mp h
    exact filesd_KW c g.2 _ r (fun x hx => by rcases List.mem_append.1 hx with h1 | h1; exact hw x h1; simp only [List.mem_singleton] at h1; subst h1; exact ⟨(keyd_out hs).1, (keyd_out hg).1⟩) h
theorem decd_some {b : List Int} {x : Ed} (h : decd b = some x) : W x ∧ eckx x = 0 ∧ layx x = b := by
  obtain ⟨u0, h0, h⟩ := Option.bind_eq_some_iff.mp h
  obtain ⟨u1, h1, h⟩ := Option.bind_eq_some_iff.mp h
  obtain ⟨u2, h2, h⟩ := Option.bind_eq_some_iff.mp h
  obtain ⟨uc, h3, h⟩ := Option.bind_eq_some_iff.mp h
  obtain ⟨r, h4, h⟩ := Option.bind_eq_some_iff.mp h
  obtain ⟨ud, h5, h⟩ := Option.bind_eq_some_iff.mp h
  obtain ⟨q, h6, h⟩ := Option.bind_eq_some_iff.mp h
  unfold find_ at h
  split at h
  case isFalse => cases h
  rename_i hc
  injection h with h
  subst h
  exact ⟨⟨(numd_out h0).1.1, (numd_out h1).1.1, (numd_out h2).1.1, filesd_KW _ _ [] q (fun _ h => by cases h) h6⟩, hc⟩
/-! ### what is laid is read -/
theorem gonesd_lay : ∀ (l acc : List S40) (D : List Int), dl l = 0 → gonesd l.length (dbs l ++ D) acc = some (D, acc ++ l)
  | [], acc, D, _ => by simp [gonesd, dbs]
  | d :: l, acc, D, hd => by
    have hp := pl_zero (dl_all hd d (List.mem_cons_self ..))
    have ht : dl l = 0 := dl_of (fun x hx => dl_all hd x (List.mem_cons_of_mem _ hx))
    have e1 := numd_uv d.f0.toNat 4 (uv d.f1.toNat ++ (dbs l ++ D)) (by omega) (by decide)
    have e2 := numd_uv d.f1.toNat 1099511627776 (dbs l ++ D) (by omega) (by decide)
    have hE : dbs (d :: l) ++ D = uv d.f0.toNat ++ (uv d.f1.toNat ++ (dbs l ++ D)) := by simp [dbs]
    rw [hE, List.length_cons]
    unfold gonesd
    rw [e1]
    dsimp only [Option.bind]
    rw [e2]
    dsimp only [Option.bind]
    rw [Int.toNat_of_nonneg hp.1.1, Int.toNat_of_nonneg (by omega)]
    have ih := gonesd_lay l (acc ++ [⟨d.f0, d.f1⟩]) D ht
    rw [ih]
    simp
theorem filesd_lay : ∀ (l acc : List S44) (D : List Int), fls l = 0 → KW l → filesd l.length (fbs l ++ D) acc = some (D, acc ++ l)
  | [], acc, D, _, _ => by simp [filesd, fbs]
  | f :: l, acc, D, hf, hw => by
    have ht := fls_tail hf
    have hp := fl_parts ht.1
    have e1 := numd_uv f.f0.toNat 4 (uv f.f1.toNat ++ (uv f.f2.toNat ++ (tx (kb f.f3) ++ (tx (kb f.f4) ++ (fbs l ++ D))))) (by omega) (by decide)
    have e2 := numd_uv f.f1.toNat 1099511627776 (uv f.f2.toNat ++ (tx (kb f.f3) ++ (tx (kb f.f4) ++ (fbs l ++ D)))) (by omega) (by decide)
    have e3 := numd_uv f.f2.toNat 2147483648 (tx (kb f.f3) ++ (tx (kb f.f4) ++ (fbs l ++ D))) (by omega) (by decide)
    have e4 := keyd_tx f.f3 (tx (kb f.f4) ++ (fbs l ++ D)) hp.2.2.2.1 hw.head.1
    have e5 := keyd_tx f.f4 (fbs l ++ D) hp.2.2.2.2 hw.head.2
    have hE : fbs (f :: l) ++ D = uv f.f0.toNat ++ (uv f.f1.toNat ++ (uv f.f2.toNat ++ (tx (kb f.f3) ++ (tx (kb f.f4) ++ (fbs l ++ D))))) := by simp [fbs, fb]
    rw [hE, List.length_cons]
    unfold filesd
    rw [e1]
    dsimp only [Option.bind]
    rw [e2]
    dsimp only [Option.bind]
    rw [e3]
    dsimp only [Option.bind]
    rw [e4]
    dsimp only [Option.bind]
    rw [e5]
    dsimp only [Option.bind]
    rw [Int.toNat_of_nonneg hp.1.1, Int.toNat_of_nonneg (by omega), Int.toNat_of_nonneg (by omega)]
    have ih := filesd_lay l (acc ++ [⟨f.f0, f.f1, f.f2, f.f3, f.f4⟩]) D ht.2 hw.tail
    rw [ih]
    simp
theorem decd_lay {x : Ed} (hw : W x) (h : eckx x = 0) : decd (layx x) = some x := by
  have hz := eck_zero h
  have e0 := numd_uv x.l0.toNat 1099511627776 (uv x.l1.toNat ++ (uv x.l2.toNat ++ (uv x.ds.length ++ (dbs x.ds ++ (uv x.fs.length ++ fbs x.fs))))) (by have := hw.1; omega) (by decide)
  have e1 := numd_uv x.l1.toNat 1099511627776 (uv x.l2.toNat ++ (uv x.ds.length ++ (dbs x.ds ++ (uv x.fs.length ++ fbs x.fs)))) (by have := hw.2.1; omega) (by decide)
  have e2 := numd_uv x.l2.toNat 72057594037927935 (uv x.ds.length ++ (dbs x.ds ++ (uv x.fs.length ++ fbs x.fs))) (by have := hw.2.2.1; omega) (by decide)
  have e3 := numd_uv x.ds.length 20000 (dbs x.ds ++ (uv x.fs.length ++ fbs x.fs)) hz.1 (by decide)
  have e4 := gonesd_lay x.ds [] (uv x.fs.length ++ fbs x.fs) hz.2.2.2.2.2.1
  have e5 := numd_uv x.fs.length 100 (fbs x.fs) hz.2.1 (by decide)
  have e6 := filesd_lay x.fs [] [] hz.2.2.2.2.2.2 hw.2.2.2
  rw [List.append_nil] at e6
  unfold decd
  rw [show layx x = uv x.l0.toNat ++ (uv x.l1.toNat ++ (uv x.l2.toNat ++ (uv x.ds.length ++ (dbs x.ds ++ (uv x.fs.length ++ fbs x.fs))))) from rfl, e0]
  dsimp only [Option.bind]
  rw [e1]
  dsimp only [Option.bind]
  rw [e2]
  dsimp only [Option.bind]
  rw [e3]
  dsimp only [Option.bind]
  rw [Int.toNat_natCast, e4]
  dsimp only [Option.bind]
  rw [e5]
  dsimp only [Option.bind]
  rw [Int.toNat_natCast, e6]
  dsimp only [Option.bind]
  rw [Int.toNat_of_nonneg hw.1, Int.toNat_of_nonneg hw.2.1, Int.toNat_of_nonneg hw.2.2.1, List.nil_append, List.nil_append]
  unfold find_
  rw [if_pos ⟨h, rfl⟩]
end Go.Proofs.Ythkkbgehmiobaaa.Q
namespace Go.Proofs.Ythkkbgehmiobaaa.Q
open Go.RowKit Go.Proofs.YthkkbgehmiobaaaW.PrintWords Go.Proofs.YthkkbgehmiobaaaW.PrintLast Go.Proofs.YthkkbgehmiobaaaW.PrintMore Go.Proofs.Ythkkbgehmiobaaa.P Go.Proofs.Ythkkbgehmiobaaa.M Go.Proofs.Ythkkbgehmiobaaa.E
def numr (D : List Int) (bad : Bool) : Int × List Int × Bool := if (uvd D 0 0).2.2 ≠ 0 ∨ bad = true then (0, D, true) else (((uvd D 0 0).1 : Int), D.drop (uvd D 0 0).2.1, false)
def levr (D : List Int) (bad : Bool) : Int × List Int × Bool := if 4 < (numr D bad).1 then (0, (numr D bad).2.1, true) else numr D bad
def keyr (D : List Int) (bad : Bool) : S42 × List Int × Bool := if (txd D).2.2 ≠ 0 ∨ bad = true then (⟨(⟨#[]⟩ : ByteArray), 0, 0⟩, D, true) else (⟨(dec (txd D).1).1, (dec (txd D).1).2.1, (dec (txd D).1).2.2.1⟩, D.drop (txd D).2.1, decide ((dec (txd D).1).2.2.2 ≠ 0))
theorem numr_out (D : List Int) (bad : Bool) : 0 ≤ (numr D bad).1 ∧ Sfx D (numr D bad).2.1 := by
  unfold numr
  split
  · exact ⟨Int.le_refl _, Sfx.refl D⟩
  · exact ⟨Int.natCast_nonneg _, ⟨_, rfl⟩⟩
theorem levr_out (D : List Int) (bad : Bool) : Sfx D (levr D bad).2.1 := by
  unfold levr
  split
  · exact (numr_out D bad).2
  · exact (numr_out D bad).2
theorem keyr_out (D : List Int) (bad : Bool) : 0 ≤ (keyr D bad).1.f1 ∧ Sfx D (keyr D bad).2.1 := by
  unfold keyr
  split
  · exact ⟨Int.le_refl _, Sfx.refl D⟩
  · refine ⟨?_, ⟨_, rfl⟩⟩
    dsimp only
    unfold dec
    split
    · exact Int.le_refl 0
    · exact Int.natCast_nonneg _
theorem rnum_ev (D : List Int) (hb : IsB D) (bad : Bool) : Ev (fun k => rnum_g k D bad) (numr D bad) := by
  have hu := refUvarint_ev D hb
  have hok := uvd_ok D 0 0 (uvd D 0 0).1 (uvd D 0 0).2.1 hb (by omega) (by decide)
  unfold rnum_g numr
  generalize huv : uvd D 0 0 = u at *
  obtain ⟨n, m, e⟩ := u
  dsimp only at *
  refine Ev.bind hu ?_
  dsimp only
  by_cases h0 : e = 0
  · subst h0
    have hm := hok rfl
    cases bad with
    | true => refine Ev.ifT (.inr rfl) ?_; rw [if_pos (Or.inr rfl)]; exact Ev.now _
    | false =>
      refine Ev.ifF (by simp) (Ev.ifT ⟨by omega, by omega⟩ ?_)
      rw [if_neg (by simp), Int.toNat_natCast]
      exact Ev.now _
  · refine Ev.ifT (.inl (by omega)) ?_
    rw [if_pos (.inl h0)]
    exact Ev.now _
theorem rlev_ev (D : List Int) (hb : IsB D) (bad : Bool) : Ev (fun k => rlev_g k D bad) (levr D bad) := by
  unfold rlev_g levr
  refine Ev.bind (rnum_ev D hb bad) ?_
  by_cases h : 4 < (numr D bad).1
  · refine Ev.ifT h ?_; rw [if_pos h]; exact Ev.now _
  · refine Ev.ifF h (Ev.ifT (numr_out D bad).1 ?_); rw [if_neg h]; exact Ev.now _
theorem rkey_ev (D : List Int) (hb : IsB D) (hl : D.length ≤ 140737488351232) (bad : Bool) : Ev (fun k => rkey_g k D bad) (keyr D bad) := by
  have hf := txd_facts D hb
  unfold rkey_g keyr
  refine Ev.bind (refText_ev D hb (by omega)) ?_
  dsimp only
  by_cases hc : (txd D).2.2 ≠ 0 ∨ bad = true
  · refine Ev.ifT (hc.imp (fun h => by omega) id) ?_
    rw [if_pos hc]
    exact Ev.now _
  have h0 : (txd D).2.2 = 0 := Decidable.byContradiction fun h => hc (.inl h)
  refine Ev.ifF (fun h => hc (h.imp (fun h => by omega) id)) (Ev.ifT ⟨by rw [str_size]; omega, by omega, by omega⟩ ?_)
  rw [if_neg hc]
  have hd := refDecode_ev (txd D).1 hf.1 (by omega)
  have e : bytesOf (strOfNums (txd D).1) = (txd D).1 := bytesOf_str _ hf.1
  refine Ev.congr (f := fun k => (staddleref02_Decode.f k (txd D).1).bind fun y => some (⟨y.1, y.2.1, y.2.2.1⟩, D.drop (txd D).2.1, decide (y.2.2.2 ≠ 0))) (fun k => ?_) (Ev.bind hd (Ev.now _))
  rw [e, Int.toNat_natCast]
theorem numr_uv (n : Nat) (D : List Int) (hn : n < 18446744073709551616) : numr (uv n ++ D) false = ((n : Int), D, false) := by
  have h := uvd_uv D n 0 0 (by omega) (by simp; omega)
  simp only [Nat.mul_zero, Nat.pow_zero, Nat.mul_one, Nat.zero_add] at h
  unfold numr
  rw [h]
  dsimp only
  rw [if_neg (by simp), List.drop_left]
theorem levr_uv (n : Nat) (D : List Int) (hn : n ≤ 4) : levr (uv n ++ D) false = ((n : Int), D, false) := by
  unfold levr
  rw [numr_uv n D (by omega)]
  dsimp only
  rw [if_neg (by omega)]
theorem keyr_tx (x : S42) (D : List Int) (h : kchk x = 0) (h0 : 0 ≤ x.f1) : keyr (tx (kb x) ++ D) false = (x, D, false) := by
  have hk := kb_len h
  have ht := txd_tx (kb x) D (by omega)
  have hd := dec_enc x.f0 x.f1 x.f2 h0 h
  unfold keyr
  rw [ht]
  dsimp only
  rw [show dec (kb x) = (x.f0, x.f1, x.f2, 0) from hd]
  dsimp only
  rw [if_neg (by simp), List.drop_left]
  rfl
/-! ### the lists -/
def rdelsd (n : Int) : Nat → Nat → List Int → Bool → List S40 → List Int × Bool × List S40
  | 0, _, D, bad, acc => (D, bad, acc)
  | g + 1, i, D, bad, acc => if (i : Int) < n ∧ bad = false ∧ i ≤ 20000 then rdelsd n g (i + 1) (numr (levr D bad).2.1 (levr D bad).2.2).2.1 (numr (levr D bad).2.1 (levr D bad).2.2).2.2 (acc ++ [⟨(levr D bad).1, (numr (levr D bad).2.1 (levr D bad).2.2).1⟩]) else (D, bad, acc)
theorem rdels_ev {α : Type} (n : Int) (f : Nat → List Int → Bool → List S40 → Option α) (h : List Int → Bool → List S40 → α) : ∀ (g i : Nat) (D : List Int) (bad : Bool) (acc : List S40), g + i = 20003 → i ≤ 20001 → IsB D → (∀ E b acc', Sfx D E → Ev (fun k => f k E b acc') (h E b acc')) →
    Ev (fun k => rdels_g k n g i D bad acc (f k)) (h (rdelsd n g i D bad acc).1 (rdelsd n g i D bad acc).2.1 (rdelsd n g i D bad acc).2.2)
  | 0, i, D, bad, acc, hg, hi, hb, hf => by omega
  | g + 1, i, D, bad, acc, hg, hi, hb, hf => by
    unfold rdels_g rdelsd
    by_cases hc : (i : Int) < n ∧ bad = false ∧ i ≤ 20000
    case neg =>
      refine Ev.ifF hc ?_
      rw [if_neg hc]
      exact hf D bad acc (Sfx.refl D)
    refine Ev.ifT hc ?_
    rw [if_pos hc]
    have s1 := levr_out D bad
    have s2 := s1.trans (numr_out (levr D bad).2.1 (levr D bad).2.2).2
    exact Ev.bind (rlev_ev D hb bad) (Ev.bind (rnum_ev _ (s1.IsB hb) _) (rdels_ev n f h g (i + 1) _ _ _ (by omega) (by omega) (s2.IsB hb) (fun E b acc' s => hf E b acc' (s2.trans s))))
def rfiled (D : List Int) (bad : Bool) : S44 × List Int × Bool :=
  let l := levr D bad
  let v := numr l.2.1 l.2.2
  let z := numr v.2.1 v.2.2
  let s := keyr z.2.1 (badz z.1 z.2.2)
  let t := keyr s.2.1 s.2.2
  (⟨l.1, v.1, wrap64 z.1, s.1, t.1⟩, t.2)
def rfilesd (n : Int) : Nat → Nat → List Int → Bool → List S44 → List Int × Bool × List S44
  | 0, _, D, bad, acc => (D, bad, acc)
  | g + 1, i, D, bad, acc => if (i : Int) < n ∧ bad = false ∧ i ≤ 100 then rfilesd n g (i + 1) (rfiled D bad).2.1 (rfiled D bad).2.2 (acc ++ [(rfiled D bad).1]) else (D, bad, acc)
theorem rfiles_ev {α : Type} (n : Int) (f : Nat → List Int → Bool → List S44 → Option α) (h : List Int → Bool → List S44 → α) : ∀ (g i : Nat) (D : List Int) (bad : Bool) (acc : List S44), g + i = 103 → i ≤ 101 → IsB D → D.length ≤ 140737488351232 → KW acc → (∀ E b acc', KW acc' → Ev (fun k => f k E b acc') (h E b acc')) →
    Ev (fun k => rfiles_g k n g i D bad acc (f k)) (h (rfilesd n g i D bad acc).1 (rfilesd n g i D bad acc).2.1 (rfilesd n g i D bad acc).2.2)
  | 0, i, D, bad, acc, hg, hi, hb, hl, hw, hf => by omega
  | g + 1, i, D, bad, acc, hg, hi, hb, hl, hw, hf => by
    unfold rfiles_g rfilesd
    by_cases hc : (i : Int) < n ∧ bad = false ∧ i ≤ 100
    case neg =>
      refine Ev.ifF hc ?_
      rw [if_neg hc]
      exact hf D bad acc hw
    refine Ev.ifT hc ?_
    rw [if_pos hc]
    have s1 := levr_out D bad
    have s2 := s1.trans (numr_out (levr D bad).2.1 (levr D bad).2.2).2
    generalize hl1 : levr D bad = l at *
    generalize hv1 : numr l.2.1 l.2.2 = v at *
    have s3 := s2.trans (numr_out v.2.1 v.2.2).2
    generalize hz1 : numr v.2.1 v.2.2 = z at *
    have k4 := keyr_out z.2.1 (badz z.1 z.2.2)
    have s4 := s3.trans k4.2
    generalize hs1 : keyr z.2.1 (badz z.1 z.2.2) = s at *
    have k5 := keyr_out s.2.1 s.2.2
    have s5 := s4.trans k5.2
    generalize ht1 : keyr s.2.1 s.2.2 = t at *
    have hr : rfiled D bad = (⟨l.1, v.1, wrap64 z.1, s.1, t.1⟩, t.2) := by
      unfold rfiled
      simp only [hl1, hv1, hz1, hs1, ht1]
    rw [hr]
    have e1 := hl1 ▸ rlev_ev D hb bad
    have e2 := hv1 ▸ rnum_ev l.2.1 (s1.IsB hb) l.2.2
    have e3 := hz1 ▸ rnum_ev v.2.1 (s2.IsB hb) v.2.2
    have e4 := hs1 ▸ rkey_ev z.2.1 (s3.IsB hb) (by have := s3.len; omega) (badz z.1 z.2.2)
    have e5 := ht1 ▸ rkey_ev s.2.1 (s4.IsB hb) (by have := s4.len; omega) s.2.2
    refine Ev.bind e1 (Ev.bind e2 (Ev.bind e3 (Ev.bind e4 (Ev.bind e5 ?_))))
    refine rfiles_ev n f h g (i + 1) t.2.1 t.2.2 _ (by omega) (by omega) (s5.IsB hb) (by have := s5.len; omega) (fun x hx => ?_) hf
    rcases List.mem_append.1 hx with h1 | h1
    · exact hw x h1
    · simp only [List.mem_singleton] at h1
      subst h1
      exact ⟨k4.1, k5.1⟩
theorem rfiled_k (D : List Int) (bad : Bool) : 0 ≤ (rfiled D bad).1.f3.f1 ∧ 0 ≤ (rfiled D bad).1.f4.f1 := by
  unfold rfiled
  dsimp only
  exact ⟨(keyr_out _ _).1, (keyr_out _ _).1⟩
theorem rfilesd_KW (n : Int) : ∀ (g i : Nat) (D : List Int) (bad : Bool) (acc : List S44), KW acc → KW (rfilesd n g i D bad acc).2.2
  | 0, _, _, _, _, hw => hw
  | g + 1, i, D, bad, acc, hw => by
    unfold rfilesd
    split
    · refine rfilesd_KW n g (i + 1) _ _ _ (fun x hx => ?_)
      rcases List.mem_append.1 hx with h1 | h1
      · exact hw x h1
      · simp only [List.mem_singleton] at h1
        subst h1
        exact rfiled_k D bad
    · exact hw
/-! ### an edit -/
theorem rfin_ev (b : List Int) (hb : IsB b) (x : Ed) (hw : Q.W x) (bad : Bool) : Ev (fun k => rfin_g k b x bad) (if bad = true then none else find_ b x) := by
  unfold rfin_g
  by_cases hbad : bad = true
  · refine Ev.ifT hbad ?_; rw [if_pos hbad]; exact Ev.now _
  refine Ev.ifF hbad ?_
  rw [if_neg hbad]
  refine Ev.bind (refEnc_ev x.l0 x.l1 x.l2 x.ds x.fs hw.1 hw.2.1 hw.2.2.1 hw.2.2.2) ?_
  unfold find_
  by_cases h : eckx x = 0
  case neg =>
    have h2 : (eblt x.l0 x.l1 x.l2 x.ds x.fs).2 ≠ 0 := by rw [eblt_err]; exact h
    refine Ev.ifF h2 ?_
    rw [if_neg (fun hh => h hh.1)]
    exact Ev.now _
  have h2 : (eblt x.l0 x.l1 x.l2 x.ds x.fs).2 = 0 := by rw [eblt_err]; exact h
  have h1 : (eblt x.l0 x.l1 x.l2 x.ds x.fs).1 = layx x := by unfold eblt; rw [if_pos (show eck x.l0 x.l1 x.l2 x.ds x.fs = 0 from h)]; rfl
  refine Ev.ifT h2 ?_
  rw [h1]
  by_cases he : layx x = b
  · rw [he]
    refine Ev.ifT rfl ?_
    rw [if_pos ⟨h, rfl⟩]
    exact Ev.now _
  · have hne : ¬ (strOfNums (layx x)).toList = (strOfNums b).toList := fun hh => he (str_inj (lay_IsB _ _ _ _ _) hb (ba_ext (by rw [← ByteArray.toList_eq, ← ByteArray.toList_eq]; exact hh)))
    refine Ev.ifF hne ?_
    rw [if_neg (fun hh => he hh.2)]
    exact Ev.now _
def rdecd (G1 G2 : Nat) (b : List Int) : Option Ed :=
  let a0 := numr b false
  let a1 := numr a0.2.1 a0.2.2
  let a2 := numr a1.2.1 a1.2.2
  let n := numr a2.2.1 a2.2.2
  let r := rdelsd n.1 G1 0 n.2.1 n.2.2 []
  let m := numr r.1 r.2.1
  let q := rfilesd m.1 G2 0 m.2.1 m.2.2 []
  if q.2.1 = true then none else find_ b ⟨a0.1, a1.1, a2.1, r.2.2, q.2.2⟩
def rdecg (G1 G2 k : Nat) (b : List Int) : Option (Option Ed) := (rnum_g k b false).bind fun a0 => (rnum_g k a0.2.1 a0.2.2).bind fun a1 => (rnum_g k a1.2.1 a1.2.2).bind fun a2 => (rnum_g k a2.2.1 a2.2.2).bind fun n => rdels_g k n.1 G1 0 n.2.1 n.2.2 [] fun D bad ds => (rnum_g k D bad).bind fun m => rfiles_g k m.1 G2 0 m.2.1 m.2.2 [] fun _ bad fs => rfin_g k b ⟨a0.1, a1.1, a2.1, ds, fs⟩ bad
theorem rdec_g_eq (k : Nat) (b : List Int) : rdec_g k b = rdecg 20003 103 k b := by
  unfold rdec_g rdecg
  with_reducible rfl
theorem rdec_ev (G1 G2 : Nat) (hG1 : G1 = 20003) (hG2 : G2 = 103) (b : List Int) (hb : IsB b) (hl : b.length ≤ 140737488351232) : Ev (fun k => rdecg G1 G2 k b) (rdecd G1 G2 b) := by
  unfold rdecg rdecd
  dsimp only
  have s0 := (numr_out b false)
  have e0 := rnum_ev b hb false
  generalize numr b false = a0 at *
  have e1 := rnum_ev a0.2.1 (s0.2.IsB hb) a0.2.2
  have s1 := numr_out a0.2.1 a0.2.2
  have t1 := s0.2.trans s1.2
  generalize numr a0.2.1 a0.2.2 = a1 at *
  have e2 := rnum_ev a1.2.1 (t1.IsB hb) a1.2.2
  have s2 := numr_out a1.2.1 a1.2.2
  have t2 := t1.trans s2.2
  generalize numr a1.2.1 a1.2.2 = a2 at *
  have e3 := rnum_ev a2.2.1 (t2.IsB hb) a2.2.2
  have s3 := numr_out a2.2.1 a2.2.2
  have t3 := t2.trans s3.2
  generalize numr a2.2.1 a2.2.2 = n at *
  refine Ev.bind e0 (Ev.bind e1 (Ev.bind e2 (Ev.bind e3 ?_)))
  refine rdels_ev n.1 (fun k D bad ds => (rnum_g k D bad).bind fun m => rfiles_g k m.1 G2 0 m.2.1 m.2.2 [] fun _ bad fs => rfin_g k b ⟨a0.1, a1.1, a2.1, ds, fs⟩ bad)
    (fun D bad ds => if (rfilesd (numr D bad).1 G2 0 (numr D bad).2.1 (numr D bad).2.2 []).2.1 = true then none else find_ b ⟨a0.1, a1.1, a2.1, ds, (rfilesd (numr D bad).1 G2 0 (numr D bad).2.1 (numr D bad).2.2 []).2.2⟩) G1 0 n.2.1 n.2.2 [] (by omega) (by omega) (t3.IsB hb) (fun E bad ds s4 => ?_)
  have t4 := t3.trans s4
  have s5 := numr_out E bad
  have t5 := t4.trans s5.2
  refine Ev.bind (rnum_ev E (t4.IsB hb) bad) ?_
  refine rfiles_ev (numr E bad).1 (fun k _ bad fs => rfin_g k b ⟨a0.1, a1.1, a2.1, ds, fs⟩ bad) (fun _ bad fs => if bad = true then none else find_ b ⟨a0.1, a1.1, a2.1, ds, fs⟩) G2 0 _ _ [] (by omega) (by omega) (t5.IsB hb) (by have := t5.len; omega) (fun _ h => by cases h) (fun F bd fs hw => ?_)
  exact rfin_ev b hb ⟨a0.1, a1.1, a2.1, ds, fs⟩ ⟨s0.1, s1.1, s2.1, hw⟩ bd
theorem rdecd_some {G1 G2 : Nat} {b : List Int} {x : Ed} (h : rdecd G1 G2 b = some x) : Q.W x ∧ eckx x = 0 ∧ layx x = b := by
  unfold rdecd at h
  dsimp only at h
  split at h
  · cases h
  unfold find_ at h
  split at h
  case isFalse => cases h
  rename_i hc
  injection h with h
  subst h
  exact ⟨⟨(numr_out _ _).1, (numr_out _ _).1, (numr_out _ _).1, rfilesd_KW _ _ _ _ _ _ (fun _ h => by cases h)⟩, hc⟩
theorem rdelsd_lay (n : Int) (D : List Int) : ∀ (l : List S40) (g i : Nat) (acc : List S40), dl l = 0 → n = ((i + l.length : Nat) : Int) → g + i = 20003 → i + l.length ≤ 20000 → rdelsd n g i (dbs l ++ D) false acc = (D, false, acc ++ l)
  | [], g, i, acc, _, hn, hg, hi => by
    cases g with
    | zero => simp at hi; omega
    | succ g =>
      unfold rdelsd
      rw [if_neg (by rw [hn]; simp)]
      simp [dbs]
  | d :: l, g, i, acc, hd, hn, hg, hi => by
    rw [List.length_cons] at hn hi
    cases g with
    | zero => omega
    | succ g =>
      have hp := pl_zero (dl_all hd d (List.mem_cons_self ..))
      have ht : dl l = 0 := dl_of (fun x hx => dl_all hd x (List.mem_cons_of_mem _ hx))
      have e1 := levr_uv d.f0.toNat (uv d.f1.toNat ++ (dbs l ++ D)) (by omega)
      have e2 := numr_uv d.f1.toNat (dbs l ++ D) (by omega)
      have hE : dbs (d :: l) ++ D = uv d.f0.toNat ++ (uv d.f1.toNat ++ (dbs l ++ D)) := by simp [dbs]
      rw [hE]
      unfold rdelsd
      rw [if_pos ⟨by rw [hn]; omega, rfl, by omega⟩, e1]
      dsimp only
      rw [e2]
      dsimp only
      rw [Int.toNat_of_nonneg hp.1.1, Int.toNat_of_nonneg (by omega)]
      rw [rdelsd_lay n D l g (i + 1) (acc ++ [(⟨d.f0, d.f1⟩ : S40)]) ht (by rw [hn]; congr 1; omega) (by omega) (by omega)]
      simp
theorem rfiled_lay (f : S44) (D : List Int) (hf : fl f = 0) (h0 : 0 ≤ f.f3.f1 ∧ 0 ≤ f.f4.f1) : rfiled (fb f ++ D) false = (f, D, false) := by
  have hp := fl_parts hf
  have e1 := levr_uv f.f0.toNat (uv f.f1.toNat ++ (uv f.f2.toNat ++ (tx (kb f.f3) ++ (tx (kb f.f4) ++ D)))) (by omega)
  have e2 := numr_uv f.f1.toNat (uv f.f2.toNat ++ (tx (kb f.f3) ++ (tx (kb f.f4) ++ D))) (by omega)
  have e3 := numr_uv f.f2.toNat (tx (kb f.f3) ++ (tx (kb f.f4) ++ D)) (by omega)
  have e4 := keyr_tx f.f3 (tx (kb f.f4) ++ D) hp.2.2.2.1 h0.1
  have e5 := keyr_tx f.f4 D hp.2.2.2.2 h0.2
  have hE : fb f ++ D = uv f.f0.toNat ++ (uv f.f1.toNat ++ (uv f.f2.toNat ++ (tx (kb f.f3) ++ (tx (kb f.f4) ++ D)))) := by simp [fb]
  have hz : badz ((f.f2.toNat : Nat) : Int) false = false := by unfold badz; rw [if_neg (by omega)]
  have hwz : wrap64 ((f.f2.toNat : Nat) : Int) = f.f2 := by rw [w64 (by omega) (by omega)]; exact Int.toNat_of_nonneg (by omega)
  rw [hE]
  unfold rfiled
  dsimp only
  rw [e1]
  dsimp only
  rw [e2]
  dsimp only
  rw [e3]
  dsimp only
  rw [hz, e4]
  dsimp only
  rw [e5]
  dsimp only
  rw [hwz, Int.toNat_of_nonneg hp.1.1, Int.toNat_of_nonneg (by omega)]
theorem rfilesd_lay (n : Int) (D : List Int) : ∀ (l : List S44) (g i : Nat) (acc : List S44), fls l = 0 → KW l → n = ((i + l.length : Nat) : Int) → g + i = 103 → i + l.length ≤ 100 → rfilesd n g i (fbs l ++ D) false acc = (D, false, acc ++ l)
  | [], g, i, acc, _, _, hn, hg, hi => by
    cases g with
    | zero => simp at hi; omega
    | succ g =>
      unfold rfilesd
      rw [if_neg (by rw [hn]; simp)]
      simp [fbs]
  | f :: l, g, i, acc, hf, hw, hn, hg, hi => by
    rw [List.length_cons] at hn hi
    cases g with
    | zero => omega
    | succ g =>
      have ht := fls_tail hf
      have e1 := rfiled_lay f (fbs l ++ D) ht.1 hw.head
      have hE : fbs (f :: l) ++ D = fb f ++ (fbs l ++ D) := by simp [fbs]
      rw [hE]
      unfold rfilesd
      rw [if_pos ⟨by rw [hn]; omega, rfl, by omega⟩, e1]
      dsimp only
      rw [rfilesd_lay n D l g (i + 1) (acc ++ [f]) ht.2 hw.tail (by rw [hn]; congr 1; omega) (by omega) (by omega)]
      simp
theorem rdecd_lay (G1 G2 : Nat) (hG1 : G1 = 20003) (hG2 : G2 = 103) {x : Ed} (hw : Q.W x) (h : eckx x = 0) : rdecd G1 G2 (layx x) = some x := by
  have hz := eck_zero h
  have hw0 := hw.1
  have hw1 := hw.2.1
  have hw2 := hw.2.2.1
  have e0 := numr_uv x.l0.toNat (uv x.l1.toNat ++ (uv x.l2.toNat ++ (uv x.ds.length ++ (dbs x.ds ++ (uv x.fs.length ++ fbs x.fs))))) (by omega)
  have e1 := numr_uv x.l1.toNat (uv x.l2.toNat ++ (uv x.ds.length ++ (dbs x.ds ++ (uv x.fs.length ++ fbs x.fs)))) (by omega)
  have e2 := numr_uv x.l2.toNat (uv x.ds.length ++ (dbs x.ds ++ (uv x.fs.length ++ fbs x.fs))) (by omega)
  have e3 := numr_uv x.ds.length (dbs x.ds ++ (uv x.fs.length ++ fbs x.fs)) (by omega)
  have e4 := rdelsd_lay (x.ds.length : Int) (uv x.fs.length ++ fbs x.fs) x.ds G1 0 [] hz.2.2.2.2.2.1 (by simp) (by omega) (by omega)
  have e5 := numr_uv x.fs.length (fbs x.fs) (by omega)
  have e6 := rfilesd_lay (x.fs.length : Int) [] x.fs G2 0 [] hz.2.2.2.2.2.2 hw.2.2.2 (by simp) (by omega) (by omega)
  rw [List.append_nil] at e6
  unfold rdecd
  dsimp only
  rw [show layx x = uv x.l0.toNat ++ (uv x.l1.toNat ++ (uv x.l2.toNat ++ (uv x.ds.length ++ (dbs x.ds ++ (uv x.fs.length ++ fbs x.fs))))) from rfl, e0]
  dsimp only
  rw [e1]
  dsimp only
  rw [e2]
  dsimp only
  rw [e3]
  dsimp only
  rw [e4]
  dsimp only
  rw [e5]
  dsimp only
  rw [e6]
  dsimp only
  rw [if_neg (by decide), Int.toNat_of_nonneg hw0, Int.toNat_of_nonneg hw1, Int.toNat_of_nonneg hw2, List.nil_append, List.nil_append]
  unfold find_
  rw [if_pos ⟨h, rfl⟩]
theorem decd_eq (G1 G2 : Nat) (hG1 : G1 = 20003) (hG2 : G2 = 103) (b : List Int) : rdecd G1 G2 b = decd b := by
  cases h : decd b with
  | some x =>
    have hs := decd_some h
    rw [← hs.2.2]
    exact rdecd_lay G1 G2 hG1 hG2 hs.1 hs.2.1
  | none =>
    cases h2 : rdecd G1 G2 b with
    | none => rfl
    | some x =>
      have hs := rdecd_some h2
      have := decd_lay hs.1 hs.2.1
      rw [hs.2.2, h] at this
      cases this
theorem rdec_all (b : List Int) (hb : IsB b) (hl : b.length ≤ 140737488351232) : Ev (fun k => rdec_g k b) (decd b) := by
  have h := rdec_ev 20003 103 rfl rfl b hb hl
  rw [decd_eq 20003 103 rfl rfl] at h
  exact Ev.congr (f := fun k => rdecg 20003 103 k b) (fun k => rdec_g_eq k b) h
end Go.Proofs.Ythkkbgehmiobaaa.Q
