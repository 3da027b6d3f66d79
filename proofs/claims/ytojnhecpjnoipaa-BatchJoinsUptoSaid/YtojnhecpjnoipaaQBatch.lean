/- What batch's Check and Encode, and the document's, come to. -/
import Derived.Test.YtojnhecpjnoipaaP3
import Derived.Test.YtojnhecpjnoipaaP6
import Derived.Test.YtojnhecpjnoipaaP10
import Derived.Test.YtojnhecpjnoipaaP12
import Derived.Test.YtojnhecpjnoipaaP7
import Derived.Test.YtojnhecpjnoipaaQRef01
namespace Go.Proofs.Ytojnhecpjnoipaa.Q
open Go.RowKit Go.Proofs.YtojnhecpjnoipaaW.PrintWords Go.Proofs.YtojnhecpjnoipaaW.PrintLast Go.Proofs.YtojnhecpjnoipaaW.PrintMore Go.Proofs.Ytojnhecpjnoipaa.P Go.Proofs.Ytojnhecpjnoipaa.M

/-! ### Check -/
def okOp (x : S39) : Prop := (x.f0 = 0 ∨ x.f0 = 1) ∧ x.f1.size ≤ 64 ∧ x.f2.size ≤ 1000 ∧ (x.f0 = 0 → x.f2.size = 0)
def chkl : List S39 → Int
  | [] => 0
  | x :: r => if x.f0 ≠ 0 ∧ x.f0 ≠ 1 then 23 else if 64 < x.f1.size then 21 else if 1000 < x.f2.size then 31 else if x.f0 = 0 ∧ x.f2.size ≠ 0 then 31 else chkl r
def last (l : List S39) : Int := if l.length = 0 then 0 else (l.length : Int) - 1
def chk (a : Int) (l : List S39) : Int := if 64 < l.length then 30 else if 72057594037927935 < a + last l then 22 else chkl l
theorem chkl_zero : ∀ {l : List S39}, chkl l = 0 → ∀ x ∈ l, okOp x
  | [], _ => fun _ h => by cases h
  | x :: r, h => by
    unfold chkl at h
    split at h
    · cases h
    split at h
    · cases h
    split at h
    · cases h
    split at h
    · cases h
    rename_i h1 h2 h3 h4
    intro y hy
    cases List.mem_cons.1 hy with
    | inl e => subst e; exact ⟨by omega, by omega, by omega, fun h0 => by omega⟩
    | inr e => exact chkl_zero h y e
theorem chkl_ok : ∀ {l : List S39}, (∀ x ∈ l, okOp x) → chkl l = 0
  | [], _ => rfl
  | x :: r, h => by
    obtain ⟨h1, h2, h3, h4⟩ := h x (List.mem_cons_self ..)
    unfold chkl
    rw [if_neg (by omega), if_neg (by omega), if_neg (by omega), if_neg (by omega)]
    exact chkl_ok fun y hy => h y (List.mem_cons_of_mem _ hy)
theorem chk_zero {a : Int} {l : List S39} (h : chk a l = 0) : l.length ≤ 64 ∧ a + last l ≤ 72057594037927935 ∧ ∀ x ∈ l, okOp x := by
  unfold chk at h
  split at h
  · cases h
  split at h
  · cases h
  exact ⟨by omega, by omega, chkl_zero h⟩
theorem rd_get (l : List S39) (i : Nat) (h : i < l.length) : rd_T39 l (i : Int) = l[i] := by
  unfold rd_T39
  rw [Int.toNat_natCast, List.getD_eq_getElem?_getD, List.getElem?_eq_getElem h]
  rfl
theorem str_nil (s : ByteArray) : s.toList = ([] : List UInt8) ↔ s.size = 0 := by
  rw [ByteArray.toList_eq]
  constructor
  · intro h
    show s.data.size = 0
    rw [← Array.length_toList, h]
    rfl
  · intro h
    have : s.data.toList.length = 0 := by rw [Array.length_toList]; exact h
    exact List.eq_nil_of_length_eq_zero this
theorem Check_l0 (l : List S39) (hl : l.length ≤ 64) : ∀ (d i : Nat), i + d = l.length → Ev (fun k => batch_Check.l0 k l (l.length : Int) (i : Int)) (chkl (l.drop i)) := by
  intro d
  induction d with
  | zero =>
    intro i hi
    rw [List.drop_of_length_le (by omega)]
    refine Ev.step (f := fun _ => some 0) (fun k => ?_) (Ev.now _)
    simp only [batch_Check.l0]
    rw [if_neg (by omega)]
  | succ d ih =>
    intro i hi
    have hlt : i < l.length := by omega
    have e1 : wrap64 ((i : Int) + 1) = ((i + 1 : Nat) : Int) := by rw [w64 (by omega) (by omega)]; omega
    have hd := List.drop_eq_getElem_cons hlt
    have hr := rd_get l i hlt
    have ih := ih (i + 1) (by omega)
    rw [hd]
    generalize l[i] = x at *
    refine Ev.step (f := fun k => batch_Check.j1 k l (l.length : Int) (i : Int) (decide (x.f0 ≠ 0 ∧ x.f0 ≠ 1)) x.f0 x.f1 x.f2) (fun k => ?_) ?_
    · simp only [batch_Check.l0]
      rw [if_pos (by omega), if_pos (by omega), if_pos (by omega), hr]
      by_cases h0 : x.f0 = 0
      · rw [if_pos h0]
        congr 1
        simp [h0]
      · rw [if_neg h0]
        congr 1
        by_cases h1 : x.f0 = 1 <;> simp [h0, h1]
    · unfold chkl
      by_cases c1 : x.f0 ≠ 0 ∧ x.f0 ≠ 1
      · rw [if_pos c1]
        refine Ev.step (f := fun _ => some 23) (fun k => ?_) (Ev.now _)
        simp only [batch_Check.j1]
        rw [if_pos (decide_eq_true c1)]
      · rw [if_neg c1]
        by_cases c2 : 64 < x.f1.size
        · rw [if_pos c2]
          refine Ev.step (f := fun _ => some 21) (fun k => ?_) (Ev.now _)
          simp only [batch_Check.j1]
          rw [if_neg (by simpa using c1), if_pos (by omega)]
        · rw [if_neg c2]
          by_cases c3 : 1000 < x.f2.size
          · rw [if_pos c3]
            refine Ev.step (f := fun _ => some 31) (fun k => ?_) (Ev.now _)
            simp only [batch_Check.j1]
            rw [if_neg (by simpa using c1), if_neg (by omega), if_pos (by omega)]
          · rw [if_neg c3]
            by_cases c4 : x.f0 = 0 ∧ x.f2.size ≠ 0
            · rw [if_pos c4]
              refine Ev.step (f := fun _ => some 31) (fun k => ?_) (Ev.now _)
              simp only [batch_Check.j1]
              rw [if_neg (by simpa using c1), if_neg (by omega), if_neg (by omega), if_pos c4.1, if_neg (fun h => c4.2 ((str_nil _).1 h))]
            · rw [if_neg c4]
              refine Ev.step (fun k => ?_) ih
              simp only [batch_Check.j1]
              rw [if_neg (by simpa using c1), if_neg (by omega), if_neg (by omega), e1]
              by_cases h0 : x.f0 = 0
              · rw [if_pos h0, if_pos ((str_nil _).2 (by omega))]
              · rw [if_neg h0]
theorem Check_ev (a : Int) (l : List S39) (h0 : 0 ≤ a) (h1 : a < 18446744073709551616) : Ev (fun k => batch_Check.f k a l) (chk a l) := by
  unfold chk batch_Check.f
  by_cases c1 : 64 < l.length
  · rw [if_pos c1]
    refine Ev.ifT (by omega) (Ev.now _)
  · rw [if_neg c1]
    refine Ev.ifF (by omega) ?_
    have hlast : last l = 0 ∨ (1 ≤ l.length ∧ last l = (l.length : Int) - 1) := by unfold last; split <;> omega
    have hlast2 : 0 ≤ last l ∧ last l ≤ 63 := by unfold last; split <;> omega
    by_cases c2 : 72057594037927935 < a
    · rw [if_pos (by omega)]
      exact Ev.ifT c2 (Ev.now _)
    · refine Ev.ifF c2 ?_
      have hmx : mx (l.length : Int) 1 - 1 = last l := by unfold last mx; split <;> split <;> omega
      have hw : IntKind.u64.wrap (a + IntKind.u64.wrap (wrap64 (mx (l.length : Int) 1 - 1))) = a + last l := by
        rw [hmx, w64 (by omega) (by omega), wU64 (n := last l) (by omega) (by omega), wU64 (by omega) (by omega)]
      rw [hw]
      by_cases c3 : 72057594037927935 < a + last l
      · rw [if_pos c3]
        exact Ev.ifT c3 (Ev.now _)
      · rw [if_neg c3]
        exact Ev.ifF c3 (Check_l0 l (by omega) l.length 0 (by omega))
theorem refCheck_l0 (l : List S39) (hl : l.length ≤ 64) : ∀ (d i : Nat), i + d = l.length → Ev (fun k => staddleref03_Check.l0 k l (i : Int)) (chkl (l.drop i)) := by
  intro d
  induction d with
  | zero =>
    intro i hi
    rw [List.drop_of_length_le (by omega)]
    refine Ev.step (f := fun _ => some 0) (fun k => ?_) (Ev.now _)
    simp only [staddleref03_Check.l0]
    rw [if_neg (by omega)]
  | succ d ih =>
    intro i hi
    have hlt : i < l.length := by omega
    have e1 : wrap64 ((i : Int) + 1) = ((i + 1 : Nat) : Int) := by rw [w64 (by omega) (by omega)]; omega
    have hd := List.drop_eq_getElem_cons hlt
    have hr := rd_get l i hlt
    have ih := ih (i + 1) (by omega)
    rw [hd]
    generalize l[i] = x at *
    refine Ev.step (f := fun k => staddleref03_Check.j2 k l (i : Int) (decide (x.f0 ≠ 0 ∧ x.f0 ≠ 1)) x.f0 x.f1 x.f2) (fun k => ?_) ?_
    · simp only [staddleref03_Check.l0]
      rw [if_pos (by omega), if_pos (by omega), hr]
      by_cases h0 : x.f0 = 0
      · rw [if_pos h0]
        congr 1
        simp [h0]
      · rw [if_neg h0]
        congr 1
        by_cases h1 : x.f0 = 1 <;> simp [h0, h1]
    · unfold chkl
      by_cases c1 : x.f0 ≠ 0 ∧ x.f0 ≠ 1
      · rw [if_pos c1]
        refine Ev.step (f := fun _ => some 23) (fun k => ?_) (Ev.now _)
        simp only [staddleref03_Check.j2]
        rw [if_pos (decide_eq_true c1)]
      · rw [if_neg c1]
        by_cases c2 : 64 < x.f1.size
        · rw [if_pos c2]
          refine Ev.step (f := fun _ => some 21) (fun k => ?_) (Ev.now _)
          simp only [staddleref03_Check.j2]
          rw [if_neg (by simpa using c1), if_pos (by omega)]
        · rw [if_neg c2]
          by_cases c3 : 1000 < x.f2.size
          · rw [if_pos c3]
            refine Ev.step (f := fun _ => some 31) (fun k => ?_) (Ev.now _)
            simp only [staddleref03_Check.j2]
            rw [if_neg (by simpa using c1), if_neg (by omega), if_pos (by omega)]
          · rw [if_neg c3]
            by_cases c4 : x.f0 = 0 ∧ x.f2.size ≠ 0
            · rw [if_pos c4]
              refine Ev.step (f := fun _ => some 31) (fun k => ?_) (Ev.now _)
              simp only [staddleref03_Check.j2]
              rw [if_neg (by simpa using c1), if_neg (by omega), if_neg (by omega), if_pos c4.1, if_pos (by omega)]
            · rw [if_neg c4]
              refine Ev.step (fun k => ?_) ih
              simp only [staddleref03_Check.j2]
              rw [if_neg (by simpa using c1), if_neg (by omega), if_neg (by omega), e1]
              by_cases h0 : x.f0 = 0
              · rw [if_pos h0, if_neg (by omega)]
              · rw [if_neg h0]
theorem refCheck_j0 (l : List S39) (hl : l.length ≤ 64) (b : Bool) : Ev (fun k => staddleref03_Check.j0 k l b) (if b = true then 22 else chkl l) := by
  cases b
  · refine Ev.step (fun k => ?_) (refCheck_l0 l hl l.length 0 (by omega))
    simp only [staddleref03_Check.j0]
    rw [if_neg (by decide)]
    rfl
  · refine Ev.step (f := fun _ => some 22) (fun k => ?_) (Ev.now _)
    simp only [staddleref03_Check.j0]
    rw [if_pos trivial]
theorem refCheck_ev (a : Int) (l : List S39) (h0 : 0 ≤ a) (h1 : a < 18446744073709551616) : Ev (fun k => staddleref03_Check.f k a l) (chk a l) := by
  unfold chk staddleref03_Check.f
  by_cases c1 : 64 < l.length
  · rw [if_pos c1]
    refine Ev.ifT (by omega) (Ev.now _)
  · rw [if_neg c1]
    refine Ev.ifF (by omega) ?_
    have hlast : (l.length = 0 ∧ last l = 0) ∨ (1 ≤ l.length ∧ last l = (l.length : Int) - 1) := by unfold last; split <;> omega
    by_cases c2 : 72057594037927935 < a
    · rw [if_pos (by omega)]
      exact Ev.ifT c2 (refCheck_j0 l (by omega) true)
    · refine Ev.ifF c2 ?_
      by_cases c3 : (l.length : Int) > 0
      · refine Ev.ifT c3 ?_
        have hw : IntKind.u64.wrap (72057594037927935 - (IntKind.u64.wrap (wrap64 ((l.length : Int) - 1)))) = 72057594037927935 - last l := by
          rw [show (l.length : Int) - 1 = last l by omega, w64 (by omega) (by omega), wU64 (n := last l) (by omega) (by omega), wU64 (by omega) (by omega)]
        rw [hw]
        have := refCheck_j0 l (by omega) (decide (a > 72057594037927935 - last l))
        by_cases c4 : 72057594037927935 < a + last l
        · rw [if_pos c4]
          rw [if_pos (decide_eq_true (by omega))] at this
          exact this
        · rw [if_neg c4]
          rw [if_neg (by simp; omega)] at this
          exact this
      · rw [if_neg (by omega)]
        exact Ev.ifF c3 (refCheck_j0 l (by omega) false)

/-! ### Encode -/
def op (x : S39) : List Int := x.f0 :: (tx (bytesOf x.f1) ++ (if x.f0 = 1 then tx (bytesOf x.f2) else []))
def opsB : List S39 → List Int
  | [] => []
  | x :: r => op x ++ opsB r
theorem opsB_append : ∀ (a b : List S39), opsB (a ++ b) = opsB a ++ opsB b
  | [], b => rfl
  | x :: r, b => by
    show op x ++ opsB (r ++ b) = _
    rw [opsB_append r b, ← List.append_assoc]
    rfl
theorem tx_len (s : ByteArray) (h : s.size ≤ 1000) : (tx (bytesOf s)).length ≤ s.size + 10 := by
  have := uv_len64 (n := (bytesOf s).length) (by rw [bytesOf_length]; omega)
  unfold tx
  rw [List.length_append, bytesOf_length] at *
  omega
theorem op_len {x : S39} (h : okOp x) : (op x).length ≤ 1085 := by
  obtain ⟨_, h1, h2, _⟩ := h
  have := tx_len x.f1 (by omega)
  have := tx_len x.f2 (by omega)
  unfold op
  split <;> simp only [List.length_cons, List.length_append, List.length_nil] <;> omega
theorem opsB_len : ∀ {l : List S39}, (∀ x ∈ l, okOp x) → (opsB l).length ≤ 1085 * l.length
  | [], _ => Nat.zero_le _
  | x :: r, h => by
    have h1 := op_len (h x (List.mem_cons_self ..))
    have h2 := opsB_len fun y hy => h y (List.mem_cons_of_mem _ hy)
    show (op x ++ opsB r).length ≤ _
    rw [List.length_append, List.length_cons]
    omega
theorem op_IsB {x : S39} (h : okOp x) : IsB (op x) := by
  unfold op
  obtain ⟨h1, _⟩ := h
  refine IsB.cons (by omega) (by omega) ((tx_IsB (IsB.bytesOf _)).append ?_)
  split
  · exact tx_IsB (IsB.bytesOf _)
  · exact IsB.nil
theorem opsB_IsB : ∀ {l : List S39}, (∀ x ∈ l, okOp x) → IsB (opsB l)
  | [], _ => IsB.nil
  | x :: r, h => (op_IsB (h x (List.mem_cons_self ..))).append (opsB_IsB fun y hy => h y (List.mem_cons_of_mem _ hy))
def enc (a : Int) (l : List S39) : List Int := fx 8 a.toNat ++ (fx 4 l.length ++ opsB l)
def encR (a : Int) (l : List S39) : List Int × Int := if chk a l = 0 then (enc a l, 0) else ([], chk a l)
theorem Encode_l0 (l : List S39) (hl : l.length ≤ 64) (hok : ∀ x ∈ l, okOp x) : ∀ (d i : Nat) (acc : List Int), i + d = l.length → acc.length ≤ 12 + 1085 * i → Ev (fun k => batch_Encode.l0 k acc l (l.length : Int) (i : Int)) (acc ++ opsB (l.drop i), 0) := by
  intro d
  induction d with
  | zero =>
    intro i acc hi ha
    rw [List.drop_of_length_le (by omega)]
    refine Ev.step (f := fun _ => some (acc ++ opsB [], 0)) (fun k => ?_) (Ev.now _)
    simp only [batch_Encode.l0]
    rw [if_neg (by omega), opsB, List.append_nil]
  | succ d ih =>
    intro i acc hi ha
    have hlt : i < l.length := by omega
    have e1 : wrap64 ((i : Int) + 1) = ((i + 1 : Nat) : Int) := by rw [w64 (by omega) (by omega)]; omega
    have hd := List.drop_eq_getElem_cons hlt
    have hr := rd_get l i hlt
    have hx := hok _ (List.getElem_mem hlt)
    have ih := ih (i + 1) (acc ++ op l[i]) (by omega) (by rw [List.length_append]; have := op_len hx; omega)
    rw [hd]
    generalize l[i] = x at *
    obtain ⟨h1, h2, h3, h4⟩ := hx
    have t1 := tx_len x.f1 (by omega)
    have t2 := tx_len x.f2 (by omega)
    have em : x.f0 % 256 = x.f0 := by omega
    have p1 := PutText_ev (acc ++ [x.f0]) x.f1 (by simp only [List.length_append, List.length_cons, List.length_nil]; omega)
    rw [opsB, ← List.append_assoc]
    by_cases hk : x.f0 = 1
    · have p2 := PutText_ev (acc ++ [x.f0] ++ tx (bytesOf x.f1)) x.f2 (by simp only [List.length_append, List.length_cons, List.length_nil]; omega)
      have ho : acc ++ op x = acc ++ [x.f0] ++ tx (bytesOf x.f1) ++ tx (bytesOf x.f2) := by unfold op; rw [if_pos hk]; simp
      rw [ho] at ih ⊢
      refine Ev.step (f := fun k => (codec_PutText.f k (acc ++ [x.f0]) x.f1).bind fun t => (codec_PutText.f k t x.f2).bind fun u => batch_Encode.l0 k u l (l.length : Int) ((i + 1 : Nat) : Int)) (fun k => ?_) (Ev.bind p1 (Ev.bind p2 ih))
      simp only [batch_Encode.l0]
      rw [if_pos (by omega), if_pos (by omega), if_pos (by omega), if_pos (by omega), hr, em, e1]
      congr 1
      funext t
      rw [if_pos hk]
    · have ho : acc ++ op x = acc ++ [x.f0] ++ tx (bytesOf x.f1) := by unfold op; rw [if_neg hk]; simp
      rw [ho] at ih ⊢
      refine Ev.step (f := fun k => (codec_PutText.f k (acc ++ [x.f0]) x.f1).bind fun t => batch_Encode.l0 k t l (l.length : Int) ((i + 1 : Nat) : Int)) (fun k => ?_) (Ev.bind p1 ih)
      simp only [batch_Encode.l0]
      rw [if_pos (by omega), if_pos (by omega), if_pos (by omega), if_pos (by omega), hr, em, e1]
      congr 1
      funext t
      rw [if_neg hk]
theorem Encode_ev (a : Int) (l : List S39) (h0 : 0 ≤ a) (h1 : a < 18446744073709551616) : Ev (fun k => batch_Encode.f k a l) (encR a l) := by
  unfold encR
  refine Ev.bind (Check_ev a l h0 h1) ?_
  by_cases h : chk a l = 0
  · rw [if_pos h]
    obtain ⟨c1, c2, c3⟩ := chk_zero h
    refine Ev.ifT h ?_
    obtain ⟨n, rfl⟩ := Int.eq_ofNat_of_zero_le h0
    refine Ev.bind (PutFixed_ev n 8 [] (by omega) (by simp)) ?_
    rw [wU64 (n := (l.length : Int)) (by omega) (by omega)]
    have f8 := fx_length 8 n
    have f4 := fx_length 4 l.length
    refine Ev.bind (PutFixed_ev l.length 4 ([] ++ fx 8 n) (by omega) (by simp [f8])) ?_
    have := Encode_l0 l c1 c3 l.length 0 ([] ++ fx 8 n ++ fx 4 l.length) (by omega) (by simp [f8, f4])
    rw [List.drop_zero] at this
    unfold enc
    rw [Int.toNat_natCast, ← List.append_assoc]
    simpa using this
  · rw [if_neg h]
    exact Ev.ifF h (Ev.now _)
theorem refEncode_l0 (l : List S39) (hl : l.length ≤ 64) (hok : ∀ x ∈ l, okOp x) : ∀ (d i : Nat) (acc : List Int), i + d = l.length → acc.length ≤ 12 + 1085 * i → Ev (fun k => staddleref03_Encode.l0 k l acc (i : Int)) (acc ++ opsB (l.drop i), 0) := by
  intro d
  induction d with
  | zero =>
    intro i acc hi ha
    rw [List.drop_of_length_le (by omega)]
    refine Ev.step (f := fun _ => some (acc ++ opsB [], 0)) (fun k => ?_) (Ev.now _)
    simp only [staddleref03_Encode.l0]
    rw [if_neg (by omega), opsB, List.append_nil]
  | succ d ih =>
    intro i acc hi ha
    have hlt : i < l.length := by omega
    have e1 : wrap64 ((i : Int) + 1) = ((i + 1 : Nat) : Int) := by rw [w64 (by omega) (by omega)]; omega
    have hd := List.drop_eq_getElem_cons hlt
    have hr := rd_get l i hlt
    have hx := hok _ (List.getElem_mem hlt)
    have ih := ih (i + 1) (acc ++ op l[i]) (by omega) (by rw [List.length_append]; have := op_len hx; omega)
    rw [hd]
    generalize l[i] = x at *
    obtain ⟨h1, h2, h3, h4⟩ := hx
    have t1 := tx_len x.f1 (by omega)
    have t2 := tx_len x.f2 (by omega)
    have em : x.f0 % 256 = x.f0 := by omega
    have p1 := refPutText_ev (acc ++ [x.f0]) x.f1 (by simp only [List.length_append, List.length_cons, List.length_nil]; omega)
    rw [opsB, ← List.append_assoc]
    by_cases hk : x.f0 = 1
    · have p2 := refPutText_ev (acc ++ [x.f0] ++ tx (bytesOf x.f1)) x.f2 (by simp only [List.length_append, List.length_cons, List.length_nil]; omega)
      have ho : acc ++ op x = acc ++ [x.f0] ++ tx (bytesOf x.f1) ++ tx (bytesOf x.f2) := by unfold op; rw [if_pos hk]; simp
      rw [ho] at ih ⊢
      refine Ev.step (f := fun k => (staddleref01_PutText.f k (acc ++ [x.f0]) x.f1).bind fun t => (staddleref01_PutText.f k t x.f2).bind fun u => staddleref03_Encode.l0 k l u ((i + 1 : Nat) : Int)) (fun k => ?_) (Ev.bind p1 (Ev.bind p2 ih))
      simp only [staddleref03_Encode.l0]
      rw [if_pos (by omega), if_pos (by omega), if_pos (by omega), hr, em, e1]
      congr 1
      funext t
      rw [if_pos hk]
    · have ho : acc ++ op x = acc ++ [x.f0] ++ tx (bytesOf x.f1) := by unfold op; rw [if_neg hk]; simp
      rw [ho] at ih ⊢
      refine Ev.step (f := fun k => (staddleref01_PutText.f k (acc ++ [x.f0]) x.f1).bind fun t => staddleref03_Encode.l0 k l t ((i + 1 : Nat) : Int)) (fun k => ?_) (Ev.bind p1 ih)
      simp only [staddleref03_Encode.l0]
      rw [if_pos (by omega), if_pos (by omega), if_pos (by omega), hr, em, e1]
      congr 1
      funext t
      rw [if_neg hk]
theorem refEncode_ev (a : Int) (l : List S39) (h0 : 0 ≤ a) (h1 : a < 18446744073709551616) : Ev (fun k => staddleref03_Encode.f k a l) (encR a l) := by
  unfold encR
  refine Ev.bind (refCheck_ev a l h0 h1) ?_
  by_cases h : chk a l = 0
  · rw [if_pos h]
    obtain ⟨c1, c2, c3⟩ := chk_zero h
    refine Ev.ifT h ?_
    obtain ⟨n, rfl⟩ := Int.eq_ofNat_of_zero_le h0
    refine Ev.bind (refPutFixed_ev n 8 [] (by omega) (by omega) (by omega) (by simp)) ?_
    rw [wU64 (n := (l.length : Int)) (by omega) (by omega)]
    have f8 := fx_length 8 n
    have f4 := fx_length 4 l.length
    refine Ev.bind (refPutFixed_ev l.length 4 ([] ++ fx 8 n) (by omega) (by omega) (by omega) (by simp [f8])) ?_
    have := refEncode_l0 l c1 c3 l.length 0 ([] ++ fx 8 n ++ fx 4 l.length) (by omega) (by simp [f8, f4])
    rw [List.drop_zero] at this
    unfold enc
    rw [Int.toNat_natCast, ← List.append_assoc]
    simpa using this
  · rw [if_neg h]
    exact Ev.ifF h (Ev.now _)
/-! ### Same -/
theorem Same_l0 (l : List S39) (hl : l.length ≤ 9223372036854775806) : ∀ (d i : Nat), i + d = l.length → Ev (fun k => staddleref03_Same.l0 k l l (i : Int)) true := by
  intro d
  induction d with
  | zero =>
    intro i hi
    refine Ev.step (f := fun _ => some true) (fun k => ?_) (Ev.now _)
    simp only [staddleref03_Same.l0]
    rw [if_neg (by omega)]
  | succ d ih =>
    intro i hi
    have e1 : wrap64 ((i : Int) + 1) = ((i + 1 : Nat) : Int) := by rw [w64 (by omega) (by omega)]; omega
    refine Ev.step (fun k => ?_) (ih (i + 1) (by omega))
    simp only [staddleref03_Same.l0]
    rw [if_pos (by omega), if_pos (by omega), if_pos (by omega), if_neg (by simp), e1]
theorem Same_ev (l : List S39) (hl : l.length ≤ 9223372036854775806) : Ev (fun k => staddleref03_Same.f k l l) true := by
  unfold staddleref03_Same.f
  exact Ev.ifT rfl (Same_l0 l hl l.length 0 (by omega))
end Go.Proofs.Ytojnhecpjnoipaa.Q
