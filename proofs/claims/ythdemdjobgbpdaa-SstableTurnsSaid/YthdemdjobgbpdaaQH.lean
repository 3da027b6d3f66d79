/- What the document's Get tells of entries that rise is what is known. Plain Lean. -/
import Derived.Test.YthdemdjobgbpdaaCD
import Derived.Test.YthdemdjobgbpdaaP21
namespace Go.Proofs.Ythdemdjobgbpdaa.Q
open Go.RowKit Go.Proofs.YthdemdjobgbpdaaW.PrintWords Go.Proofs.YthdemdjobgbpdaaW.PrintLast Go.Proofs.YthdemdjobgbpdaaW.PrintMore Go.Proofs.Ythdemdjobgbpdaa.P Go.Proofs.Ythdemdjobgbpdaa.M Go.Proofs.Ythdemdjobgbpdaa.B Go.Proofs.Ythdemdjobgbpdaa.T
set_option linter.unusedVariables false
theorem kcmp_user {s1 s2 : ByteArray} (h : s1 ≠ s2) (q1 d1 q2 d2 a1 b1 a2 b2 : Int) : kcmp s1 q1 d1 s2 q2 d2 = kcmp s1 a1 b1 s2 a2 b2 := by
  have hc : Lib.compareBytes s1.data.toList s2.data.toList ≠ 0 := by
    intro e
    have h0 : kcmp s1 0 0 s2 0 0 = 0 := by
      unfold kcmp
      rw [if_pos e]
      rfl
    exact h ((kcmp_zero ..).1 h0).1
  unfold kcmp
  rw [if_neg hc, if_neg hc]
/-- the entry that the document's Get takes -/
def takes (user : ByteArray) (seq : Int) (e : S47) : Prop := e.f0.f0 = user ∧ e.f0.f1 ≤ seq
instance (user : ByteArray) (seq : Int) (e : S47) : Decidable (takes user seq e) := by unfold takes; infer_instance
def refv (user : ByteArray) (seq : Int) : List S47 → ByteArray × Int
  | [] => (noText, 0)
  | e :: t => if takes user seq e then (if e.f0.f2 = 0 then (noText, 1) else (e.f1, 2)) else refv user seq t
theorem refv_none (user : ByteArray) (seq : Int) : ∀ l : List S47, (∀ e ∈ l, e.f0.f0 ≠ user) → refv user seq l = (noText, 0)
  | [], _ => rfl
  | e :: t, h => by
    rw [refv, if_neg (fun hm => h e List.mem_cons_self hm.1)]
    exact refv_none user seq t (fun x hx => h x (List.mem_cons_of_mem _ hx))
theorem cap_le (seq : Int) : capSeq seq ≤ seq ∧ capSeq seq ≤ 72057594037927935 ∧ (seq ≤ 72057594037927935 → capSeq seq = seq) := by
  unfold capSeq
  split <;> omega
theorem refv_eq (user : ByteArray) (seq : Int) : ∀ (l : List S47) (p : Option S47), ck p l = 0 → refv user seq l = ((tell_f l (fi l ⟨user, capSeq seq, 1⟩) user).1, (tell_f l (fi l ⟨user, capSeq seq, 1⟩) user).2.1)
  | [], _, _ => rfl
  | e :: t, p, h => by
    obtain ⟨h1, h2⟩ := ck_cons h
    obtain ⟨c1, c2, c3⟩ := ckAt_zero h1
    obtain ⟨z1, z2, z3⟩ := chk_zero c1
    obtain ⟨p1, p2, p3⟩ := cap_le seq
    by_cases hq : kq e ⟨user, capSeq seq, 1⟩ < 0
    · have hf : fi (e :: t) ⟨user, capSeq seq, 1⟩ = fi t ⟨user, capSeq seq, 1⟩ + 1 := by rw [fi, if_pos hq]
      have hm : ¬ takes user seq e := by
        rintro ⟨m1, m2⟩
        have hk := (kcmp_less ..).1 hq
        rcases hk with hk | ⟨_, hk⟩
        · have hk2 : kcmp e.f0.f0 0 0 user 0 0 < 0 := (kcmp_less ..).2 (.inl hk)
          rw [m1] at hk2
          have : kcmp user 0 0 user 0 0 = 0 := (kcmp_zero ..).2 ⟨rfl, rfl, rfl⟩
          omega
        · rcases hk with hk | ⟨hk, hk2⟩
          · have hk : capSeq seq < e.f0.f1 := hk
            rcases (show seq ≤ 72057594037927935 ∨ 72057594037927935 < seq by omega) with hs | hs
            · rw [p3 hs] at hk
              omega
            · have : capSeq seq = 72057594037927935 := by unfold capSeq; rw [if_pos hs]
              omega
          · have hk2 : (1 : Int) < e.f0.f2 := hk2
            omega
      have ht : ∀ n, tell_f (e :: t) (n + 1) user = tell_f t n user := by
        intro n
        unfold tell_f
        rw [rdT_cons, List.length_cons]
        by_cases hn : n < t.length
        · rw [if_pos hn, if_pos (by omega)]
        · rw [if_neg hn, if_neg (by omega)]
      rw [refv, if_neg hm, hf, ht]
      exact refv_eq user seq t _ h2
    · have hf : fi (e :: t) ⟨user, capSeq seq, 1⟩ = 0 := by rw [fi, if_neg hq]
      have hr : rd_T47 (e :: t) ((0 : Nat) : Int) = e := rfl
      rw [hf]
      unfold tell_f
      rw [hr, if_pos (by rw [List.length_cons]; omega), refv]
      by_cases hu : e.f0.f0 = user
      · have hm : takes user seq e := by
          refine ⟨hu, ?_⟩
          apply Int.not_lt.mp
          intro hs
          exact hq ((kcmp_less ..).2 (.inr ⟨hu, .inl (by show capSeq seq < e.f0.f1; omega)⟩))
        rw [if_pos hm, if_pos hu]
        split <;> rfl
      · rw [if_neg (fun hm => hu hm.1), if_neg hu]
        refine refv_none user seq t (fun x hx hxu => ?_)
        have hx2 := ck_lt t e h2 x hx
        unfold kk at hx2
        rw [hxu] at hx2
        apply hq
        unfold kq
        rw [kcmp_user hu _ _ _ _ e.f0.f1 e.f0.f2 x.f0.f1 x.f0.f2]
        exact hx2
theorem refGet_l0 (user : ByteArray) (seq : Int) (l : List S47) (hl : l.length ≤ 1000000) : ∀ (d i : Nat), i + d = l.length → Ev (fun k => staddleref08_Get.l0 k l user seq (i : Int)) (refv user seq (l.drop i))
  | 0, i, h => by
    rw [List.drop_eq_nil_of_le (by omega)]
    exact Ev.step (f := fun _ => some ((⟨#[]⟩ : ByteArray), 0)) (fun k => by
      simp only [staddleref08_Get.l0]
      rw [if_neg (by omega)]) (Ev.now _)
  | d + 1, i, h => by
    have hi : i < l.length := by omega
    have hd : l.drop i = rd_T47 l (i : Int) :: l.drop (i + 1) := by
      rw [List.drop_eq_getElem_cons hi]
      simp [rd_T47, hi]
    have ih := refGet_l0 user seq l hl d (i + 1) (by omega)
    have hw : wrap64 ((i : Int) + 1) = ((i + 1 : Nat) : Int) := by rw [w64 (by omega) (by omega)]; rfl
    rw [hd, refv]
    have hj : Ev (fun k => staddleref08_Get.j1 k l user seq (i : Int) (decide (takes user seq (rd_T47 l (i : Int))))) (if takes user seq (rd_T47 l (i : Int)) then (if (rd_T47 l (i : Int)).f0.f2 = 0 then (noText, 1) else ((rd_T47 l (i : Int)).f1, 2)) else refv user seq (l.drop (i + 1))) := by
      by_cases hm : takes user seq (rd_T47 l (i : Int))
      · rw [if_pos hm]
        refine Ev.step (f := fun _ => some (if (rd_T47 l (i : Int)).f0.f2 = 0 then (noText, 1) else ((rd_T47 l (i : Int)).f1, 2))) (fun k => ?_) (Ev.now _)
        simp only [staddleref08_Get.j1]
        rw [if_pos (decide_eq_true hm), if_pos (by omega), if_pos (by omega)]
        split <;> rfl
      · rw [if_neg hm]
        refine Ev.step (f := fun k => staddleref08_Get.l0 k l user seq ((i + 1 : Nat) : Int)) (fun k => ?_) ih
        simp only [staddleref08_Get.j1]
        rw [if_neg (by rw [decide_eq_false hm]; decide), hw]
    refine Ev.step (f := fun k => staddleref08_Get.j1 k l user seq (i : Int) (decide (takes user seq (rd_T47 l (i : Int))))) (fun k => ?_) hj
    simp only [staddleref08_Get.l0]
    rw [if_pos (by omega), if_pos (by omega)]
    by_cases hu : (rd_T47 l (i : Int)).f0.f0 = user
    · rw [if_pos (by rw [hu])]
      congr 1
      exact decide_eq_decide.mpr ⟨fun hs => ⟨hu, hs⟩, fun hs => hs.2⟩
    · rw [if_neg (fun h2 => hu (toList_inj h2))]
      congr 1
      exact (decide_eq_false (fun hs : takes user seq _ => hu hs.1)).symm
theorem refGet_ev (user : ByteArray) (seq : Int) (l : List S47) (hl : l.length ≤ 1000000) (hc : ck none l = 0) : Ev (fun k => staddleref08_Get.f k l user seq) ((known l user seq).1, (known l user seq).2.1) := by
  have h := refGet_l0 user seq l hl l.length 0 (by omega)
  rw [List.drop_zero, refv_eq user seq l none hc] at h
  exact h
end Go.Proofs.Ythdemdjobgbpdaa.Q
