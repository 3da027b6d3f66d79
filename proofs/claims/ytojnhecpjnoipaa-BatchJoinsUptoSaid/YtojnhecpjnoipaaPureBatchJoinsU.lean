/- What is proved: for every number and two lists of operations, together of bulk at most 1048576, staddlelaw03.BatchJoins answers true. -/
import Derived.Test.YtojnhecpjnoipaaP17
import Derived.Test.YtojnhecpjnoipaaQBatchDec
import Derived.Test.YtojnhecpjnoipaaQAwake03
namespace Go.Proofs.Ytojnhecpjnoipaa.Pure
open Go.RowKit Go.Proofs.YtojnhecpjnoipaaW.PrintWords Go.Proofs.YtojnhecpjnoipaaW.PrintLast Go.Proofs.YtojnhecpjnoipaaW.PrintMore Go.Proofs.Ytojnhecpjnoipaa.P Go.Proofs.Ytojnhecpjnoipaa.M Go.Proofs.Ytojnhecpjnoipaa.Q

theorem str_append (a b : List Int) : strOfNums (a ++ b) = strOfNums a ++ strOfNums b := by
  apply ba_ext
  simp [strOfNums]
theorem chkl_append {a b : List S39} (ha : chkl a = 0) (hb : chkl b = 0) : chkl (a ++ b) = 0 :=
  chkl_ok fun x hx => (List.mem_append.1 hx).elim (chkl_zero ha x) (chkl_zero hb x)
theorem BatchJoinsU (a0 : Int) (l1 l2 : List S39) (w0 : (Lit.int .u64 a0).wf = true) (h1 : l1.length ≤ 1048576) (w1 : ∀ x ∈ l1, (Lit.int .i64 x.f0).wf = true ∧ x.f1.size ≤ 9223372036854775807 ∧ x.f2.size ≤ 9223372036854775807)
    (h2 : l2.length ≤ 1048576) (w2 : ∀ x ∈ l2, (Lit.int .i64 x.f0).wf = true ∧ x.f1.size ≤ 9223372036854775807 ∧ x.f2.size ≤ 9223372036854775807) : ∃ k, staddlelaw03_BatchJoins.f k a0 l1 l2 = some true := by
  obtain ⟨q0, q1⟩ := wf_u64 w0
  have h : Ev (fun k => staddlelaw03_BatchJoins.f k a0 l1 l2) true := by
    unfold staddlelaw03_BatchJoins.f
    refine Ev.bind awake_ev (Ev.bind (Encode_ev a0 l1 q0 q1) (Ev.bind (Encode_ev a0 l2 q0 q1) (Ev.some_ (Ev.ifT (by simp only [List.length_nil]; omega) (Ev.some_ (Ev.ifT (by simp only [List.nil_append]; omega) ?_))))))
    rw [List.nil_append]
    refine Ev.bind (Encode_ev a0 (l1 ++ l2) q0 q1) ?_
    by_cases c1 : chk a0 l1 = 0
    · have r1 : encR a0 l1 = (enc a0 l1, 0) := by unfold encR; rw [if_pos c1]
      rw [r1]
      refine Ev.ifT rfl ?_
      by_cases c2 : chk a0 l2 = 0
      · have r2 : encR a0 l2 = (enc a0 l2, 0) := by unfold encR; rw [if_pos c2]
        rw [r2]
        refine Ev.ifT rfl ?_
        by_cases c3 : chk a0 (l1 ++ l2) = 0
        · have r3 : encR a0 (l1 ++ l2) = (enc a0 (l1 ++ l2), 0) := by unfold encR; rw [if_pos c3]
          rw [r3]
          have n1 := enc_len a0 l1
          have n2 := enc_len a0 l2
          have n3 := enc_len a0 (l1 ++ l2)
          have e1 := enc_drop a0 l1 []
          have e2 := enc_drop a0 l2 []
          have e3 := enc_drop a0 (l1 ++ l2) []
          simp only [List.append_nil] at e1 e2 e3
          have z8 : rd (enc a0 (l1 ++ l2)) 8 = (((l1 ++ l2).length % 256 : Nat) : Int) := by
            have hd : (enc a0 (l1 ++ l2)).drop 8 = (((l1 ++ l2).length % 256 : Nat) : Int) :: (fx 3 ((l1 ++ l2).length / 256) ++ opsB (l1 ++ l2)) := by
              unfold enc
              rw [List.drop_left' (fx_length 8 _), fx_succ]
              rfl
            have hlt : 8 < (enc a0 (l1 ++ l2)).length := by omega
            have hg := List.drop_eq_getElem_cons hlt
            rw [hd] at hg
            have := (List.cons.inj hg).1
            rw [this]
            unfold rd
            rw [show (8 : Int).toNat = 8 from rfl, List.getD_eq_getElem?_getD, List.getElem?_eq_getElem hlt]
            rfl
          have l1o := opsB_len (chk_zero c1).2.2
          have l2o := opsB_len (chk_zero c2).2.2
          have l1n := (chk_zero c1).1
          have l2n := (chk_zero c2).1
          refine Ev.ifT rfl (Ev.ifT rfl (Ev.ifT (by simp only; omega) (Ev.ifT ?_ (Ev.ifT (by simp only; omega) (Ev.ifT (by simp only; omega) (Ev.ifT ?_ (Ev.ifT (by simp only; omega) (Ev.ifT (by simp only; omega) (Ev.some_ (Ev.ifT (by simp only; omega) (Ev.some_ (Ev.ifT ?_ ?_))))))))))))
          · simp only
            rw [z8, List.length_append, wadd _ _ (by omega)]
            omega
          · simp only
            rw [e3.1, e1.1]
          · simp only
            rw [e1.2.2, e2.2.2, str_size, str_size]
            omega
          · simp only
            rw [e1.2.2, e2.2.2, e3.2.2, opsB_append, str_append, beq_self_eq_true]
            exact Ev.now _
        · have r3 : encR a0 (l1 ++ l2) = ([], chk a0 (l1 ++ l2)) := by unfold encR; rw [if_neg c3]
          rw [r3]
          have hk : chkl (l1 ++ l2) = 0 := chkl_ok fun x hx => (List.mem_append.1 hx).elim ((chk_zero c1).2.2 x) ((chk_zero c2).2.2 x)
          have h30 : chk a0 (l1 ++ l2) = 30 ∨ chk a0 (l1 ++ l2) = 22 := by
            by_cases d1 : 64 < (l1 ++ l2).length
            · exact .inl (by unfold chk; rw [if_pos d1])
            · by_cases d2 : 72057594037927935 < a0 + last (l1 ++ l2)
              · exact .inr (by unfold chk; rw [if_neg d1, if_pos d2])
              · exact absurd (by unfold chk; rw [if_neg d1, if_neg d2, hk]) c3
          refine Ev.ifF c3 (Ev.ifT rfl ?_)
          rcases h30 with h30 | h30
          · exact Ev.ifT h30 (Ev.now _)
          · refine Ev.ifF (by simp only; omega) ?_
            simp only [h30]
            exact Ev.now _
      · have r2 : encR a0 l2 = ([], chk a0 l2) := by unfold encR; rw [if_neg c2]
        rw [r2]
        exact Ev.ifF c2 (Ev.ifT rfl (Ev.now _))
    · have r1 : encR a0 l1 = ([], chk a0 l1) := by unfold encR; rw [if_neg c1]
      rw [r1]
      exact Ev.ifF c1 (Ev.ifT rfl (Ev.now _))
  exact h.rounds
end Go.Proofs.Ytojnhecpjnoipaa.Pure
