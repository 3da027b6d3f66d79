/- What is proved: for every number, operations, bytes and whole number, together of bulk at most 1048576, staddlelaw03.BatchBack answers true. -/
import Derived.Test.YtojnhecpjnoipaaP16
import Derived.Test.YtojnhecpjnoipaaQBatchDec
import Derived.Test.YtojnhecpjnoipaaQAwake03
namespace Go.Proofs.Ytojnhecpjnoipaa.Pure
open Go.RowKit Go.Proofs.YtojnhecpjnoipaaW.PrintWords Go.Proofs.YtojnhecpjnoipaaW.PrintLast Go.Proofs.YtojnhecpjnoipaaW.PrintMore Go.Proofs.Ytojnhecpjnoipaa.P Go.Proofs.Ytojnhecpjnoipaa.M Go.Proofs.Ytojnhecpjnoipaa.Q

theorem tmod_in (x : Int) (n : Nat) (h0 : 0 ≤ x) (hn : 0 < n) : ∃ j : Nat, j < n ∧ Int.tmod x (n : Int) = (j : Int) := by
  rw [Int.tmod_eq_emod_of_nonneg h0]
  have h1 := Int.emod_nonneg x (show (n : Int) ≠ 0 by omega)
  have h2 := Int.emod_lt_of_pos x (show (0 : Int) < (n : Int) by omega)
  exact ⟨(x % (n : Int)).toNat, by omega, by omega⟩
theorem back_end (q : Int) (l : List S39) (more : List Int) (j : Nat) (h0 : 0 ≤ q) (h1 : q < 18446744073709551616) (hc : chk q l = 0) (hm : IsB more) (hml : more.length ≤ 1048576) (hj : j < (enc q l).length) :
    Ev (fun k => (batch_Decode.f k ((enc q l).take j)).bind fun bt328 => ((some (([] : List Int) : List Int)).bind fun y333 => (if y333.length + (enc q l).length < 140737488355328 then ((some (y333 ++ enc q l : List Int)).bind fun y336 => (if y336.length + more.length < 140737488355328 then ((batch_Decode.f k (y336 ++ more)).bind fun bt342 => (if true = true then (if bt328.2.2 = 32 then (some ((bt342.2.2 == 0) == ((more.length : Int) == 0))) else (some false)) else (some false))) else (none))) else (none)))) true := by
  obtain ⟨z1, _, z3⟩ := chk_zero hc
  have hl := opsB_len z3
  have hlen : (enc q l).length ≤ 70000 := by
    unfold enc
    rw [List.length_append, List.length_append, fx_length, fx_length]
    omega
  have hb := enc_IsB hc
  refine Ev.bind (real_D _ (hb.take j) (by rw [List.length_take]; omega)) (Ev.some_ (Ev.ifT (by simp only [List.length_nil]; omega) (Ev.some_ (Ev.ifT (by simp only [List.nil_append]; omega) ?_))))
  rw [D_cut q l j hc hj, List.nil_append]
  refine Ev.bind (real_D _ (hb.append hm) (by rw [List.length_append]; omega)) (Ev.ifT rfl (Ev.ifT rfl ?_))
  by_cases he : more = []
  · subst he
    rw [List.append_nil, D_enc q l h0 h1 hc]
    exact Ev.now _
  · rw [D_more q l more hc hm he]
    have : ((more.length : Int) == 0) = false := by
      have : more.length ≠ 0 := fun h => he (List.eq_nil_of_length_eq_zero h)
      simp
      exact he
    rw [this]
    exact Ev.now _
theorem back_j0 (q : Int) (l : List S39) (more : List Int) (x : Int) (h0 : 0 ≤ q) (h1 : q < 18446744073709551616) (hc : chk q l = 0) (hm : IsB more) (hml : more.length ≤ 1048576) (hx0 : -9223372036854775808 ≤ x) (hx1 : x < 9223372036854775808) :
    Ev (fun k => staddlelaw03_BatchBack.j0 k more x true (enc q l) false) true := by
  have hn := enc_len q l
  by_cases hx : x < 0
  · have hw : wrap64 (-(wrap64 (x + 1))) = -(x + 1) := by rw [w64 (n := x + 1) (by omega) (by omega), w64 (by omega) (by omega)]
    obtain ⟨j, hj, ej⟩ := tmod_in (-(x + 1)) (enc q l).length (by omega) (by omega)
    refine Ev.step (fun k => ?_) (back_end q l more j h0 h1 hc hm hml hj)
    simp only [staddlelaw03_BatchBack.j0]
    rw [if_neg (by decide), if_pos hx, if_neg (by omega), hw, ej, if_pos (by omega), if_pos (by omega), Int.toNat_natCast]
  · obtain ⟨j, hj, ej⟩ := tmod_in x (enc q l).length (by omega) (by omega)
    refine Ev.step (fun k => ?_) (back_end q l more j h0 h1 hc hm hml hj)
    simp only [staddlelaw03_BatchBack.j0]
    rw [if_neg (by decide), if_neg hx, if_neg (by omega), ej, if_pos (by omega), if_pos (by omega), Int.toNat_natCast]
theorem BatchBackU (a0 : Int) (l1 : List S39) (l2 : List Int) (a3 : Int) (w0 : (Lit.int .u64 a0).wf = true) (h1 : l1.length ≤ 1048576) (w1 : ∀ x ∈ l1, (Lit.int .i64 x.f0).wf = true ∧ x.f1.size ≤ 9223372036854775807 ∧ x.f2.size ≤ 9223372036854775807)
    (h2 : l2.length ≤ 1048576) (w2 : ∀ x ∈ l2, (Lit.int .u8 x).wf = true) (w3 : (Lit.int .i64 a3).wf = true) : ∃ k, staddlelaw03_BatchBack.f k a0 l1 l2 a3 = some true := by
  have hb := IsB.of_wf w2
  obtain ⟨q0, q1⟩ := wf_u64 w0
  obtain ⟨x0, x1⟩ := wf_i64 w3
  have h : Ev (fun k => staddlelaw03_BatchBack.f k a0 l1 l2 a3) true := by
    unfold staddlelaw03_BatchBack.f
    refine Ev.bind awake_ev (Ev.bind (Encode_ev a0 l1 q0 q1) ?_)
    by_cases hc : chk a0 l1 = 0
    · have hR : encR a0 l1 = (enc a0 l1, 0) := by unfold encR; rw [if_pos hc]
      have hl := opsB_len (chk_zero hc).2.2
      have hlen : (enc a0 l1).length ≤ 70000 := by
        have := (chk_zero hc).1
        unfold enc
        rw [List.length_append, List.length_append, fx_length, fx_length]
        omega
      have hD := real_D (enc a0 l1) (enc_IsB hc) (by omega)
      rw [D_enc a0 l1 q0 q1 hc] at hD
      rw [hR]
      refine Ev.ifT rfl (Ev.bind hD (Ev.bind (Same_ev l1 (by omega)) (Ev.ifT rfl (Ev.ifT rfl (Ev.ifT rfl ?_)))))
      refine Ev.bind (Check_ev a0 l1 q0 q1) ?_
      rw [hc]
      exact back_j0 a0 l1 l2 a3 q0 q1 hc hb h2 x0 x1
    · have hR : encR a0 l1 = ([], chk a0 l1) := by unfold encR; rw [if_neg hc]
      rw [hR]
      refine Ev.ifF hc (Ev.ifT rfl (Ev.ifT rfl (Ev.bind (Check_ev a0 l1 q0 q1) ?_)))
      simp only [beq_self_eq_true]
      exact Ev.now _
  exact h.rounds
end Go.Proofs.Ytojnhecpjnoipaa.Pure
