/- What is proved: for every number and all operations staddlelaw03.BatchLays answers true. No condition but that the arguments can stand in memory. -/
import Derived.Test.YtojnhecpjnoipaaP12
import Derived.Test.YtojnhecpjnoipaaQBatch
import Derived.Test.YtojnhecpjnoipaaQAwake03
namespace Go.Proofs.Ytojnhecpjnoipaa.Pure
open Go.RowKit Go.Proofs.YtojnhecpjnoipaaW.PrintWords Go.Proofs.YtojnhecpjnoipaaW.PrintLast Go.Proofs.YtojnhecpjnoipaaW.PrintMore Go.Proofs.Ytojnhecpjnoipaa.P Go.Proofs.Ytojnhecpjnoipaa.M Go.Proofs.Ytojnhecpjnoipaa.Q

theorem BatchLaysS (a0 : Int) (l1 : List S39) (w0 : (Lit.int .u64 a0).wf = true) (h1 : l1.length * 40 ≤ 140737488351232) (w1 : ∀ x ∈ l1, (Lit.int .i64 x.f0).wf = true ∧ x.f1.size ≤ 9223372036854775807 ∧ x.f2.size ≤ 9223372036854775807) :
    ∃ k, staddlelaw03_BatchLays.f k a0 l1 = some true := by
  obtain ⟨h0, h0'⟩ := wf_u64 w0
  have h : Ev (fun k => staddlelaw03_BatchLays.f k a0 l1) true := by
    unfold staddlelaw03_BatchLays.f
    refine Ev.bind awake_ev (Ev.some_ (Ev.ifT (by simp only [List.length_nil]; omega) (Ev.some_ ?_)))
    rw [List.nil_append]
    refine Ev.bind (Encode_ev a0 l1 h0 h0') (Ev.bind (refEncode_ev a0 l1 h0 h0') (Ev.bind (Same_ev l1 (by omega)) ?_))
    refine Ev.ifT rfl (Ev.ifT rfl (Ev.ifT rfl (Ev.ifT rfl ?_)))
    refine Ev.bind (Check_ev a0 l1 h0 h0') (Ev.bind (refCheck_ev a0 l1 h0 h0') ?_)
    rw [beq_self_eq_true]
    exact Ev.now _
  exact h.rounds
end Go.Proofs.Ytojnhecpjnoipaa.Pure
