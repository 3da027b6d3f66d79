/- What is proved: for every edit staddlelaw13.EditLays answers true. No condition but that the argument can stand in memory. -/
import Derived.Test.YthkkbgehmiobaaaP22
import Derived.Test.YthkkbgehmiobaaaQA
import Derived.Test.YthkkbgehmiobaaaQR
import Derived.Test.YthkkbgehmiobaaaRdEdit
namespace Go.Proofs.Ythkkbgehmiobaaa.Pure
open Go.RowKit Go.Proofs.YthkkbgehmiobaaaW.PrintWords Go.Proofs.YthkkbgehmiobaaaW.PrintLast Go.Proofs.YthkkbgehmiobaaaW.PrintMore Go.Proofs.Ythkkbgehmiobaaa.P Go.Proofs.Ythkkbgehmiobaaa.M Go.Proofs.Ythkkbgehmiobaaa.Q
theorem KW_of {L : List S44} (h : ∀ x ∈ L, Rd.wfF x) : KW L := fun x hx => ⟨(wf_u64 (h x hx).2.2.2.1.1).1, (wf_u64 (h x hx).2.2.2.2.1).1⟩
theorem EditLaysS (a b c : Int) (D : List S40) (L : List S44) (hw : (Lit.int .u64 a).wf = true ∧ (Lit.int .u64 b).wf = true ∧ (Lit.int .u64 c).wf = true ∧ (∀ x ∈ D, (Lit.int .i64 x.f0).wf = true ∧ (Lit.int .u64 x.f1).wf = true) ∧ (∀ x ∈ L, Rd.wfF x)) (hD : D.length * 16 ≤ 140737488351232) (hL : L.length * 88 ≤ 140737488351232) :
    ∃ k, staddlelaw13_EditLays.f k a b c D L = some true := by
  have a0 := (wf_u64 hw.1).1
  have b0 := (wf_u64 hw.2.1).1
  have c0 := (wf_u64 hw.2.2.1).1
  have kw := KW_of hw.2.2.2.2
  have hE : Ev (fun k => edit_Encode.f k a b c D L) (eblt a b c D L) := Enc_ev a b c D L a0 b0 c0 kw
  have h : Ev (fun k => staddlelaw13_EditLays.f k a b c D L) true := by
    unfold staddlelaw13_EditLays.f
    refine Ev.bind (a := true) (Ev.now _) ?_
    refine Ev.some_ (Ev.ifT (by simp only [List.length_nil]; omega) (Ev.some_ ?_))
    rw [List.nil_append]
    refine Ev.some_ (Ev.ifT (by simp only [List.length_nil]; omega) (Ev.some_ ?_))
    rw [List.nil_append]
    refine Ev.bind hE (Ev.bind (refEnc_ev a b c D L a0 b0 c0 kw) (Ev.bind (Same_ev a b c D L (by omega) (by omega)) ?_))
    refine Ev.ifT rfl (Ev.ifT rfl (Ev.ifT rfl (Ev.ifT rfl ?_)))
    refine Ev.bind (ECheck_ev a b c D L) (Ev.bind (refECheck_ev a b c D L) ?_)
    rw [beq_self_eq_true]
    exact Ev.now _
  exact h.rounds
end Go.Proofs.Ythkkbgehmiobaaa.Pure
