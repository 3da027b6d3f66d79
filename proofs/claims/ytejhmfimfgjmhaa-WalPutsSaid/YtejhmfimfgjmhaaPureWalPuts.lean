/- What is proved: for every place and record staddlelaw09.WalPuts answers true. No condition but that the record can stand in memory. -/
import Derived.Test.YtejhmfimfgjmhaaP11
import Derived.Test.YtejhmfimfgjmhaaQWalRefPut
import Derived.Test.YtejhmfimfgjmhaaQAwake09
namespace Go.Proofs.Ytejhmfimfgjmhaa.Pure
open Go.RowKit Go.Proofs.YtejhmfimfgjmhaaW.PrintWords Go.Proofs.YtejhmfimfgjmhaaW.PrintLast Go.Proofs.YtejhmfimfgjmhaaW.PrintMore Go.Proofs.Ytejhmfimfgjmhaa.P Go.Proofs.Ytejhmfimfgjmhaa.M Go.Proofs.Ytejhmfimfgjmhaa.Q
theorem WalPuts : staddlelaw09_WalPuts.Pure := by
  intro a l _ _ hl hw
  have hb := IsB.of_wf hw
  have h : Ev (fun k => staddlelaw09_WalPuts.f k a l) true := by
    unfold staddlelaw09_WalPuts.f
    refine Ev.bind awake_ev (Ev.some_ (Ev.ifT (by simp only [List.length_nil]; omega) (Ev.some_ ?_)))
    rw [List.nil_append]
    by_cases ha : a < 0
    · refine Ev.bind (Put_neg a l ha) (Ev.bind (refPut_neg a l ha) (Ev.ifT rfl (Ev.ifT rfl (Ev.ifT rfl ?_))))
      rw [beq_self_eq_true]
      exact Ev.now _
    · by_cases hl2 : 131072 < l.length
      · refine Ev.bind (Put_long a l (by omega) hl2) (Ev.bind (refPut_long a l (by omega) hl2) (Ev.ifT rfl (Ev.ifT rfl (Ev.ifT rfl ?_))))
        rw [beq_self_eq_true]
        exact Ev.now _
      · refine Ev.bind (Put_ev a l (by omega) hb (by omega)) (Ev.bind (refPut_ev a l (by omega) hb (by omega)) (Ev.ifT rfl (Ev.ifT rfl (Ev.ifT rfl ?_))))
        rw [beq_self_eq_true]
        exact Ev.now _
  exact h.rounds
end Go.Proofs.Ytejhmfimfgjmhaa.Pure
