/- What is proved: for all bytes staddlelaw13.EditReads answers true. No condition but that the argument can stand in memory. -/
import Derived.Test.YthkkbgehmiobaaaEH
import Derived.Test.YthkkbgehmiobaaaQDecR
namespace Go.Proofs.Ythkkbgehmiobaaa.Pure
open Go.RowKit Go.Proofs.YthkkbgehmiobaaaW.PrintWords Go.Proofs.YthkkbgehmiobaaaW.PrintLast Go.Proofs.YthkkbgehmiobaaaW.PrintMore Go.Proofs.Ythkkbgehmiobaaa.P Go.Proofs.Ythkkbgehmiobaaa.M Go.Proofs.Ythkkbgehmiobaaa.Q Go.Proofs.Ythkkbgehmiobaaa.E
theorem EditReadsS (b : List Int) (hl : b.length ≤ 140737488351232) (wb : ∀ x ∈ b, (Lit.int .u8 x).wf = true) : ∃ k, Reads k b ∧ true = true := by
  have hb := IsB.of_wf wb
  obtain ⟨K1, e1⟩ := dec_ev b hb hl
  obtain ⟨K2, e2⟩ := rdec_all b hb hl
  have hlen : (edOf (decd b)).ds.length ≤ 20000 ∧ (edOf (decd b)).fs.length ≤ 100 := by
    cases h : decd b with
    | none => exact ⟨by decide, by decide⟩
    | some x =>
      have hz := eck_zero (decd_some h).2.1
      exact ⟨hz.1, hz.2.1⟩
  obtain ⟨K3, e3⟩ := Same_ev (edOf (decd b)).l0 (edOf (decd b)).l1 (edOf (decd b)).l2 (edOf (decd b)).ds (edOf (decd b)).fs (by omega) (by omega)
  exact ⟨K1 + K2 + K3, ⟨by omega, decd b, e1 _ (by omega), e2 _ (by omega), e3 _ (by omega)⟩, rfl⟩
end Go.Proofs.Ythkkbgehmiobaaa.Pure
