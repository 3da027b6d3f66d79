/- What is proved: for all entries and all options staddlelaw12.SstableBuilds answers true: any entries, with any options, are laid as the document says, or refused, and stay as they were. No condition but that the arguments can stand in memory. -/
import Derived.Test.YthdemdjobgbpdaaCE
namespace Go.Proofs.Ythdemdjobgbpdaa.Pure
open Go.RowKit Go.Proofs.YthdemdjobgbpdaaW.PrintWords Go.Proofs.YthdemdjobgbpdaaW.PrintLast Go.Proofs.YthdemdjobgbpdaaW.PrintMore Go.Proofs.Ythdemdjobgbpdaa.P Go.Proofs.Ythdemdjobgbpdaa.M Go.Proofs.Ythdemdjobgbpdaa.Q Go.Proofs.Ythdemdjobgbpdaa.B
theorem SstableBuildsS (l0 : List S47) (a1_0 a1_1 : Int) (a1_2 : Nat) (_h0 : l0.length * 48 ≤ 140737488351232) (w0 : ∀ x ∈ l0, (Lit.int .u64 x.f0.f1).wf = true ∧ (Lit.int .i64 x.f0.f2).wf = true ∧ x.f0.f0.size ≤ 9223372036854775807 ∧ x.f1.size ≤ 9223372036854775807)
    (_w1 : (Lit.int .i64 a1_0).wf = true) (_w2 : (Lit.int .i64 a1_1).wf = true) : ∃ k, T.Builds k l0 a1_0 a1_1 a1_2 ∧ true = true := by
  obtain ⟨k, hk⟩ := builds_ev l0 a1_0 a1_1 a1_2 (fun e he => (wf_u64 (w0 e he).1).1) (fun e he => (w0 e he).2.2.1)
  exact ⟨k, hk, rfl⟩
end Go.Proofs.Ythdemdjobgbpdaa.Pure
