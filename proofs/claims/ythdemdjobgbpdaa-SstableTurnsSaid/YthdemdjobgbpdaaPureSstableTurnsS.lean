/- What is proved: for all entries, all options, every bit, every user's key and every number staddlelaw12.SstableTurns answers true. No condition but that the arguments can stand in memory. -/
import Derived.Test.YthdemdjobgbpdaaQN
namespace Go.Proofs.Ythdemdjobgbpdaa.Pure
open Go.RowKit Go.Proofs.YthdemdjobgbpdaaW.PrintWords Go.Proofs.YthdemdjobgbpdaaW.PrintLast Go.Proofs.YthdemdjobgbpdaaW.PrintMore Go.Proofs.Ythdemdjobgbpdaa.P Go.Proofs.Ythdemdjobgbpdaa.M Go.Proofs.Ythdemdjobgbpdaa.Q Go.Proofs.Ythdemdjobgbpdaa.B
theorem SstableTurnsS (l0 : List S47) (a1_0 a1_1 : Int) (a1_2 : Nat) (a2 : Int) (a3 : ByteArray) (a4 : Int) (_h0 : l0.length * 48 ≤ 140737488351232) (w0 : ∀ x ∈ l0, (Lit.int .u64 x.f0.f1).wf = true ∧ (Lit.int .i64 x.f0.f2).wf = true ∧ x.f0.f0.size ≤ 9223372036854775807 ∧ x.f1.size ≤ 9223372036854775807)
    (_w1 : (Lit.int .i64 a1_0).wf = true) (_w2 : (Lit.int .i64 a1_1).wf = true) (w2 : (Lit.int .i64 a2).wf = true) (h3 : a3.size ≤ 9223372036854775807) (_w4 : (Lit.int .u64 a4).wf = true) : ∃ k, T.Turns k l0 a1_0 a1_1 a1_2 a2 a3 a4 ∧ true = true := by
  obtain ⟨k, hk⟩ := turns_ev l0 a1_0 a1_1 a1_2 a2 a3 a4 (fun e he => (wf_u64 (w0 e he).1).1) (fun e he => (w0 e he).2.2.1) h3 (wf_i64 w2)
  exact ⟨k, hk, rfl⟩
end Go.Proofs.Ythdemdjobgbpdaa.Pure
