/- What is proved: for all entries, every interval and every key staddlelaw11.BlockBack answers true. No condition but that the arguments can stand in memory. -/
import Derived.Test.YtppkpleagnddeaaBK
import Derived.Test.YtppkpleagnddeaaQBack
namespace Go.Proofs.Ytppkpleagnddeaa.Pure
open Go.RowKit Go.Proofs.YtppkpleagnddeaaW.PrintWords Go.Proofs.YtppkpleagnddeaaW.PrintLast Go.Proofs.YtppkpleagnddeaaW.PrintMore Go.Proofs.Ytppkpleagnddeaa.P Go.Proofs.Ytppkpleagnddeaa.M Go.Proofs.Ytppkpleagnddeaa.Q Go.Proofs.Ytppkpleagnddeaa.B

theorem BlockBackS (l0 : List S42) (a1 : Int) (q0 : ByteArray) (q1 q2 : Int) (_h0 : l0.length * 48 ≤ 140737488351232) (w0 : ∀ x ∈ l0, (Lit.int .u64 x.f0.f1).wf = true ∧ (Lit.int .i64 x.f0.f2).wf = true ∧ x.f0.f0.size ≤ 9223372036854775807 ∧ x.f1.size ≤ 9223372036854775807) (_w1 : (Lit.int .i64 a1).wf = true)
    (_z : q0.size ≤ 9223372036854775807) (_v1 : (Lit.int .u64 q1).wf = true) (_v2 : (Lit.int .i64 q2).wf = true) : ∃ k, B.Back k l0 a1 ⟨q0, q1, q2⟩ ∧ true = true := by
  have hl := cut_len l0
  have hq : ∀ e ∈ cut l0, 0 ≤ e.f0.f1 := fun e he => (wf_u64 (w0 e (cut_mem he)).1).1
  have hB := Build_ev (cut l0) a1 hl hq
  by_cases hv : (1 ≤ a1 ∧ a1 ≤ 16) ∧ ck none (cut l0) = 0
  · obtain ⟨⟨h1, h16⟩, hc⟩ := hv
    obtain ⟨iv, rfl⟩ : ∃ iv : Nat, a1 = (iv : Int) := ⟨a1.toNat, by omega⟩
    rw [blt_ok (by omega) (by omega) hc] at hB
    obtain ⟨K1, e1⟩ := hB
    obtain ⟨K2, e2⟩ := open_ev iv (by omega) (by omega) (cut l0) hc hq hl
    obtain ⟨K3, e3⟩ := Ev.all (f := fun i k => find_f k (cut l0) iv (rd_T42 (cut l0) (i : Int)).f0) (r := fun i => i) (cut l0).length (fun i hi => by
      have := find_ev (cut l0) iv (rd_T42 (cut l0) (i : Int)).f0 (by omega) (by omega) (by omega) hc
      rw [fi_self (cut l0) hc i hi] at this
      exact this)
    obtain ⟨K4, e4⟩ := find_ev (cut l0) iv ⟨q0, q1, q2⟩ (by omega) (by omega) (by omega) hc
    obtain ⟨s1, s2⟩ := fi_spec (cut l0) ⟨q0, q1, q2⟩
    refine ⟨K1 + K2 + K3 + K4, ⟨lay iv (cut l0), 0, e1 _ (by omega), fun h => absurd rfl h, fun _ => ⟨iv, rfl, e2 _ (by omega), e3 _ (by omega), fi (cut l0) ⟨q0, q1, q2⟩, e4 _ (by omega), fi_le _ _, fun hn => ⟨_, rfl, s2 hn⟩, fun hn => ⟨_, rfl, s1 _ (by omega)⟩⟩⟩, rfl⟩
  · obtain ⟨K1, e1⟩ := hB
    have hb : ∃ e, blt (cut l0) a1 = ([], e) ∧ e ≠ 0 := by
      unfold blt
      by_cases h1 : a1 < 1 ∨ 16 < a1
      · rw [if_pos h1]; exact ⟨1, rfl, by decide⟩
      · rw [if_neg h1]
        by_cases hc : ck none (cut l0) = 0
        · exact absurd ⟨⟨by omega, by omega⟩, hc⟩ hv
        · rw [if_neg hc]; exact ⟨_, rfl, hc⟩
    obtain ⟨e, he, hne⟩ := hb
    rw [he] at e1
    exact ⟨K1, ⟨[], e, e1 _ (Nat.le_refl _), fun _ => rfl, fun h => absurd h hne⟩, rfl⟩
end Go.Proofs.Ytppkpleagnddeaa.Pure
