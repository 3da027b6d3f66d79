/- What is proved: for all bytes staddlelaw03.BatchReads answers true. No condition but that the argument can stand in memory. -/
import Derived.Test.YtojnhecpjnoipaaP15
import Derived.Test.YtojnhecpjnoipaaQBatchDec
import Derived.Test.YtojnhecpjnoipaaQAwake03
namespace Go.Proofs.Ytojnhecpjnoipaa.Pure
open Go.RowKit Go.Proofs.YtojnhecpjnoipaaW.PrintWords Go.Proofs.YtojnhecpjnoipaaW.PrintLast Go.Proofs.YtojnhecpjnoipaaW.PrintMore Go.Proofs.Ytojnhecpjnoipaa.P Go.Proofs.Ytojnhecpjnoipaa.M Go.Proofs.Ytojnhecpjnoipaa.Q

theorem D_few (b : List Int) (hb : IsB b) : (D b).2.1.length ≤ 64 := by
  rcases D_cases b hb with h | ⟨q, xs, _, _, hc, _, h⟩
  · rw [h]; decide
  · rw [h]; exact (chk_zero hc).1
theorem reads_l0 (b : List Int) (hb : IsB b) (hl : b.length ≤ 140737488355328) : ∀ (d i : Nat) (x4 : List Int), i + d = x4.length → x4.length ≤ 140737488355328 →
    Ev (fun k => staddlelaw03_BatchReads.l0 k b true x4 (D b).1 (D b).2.1 (D b).2.2 (i : Int)) true
  | 0, i, x4, hi, hx => by
    refine Ev.step (f := fun k => (staddleref03_Decode.f k b).bind fun bt => ((staddleref03_Same.f k (D b).2.1 bt.2.1).bind fun t => (if true = true then (if (D b).1 = bt.1 then (if t = true then (some ((D b).2.2 == bt.2.2)) else (some false)) else (some false)) else (some false)))) (fun k => ?_) ?_
    · simp only [staddlelaw03_BatchReads.l0]
      rw [if_neg (by omega)]
    · refine Ev.bind (ref_D b hb hl) (Ev.bind (Same_ev _ (by have := D_few b hb; omega)) ?_)
      refine Ev.ifT rfl (Ev.ifT rfl (Ev.ifT rfl ?_))
      rw [beq_self_eq_true]
      exact Ev.now _
  | d + 1, i, x4, hi, hx => by
    refine Ev.step (fun k => ?_) (reads_l0 b hb hl d (i + 1) (x4.set i 99) (by rw [List.length_set]; omega) (by rw [List.length_set]; omega))
    simp only [staddlelaw03_BatchReads.l0]
    rw [if_pos (by omega), if_pos (by omega), Int.toNat_natCast, wadd1 i (by omega)]
theorem BatchReadsS (l0 : List Int) (h0 : l0.length * 1 ≤ 140737488351232) (w0 : ∀ x ∈ l0, (Lit.int .u8 x).wf = true) : ∃ k, staddlelaw03_BatchReads.f k l0 = some true := by
  have hb := IsB.of_wf w0
  have h : Ev (fun k => staddlelaw03_BatchReads.f k l0) true := by
    unfold staddlelaw03_BatchReads.f
    refine Ev.bind awake_ev (Ev.some_ (Ev.ifT (by simp only [List.length_nil]; omega) (Ev.some_ ?_)))
    rw [List.nil_append]
    exact Ev.bind (real_D l0 hb (by omega)) (reads_l0 l0 hb (by omega) l0.length 0 l0 (by omega) (by omega))
  exact h.rounds
end Go.Proofs.Ytojnhecpjnoipaa.Pure
