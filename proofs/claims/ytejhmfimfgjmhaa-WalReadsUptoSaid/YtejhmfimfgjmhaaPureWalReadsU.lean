/- What is proved: for all bytes of at most a million staddlelaw09.WalReads answers true. -/
import Derived.Test.YtejhmfimfgjmhaaP13
import Derived.Test.YtejhmfimfgjmhaaQWalRefRead
import Derived.Test.YtejhmfimfgjmhaaQAwake09
namespace Go.Proofs.Ytejhmfimfgjmhaa.Pure
open Go.RowKit Go.Proofs.YtejhmfimfgjmhaaW.PrintWords Go.Proofs.YtejhmfimfgjmhaaW.PrintLast Go.Proofs.YtejhmfimfgjmhaaW.PrintMore Go.Proofs.Ytejhmfimfgjmhaa.P Go.Proofs.Ytejhmfimfgjmhaa.M Go.Proofs.Ytejhmfimfgjmhaa.Q
theorem reads_l0 (b : List Int) (hb : IsB b) (hl : b.length ≤ 1048576) : ∀ (d i : Nat) (x4 : List Int), i + d = x4.length → x4.length ≤ 1048576 →
    Ev (fun k => staddlelaw09_WalReads.l0 k b true x4 (readB b).1 ((readB b).2.1 : Int) ((readB b).2.2 : Int) (i : Int)) true
  | 0, i, x4, hi, hx => by
    have hf := readB_few b hb
    refine Ev.step (f := fun k => ((staddleref09_Read.f k b).bind fun bt311 => ((staddleref09_Same.f k (readB b).1 bt311.1).bind fun t316 => (if true = true then (if t316 = true then (if ((readB b).2.1 : Int) = bt311.2.1 then (some (((readB b).2.2 : Int) == bt311.2.2)) else (some false)) else (some false)) else (some false))))) (fun k => ?_) ?_
    · simp only [staddlelaw09_WalReads.l0]
      rw [if_neg (by omega)]
    · refine Ev.bind (refRead_ev b hb (by omega) (by omega)) (Ev.bind (Same_refl _ (by omega)) (Ev.ifT rfl (Ev.ifT rfl (Ev.ifT rfl ?_))))
      rw [beq_self_eq_true]
      exact Ev.now _
  | d + 1, i, x4, hi, hx => by
    refine Ev.step (fun k => ?_) (reads_l0 b hb hl d (i + 1) (x4.set i 99) (by rw [List.length_set]; omega) (by rw [List.length_set]; omega))
    simp only [staddlelaw09_WalReads.l0]
    rw [if_pos (by omega), if_pos (by omega), Int.toNat_natCast, rw_a1 i (by omega)]
theorem WalReadsU (l0 : List Int) (h0 : l0.length ≤ 1048576) (w0 : ∀ x ∈ l0, (Lit.int .u8 x).wf = true) : ∃ k, staddlelaw09_WalReads.f k l0 = some true := by
  have hb := IsB.of_wf w0
  have hf := readB_few l0 hb
  have h : Ev (fun k => staddlelaw09_WalReads.f k l0) true := by
    unfold staddlelaw09_WalReads.f
    refine Ev.bind awake_ev (Ev.some_ (Ev.ifT (by simp only [List.length_nil]; omega) (Ev.some_ ?_)))
    rw [List.nil_append]
    exact Ev.bind (Read_ev l0 hb (by omega) (by omega)) (reads_l0 l0 hb (by omega) l0.length 0 l0 (by omega) (by omega))
  exact h.rounds
end Go.Proofs.Ytejhmfimfgjmhaa.Pure
