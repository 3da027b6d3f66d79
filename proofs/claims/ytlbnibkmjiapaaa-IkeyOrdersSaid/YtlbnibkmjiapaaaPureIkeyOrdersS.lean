/- What is proved: staddlelaw02.IkeyOrders answers true for all inputs (strings at most 2^63 - 1 bytes long, bytes at most 2^47). -/
import Derived.Test.YtlbnibkmjiapaaaP14
import Derived.Test.YtlbnibkmjiapaaaQIkeyLaw
import Derived.Test.YtlbnibkmjiapaaaQIkeyStr
set_option linter.unusedVariables false
namespace Go.Proofs.Ytlbnibkmjiapaaa.Pure
open Go.RowKit Go.Proofs.Ytlbnibkmjiapaaa.P Go.Proofs.YtlbnibkmjiapaaaW.PrintWords Go.Proofs.YtlbnibkmjiapaaaW.PrintMore Go.Proofs.Ytlbnibkmjiapaaa.Q Go.Proofs.Ytlbnibkmjiapaaa.M
theorem IkeyOrdersS (s1 : ByteArray) (q1 d1 : Int) (s2 : ByteArray) (q2 d2 : Int) (hs1 : s1.size ≤ 9223372036854775807) (wq1 : (Lit.int .u64 q1).wf = true) (wd1 : (Lit.int .i64 d1).wf = true) (hs2 : s2.size ≤ 9223372036854775807) (wq2 : (Lit.int .u64 q2).wf = true) (wd2 : (Lit.int .i64 d2).wf = true) :
    ∃ k, staddlelaw02_IkeyOrders.f k s1 q1 d1 s2 q2 d2 = some true := by
  have h : Ev (fun k => staddlelaw02_IkeyOrders.f k s1 q1 d1 s2 q2 d2) true := by
    unfold staddlelaw02_IkeyOrders.f
    refine Ev.bind awake_ev ?_
    simp only [if_true, Compare_eq, Option.bind_some]
    refine Ev.bind (refCompare_ev s1 q1 d1 s2 q2 d2) ?_
    simp only [if_true]
    refine Ev.bind (Between_ev s1 s2 hs1 hs2) (Ev.bind (refBetween_ev s1 s2 hs1 hs2) ?_)
    simp only [if_true]
    refine Ev.bind (Behind_ev s1 hs1) (Ev.bind (refBehind_ev s1 hs1) ?_)
    simpa using Ev.now true
  exact h.rounds
end Go.Proofs.Ytlbnibkmjiapaaa.Pure
