/- What is proved: for all entries and every interval staddlelaw11.BlockBuilds answers true. No condition but that the arguments can stand in memory. -/
import Derived.Test.YtppkpleagnddeaaP17
import Derived.Test.YtppkpleagnddeaaQA
namespace Go.Proofs.Ytppkpleagnddeaa.Pure
open Go.RowKit Go.Proofs.YtppkpleagnddeaaW.PrintWords Go.Proofs.YtppkpleagnddeaaW.PrintLast Go.Proofs.YtppkpleagnddeaaW.PrintMore Go.Proofs.Ytppkpleagnddeaa.P Go.Proofs.Ytppkpleagnddeaa.M Go.Proofs.Ytppkpleagnddeaa.Q

theorem BlockBuildsS (l0 : List S42) (a1 : Int) (h0 : l0.length * 48 ≤ 140737488351232) (w0 : ∀ x ∈ l0, (Lit.int .u64 x.f0.f1).wf = true ∧ (Lit.int .i64 x.f0.f2).wf = true ∧ x.f0.f0.size ≤ 9223372036854775807 ∧ x.f1.size ≤ 9223372036854775807) (w1 : (Lit.int .i64 a1).wf = true) :
    ∃ k, staddlelaw11_BlockBuilds.f k l0 a1 = some true := by
  have main : ∀ l : List S42, l.length ≤ 1000 → (∀ x ∈ l, x ∈ l0) → Ev (fun k => ((some (([] : List (S42)) : List (S42))).bind fun y333 => (if y333.length + l.length < 2932031007402 then ((some (y333 ++ l : List (S42))).bind fun y336 => ((block_Build.f k y336 a1).bind fun bt339 => ((staddleref11_Build.f k l a1).bind fun bt343 => ((staddleref08_Same.f k y336 l).bind fun t347 => (if (true : Bool) = true then (if t347 = true then (if (strOfNums bt339.1).toList = (strOfNums bt343.1).toList then (some (bt339.2 == bt343.2)) else (some false)) else (some false)) else (some false)))))) else (none)))) true := by
    intro l hl hm
    have hq : ∀ e ∈ l, 0 ≤ e.f0.f1 := fun e he => (wf_u64 (w0 e (hm e he)).1).1
    refine Ev.some_ (Ev.ifT (by simp only [List.length_nil]; omega) (Ev.some_ ?_))
    rw [List.nil_append]
    refine Ev.bind (Build_ev l a1 hl hq) (Ev.bind (refBuild_ev l a1 hl hq) (Ev.bind (Same_ev l (by omega)) ?_))
    refine Ev.ifT rfl (Ev.ifT rfl (Ev.ifT rfl ?_))
    rw [beq_self_eq_true]
    exact Ev.now _
  have h : Ev (fun k => staddlelaw11_BlockBuilds.f k l0 a1) true := by
    unfold staddlelaw11_BlockBuilds.f
    refine Ev.bind (a := true) (Ev.now _) ?_
    by_cases h1000 : (l0.length : Int) > 1000
    · refine Ev.ifT h1000 (Ev.ifT (by omega) (Ev.some_ ?_))
      exact main (l0.take 1000) (by rw [List.length_take]; omega) (fun x hx => List.mem_of_mem_take hx)
    · exact Ev.ifF h1000 (main l0 (by omega) (fun x hx => hx))
  exact h.rounds
end Go.Proofs.Ytppkpleagnddeaa.Pure
