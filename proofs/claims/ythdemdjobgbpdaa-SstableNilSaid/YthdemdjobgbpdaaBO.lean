/- block's Open, where read finds nothing amiss. -/
import Derived.Test.YthdemdjobgbpdaaBR
import Derived.Test.YthdemdjobgbpdaaP8
import Derived.Test.YthdemdjobgbpdaaP13
import Derived.Defers
namespace Go.Proofs.Ythdemdjobgbpdaa.B
open Go.RowKit Go.Proofs.YthdemdjobgbpdaaW.PrintWords Go.Proofs.YthdemdjobgbpdaaW.PrintLast Go.Proofs.YthdemdjobgbpdaaW.PrintMore Go.Proofs.Ythdemdjobgbpdaa.P
set_option linter.unusedVariables false
set_option linter.unusedSimpArgs false
theorem assert_nil (W : World) : (Instr.typeAssert .nilIface 20 103 true).run Try.prog W = .ok (.tuple #[.agg #[], .bool false]) W := by
  have hu : Try.prog.underlying 103 = some (.struct #[]) := by kernel_rfl
  obtain ⟨i, hi, hz⟩ := Option.map_eq_some_iff.1 (show (Try.prog.info? 103).map (·.zero) = some (some (.agg #[])) from by kernel_rfl)
  simp [Instr.typeAssert, run_underlying hu, zeroValue, typeInfo, hi, hz]
set_option maxHeartbeats 1000000 in
set_option maxRecDepth 100000 in
/-- the deferred closure, where nothing is to be recovered -/
theorem catch_idle (a b : Addr) (w : World) :
    CallsD Try.prog 56 #[.pointer (some a), .pointer (some b)] .returning w fun e u' w' => e = .returned (.tuple #[]) ∧ u' = .returning ∧ Below w.heap.size w w' := by
  refine callsD_of_wpS Try.func56 rfl fun c₀ cs hu => ?_
  apply wpS_seq
  apply wpS_region
  simp [wpOpsS, go_sem, recoverD, hu, Try.ntmps56, Exit.thenS]
  refine wpS_of_wp ?_
  have hta := assert_nil
  go_wp2
  have hB : Below w.heap.size w (w.alloc (Obj.cells #[] 103)) := below_alloc (Below.refl _ _) _
  cases c₀
  simp_all [bodyPostS, results, Try.results56]
def open_f (k : Nat) (b : List Int) : Option (Option (List S47 × Int)) :=
  (read_f k b).bind fun x => (block_Build.f k x.1 x.2).bind fun y => if y.2 = 0 then (bytes_Equal.f y.1 b).bind fun q => if q = true then some (some x) else some none else some none
end Go.Proofs.Ythdemdjobgbpdaa.B
