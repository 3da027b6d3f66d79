/- The row of the statement SstableBuildsSaid, out of its pure statement (YthdemdjobgbpdaaPureSstableBuildsS) and the printed walk. -/
import Derived.Test.YthdemdjobgbpdaaRdKVs
import Derived.Test.YthdemdjobgbpdaaRows
import Derived.Test.YthdemdjobgbpdaaCE
import Derived.Test.YthdemdjobgbpdaaPureSstableBuildsS
import Derived.Test.YthdemdjobgbpdaaRead
import Derived.WalkKit
import Derived.ProofKit
import Derived.OpenShut
import Derived.ShutString
import Derived.ChangeOld
import Derived.Below
import Derived.SizedLaws
import Derived.JoinedCond
import Derived.Deep.CondSized
import Derived.Lib.SmallJoins
namespace Go.Proofs.Ythdemdjobgbpdaa.sstableBuildsS
open Go.ChangeShapes Go.WideShapes Go.ChangeAt Go.RowKit Go.Joins
open Go.ChangeMaps (open_string shut_string)
set_option linter.unusedVariables false
theorem own : ownKnob Try.prog.godebug = none := by kernel_rfl
theorem laidOut : laidOutB Try.prog = true := by kernel_rfl
set_option maxRecDepth 100000 in
set_option maxHeartbeats 1000000 in
theorem lifted (os : Os) (started : os.Started) (H : Type) (enc : TypeId × Value → H) :
    ReturnsInHanded {} Try.checked os 4 .any (Rows.sstableBuildsSpec.pre6 enc Try.prog Try.f4 Rows.sstableBuildsRow.domain false) (Rows.sstableBuildsSpec.post enc Try.prog Try.f4 false true false false) := by
  refine returnsInHanded_of_change_sized (C := Try.checked) own started (by kernel_rfl) Try.func4
    (ChangeSpec.witness6 (enc := enc) (C := Try.checked) false ⟨#[], #[.slice none 0 0, .agg #[.int .i64 0, .int .i64 0, .float .f64 0]], []⟩ 8 (by kernel_rfl) (by kernel_rfl) (by kernel_rfl) (by kernel_rfl)) ?_
  intro W base args ds gs before hval0 hW hcnd hsz0 _
  have hsz : (DataW.weightsEach Try.prog (Try.f4.params.toList ++ Rows.sstableBuildsSpec.plain.varTypes Try.prog) (ds ++ gs)).all (· ≤ reachBytes) = true := hsz0
  have hval : ∀ (j : Nat) t v, Try.f4.params[j]? = some t → args[j]? = some v → Value.okWide Try.prog W .any base t v := hval0
  have hW' := hW
  obtain ⟨p, q, hA0, hV, rfl, hfz, hnd⟩ := hW
  have hA : DataW.TrodAll enc Try.prog W 0 (fun _ => true) true Try.f4.params.toList args.toList ds p := hA0
  rw [Try.params4] at hA hval hsz
  obtain ⟨v0, vs0, d0, ds0, p0, q0, hargs, rfl, rfl, h0, r0⟩ := trodAll_cons hA
  obtain ⟨v1, vs1, d1, ds1, p1, q1, rfl, rfl, rfl, h1, r1⟩ := trodAll_cons r0
  obtain ⟨rfl, rfl, rfl⟩ := trodAll_nil r1
  obtain rfl : args = #[v0, v1] := by cases args; simp_all
  obtain ⟨rfl, rfl⟩ := trodVars_none hV
  obtain ⟨a0, len0, cap0, rfl⟩ := okWide_slice Try.underlying23 (hval 0 23 v0 rfl rfl)
  have k0 := h0
  have lt0 : ∀ x ∈ p0, x.block < W.heap.size := by obtain ⟨m, hm⟩ := k0; exact DataW.trod_lt m _ _ _ hm
  obtain ⟨l0, rfl, hr0, hc0, w0, b0⟩ := Rd.row_kvs Try.underlying23 Try.underlying47 (by kernel_rfl) (by kernel_rfl) (by kernel_rfl) (by kernel_rfl) Try.underlying45 (by kernel_rfl) (by kernel_rfl) Try.underlying9 Try.underlying33 Try.underlying3 Try.underlying9 h0
  have y0 : l0.length * 48 ≤ 140737488351232 := Rd.sized_kvs hsz (j := 0) (t := 23) rfl rfl Try.underlying23 (by kernel_rfl) h0
  have k1 := h1
  have lt1 : ∀ x ∈ p1, x.block < W.heap.size := by obtain ⟨m, hm⟩ := k1; exact DataW.trod_lt m _ _ _ hm
  obtain ⟨c1_0, c1_1, c1_2, y1_0, y1_1, y1_2, m1, rfl, rfl, rfl, g1_0, g1_1, g1_2⟩ := open_agg3 Try.underlying26 (by kernel_rfl) (by kernel_rfl) (hval 1 26 v1 rfl rfl) h1
  obtain ⟨a1_0, e1_0, hd1_0, w1_0⟩ := DataW.trod_int Try.underlying3 g1_0
  simp only [List.cons.injEq, and_true] at e1_0
  subst e1_0 hd1_0
  obtain ⟨a1_1, e1_1, hd1_1, w1_1⟩ := DataW.trod_int Try.underlying3 g1_1
  simp only [List.cons.injEq, and_true] at e1_1
  subst e1_1 hd1_1
  obtain ⟨a1_2, e1_2, hd1_2, w1_2⟩ := Rd.trod_float Try.underlying24 g1_2
  simp only [List.cons.injEq, and_true] at e1_2
  subst e1_2 hd1_2
  clear hA0 hval0 hsz0 hsz
  obtain ⟨k, hf⟩ := Pure.SstableBuildsS l0 a1_0 a1_1 a1_2 (by omega) w0 w1_0 w1_1
  refine (P.staddlelaw12_SstableBuilds.calls k _ _ l0 a1_0 a1_1 a1_2 true W hr0 hc0 hf).mono fun e W' ⟨he, hd⟩ => ?_
  have bel : Below W.heap.size W W' := hd
  subst he
  exact ⟨_, rfl, _, _, _, [], _, [], hW', trodAll_mk1 (shut_bool Try.underlying4 _), (trodAll_cons_mk (Below.trod laidOut (by kernel_rfl) (of_decide_eq_true (by kernel_rfl)) k0 bel lt0) (trodAll_cons_mk (Below.trod laidOut (by kernel_rfl) (of_decide_eq_true (by kernel_rfl)) k1 bel lt1) trodAll_mk0)), rfl, bel.frame _, fun h => by cases h⟩
theorem proved : Rows.SstableBuildsSaid :=
  OpenClaim.holds_of_wide 4 Try.f4 rfl rfl rfl rfl rfl rfl rfl ⟨rfl, rfl, rfl, rfl, rfl⟩ rfl rfl rfl rfl rfl (by kernel_rfl) Try.func4 (by kernel_rfl)
    (of_decide_eq_true (by kernel_rfl)) (by unfold Func.isWrapper; first | (rw [if_pos (by decide +kernel)]; kernel_rfl) | (rw [if_neg (by decide +kernel)]; exact ⟨rfl, rfl⟩))
    (fun os started H enc _ => lifted os started H enc)
#print axioms proved
end Go.Proofs.Ythdemdjobgbpdaa.sstableBuildsS
namespace Go.Proofs.Ythdemdjobgbpdaa
theorem sstableBuilds_holds : Rows.SstableBuildsSaid := sstableBuildsS.proved
end Go.Proofs.Ythdemdjobgbpdaa
