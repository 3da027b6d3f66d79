/- The row of the statement BlockIntervalsSaid, out of its pure statement (YtppkpleagnddeaaPureBlockIntervalsS) and the printed walk. -/
import Derived.Test.YtppkpleagnddeaaRdKVs
import Derived.Test.YtppkpleagnddeaaRows
import Derived.Test.YtppkpleagnddeaaBI
import Derived.Test.YtppkpleagnddeaaPureBlockIntervalsS
import Derived.Test.YtppkpleagnddeaaRead
import Derived.WalkKit
import Derived.ProofKit
import Derived.OpenShut
import Derived.ShutString
import Derived.ChangeOld
import Derived.Below
import Derived.SizedLaws
import Derived.JoinedCond
import Derived.Deep.CondSized
import Derived.Lib.SmallJoins
namespace Go.Proofs.Ytppkpleagnddeaa.blockIntervalsS
open Go.ChangeShapes Go.WideShapes Go.ChangeAt Go.RowKit Go.Joins
open Go.ChangeMaps (open_string shut_string)
set_option linter.unusedVariables false
theorem own : ownKnob Try.prog.godebug = none := by kernel_rfl
theorem laidOut : laidOutB Try.prog = true := by kernel_rfl
set_option maxRecDepth 100000 in
set_option maxHeartbeats 1000000 in
theorem lifted (os : Os) (started : os.Started) (H : Type) (enc : TypeId × Value → H) :
    ReturnsInHanded {} Try.checked os 9 .any (Rows.blockIntervalsSpec.pre6 enc Try.prog Try.f9 Rows.blockIntervalsRow.domain false) (Rows.blockIntervalsSpec.post enc Try.prog Try.f9 false true false false) := by
  refine returnsInHanded_of_change_sized (C := Try.checked) own started (by kernel_rfl) Try.func9
    (ChangeSpec.witness6 (enc := enc) (C := Try.checked) false ⟨#[], #[.slice none 0 0, .int .i64 0, .int .i64 0, .agg #[.string ByteArray.empty, .int .u64 0, .int .i64 0]], []⟩ 8 (by kernel_rfl) (by kernel_rfl) (by kernel_rfl) (by kernel_rfl)) ?_
  intro W base args ds gs before hval0 hW hcnd hsz0 _
  have hsz : (DataW.weightsEach Try.prog (Try.f9.params.toList ++ Rows.blockIntervalsSpec.plain.varTypes Try.prog) (ds ++ gs)).all (· ≤ reachBytes) = true := hsz0
  have hval : ∀ (j : Nat) t v, Try.f9.params[j]? = some t → args[j]? = some v → Value.okWide Try.prog W .any base t v := hval0
  have hW' := hW
  obtain ⟨p, q, hA0, hV, rfl, hfz, hnd⟩ := hW
  have hA : DataW.TrodAll enc Try.prog W 0 (fun _ => true) true Try.f9.params.toList args.toList ds p := hA0
  rw [Try.params9] at hA hval hsz
  obtain ⟨v0, vs0, d0, ds0, p0, q0, hargs, rfl, rfl, h0, r0⟩ := trodAll_cons hA
  obtain ⟨v1, vs1, d1, ds1, p1, q1, rfl, rfl, rfl, h1, r1⟩ := trodAll_cons r0
  obtain ⟨v2, vs2, d2, ds2, p2, q2, rfl, rfl, rfl, h2, r2⟩ := trodAll_cons r1
  obtain ⟨v3, vs3, d3, ds3, p3, q3, rfl, rfl, rfl, h3, r3⟩ := trodAll_cons r2
  obtain ⟨rfl, rfl, rfl⟩ := trodAll_nil r3
  obtain rfl : args = #[v0, v1, v2, v3] := by cases args; simp_all
  obtain ⟨rfl, rfl⟩ := trodVars_none hV
  obtain ⟨a0, len0, cap0, rfl⟩ := okWide_slice Try.underlying23 (hval 0 23 v0 rfl rfl)
  have k0 := h0
  have lt0 : ∀ x ∈ p0, x.block < W.heap.size := by obtain ⟨m, hm⟩ := k0; exact DataW.trod_lt m _ _ _ hm
  obtain ⟨l0, rfl, hr0, hc0, w0, b0⟩ := Rd.row_kvs Try.underlying23 Try.underlying42 (by kernel_rfl) (by kernel_rfl) (by kernel_rfl) (by kernel_rfl) Try.underlying32 (by kernel_rfl) (by kernel_rfl) Try.underlying9 Try.underlying30 Try.underlying3 Try.underlying9 h0
  have y0 : l0.length * 48 ≤ 140737488351232 := Rd.sized_kvs hsz (j := 0) (t := 23) rfl rfl Try.underlying23 (by kernel_rfl) h0
  obtain ⟨a1, rfl, rfl, rfl, w1⟩ := open_int Try.underlying3 (hval 1 3 v1 rfl rfl) h1
  obtain ⟨a2, rfl, rfl, rfl, w2⟩ := open_int Try.underlying3 (hval 2 3 v2 rfl rfl) h2
  have k3 := h3
  have lt3 : ∀ x ∈ p3, x.block < W.heap.size := by obtain ⟨m, hm⟩ := k3; exact DataW.trod_lt m _ _ _ hm
  obtain ⟨c3_0, c3_1, c3_2, y3_0, y3_1, y3_2, m3, rfl, rfl, rfl, g3_0, g3_1, g3_2⟩ := open_agg3 Try.underlying32 (by kernel_rfl) (by kernel_rfl) (hval 3 32 v3 rfl rfl) h3
  obtain ⟨a3_0, e3_0, hd3_0, z3_0⟩ := DataW.trod_string Try.underlying9 g3_0
  simp only [List.cons.injEq, and_true] at e3_0
  subst e3_0 hd3_0
  have b3_0 := Rd.str_bulk (H := H) a3_0
  have z3_0 : a3_0.size ≤ 9223372036854775807 := z3_0
  obtain ⟨a3_1, e3_1, hd3_1, w3_1⟩ := DataW.trod_int Try.underlying30 g3_1
  simp only [List.cons.injEq, and_true] at e3_1
  subst e3_1 hd3_1
  obtain ⟨a3_2, e3_2, hd3_2, w3_2⟩ := DataW.trod_int Try.underlying3 g3_2
  simp only [List.cons.injEq, and_true] at e3_2
  subst e3_2 hd3_2
  clear hA0 hval0 hsz0 hsz
  obtain ⟨k, hf⟩ := Pure.BlockIntervalsS l0 a1 a2 a3_0 a3_1 a3_2 (by omega) w0 w1 w2 z3_0 w3_1 w3_2
  refine (P.staddlelaw11_BlockIntervals.calls k _ _ l0 a1 a2 a3_0 a3_1 a3_2 true W hr0 hc0 hf).mono fun e W' ⟨he, hd⟩ => ?_
  have bel : Below W.heap.size W W' := hd
  subst he
  exact ⟨_, rfl, _, _, _, [], _, [], hW', trodAll_mk1 (shut_bool Try.underlying4 _), (trodAll_cons_mk (Below.trod laidOut (by kernel_rfl) (of_decide_eq_true (by kernel_rfl)) k0 bel lt0) (trodAll_cons_mk (shut_int Try.underlying3 w1) (trodAll_cons_mk (shut_int Try.underlying3 w2) (trodAll_cons_mk (Below.trod laidOut (by kernel_rfl) (of_decide_eq_true (by kernel_rfl)) k3 bel lt3) trodAll_mk0)))), rfl, bel.frame _, fun h => by cases h⟩
theorem proved : Rows.BlockIntervalsSaid :=
  OpenClaim.holds_of_wide 9 Try.f9 rfl rfl rfl rfl rfl rfl rfl ⟨rfl, rfl, rfl, rfl, rfl⟩ rfl rfl rfl rfl rfl (by kernel_rfl) Try.func9 (by kernel_rfl)
    (of_decide_eq_true (by kernel_rfl)) (by unfold Func.isWrapper; first | (rw [if_pos (by decide +kernel)]; kernel_rfl) | (rw [if_neg (by decide +kernel)]; exact ⟨rfl, rfl⟩))
    (fun os started H enc _ => lifted os started H enc)
#print axioms proved
end Go.Proofs.Ytppkpleagnddeaa.blockIntervalsS
namespace Go.Proofs.Ytppkpleagnddeaa
theorem blockIntervals_holds : Rows.BlockIntervalsSaid := blockIntervalsS.proved
end Go.Proofs.Ytppkpleagnddeaa
