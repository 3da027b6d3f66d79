/- The row of the statement BlockBackSaid, out of its pure statement (YtppkpleagnddeaaPureBlockBackS) and the printed walk. -/
import Derived.Test.YtppkpleagnddeaaRdKVs
import Derived.Test.YtppkpleagnddeaaRows
import Derived.Test.YtppkpleagnddeaaBK
import Derived.Test.YtppkpleagnddeaaPureBlockBackS
import Derived.Test.YtppkpleagnddeaaRead
import Derived.WalkKit
import Derived.ProofKit
import Derived.OpenShut
import Derived.ShutString
import Derived.ChangeOld
import Derived.Below
import Derived.SizedLaws
import Derived.JoinedCond
import Derived.Deep.CondSized
import Derived.Lib.SmallJoins
namespace Go.Proofs.Ytppkpleagnddeaa.blockBackS
open Go.ChangeShapes Go.WideShapes Go.ChangeAt Go.RowKit Go.Joins
open Go.ChangeMaps (open_string shut_string)
set_option linter.unusedVariables false
theorem own : ownKnob Try.prog.godebug = none := by kernel_rfl
theorem laidOut : laidOutB Try.prog = true := by kernel_rfl
set_option maxRecDepth 100000 in
set_option maxHeartbeats 1000000 in
theorem lifted (os : Os) (started : os.Started) (H : Type) (enc : TypeId × Value → H) :
    ReturnsInHanded {} Try.checked os 6 .any (Rows.blockBackSpec.pre6 enc Try.prog Try.f6 Rows.blockBackRow.domain false) (Rows.blockBackSpec.post enc Try.prog Try.f6 false true false false) := by
  refine returnsInHanded_of_change_sized (C := Try.checked) own started (by kernel_rfl) Try.func6
    (ChangeSpec.witness6 (enc := enc) (C := Try.checked) false ⟨#[], #[.slice none 0 0, .int .i64 0, .agg #[.string ByteArray.empty, .int .u64 0, .int .i64 0]], []⟩ 8 (by kernel_rfl) (by kernel_rfl) (by kernel_rfl) (by kernel_rfl)) ?_
  intro W base args ds gs before hval0 hW hcnd hsz0 _
  have hsz : (DataW.weightsEach Try.prog (Try.f6.params.toList ++ Rows.blockBackSpec.plain.varTypes Try.prog) (ds ++ gs)).all (· ≤ reachBytes) = true := hsz0
  have hval : ∀ (j : Nat) t v, Try.f6.params[j]? = some t → args[j]? = some v → Value.okWide Try.prog W .any base t v := hval0
  have hW' := hW
  obtain ⟨p, q, hA0, hV, rfl, hfz, hnd⟩ := hW
  have hA : DataW.TrodAll enc Try.prog W 0 (fun _ => true) true Try.f6.params.toList args.toList ds p := hA0
  rw [Try.params6] at hA hval hsz
  obtain ⟨v0, vs0, d0, ds0, p0, q0, hargs, rfl, rfl, h0, r0⟩ := trodAll_cons hA
  obtain ⟨v1, vs1, d1, ds1, p1, q1, rfl, rfl, rfl, h1, r1⟩ := trodAll_cons r0
  obtain ⟨v2, vs2, d2, ds2, p2, q2, rfl, rfl, rfl, h2, r2⟩ := trodAll_cons r1
  obtain ⟨rfl, rfl, rfl⟩ := trodAll_nil r2
  obtain rfl : args = #[v0, v1, v2] := by cases args; simp_all
  obtain ⟨rfl, rfl⟩ := trodVars_none hV
  obtain ⟨a0, len0, cap0, rfl⟩ := okWide_slice Try.underlying23 (hval 0 23 v0 rfl rfl)
  have k0 := h0
  have lt0 : ∀ x ∈ p0, x.block < W.heap.size := by obtain ⟨m, hm⟩ := k0; exact DataW.trod_lt m _ _ _ hm
  obtain ⟨l0, rfl, hr0, hc0, w0, b0⟩ := Rd.row_kvs Try.underlying23 Try.underlying42 (by kernel_rfl) (by kernel_rfl) (by kernel_rfl) (by kernel_rfl) Try.underlying32 (by kernel_rfl) (by kernel_rfl) Try.underlying9 Try.underlying30 Try.underlying3 Try.underlying9 h0
  have y0 : l0.length * 48 ≤ 140737488351232 := Rd.sized_kvs hsz (j := 0) (t := 23) rfl rfl Try.underlying23 (by kernel_rfl) h0
  obtain ⟨a1, rfl, rfl, rfl, w1⟩ := open_int Try.underlying3 (hval 1 3 v1 rfl rfl) h1
  have k2 := h2
  have lt2 : ∀ x ∈ p2, x.block < W.heap.size := by obtain ⟨m, hm⟩ := k2; exact DataW.trod_lt m _ _ _ hm
  obtain ⟨c2_0, c2_1, c2_2, y2_0, y2_1, y2_2, m2, rfl, rfl, rfl, g2_0, g2_1, g2_2⟩ := open_agg3 Try.underlying32 (by kernel_rfl) (by kernel_rfl) (hval 2 32 v2 rfl rfl) h2
  obtain ⟨a2_0, e2_0, hd2_0, z2_0⟩ := DataW.trod_string Try.underlying9 g2_0
  simp only [List.cons.injEq, and_true] at e2_0
  subst e2_0 hd2_0
  have b2_0 := Rd.str_bulk (H := H) a2_0
  have z2_0 : a2_0.size ≤ 9223372036854775807 := z2_0
  obtain ⟨a2_1, e2_1, hd2_1, w2_1⟩ := DataW.trod_int Try.underlying30 g2_1
  simp only [List.cons.injEq, and_true] at e2_1
  subst e2_1 hd2_1
  obtain ⟨a2_2, e2_2, hd2_2, w2_2⟩ := DataW.trod_int Try.underlying3 g2_2
  simp only [List.cons.injEq, and_true] at e2_2
  subst e2_2 hd2_2
  clear hA0 hval0 hsz0 hsz
  obtain ⟨k, hf⟩ := Pure.BlockBackS l0 a1 a2_0 a2_1 a2_2 (by omega) w0 w1 z2_0 w2_1 w2_2
  refine (P.staddlelaw11_BlockBack.calls k _ _ l0 a1 a2_0 a2_1 a2_2 true W hr0 hc0 hf).mono fun e W' ⟨he, hd⟩ => ?_
  have bel : Below W.heap.size W W' := hd
  subst he
  exact ⟨_, rfl, _, _, _, [], _, [], hW', trodAll_mk1 (shut_bool Try.underlying4 _), (trodAll_cons_mk (Below.trod laidOut (by kernel_rfl) (of_decide_eq_true (by kernel_rfl)) k0 bel lt0) (trodAll_cons_mk (shut_int Try.underlying3 w1) (trodAll_cons_mk (Below.trod laidOut (by kernel_rfl) (of_decide_eq_true (by kernel_rfl)) k2 bel lt2) trodAll_mk0))), rfl, bel.frame _, fun h => by cases h⟩
theorem proved : Rows.BlockBackSaid :=
  OpenClaim.holds_of_wide 6 Try.f6 rfl rfl rfl rfl rfl rfl rfl ⟨rfl, rfl, rfl, rfl, rfl⟩ rfl rfl rfl rfl rfl (by kernel_rfl) Try.func6 (by kernel_rfl)
    (of_decide_eq_true (by kernel_rfl)) (by unfold Func.isWrapper; first | (rw [if_pos (by decide +kernel)]; kernel_rfl) | (rw [if_neg (by decide +kernel)]; exact ⟨rfl, rfl⟩))
    (fun os started H enc _ => lifted os started H enc)
#print axioms proved
end Go.Proofs.Ytppkpleagnddeaa.blockBackS
namespace Go.Proofs.Ytppkpleagnddeaa
theorem blockBack_holds : Rows.BlockBackSaid := blockBackS.proved
end Go.Proofs.Ytppkpleagnddeaa
