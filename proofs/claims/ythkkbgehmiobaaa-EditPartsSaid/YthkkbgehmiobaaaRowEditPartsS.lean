/- The row of the statement EditPartsSaid, out of its pure statement (YthkkbgehmiobaaaPureEditPartsS) and the printed walk. -/
import Derived.Test.YthkkbgehmiobaaaRdEdit
import Derived.Test.YthkkbgehmiobaaaRows
import Derived.Test.YthkkbgehmiobaaaP25
import Derived.Test.YthkkbgehmiobaaaPureEditPartsS
import Derived.Test.YthkkbgehmiobaaaRead
import Derived.WalkKit
import Derived.ProofKit
import Derived.OpenShut
import Derived.ShutString
import Derived.ChangeOld
import Derived.Below
import Derived.SizedLaws
import Derived.JoinedCond
import Derived.Deep.CondSized
import Derived.Lib.SmallJoins
namespace Go.Proofs.Ythkkbgehmiobaaa.editPartsS
open Go.ChangeShapes Go.WideShapes Go.ChangeAt Go.RowKit Go.Joins
open Go.ChangeMaps (open_string shut_string)
set_option linter.unusedVariables false
theorem own : ownKnob Try.prog.godebug = none := by kernel_rfl
theorem laidOut : laidOutB Try.prog = true := by kernel_rfl
set_option maxRecDepth 100000 in
set_option maxHeartbeats 1000000 in
theorem lifted (os : Os) (started : os.Started) (H : Type) (enc : TypeId × Value → H) :
    ReturnsInHanded {} Try.checked os 7 .any (Rows.editPartsSpec.pre6 enc Try.prog Try.f7 Rows.editPartsRow.domain false) (Rows.editPartsSpec.post enc Try.prog Try.f7 false true false false) := by
  refine returnsInHanded_of_change_sized (C := Try.checked) own started (by kernel_rfl) Try.func7
    (ChangeSpec.witness6 (enc := enc) (C := Try.checked) false ⟨#[], #[.agg #[.int .u64 0, .int .u64 0, .int .u64 0, .slice none 0 0, .slice none 0 0]], []⟩ 8 (by kernel_rfl) (by kernel_rfl) (by kernel_rfl) (by kernel_rfl)) ?_
  intro W base args ds gs before hval0 hW hcnd hsz0 _
  have hsz : (DataW.weightsEach Try.prog (Try.f7.params.toList ++ Rows.editPartsSpec.plain.varTypes Try.prog) (ds ++ gs)).all (· ≤ reachBytes) = true := hsz0
  have hval : ∀ (j : Nat) t v, Try.f7.params[j]? = some t → args[j]? = some v → Value.okWide Try.prog W .any base t v := hval0
  have hW' := hW
  obtain ⟨p, q, hA0, hV, rfl, hfz, hnd⟩ := hW
  have hA : DataW.TrodAll enc Try.prog W 0 (fun _ => true) true Try.f7.params.toList args.toList ds p := hA0
  rw [Try.params7] at hA hval hsz
  obtain ⟨v0, vs0, d0, ds0, p0, q0, hargs, rfl, rfl, h0, r0⟩ := trodAll_cons hA
  obtain ⟨rfl, rfl, rfl⟩ := trodAll_nil r0
  obtain rfl : args = #[v0] := by cases args; simp_all
  obtain ⟨rfl, rfl⟩ := trodVars_none hV
  have k0 := h0
  have lt0 : ∀ x ∈ p0, x.block < W.heap.size := by obtain ⟨m, hm⟩ := k0; exact DataW.trod_lt m _ _ _ hm
  obtain ⟨n0_0, n0_1, n0_2, A0_3, c0_3, l0_3, A0_4, c0_4, l0_4, rfl, hr0_3, hc0_3, hr0_4, hc0_4, w0, yD0, yL0⟩ := Rd.row_edit Try.underlying27 (by kernel_rfl) (by kernel_rfl) Try.underlying23 Try.underlying23 Try.underlying23 Try.underlying24 Try.underlying40 (by kernel_rfl) (by kernel_rfl) Try.underlying3 Try.underlying23 (by kernel_rfl) Try.underlying25 Try.underlying44 (by refine ⟨?_, ?_, ?_, ?_, ?_, ?_, ?_, ?_, ?_, ?_⟩ <;> kernel_rfl) (by kernel_rfl) Try.underlying42 Try.underlying42 (by kernel_rfl) Try.underlying9 Try.underlying23 Try.underlying3 Try.underlying3 Try.underlying23 Try.underlying3 (by kernel_rfl) hsz (j := 0) (t := 27) rfl rfl (hval 0 27 v0 rfl rfl) h0
  clear hA0 hval0 hsz0 hsz
  obtain ⟨k, hf⟩ := Pure.EditPartsS n0_0 n0_1 n0_2 l0_3 l0_4 w0 yD0 yL0
  refine (P.staddlelaw13_EditParts.calls k n0_0 n0_1 n0_2 _ _ l0_3 _ _ l0_4 true W hr0_3 hc0_3 hr0_4 hc0_4 hf).mono fun e W' ⟨he, hd⟩ => ?_
  have bel : Below W.heap.size W W' := hd
  subst he
  exact ⟨_, rfl, _, _, _, [], _, [], hW', trodAll_mk1 (shut_bool Try.underlying4 _), (trodAll_cons_mk (Below.trod laidOut (by kernel_rfl) (of_decide_eq_true (by kernel_rfl)) k0 bel lt0) trodAll_mk0), rfl, bel.frame _, fun h => by cases h⟩
theorem proved : Rows.EditPartsSaid :=
  OpenClaim.holds_of_wide 7 Try.f7 rfl rfl rfl rfl rfl rfl rfl ⟨rfl, rfl, rfl, rfl, rfl⟩ rfl rfl rfl rfl rfl (by kernel_rfl) Try.func7 (by kernel_rfl)
    (of_decide_eq_true (by kernel_rfl)) (by unfold Func.isWrapper; first | (rw [if_pos (by decide +kernel)]; kernel_rfl) | (rw [if_neg (by decide +kernel)]; exact ⟨rfl, rfl⟩))
    (fun os started H enc _ => lifted os started H enc)
#print axioms proved
end Go.Proofs.Ythkkbgehmiobaaa.editPartsS
namespace Go.Proofs.Ythkkbgehmiobaaa
theorem editParts_holds : Rows.EditPartsSaid := editPartsS.proved
end Go.Proofs.Ythkkbgehmiobaaa
