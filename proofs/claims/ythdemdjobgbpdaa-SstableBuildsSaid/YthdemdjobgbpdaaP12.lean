-- By this session's wip/hprint.py: the kit's print.py with functions by hand beside it. Not trusted: Lean checks it.
import Derived.Test.YthdemdjobgbpdaaP0
namespace Go.Proofs.Ythdemdjobgbpdaa.P
open Go.RowKit Go.Proofs.YthdemdjobgbpdaaW.PrintWords Go.Proofs.YthdemdjobgbpdaaW.PrintLast Go.Proofs.YthdemdjobgbpdaaW.PrintMore
attribute [local go_sem] max2_int min2_int max_two min_two max_three min_three max_four min_four   -- for this text's walks alone
set_option linter.unusedVariables false
set_option linter.unusedSimpArgs false

/-! ### bytes_Clone: function 71 -/
def bytes_Clone.f (l0 : List Int) : Option (List Int) := if l0.length < 140737488355328 then some l0 else none
set_option maxHeartbeats 1000000 in
set_option maxRecDepth 100000 in
theorem bytes_Clone.calls (A0 : Option Addr) (c0 : Nat) (l0 : List Int) (r : List Int) (w : World) (hr0 : Kd.C (Kd.int .u8) w A0 l0.length l0) (hc0 : l0.length ≤ c0) (h : bytes_Clone.f l0 = some r) :
    Calls Try.prog 71 #[.slice A0 l0.length c0] w fun e w' => ∃ v0_ : Value, e = .returned (v0_) ∧ Kd.R (Kd.int .u8) 5 w' w.heap.size (fun _ => True) v0_ r ∧ Below w.heap.size w w' := by
  have HR0 := Aside0.mk hr0
  unfold bytes_Clone.f at h
  by_cases hl : l0.length < 140737488355328
  · rw [if_pos hl] at h
    obtain rfl := Option.some.inj h
    have HL := Aside0.mk hl
    have hz : ¬ (0 < l0.length) ∨ A0 ≠ none := by
      rcases Nat.eq_zero_or_pos l0.length with h0 | h0
      · exact .inl (by omega)
      · obtain ⟨ad, e, _⟩ := hr0.2.2 h0
        exact .inr (by rw [e]; simp)
    clear hr0 hc0 h hl
    have hnil := fun (W : World) => Lib.run_eql_slice_nil (P := Try.prog) W 27 5 A0 l0.length c0 0 0 Try.underlying27
    have HB := Aside0.mk (Below.refl w.heap.size w)
    rcases A0 with _ | ad
    · have h0 : l0 = [] := List.eq_nil_of_length_eq_zero (by rcases hz with h | h; omega; exact absurd rfl h)
      subst h0
      clear hz HL
      simp only [Option.isNone, List.length_nil] at hnil ⊢
      go_enter Try.func71, Try.ntmps71
      go_wp2
      go_ret
      exact ⟨_, rfl, Kd.R_nil _ _ _ _ _, Below.refl _ _⟩
    · clear hz
      simp only [Option.isNone] at hnil
      go_enter Try.func71, Try.ntmps71
      go_wp2_with (first
        | ((with_reducible refine gate_dst (N := 5) rfl ?_)
           refine Kd.R_lit (Kd.int .u8) _ 5 ?hg (N := 5) ?hd (xs := ([] : List Int)) (inner := []) (ok := fun _ => True) (okp := fun _ => True) ?hr ?hp (fun _ hk => hk) trivial (Below.refl _ _) (Nat.le_refl _) (by simp) ?_
           (case hd => rfl); (case hg => rfl); (case hr => first | (go_simp; done) | (go_simp; rfl)); (case hp => exact (Reps.none _ _))
           intro v1 w1 ho hb hg_ hnew_
           clear hg_ hnew_
           have HO := Aside0.mk ho
           have HB1 := Aside0.mk (below_step HB.out hb)
           clear ho hb)
        | ((with_reducible refine gate_builtin (b := .append) (xs := #[.tmp 5, .tmp 6]) rfl ?_)
           at_builtin
           refine Kd.R_append_rows (Kd.int .u8) (w0 := w) w.heap.size rfl (.tmp 5) (.tmp 6) 27 5 (.int .u8 0) 1 rfl Try.underlying27 info5 rfl (by decide) (by omega) v1 [] l0 _ _ _ (fun _ => True) (fun _ => False) rfl rfl ?aO ?aR (fun _ _ h => h) (fun _ h => h.elim) ?aF ?aB ?aS ?aL ?_
           (case aR => exact Kd.C_below HR0.out HB1.out)
           (case aB => exact HB1.out)
           (case aF => exact (fun _ _ => trivial))
           (case aO => exact HO.out)
           (case aS => exact below_size HB1.out)
           (case aL => have := HL.out; simp only [List.length_nil]; omega)
           intro v2 w2 ho hb hg hat
           have HO2 := Aside0.mk ho
           have HB2 := Aside0.mk hb
           clear ho hb hg hat))
      go_ret
      exact ⟨_, rfl, HO2.out, HB2.out⟩
  · rw [if_neg hl] at h
    cases h

end Go.Proofs.Ythdemdjobgbpdaa.P
