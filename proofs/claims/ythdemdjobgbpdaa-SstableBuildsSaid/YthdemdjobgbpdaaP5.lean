-- By this session's wip/hprint.py: the kit's print.py with functions by hand beside it. Not trusted: Lean checks it.
import Derived.Test.YthdemdjobgbpdaaP0
namespace Go.Proofs.Ythdemdjobgbpdaa.P
open Go.RowKit Go.Proofs.YthdemdjobgbpdaaW.PrintWords Go.Proofs.YthdemdjobgbpdaaW.PrintLast Go.Proofs.YthdemdjobgbpdaaW.PrintMore
attribute [local go_sem] max2_int min2_int max_two min_two max_three min_three max_four min_four   -- for this text's walks alone
set_option linter.unusedVariables false
set_option linter.unusedSimpArgs false

/-! ### ikey_Compare: function 39 -/
def ikey_cmp (x y : Int) : Int := if x < y then -1 else if y < x then 1 else 0
theorem cmp_nan.calls (a : Int) (w : World) : Calls Try.prog 79 #[.int .u64 a] w fun e w' => e = .returned (.bool false) ∧ w' = w := by
  have h : (a != a) = false := by simp
  go_enter Try.func79, Try.ntmps79
  go_wp2
  go_ret
  exact ⟨rfl, rfl⟩
theorem cmp_nan_int.calls (a : Int) (w : World) : Calls Try.prog 80 #[.int .i64 a] w fun e w' => e = .returned (.bool false) ∧ w' = w := by
  have h : (a != a) = false := by simp
  go_enter Try.func80, Try.ntmps80
  go_wp2
  go_ret
  exact ⟨rfl, rfl⟩
theorem cmp_uint64.calls (a b : Int) (w : World) : Calls Try.prog 75 #[.int .u64 a, .int .u64 b] w fun e w' => e = .returned (.int .i64 (ikey_cmp a b)) ∧ w' = w := by
  by_cases h1 : a < b
  · have HV : Aside0 (ikey_cmp a b = -1) := ⟨by unfold ikey_cmp; rw [if_pos h1]⟩
    have d1 : decide (a < b) = true := decide_eq_true h1
    clear h1
    go_enter Try.func75, Try.ntmps75
    go_wp2_with (go_at_call 79; refine (cmp_nan.calls _ _).mono ?_; rintro e w' ⟨rfl, rfl⟩)
    go_ret
    exact ⟨by rw [HV.out]; rfl, rfl⟩
  · by_cases h2 : b < a
    · have HV : Aside0 (ikey_cmp a b = 1) := ⟨by unfold ikey_cmp; rw [if_neg h1, if_pos h2]⟩
      have d1 : decide (a < b) = false := decide_eq_false h1
      have d2 : decide (b < a) = true := decide_eq_true h2
      clear h1 h2
      go_enter Try.func75, Try.ntmps75
      go_wp2_with (go_at_call 79; refine (cmp_nan.calls _ _).mono ?_; rintro e w' ⟨rfl, rfl⟩)
      go_ret
      exact ⟨by rw [HV.out]; rfl, rfl⟩
    · have HV : Aside0 (ikey_cmp a b = 0) := ⟨by unfold ikey_cmp; rw [if_neg h1, if_neg h2]⟩
      have d1 : decide (a < b) = false := decide_eq_false h1
      have d2 : decide (b < a) = false := decide_eq_false h2
      clear h1 h2
      go_enter Try.func75, Try.ntmps75
      go_wp2_with (go_at_call 79; refine (cmp_nan.calls _ _).mono ?_; rintro e w' ⟨rfl, rfl⟩)
      go_ret
      exact ⟨by rw [HV.out]; rfl, rfl⟩
theorem cmp_int.calls (a b : Int) (w : World) : Calls Try.prog 76 #[.int .i64 a, .int .i64 b] w fun e w' => e = .returned (.int .i64 (ikey_cmp a b)) ∧ w' = w := by
  by_cases h1 : a < b
  · have HV : Aside0 (ikey_cmp a b = -1) := ⟨by unfold ikey_cmp; rw [if_pos h1]⟩
    have d1 : decide (a < b) = true := decide_eq_true h1
    clear h1
    go_enter Try.func76, Try.ntmps76
    go_wp2_with (go_at_call 80; refine (cmp_nan_int.calls _ _).mono ?_; rintro e w' ⟨rfl, rfl⟩)
    go_ret
    exact ⟨by rw [HV.out]; rfl, rfl⟩
  · by_cases h2 : b < a
    · have HV : Aside0 (ikey_cmp a b = 1) := ⟨by unfold ikey_cmp; rw [if_neg h1, if_pos h2]⟩
      have d1 : decide (a < b) = false := decide_eq_false h1
      have d2 : decide (b < a) = true := decide_eq_true h2
      clear h1 h2
      go_enter Try.func76, Try.ntmps76
      go_wp2_with (go_at_call 80; refine (cmp_nan_int.calls _ _).mono ?_; rintro e w' ⟨rfl, rfl⟩)
      go_ret
      exact ⟨by rw [HV.out]; rfl, rfl⟩
    · have HV : Aside0 (ikey_cmp a b = 0) := ⟨by unfold ikey_cmp; rw [if_neg h1, if_neg h2]⟩
      have d1 : decide (a < b) = false := decide_eq_false h1
      have d2 : decide (b < a) = false := decide_eq_false h2
      clear h1 h2
      go_enter Try.func76, Try.ntmps76
      go_wp2_with (go_at_call 80; refine (cmp_nan_int.calls _ _).mono ?_; rintro e w' ⟨rfl, rfl⟩)
      go_ret
      exact ⟨by rw [HV.out]; rfl, rfl⟩
theorem bytealg_compare.calls (a b : ByteArray) (w : World) : Calls Try.prog 78 #[.string a, .string b] w fun e w' => e = .returned (.int .i64 (Lib.compareBytes a.data.toList b.data.toList)) ∧ w' = w := by
  go_enter Try.func78, Try.ntmps78
  go_wp2
  rw [run_callFunc_extern Try.func81 (by kernel_rfl) (by kernel_rfl) (by kernel_rfl) (e := Extern.BytealgCompare.compare) (by kernel_rfl), Lib.run_compareString]
  simp only [Result.andThen]
  rw [Oper.upon_value]
  go_wp2
  go_ret
  exact ⟨rfl, rfl⟩
theorem strings_compare.calls (a b : ByteArray) (w : World) : Calls Try.prog 74 #[.string a, .string b] w fun e w' => e = .returned (.int .i64 (Lib.compareBytes a.data.toList b.data.toList)) ∧ w' = w := by
  go_enter Try.func74, Try.ntmps74
  go_wp2_with (go_at_call 78; refine (bytealg_compare.calls _ _ _).mono ?_; rintro e w' ⟨rfl, rfl⟩)
  go_ret
  exact ⟨rfl, rfl⟩
set_option maxHeartbeats 8000000 in
set_option maxRecDepth 100000 in
theorem against_user.calls (a0_0 : ByteArray) (a0_1 : Int) (a0_2 : Int) (a1_0 : ByteArray) (a1_1 : Int) (a1_2 : Int) (w : World) :
    Calls Try.prog 59 #[.agg #[.string a0_0, .int .u64 a0_1, .int .i64 a0_2], .agg #[.string a1_0, .int .u64 a1_1, .int .i64 a1_2]] w fun e w' => e = .returned (.int .i64 (Lib.compareBytes a0_0.data.toList a1_0.data.toList)) ∧ Below w.heap.size w w' := by
  have hu := Try.underlying45
  have hu2 := Try.underlying110
  go_enter Try.func59, Try.ntmps59
  go_wp2_with (first | ((with_reducible refine gate_dst (N := 2) rfl ?_); refine box_event ?hg (N := 2) ?hd (cs := #[.string a0_0, .int .u64 a0_1, .int .i64 a0_2]) (t := 110) ?hr ?_; (case hd => rfl); (case hg => rfl); (case hr => first | (go_simp; done) | (go_simp; rfl)); intro ga hg w1 hbox hb; have HB1 := Aside0.mk hb; have BKa := Aside0.mk hbox; have HGa := Aside0.mk hg; have hcz0_0 : w1.cell? ⟨ga, 0, none⟩ = some (.string a0_0) := (blk_cell BKa.out 0).trans rfl; have hcz0_1 : w1.cell? ⟨ga, 1, none⟩ = some (.int .u64 a0_1) := (blk_cell BKa.out 1).trans rfl; have hcz0_2 : w1.cell? ⟨ga, 2, none⟩ = some (.int .i64 a0_2) := (blk_cell BKa.out 2).trans rfl; have hfz0_0 := blk_frozen BKa.out 0; have hfz0_1 := blk_frozen BKa.out 1; have hfz0_2 := blk_frozen BKa.out 2; clear hb hbox hg) | ((with_reducible refine gate_dst (N := 3) rfl ?_); refine box_event ?hg (N := 3) ?hd (cs := #[.string a1_0, .int .u64 a1_1, .int .i64 a1_2]) (t := 45) ?hr ?_; (case hd => rfl); (case hg => rfl); (case hr => first | (go_simp; done) | (go_simp; rfl)); intro gb hg w2 hbox hb; have HB2 := Aside0.mk hb; have BKb := Aside0.mk hbox; have HGb := Aside0.mk hg; clear hcz0_0 hcz0_1 hcz0_2 hfz0_0 hfz0_1 hfz0_2; have BKa2 := Aside0.mk (blk_below (g := ga) BKa.out hb); have hcz0_0 : w2.cell? ⟨ga, 0, none⟩ = some (.string a0_0) := (blk_cell BKa2.out 0).trans rfl; have hcz0_1 : w2.cell? ⟨ga, 1, none⟩ = some (.int .u64 a0_1) := (blk_cell BKa2.out 1).trans rfl; have hcz0_2 : w2.cell? ⟨ga, 2, none⟩ = some (.int .i64 a0_2) := (blk_cell BKa2.out 2).trans rfl; have hfz0_0 := blk_frozen BKa2.out 0; have hfz0_1 := blk_frozen BKa2.out 1; have hfz0_2 := blk_frozen BKa2.out 2;have hcz1_0 : w2.cell? ⟨gb, 0, none⟩ = some (.string a1_0) := (blk_cell BKb.out 0).trans rfl; have hcz1_1 : w2.cell? ⟨gb, 1, none⟩ = some (.int .u64 a1_1) := (blk_cell BKb.out 1).trans rfl; have hcz1_2 : w2.cell? ⟨gb, 2, none⟩ = some (.int .i64 a1_2) := (blk_cell BKb.out 2).trans rfl; have hfz1_0 := blk_frozen BKb.out 0; have hfz1_1 := blk_frozen BKb.out 1; have hfz1_2 := blk_frozen BKb.out 2; clear hb hbox hg) | (go_at_call 74; refine (strings_compare.calls _ _ _).mono ?_; rintro e w' ⟨rfl, rfl⟩))
  go_ret
  exact ⟨rfl, below_step HB1.out HB2.out⟩
set_option maxHeartbeats 8000000 in
set_option maxRecDepth 100000 in
theorem against_seq.calls (a0_0 : ByteArray) (a0_1 : Int) (a0_2 : Int) (a1_0 : ByteArray) (a1_1 : Int) (a1_2 : Int) (w : World) :
    Calls Try.prog 60 #[.agg #[.string a0_0, .int .u64 a0_1, .int .i64 a0_2], .agg #[.string a1_0, .int .u64 a1_1, .int .i64 a1_2]] w fun e w' => e = .returned (.int .i64 (ikey_cmp a1_1 a0_1)) ∧ Below w.heap.size w w' := by
  have hu := Try.underlying45
  have hu2 := Try.underlying110
  go_enter Try.func60, Try.ntmps60
  go_wp2_with (first | ((with_reducible refine gate_dst (N := 2) rfl ?_); refine box_event ?hg (N := 2) ?hd (cs := #[.string a0_0, .int .u64 a0_1, .int .i64 a0_2]) (t := 110) ?hr ?_; (case hd => rfl); (case hg => rfl); (case hr => first | (go_simp; done) | (go_simp; rfl)); intro ga hg w1 hbox hb; have HB1 := Aside0.mk hb; have BKa := Aside0.mk hbox; have HGa := Aside0.mk hg; have hcz0_0 : w1.cell? ⟨ga, 0, none⟩ = some (.string a0_0) := (blk_cell BKa.out 0).trans rfl; have hcz0_1 : w1.cell? ⟨ga, 1, none⟩ = some (.int .u64 a0_1) := (blk_cell BKa.out 1).trans rfl; have hcz0_2 : w1.cell? ⟨ga, 2, none⟩ = some (.int .i64 a0_2) := (blk_cell BKa.out 2).trans rfl; have hfz0_0 := blk_frozen BKa.out 0; have hfz0_1 := blk_frozen BKa.out 1; have hfz0_2 := blk_frozen BKa.out 2; clear hb hbox hg) | ((with_reducible refine gate_dst (N := 3) rfl ?_); refine box_event ?hg (N := 3) ?hd (cs := #[.string a1_0, .int .u64 a1_1, .int .i64 a1_2]) (t := 45) ?hr ?_; (case hd => rfl); (case hg => rfl); (case hr => first | (go_simp; done) | (go_simp; rfl)); intro gb hg w2 hbox hb; have HB2 := Aside0.mk hb; have BKb := Aside0.mk hbox; have HGb := Aside0.mk hg; clear hcz0_0 hcz0_1 hcz0_2 hfz0_0 hfz0_1 hfz0_2; have BKa2 := Aside0.mk (blk_below (g := ga) BKa.out hb); have hcz0_0 : w2.cell? ⟨ga, 0, none⟩ = some (.string a0_0) := (blk_cell BKa2.out 0).trans rfl; have hcz0_1 : w2.cell? ⟨ga, 1, none⟩ = some (.int .u64 a0_1) := (blk_cell BKa2.out 1).trans rfl; have hcz0_2 : w2.cell? ⟨ga, 2, none⟩ = some (.int .i64 a0_2) := (blk_cell BKa2.out 2).trans rfl; have hfz0_0 := blk_frozen BKa2.out 0; have hfz0_1 := blk_frozen BKa2.out 1; have hfz0_2 := blk_frozen BKa2.out 2;have hcz1_0 : w2.cell? ⟨gb, 0, none⟩ = some (.string a1_0) := (blk_cell BKb.out 0).trans rfl; have hcz1_1 : w2.cell? ⟨gb, 1, none⟩ = some (.int .u64 a1_1) := (blk_cell BKb.out 1).trans rfl; have hcz1_2 : w2.cell? ⟨gb, 2, none⟩ = some (.int .i64 a1_2) := (blk_cell BKb.out 2).trans rfl; have hfz1_0 := blk_frozen BKb.out 0; have hfz1_1 := blk_frozen BKb.out 1; have hfz1_2 := blk_frozen BKb.out 2; clear hb hbox hg) | (go_at_call 75; refine (cmp_uint64.calls _ _ _).mono ?_; rintro e w' ⟨rfl, rfl⟩))
  go_ret
  exact ⟨rfl, below_step HB1.out HB2.out⟩
set_option maxHeartbeats 8000000 in
set_option maxRecDepth 100000 in
theorem against_kind.calls (a0_0 : ByteArray) (a0_1 : Int) (a0_2 : Int) (a1_0 : ByteArray) (a1_1 : Int) (a1_2 : Int) (w : World) :
    Calls Try.prog 61 #[.agg #[.string a0_0, .int .u64 a0_1, .int .i64 a0_2], .agg #[.string a1_0, .int .u64 a1_1, .int .i64 a1_2]] w fun e w' => e = .returned (.int .i64 (ikey_cmp a1_2 a0_2)) ∧ Below w.heap.size w w' := by
  have hu := Try.underlying45
  have hu2 := Try.underlying110
  go_enter Try.func61, Try.ntmps61
  go_wp2_with (first | ((with_reducible refine gate_dst (N := 2) rfl ?_); refine box_event ?hg (N := 2) ?hd (cs := #[.string a0_0, .int .u64 a0_1, .int .i64 a0_2]) (t := 110) ?hr ?_; (case hd => rfl); (case hg => rfl); (case hr => first | (go_simp; done) | (go_simp; rfl)); intro ga hg w1 hbox hb; have HB1 := Aside0.mk hb; have BKa := Aside0.mk hbox; have HGa := Aside0.mk hg; have hcz0_0 : w1.cell? ⟨ga, 0, none⟩ = some (.string a0_0) := (blk_cell BKa.out 0).trans rfl; have hcz0_1 : w1.cell? ⟨ga, 1, none⟩ = some (.int .u64 a0_1) := (blk_cell BKa.out 1).trans rfl; have hcz0_2 : w1.cell? ⟨ga, 2, none⟩ = some (.int .i64 a0_2) := (blk_cell BKa.out 2).trans rfl; have hfz0_0 := blk_frozen BKa.out 0; have hfz0_1 := blk_frozen BKa.out 1; have hfz0_2 := blk_frozen BKa.out 2; clear hb hbox hg) | ((with_reducible refine gate_dst (N := 3) rfl ?_); refine box_event ?hg (N := 3) ?hd (cs := #[.string a1_0, .int .u64 a1_1, .int .i64 a1_2]) (t := 45) ?hr ?_; (case hd => rfl); (case hg => rfl); (case hr => first | (go_simp; done) | (go_simp; rfl)); intro gb hg w2 hbox hb; have HB2 := Aside0.mk hb; have BKb := Aside0.mk hbox; have HGb := Aside0.mk hg; clear hcz0_0 hcz0_1 hcz0_2 hfz0_0 hfz0_1 hfz0_2; have BKa2 := Aside0.mk (blk_below (g := ga) BKa.out hb); have hcz0_0 : w2.cell? ⟨ga, 0, none⟩ = some (.string a0_0) := (blk_cell BKa2.out 0).trans rfl; have hcz0_1 : w2.cell? ⟨ga, 1, none⟩ = some (.int .u64 a0_1) := (blk_cell BKa2.out 1).trans rfl; have hcz0_2 : w2.cell? ⟨ga, 2, none⟩ = some (.int .i64 a0_2) := (blk_cell BKa2.out 2).trans rfl; have hfz0_0 := blk_frozen BKa2.out 0; have hfz0_1 := blk_frozen BKa2.out 1; have hfz0_2 := blk_frozen BKa2.out 2;have hcz1_0 : w2.cell? ⟨gb, 0, none⟩ = some (.string a1_0) := (blk_cell BKb.out 0).trans rfl; have hcz1_1 : w2.cell? ⟨gb, 1, none⟩ = some (.int .u64 a1_1) := (blk_cell BKb.out 1).trans rfl; have hcz1_2 : w2.cell? ⟨gb, 2, none⟩ = some (.int .i64 a1_2) := (blk_cell BKb.out 2).trans rfl; have hfz1_0 := blk_frozen BKb.out 0; have hfz1_1 := blk_frozen BKb.out 1; have hfz1_2 := blk_frozen BKb.out 2; clear hb hbox hg) | (go_at_call 76; refine (cmp_int.calls _ _ _).mono ?_; rintro e w' ⟨rfl, rfl⟩))
  go_ret
  exact ⟨rfl, below_step HB1.out HB2.out⟩
def ikey_Compare.f (a0_0 : ByteArray) (a0_1 : Int) (a0_2 : Int) (a1_0 : ByteArray) (a1_1 : Int) (a1_2 : Int) : Option Int :=
  some (if Lib.compareBytes a0_0.data.toList a1_0.data.toList = 0 then (if ikey_cmp a1_1 a0_1 = 0 then ikey_cmp a1_2 a0_2 else ikey_cmp a1_1 a0_1) else Lib.compareBytes a0_0.data.toList a1_0.data.toList)
set_option maxHeartbeats 8000000 in
set_option maxRecDepth 100000 in
theorem ikey_Compare.calls (a0_0 : ByteArray) (a0_1 : Int) (a0_2 : Int) (a1_0 : ByteArray) (a1_1 : Int) (a1_2 : Int) (r : Int) (w : World) (h : ikey_Compare.f a0_0 a0_1 a0_2 a1_0 a1_1 a1_2 = some r) :
    Calls Try.prog 39 #[.agg #[.string a0_0, .int .u64 a0_1, .int .i64 a0_2], .agg #[.string a1_0, .int .u64 a1_1, .int .i64 a1_2]] w fun e w' => e = .returned (.int .i64 r) ∧ Below w.heap.size w w' := by
  have hu := Try.underlying45
  have hu2 := Try.underlying110
  obtain ⟨i46, hi46⟩ : ∃ ti, Try.prog.info? 110 = some ti := Option.isSome_iff_exists.mp (by kernel_rfl)
  obtain ⟨i47, hi47⟩ : ∃ ti, Try.prog.info? 89 = some ti := Option.isSome_iff_exists.mp (by kernel_rfl)
  have HR : Aside0 (r = if Lib.compareBytes a0_0.data.toList a1_0.data.toList = 0 then (if ikey_cmp a1_1 a0_1 = 0 then ikey_cmp a1_2 a0_2 else ikey_cmp a1_1 a0_1) else Lib.compareBytes a0_0.data.toList a1_0.data.toList) := ⟨(Option.some.inj h).symm⟩
  clear h
  generalize hA : Lib.compareBytes a0_0.data.toList a1_0.data.toList = cA at HR
  generalize hB : ikey_cmp a1_1 a0_1 = cB at HR
  generalize hC : ikey_cmp a1_2 a0_2 = cC at HR
  have HA := Aside0.mk hA
  have HBq := Aside0.mk hB
  have HCq := Aside0.mk hC
  clear hA hB hC
  go_enter Try.func39, Try.ntmps39
  go_wp2_with (first | ((with_reducible refine gate_dst (N := 2) rfl ?_); refine box_event ?hg (N := 2) ?hd (cs := #[.string a0_0, .int .u64 a0_1, .int .i64 a0_2]) (t := 45) ?hr ?_; (case hd => rfl); (case hg => rfl); (case hr => first | (go_simp; done) | (go_simp; rfl)); intro ga hg w1 hbox hb; have HB1 := Aside0.mk hb; have BKa := Aside0.mk hbox; have HGa := Aside0.mk hg; have hcz0_0 : w1.cell? ⟨ga, 0, none⟩ = some (.string a0_0) := (blk_cell BKa.out 0).trans rfl; have hcz0_1 : w1.cell? ⟨ga, 1, none⟩ = some (.int .u64 a0_1) := (blk_cell BKa.out 1).trans rfl; have hcz0_2 : w1.cell? ⟨ga, 2, none⟩ = some (.int .i64 a0_2) := (blk_cell BKa.out 2).trans rfl; have hfz0_0 := blk_frozen BKa.out 0; have hfz0_1 := blk_frozen BKa.out 1; have hfz0_2 := blk_frozen BKa.out 2; clear hb hbox hg) | ((with_reducible refine gate_dst (N := 3) rfl ?_); refine box_event ?hg (N := 3) ?hd (cs := #[.string a1_0, .int .u64 a1_1, .int .i64 a1_2]) (t := 45) ?hr ?_; (case hd => rfl); (case hg => rfl); (case hr => first | (go_simp; done) | (go_simp; rfl)); intro gb hg w2 hbox hb; have HB2 := Aside0.mk hb; have BKb := Aside0.mk hbox; have HGb := Aside0.mk hg; clear hcz0_0 hcz0_1 hcz0_2 hfz0_0 hfz0_1 hfz0_2; have BKa2 := Aside0.mk (blk_below (g := ga) BKa.out hb); have hcz0_0 : w2.cell? ⟨ga, 0, none⟩ = some (.string a0_0) := (blk_cell BKa2.out 0).trans rfl; have hcz0_1 : w2.cell? ⟨ga, 1, none⟩ = some (.int .u64 a0_1) := (blk_cell BKa2.out 1).trans rfl; have hcz0_2 : w2.cell? ⟨ga, 2, none⟩ = some (.int .i64 a0_2) := (blk_cell BKa2.out 2).trans rfl; have hfz0_0 := blk_frozen BKa2.out 0; have hfz0_1 := blk_frozen BKa2.out 1; have hfz0_2 := blk_frozen BKa2.out 2;have hcz1_0 : w2.cell? ⟨gb, 0, none⟩ = some (.string a1_0) := (blk_cell BKb.out 0).trans rfl; have hcz1_1 : w2.cell? ⟨gb, 1, none⟩ = some (.int .u64 a1_1) := (blk_cell BKb.out 1).trans rfl; have hcz1_2 : w2.cell? ⟨gb, 2, none⟩ = some (.int .i64 a1_2) := (blk_cell BKb.out 2).trans rfl; have hfz1_0 := blk_frozen BKb.out 0; have hfz1_1 := blk_frozen BKb.out 1; have hfz1_2 := blk_frozen BKb.out 2; clear hb hbox hg))
  generalize hW : (w2.alloc (.cells #[Value.string a0_0, Value.int .u64 a0_1, Value.int .i64 a0_2] 110)).alloc (.cells #[Value.func (Fn.func 59) #[Value.agg #[Value.string a0_0, Value.int .u64 a0_1, Value.int .i64 a0_2]] #[], Value.func (Fn.func 60) #[Value.agg #[Value.string a0_0, Value.int .u64 a0_1, Value.int .i64 a0_2]] #[], Value.func (Fn.func 61) #[Value.agg #[Value.string a0_0, Value.int .u64 a0_1, Value.int .i64 a0_2]] #[]] 89) = W
  have BL : Aside0 (W.heap[w2.heap.size + 1]? = some (.cells #[Value.func (Fn.func 59) #[Value.agg #[Value.string a0_0, Value.int .u64 a0_1, Value.int .i64 a0_2]] #[], Value.func (Fn.func 60) #[Value.agg #[Value.string a0_0, Value.int .u64 a0_1, Value.int .i64 a0_2]] #[], Value.func (Fn.func 61) #[Value.agg #[Value.string a0_0, Value.int .u64 a0_1, Value.int .i64 a0_2]] #[]] 89)) := ⟨by rw [← hW]; exact heap_alloc2_new _ _ _⟩
  have BKW : Aside0 (W.heap[gb]? = some (.cells #[Value.string a1_0, Value.int .u64 a1_1, Value.int .i64 a1_2] 45)) := ⟨by rw [← hW]; exact blk_alloc (blk_alloc BKb.out _) _⟩
  have HBW : Aside0 (Below w.heap.size w W) := ⟨by rw [← hW]; exact below_alloc (below_alloc (below_step HB1.out HB2.out) _) _⟩
  clear hW hcz0_0 hcz0_1 hcz0_2 hfz0_0 hfz0_1 hfz0_2 hcz1_0 hcz1_1 hcz1_2 hfz1_0 hfz1_1 hfz1_2 BKa BKa2 BKb HB1 HB2 HGa HGb hi46
  generalize w2.heap.size + 1 = gl at BL ⊢
  go_loopg [19] 3 (fun g s19 wx => ∃ i : Nat, i + g = 3 ∧ s19 = .int .i64 i ∧ (1 ≤ i → cA = 0) ∧ (2 ≤ i → cB = 0) ∧ (3 ≤ i → cC = 0) ∧ Below W.heap.size W wx)
  case atStart => exact ⟨0, by omega, rfl, by omega, by omega, by omega, Below.refl _ _⟩
  case round =>
    obtain ⟨i, hig, rfl, e1, e2, e3, hb⟩ := hrel
    have HX := Aside0.mk hb
    have HE := Aside0.mk (And.intro e1 (And.intro e2 e3))
    have BL' := Aside0.mk (blk_below (g := gl) BL.out hb)
    have BK' := Aside0.mk (blk_below (g := gb) BKW.out hb)
    clear hb e1 e2 e3
    rcases (show i = 0 ∨ i = 1 ∨ i = 2 ∨ i = 3 by omega) with rfl | rfl | rfl | rfl
    · have hl : wr.cell? ⟨gl, 0, none⟩ = some (Value.func (Fn.func 59) #[Value.agg #[Value.string a0_0, Value.int .u64 a0_1, Value.int .i64 a0_2]] #[]) := (blk_cell BL'.out 0).trans rfl
      have hlf := blk_frozen BL'.out 0
      have hcz1_0 : wr.cell? ⟨gb, 0, none⟩ = some (.string a1_0) := (blk_cell BK'.out 0).trans rfl
      have hcz1_1 : wr.cell? ⟨gb, 1, none⟩ = some (.int .u64 a1_1) := (blk_cell BK'.out 1).trans rfl
      have hcz1_2 : wr.cell? ⟨gb, 2, none⟩ = some (.int .i64 a1_2) := (blk_cell BK'.out 2).trans rfl
      have hfz1_0 := blk_frozen BK'.out 0
      have hfz1_1 := blk_frozen BK'.out 1
      have hfz1_2 := blk_frozen BK'.out 2
      by_cases hc : cA = 0
      · have hc0 : (cA != 0) = false := bne_eq_false_iff_eq.mpr hc
        have HC := Aside0.mk hc
        have HG := Aside0.mk hig
        clear hc hig
        go_wp2_with (go_at_call 59; refine (against_user.calls _ _ _ _ _ _ _).mono ?_; rintro e w3 ⟨rfl, hb3⟩; rw [HA.out]; have HX3 := Aside0.mk (below_step HX.out hb3); clear hb3)
        go_roundg 2
        case measure => have := HG.out; omega
        case rel => exact ⟨1, by omega, rfl, fun _ => HC.out, by omega, by omega, HX3.out⟩
      · have hc0 : (cA != 0) = true := bne_iff_ne.mpr hc
        have HC := Aside0.mk hc
        clear hc hig
        go_wp2_with (go_at_call 59; refine (against_user.calls _ _ _ _ _ _ _).mono ?_; rintro e w3 ⟨rfl, hb3⟩; rw [HA.out]; have HX3 := Aside0.mk (below_step HX.out hb3); clear hb3)
        go_ret
        exact ⟨by rw [HR.out]; rw [if_neg HC.out]; rfl, below_step HBW.out HX3.out⟩
    · have hl : wr.cell? ⟨gl, 1, none⟩ = some (Value.func (Fn.func 60) #[Value.agg #[Value.string a0_0, Value.int .u64 a0_1, Value.int .i64 a0_2]] #[]) := (blk_cell BL'.out 1).trans rfl
      have hlf := blk_frozen BL'.out 1
      have hcz1_0 : wr.cell? ⟨gb, 0, none⟩ = some (.string a1_0) := (blk_cell BK'.out 0).trans rfl
      have hcz1_1 : wr.cell? ⟨gb, 1, none⟩ = some (.int .u64 a1_1) := (blk_cell BK'.out 1).trans rfl
      have hcz1_2 : wr.cell? ⟨gb, 2, none⟩ = some (.int .i64 a1_2) := (blk_cell BK'.out 2).trans rfl
      have hfz1_0 := blk_frozen BK'.out 0
      have hfz1_1 := blk_frozen BK'.out 1
      have hfz1_2 := blk_frozen BK'.out 2
      by_cases hc : cB = 0
      · have hc0 : (cB != 0) = false := bne_eq_false_iff_eq.mpr hc
        have HC := Aside0.mk hc
        have HG := Aside0.mk hig
        clear hc hig
        go_wp2_with (go_at_call 60; refine (against_seq.calls _ _ _ _ _ _ _).mono ?_; rintro e w3 ⟨rfl, hb3⟩; rw [HBq.out]; have HX3 := Aside0.mk (below_step HX.out hb3); clear hb3)
        go_roundg 1
        case measure => have := HG.out; omega
        case rel => exact ⟨2, by omega, rfl, fun _ => HE.out.1 (by omega), fun _ => HC.out, by omega, HX3.out⟩
      · have hc0 : (cB != 0) = true := bne_iff_ne.mpr hc
        have HC := Aside0.mk hc
        clear hc hig
        go_wp2_with (go_at_call 60; refine (against_seq.calls _ _ _ _ _ _ _).mono ?_; rintro e w3 ⟨rfl, hb3⟩; rw [HBq.out]; have HX3 := Aside0.mk (below_step HX.out hb3); clear hb3)
        go_ret
        exact ⟨by rw [HR.out]; rw [if_pos (HE.out.1 (by omega))]; rw [if_neg HC.out]; rfl, below_step HBW.out HX3.out⟩
    · have hl : wr.cell? ⟨gl, 2, none⟩ = some (Value.func (Fn.func 61) #[Value.agg #[Value.string a0_0, Value.int .u64 a0_1, Value.int .i64 a0_2]] #[]) := (blk_cell BL'.out 2).trans rfl
      have hlf := blk_frozen BL'.out 2
      have hcz1_0 : wr.cell? ⟨gb, 0, none⟩ = some (.string a1_0) := (blk_cell BK'.out 0).trans rfl
      have hcz1_1 : wr.cell? ⟨gb, 1, none⟩ = some (.int .u64 a1_1) := (blk_cell BK'.out 1).trans rfl
      have hcz1_2 : wr.cell? ⟨gb, 2, none⟩ = some (.int .i64 a1_2) := (blk_cell BK'.out 2).trans rfl
      have hfz1_0 := blk_frozen BK'.out 0
      have hfz1_1 := blk_frozen BK'.out 1
      have hfz1_2 := blk_frozen BK'.out 2
      by_cases hc : cC = 0
      · have hc0 : (cC != 0) = false := bne_eq_false_iff_eq.mpr hc
        have HC := Aside0.mk hc
        have HG := Aside0.mk hig
        clear hc hig
        go_wp2_with (go_at_call 61; refine (against_kind.calls _ _ _ _ _ _ _).mono ?_; rintro e w3 ⟨rfl, hb3⟩; rw [HCq.out]; have HX3 := Aside0.mk (below_step HX.out hb3); clear hb3)
        go_roundg 0
        case measure => have := HG.out; omega
        case rel => exact ⟨3, by omega, rfl, fun _ => HE.out.1 (by omega), fun _ => HE.out.2.1 (by omega), fun _ => HC.out, HX3.out⟩
      · have hc0 : (cC != 0) = true := bne_iff_ne.mpr hc
        have HC := Aside0.mk hc
        clear hc hig
        go_wp2_with (go_at_call 61; refine (against_kind.calls _ _ _ _ _ _ _).mono ?_; rintro e w3 ⟨rfl, hb3⟩; rw [HCq.out]; have HX3 := Aside0.mk (below_step HX.out hb3); clear hb3)
        go_ret
        exact ⟨by rw [HR.out]; rw [if_pos (HE.out.1 (by omega))]; rw [if_pos (HE.out.2.1 (by omega))]; rfl, below_step HBW.out HX3.out⟩
    · have HG := Aside0.mk hig
      clear hig
      go_wp2
      go_ret
      exact ⟨by rw [HR.out, if_pos (HE.out.1 (by omega)), if_pos (HE.out.2.1 (by omega)), HE.out.2.2 (by omega)]; rfl, below_step HBW.out HX.out⟩

end Go.Proofs.Ythdemdjobgbpdaa.P
