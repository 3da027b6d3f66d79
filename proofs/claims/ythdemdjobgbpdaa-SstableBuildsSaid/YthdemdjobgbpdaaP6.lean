-- By this session's wip/hprint.py: the kit's print.py with functions by hand beside it. Not trusted: Lean checks it.
import Derived.Test.YthdemdjobgbpdaaP0
namespace Go.Proofs.Ythdemdjobgbpdaa.P
open Go.RowKit Go.Proofs.YthdemdjobgbpdaaW.PrintWords Go.Proofs.YthdemdjobgbpdaaW.PrintLast Go.Proofs.YthdemdjobgbpdaaW.PrintMore
attribute [local go_sem] max2_int min2_int max_two min_two max_three min_three max_four min_four   -- for this text's walks alone
set_option linter.unusedVariables false
set_option linter.unusedSimpArgs false

/-! ### ikey_Check: function 66 -/
theorem h_index_arr {P : Program} {t e : TypeId} {n : Nat} {cs : Array Value} {k : IntKind} {i : Int} {v : Value} (h : P.underlying t = some (.array n e)) {ti : TypeInfo} (hi : P.info? e = some ti) (he : P.plainKey e = true) (hc : P.cellsOf e = 1)
    (h0 : 0 ≤ i) (h1 : i < n) (hv : cs[i.toNat]? = some v) (w : World) : (Instr.index t (.agg cs) (.int k i)).run P w = .ok v w := by
  have hn : 0 ≤ i ∧ i < (n : Int) := ⟨h0, h1⟩
  simp only [Instr.index, asIntOf, Sem.run_bind, Sem.run_pure, run_underlying h, Result.andThen_ok, if_pos hn, run_sizeOf w hi, hc, Nat.mul_one]
  exact run_part_plain w he hv
theorem ikey_arr_info : (Try.prog.info? 128).map (fun i => (i.zero, i.size)) = some (some (.agg #[.int .i64 0, .int .i64 0, .int .i64 0, .int .i64 0]), 4) := by kernel_rfl
def ikey_Check.f (a0_0 : ByteArray) (a0_1 : Int) (a0_2 : Int) : Option (Int) := if (a0_0.size : Int) > 64 then (some 21) else (if a0_1 > 72057594037927935 then (some 22) else (if a0_2 = 0 then (some 0) else (if a0_2 = 1 then (some 0) else (some 23))))
set_option maxHeartbeats 8000000 in
set_option maxRecDepth 100000 in
theorem ikey_Check.calls (a0_0 : ByteArray) (a0_1 : Int) (a0_2 : Int) (r : Int) (w : World) (h : ikey_Check.f a0_0 a0_1 a0_2 = some r) :
    Calls Try.prog 66 #[.agg #[.string a0_0, .int .u64 a0_1, .int .i64 a0_2]] w fun e w' => e = .returned (.int .i64 r) ∧ Below w.heap.size w w' := by
  have hu := Try.underlying45
  obtain ⟨hzv, hsz⟩ := zero_of_info (P := Try.prog) ikey_arr_info
  obtain ⟨ti, hti⟩ : ∃ ti, Try.prog.info? 28 = some ti := Option.isSome_iff_exists.mp (by kernel_rfl)
  have hix : ∀ (i : Int) (v : Value) (W : World), 0 ≤ i → i < 4 → (#[Value.int .i64 0, .int .i64 23, .int .i64 22, .int .i64 21] : Array Value)[i.toNat]? = some v → (Instr.index 128 (.agg #[.int .i64 0, .int .i64 23, .int .i64 22, .int .i64 21]) (.int .i64 i)).run Try.prog W = .ok v W :=
    fun i v W h0 h1 hv => h_index_arr Try.underlying128 hti (by kernel_rfl) (by kernel_rfl) h0 h1 hv W
  have hx0 := fun W => hix 0 _ W (by decide) (by decide) rfl
  have hx1 := fun W => hix 1 _ W (by decide) (by decide) rfl
  have hx2 := fun W => hix 2 _ W (by decide) (by decide) rfl
  have hx3 := fun W => hix 3 _ W (by decide) (by decide) rfl
  clear hix hti
  unfold ikey_Check.f at h
  by_cases c2 : (a0_0.size : Int) > 64
  · rw [if_pos c2] at h
    obtain rfl := Option.some.inj h
    have c2b0 : decide (64 < (a0_0.size : Int)) = true := decide_eq_true c2
    have c2b1 : decide (64 < a0_0.size) = true := decide_eq_true (by omega)
    clear c2 h
    go_enter Try.func66, Try.ntmps66
    go_wp2_with (first | ((with_reducible refine gate_dst (N := 1) rfl ?_); refine box_event ?hg (N := 1) ?hd (cs := #[.string a0_0, .int .u64 a0_1, .int .i64 a0_2]) (t := 45) ?hr ?_; (case hd => rfl); (case hg => rfl); (case hr => first | (go_simp; done) | (go_simp; rfl)); intro gb hg w3 hbox hb; have HB := Aside0.mk hb; have BK := Aside0.mk hbox; clear hb hbox hg; have hcz_0 : w3.cell? ⟨gb, 0, none⟩ = some (.string a0_0) := (blk_cell BK.out 0).trans rfl; have hcz_1 : w3.cell? ⟨gb, 1, none⟩ = some (.int .u64 a0_1) := (blk_cell BK.out 1).trans rfl; have hcz_2 : w3.cell? ⟨gb, 2, none⟩ = some (.int .i64 a0_2) := (blk_cell BK.out 2).trans rfl; have hfz_0 := blk_frozen BK.out 0; have hfz_1 := blk_frozen BK.out 1; have hfz_2 := blk_frozen BK.out 2))
    go_ret
    exact ⟨by rfl, HB.out⟩
  · rw [if_neg c2] at h
    have c2b0 : decide (64 < (a0_0.size : Int)) = false := decide_eq_false c2
    have c2b1 : decide (64 < a0_0.size) = false := decide_eq_false (by omega)
    clear c2
    by_cases c5 : a0_1 > 72057594037927935
    · rw [if_pos c5] at h
      obtain rfl := Option.some.inj h
      have c5b0 : decide (72057594037927935 < a0_1) = true := decide_eq_true c5
      clear c5 h
      go_enter Try.func66, Try.ntmps66
      go_wp2_with (first | ((with_reducible refine gate_dst (N := 1) rfl ?_); refine box_event ?hg (N := 1) ?hd (cs := #[.string a0_0, .int .u64 a0_1, .int .i64 a0_2]) (t := 45) ?hr ?_; (case hd => rfl); (case hg => rfl); (case hr => first | (go_simp; done) | (go_simp; rfl)); intro gb hg w3 hbox hb; have HB := Aside0.mk hb; have BK := Aside0.mk hbox; clear hb hbox hg; have hcz_0 : w3.cell? ⟨gb, 0, none⟩ = some (.string a0_0) := (blk_cell BK.out 0).trans rfl; have hcz_1 : w3.cell? ⟨gb, 1, none⟩ = some (.int .u64 a0_1) := (blk_cell BK.out 1).trans rfl; have hcz_2 : w3.cell? ⟨gb, 2, none⟩ = some (.int .i64 a0_2) := (blk_cell BK.out 2).trans rfl; have hfz_0 := blk_frozen BK.out 0; have hfz_1 := blk_frozen BK.out 1; have hfz_2 := blk_frozen BK.out 2))
      go_ret
      exact ⟨by rfl, HB.out⟩
    · rw [if_neg c5] at h
      have c5b0 : decide (72057594037927935 < a0_1) = false := decide_eq_false c5
      clear c5
      by_cases c8 : a0_2 = 0
      · rw [if_pos c8] at h
        obtain rfl := Option.some.inj h
        have c8b0 : (a0_2 == 0) = true := beq_iff_eq.mpr c8
        have c8b1 : (a0_2 != 0) = false := bne_eq_false_iff_eq.mpr c8
        clear c8 h
        go_enter Try.func66, Try.ntmps66
        go_wp2_with (first | ((with_reducible refine gate_dst (N := 1) rfl ?_); refine box_event ?hg (N := 1) ?hd (cs := #[.string a0_0, .int .u64 a0_1, .int .i64 a0_2]) (t := 45) ?hr ?_; (case hd => rfl); (case hg => rfl); (case hr => first | (go_simp; done) | (go_simp; rfl)); intro gb hg w3 hbox hb; have HB := Aside0.mk hb; have BK := Aside0.mk hbox; clear hb hbox hg; have hcz_0 : w3.cell? ⟨gb, 0, none⟩ = some (.string a0_0) := (blk_cell BK.out 0).trans rfl; have hcz_1 : w3.cell? ⟨gb, 1, none⟩ = some (.int .u64 a0_1) := (blk_cell BK.out 1).trans rfl; have hcz_2 : w3.cell? ⟨gb, 2, none⟩ = some (.int .i64 a0_2) := (blk_cell BK.out 2).trans rfl; have hfz_0 := blk_frozen BK.out 0; have hfz_1 := blk_frozen BK.out 1; have hfz_2 := blk_frozen BK.out 2))
        go_ret
        exact ⟨by rfl, HB.out⟩
      · rw [if_neg c8] at h
        have c8b0 : (a0_2 == 0) = false := beq_eq_false_iff_ne.mpr c8
        have c8b1 : (a0_2 != 0) = true := bne_iff_ne.mpr c8
        clear c8
        by_cases c9 : a0_2 = 1
        · rw [if_pos c9] at h
          obtain rfl := Option.some.inj h
          have c9b0 : (a0_2 == 1) = true := beq_iff_eq.mpr c9
          have c9b1 : (a0_2 != 1) = false := bne_eq_false_iff_eq.mpr c9
          clear c9 h
          go_enter Try.func66, Try.ntmps66
          go_wp2_with (first | ((with_reducible refine gate_dst (N := 1) rfl ?_); refine box_event ?hg (N := 1) ?hd (cs := #[.string a0_0, .int .u64 a0_1, .int .i64 a0_2]) (t := 45) ?hr ?_; (case hd => rfl); (case hg => rfl); (case hr => first | (go_simp; done) | (go_simp; rfl)); intro gb hg w3 hbox hb; have HB := Aside0.mk hb; have BK := Aside0.mk hbox; clear hb hbox hg; have hcz_0 : w3.cell? ⟨gb, 0, none⟩ = some (.string a0_0) := (blk_cell BK.out 0).trans rfl; have hcz_1 : w3.cell? ⟨gb, 1, none⟩ = some (.int .u64 a0_1) := (blk_cell BK.out 1).trans rfl; have hcz_2 : w3.cell? ⟨gb, 2, none⟩ = some (.int .i64 a0_2) := (blk_cell BK.out 2).trans rfl; have hfz_0 := blk_frozen BK.out 0; have hfz_1 := blk_frozen BK.out 1; have hfz_2 := blk_frozen BK.out 2))
          go_ret
          exact ⟨by rfl, HB.out⟩
        · rw [if_neg c9] at h
          obtain rfl := Option.some.inj h
          have c9b0 : (a0_2 == 1) = false := beq_eq_false_iff_ne.mpr c9
          have c9b1 : (a0_2 != 1) = true := bne_iff_ne.mpr c9
          clear c9 h
          go_enter Try.func66, Try.ntmps66
          go_wp2_with (first | ((with_reducible refine gate_dst (N := 1) rfl ?_); refine box_event ?hg (N := 1) ?hd (cs := #[.string a0_0, .int .u64 a0_1, .int .i64 a0_2]) (t := 45) ?hr ?_; (case hd => rfl); (case hg => rfl); (case hr => first | (go_simp; done) | (go_simp; rfl)); intro gb hg w3 hbox hb; have HB := Aside0.mk hb; have BK := Aside0.mk hbox; clear hb hbox hg; have hcz_0 : w3.cell? ⟨gb, 0, none⟩ = some (.string a0_0) := (blk_cell BK.out 0).trans rfl; have hcz_1 : w3.cell? ⟨gb, 1, none⟩ = some (.int .u64 a0_1) := (blk_cell BK.out 1).trans rfl; have hcz_2 : w3.cell? ⟨gb, 2, none⟩ = some (.int .i64 a0_2) := (blk_cell BK.out 2).trans rfl; have hfz_0 := blk_frozen BK.out 0; have hfz_1 := blk_frozen BK.out 1; have hfz_2 := blk_frozen BK.out 2))
          go_ret
          exact ⟨by rfl, HB.out⟩

end Go.Proofs.Ythdemdjobgbpdaa.P
