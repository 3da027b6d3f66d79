/- The walk of BlockNil. -/
import Derived.Test.YtppkpleagnddeaaBA
import Derived.Outline
namespace Go.Proofs.Ytppkpleagnddeaa.B
open Go.RowKit Go.Proofs.YtppkpleagnddeaaW.PrintWords Go.Proofs.YtppkpleagnddeaaW.PrintLast Go.Proofs.YtppkpleagnddeaaW.PrintMore Go.Proofs.Ytppkpleagnddeaa.P
set_option linter.unusedVariables false
set_option linter.unusedSimpArgs false
set_option maxRecDepth 100000 in
set_option maxHeartbeats 4000000 in
theorem Find_nil (q0 : ByteArray) (q1 q2 : Int) (w : World) : Calls Try.prog 17 #[.pointer none, .agg #[.string q0, .int .u64 q1, .int .i64 q2]] w fun e w' => e = .returned (.int .i64 0) ∧ Below w.heap.size w w' := by
  have HB := Aside0.mk (Below.refl w.heap.size w)
  go_enter Try.func17, Try.ntmps17
  go_wp2_with (first
    | ((with_reducible refine gate_dst (N := 2) rfl ?_); refine box_event ?hg (N := 2) ?hd (cs := #[.pointer none]) (t := 33) ?hr ?_; (case hd => rfl); (case hg => rfl); (case hr => first | (go_simp; done) | (go_simp; rfl)); intro gb hg w3 hbox hb
       have BK := Aside0.mk hbox
       have HB1 := Aside0.mk (below_step HB.out hb)
       clear hb hbox hg)
    | ((with_reducible refine gate_dst (N := 3) rfl ?_); refine box_event ?hg (N := 3) ?hd (cs := #[.string q0, .int .u64 q1, .int .i64 q2]) (t := 32) ?hr ?_; (case hd => rfl); (case hg => rfl); (case hr => first | (go_simp; done) | (go_simp; rfl)); intro gq hg w4 hbox hb
       have BK1 := Aside0.mk (blk_below BK.out hb)
       have HB2 := Aside0.mk (below_step HB1.out hb)
       have hz0 : w4.cell? ⟨gb, 0, none⟩ = some (.pointer none) := (blk_cell BK1.out 0).trans rfl
       clear hb hbox hg))
  go_ret
  exact ⟨rfl, HB2.out⟩
set_option maxRecDepth 100000 in
set_option maxHeartbeats 4000000 in
theorem nil_calls (q0 : ByteArray) (q1 q2 i : Int) (w : World) : Calls Try.prog 8 #[.agg #[.string q0, .int .u64 q1, .int .i64 q2], .int .i64 i] w fun e w' => e = .returned (.bool true) ∧ Below w.heap.size w w' := by
  have HB := Aside0.mk (Below.refl w.heap.size w)
  go_enter Try.func8, Try.ntmps8
  go_upto_region 6 with (first
    | ((with_reducible refine gate_dst (N := 2) rfl ?_); refine box_event ?hg (N := 2) ?hd (cs := #[.string q0, .int .u64 q1, .int .i64 q2]) (t := 32) ?hr ?_; (case hd => rfl); (case hg => rfl); (case hr => first | (go_simp; done) | (go_simp; rfl)); intro gk hg w3 hbox hb
       have BK := Aside0.mk hbox
       have HB1 := Aside0.mk (below_step HB.out hb)
       clear hb hbox hg)
    | (go_at_call 10; with_reducible refine (awake_calls _).mono ?_; rintro e w4 ⟨rfl, hb⟩
       have BK1 := Aside0.mk (blk_below BK.out hb)
       have HB2 := Aside0.mk (below_step HB1.out hb)
       clear hb)
    | (go_at_call 19; with_reducible refine (At_nil i _).mono ?_; rintro e w5 ⟨he, hb⟩
       have he2 : e = .returned (.tuple #[.agg #[.string (⟨#[]⟩ : ByteArray), .int .u64 0, .int .i64 0, .string (⟨#[]⟩ : ByteArray)], .int .i64 1]) := he
       subst he2
       have BK2 := Aside0.mk (blk_below BK1.out hb)
       have HB5 := Aside0.mk (below_step HB2.out hb)
       clear he hb)
    | ((with_reducible refine gate_dst (N := 7) rfl ?_); refine box_event ?hg (N := 7) ?hd (cs := #[.string (⟨#[]⟩ : ByteArray), .int .u64 0, .int .i64 0, .string (⟨#[]⟩ : ByteArray)]) (t := 42) ?hr ?_; (case hd => rfl); (case hg => rfl); (case hr => first | (go_simp; done) | (go_simp; rfl)); intro gy hg w6 hbox hb
       have BY := Aside0.mk hbox
       have GY : Aside0 (w.heap.size ≤ gy) := ⟨by rw [hg]; exact below_size HB5.out⟩
       have GN : Aside0 (gk ≠ gy) := ⟨by rw [hg]; exact Nat.ne_of_lt (blk_lt BK2.out)⟩
       have BKC := Aside0.mk (blk_below BK2.out hb)
       have HB6 := Aside0.mk (below_step HB5.out hb)
       have hz0 : w6.cell? ⟨gy, 0, none⟩ = some (.string (⟨#[]⟩ : ByteArray)) := (blk_cell hbox 0).trans rfl
       have hz1 : w6.cell? ⟨gy, 1, none⟩ = some (.int .u64 0) := (blk_cell hbox 1).trans rfl
       have hz2 : w6.cell? ⟨gy, 2, none⟩ = some (.int .i64 0) := (blk_cell hbox 2).trans rfl
       have hz3 : w6.cell? ⟨gy, 3, none⟩ = some (.string (⟨#[]⟩ : ByteArray)) := (blk_cell hbox 3).trans rfl
       have hf0 := blk_frozen hbox 0
       have hf1 := blk_frozen hbox 1
       have hf2 := blk_frozen hbox 2
       have hf3 := blk_frozen hbox 3
       clear hg hbox hb))
  obtain ⟨W9, hW9⟩ : ∃ x, ((((w6.setCell ⟨gy, 0, none⟩ (.string (⟨#[]⟩ : ByteArray))).setCell ⟨gy, 1, none⟩ (.int .u64 0)).setCell ⟨gy, 2, none⟩ (.int .i64 0)).setCell ⟨gy, 3, none⟩ (.string (⟨#[]⟩ : ByteArray))) = x := ⟨_, rfl⟩
  rw [hW9]
  have BY9 : W9.heap[gy]? = some (.cells #[.string (⟨#[]⟩ : ByteArray), .int .u64 0, .int .i64 0, .string (⟨#[]⟩ : ByteArray)] 42 (0, 0)) := by rw [← hW9]; exact blk_put (cs := #[.string (⟨#[]⟩ : ByteArray), .int .u64 0, .int .i64 0, .string (⟨#[]⟩ : ByteArray)]) (blk_put (cs := #[.string (⟨#[]⟩ : ByteArray), .int .u64 0, .int .i64 0, .string (⟨#[]⟩ : ByteArray)]) (blk_put (cs := #[.string (⟨#[]⟩ : ByteArray), .int .u64 0, .int .i64 0, .string (⟨#[]⟩ : ByteArray)]) (blk_put (cs := #[.string (⟨#[]⟩ : ByteArray), .int .u64 0, .int .i64 0, .string (⟨#[]⟩ : ByteArray)]) BY.out 0 _ rfl) 1 _ rfl) 2 _ rfl) 3 _ rfl
  have BK9 : W9.heap[gk]? = some (.cells #[.string q0, .int .u64 q1, .int .i64 q2] 32 (0, 0)) := by rw [← hW9]; exact blk_far (blk_far (blk_far (blk_far BKC.out (p := ⟨gy, 0, none⟩) GN.out _) (p := ⟨gy, 1, none⟩) GN.out _) (p := ⟨gy, 2, none⟩) GN.out _) (p := ⟨gy, 3, none⟩) GN.out _
  have HB9 : Below w.heap.size w W9 := by rw [← hW9]; exact below_set (below_set (below_set (below_set HB6.out GY.out) GY.out) GY.out) GY.out
  have k0 : W9.cell? ⟨gk, 0, none⟩ = some (.string q0) := (blk_cell BK9 0).trans rfl
  have k1 : W9.cell? ⟨gk, 1, none⟩ = some (.int .u64 q1) := (blk_cell BK9 1).trans rfl
  have k2 : W9.cell? ⟨gk, 2, none⟩ = some (.int .i64 q2) := (blk_cell BK9 2).trans rfl
  have m0 : W9.cell? ⟨gy, 0, none⟩ = some (.string (⟨#[]⟩ : ByteArray)) := (blk_cell BY9 0).trans rfl
  have m1 : W9.cell? ⟨gy, 1, none⟩ = some (.int .u64 0) := (blk_cell BY9 1).trans rfl
  have m2 : W9.cell? ⟨gy, 2, none⟩ = some (.int .i64 0) := (blk_cell BY9 2).trans rfl
  have m3 : W9.cell? ⟨gy, 3, none⟩ = some (.string (⟨#[]⟩ : ByteArray)) := (blk_cell BY9 3).trans rfl
  clear hW9 BY9 BK9 hz0 hz1 hz2 hz3 hf0 hf1 hf2 hf3
  have HBD := Aside0.mk HB9
  clear HB9
  go_wp2_with (first
    | (go_at_call 16; with_reducible refine (Len_nil _).mono ?_; rintro e w11 ⟨rfl, rfl⟩)
    | (go_at_call 17; with_reducible refine (Find_nil q0 q1 q2 _).mono ?_; rintro e w7 ⟨rfl, hb⟩; have HB7 := Aside0.mk (below_step HBD.out hb); clear hb))
  go_ret
  exact ⟨rfl, HB7.out⟩
end Go.Proofs.Ytppkpleagnddeaa.B
namespace Go.Proofs.Ytppkpleagnddeaa.P
open Go.RowKit Go.Proofs.YtppkpleagnddeaaW.PrintWords
theorem staddlelaw11_BlockNil.calls (q0 : ByteArray) (q1 q2 i : Int) (r : Bool) (w : World) (hf : true = r) : Calls Try.prog 8 #[.agg #[.string q0, .int .u64 q1, .int .i64 q2], .int .i64 i] w fun e w' => e = .returned (.bool r) ∧ Below w.heap.size w w' := by
  subst hf
  exact B.nil_calls q0 q1 q2 i w
end Go.Proofs.Ytppkpleagnddeaa.P
