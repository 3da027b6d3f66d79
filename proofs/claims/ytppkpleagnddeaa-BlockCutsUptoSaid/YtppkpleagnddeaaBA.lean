/- The head 'awake' of block's statements answers true: its walk. -/
import Derived.Test.YtppkpleagnddeaaBQ
import Derived.Test.YtppkpleagnddeaaBF
namespace Go.Proofs.Ytppkpleagnddeaa.B
open Go.RowKit Go.Proofs.YtppkpleagnddeaaW.PrintWords Go.Proofs.YtppkpleagnddeaaW.PrintLast Go.Proofs.YtppkpleagnddeaaW.PrintMore Go.Proofs.Ytppkpleagnddeaa.P
set_option linter.unusedVariables false
set_option linter.unusedSimpArgs false
def awL : List S42 := [⟨⟨(⟨#[97, 98]⟩ : ByteArray), 1, 1⟩, (⟨#[120]⟩ : ByteArray)⟩, ⟨⟨(⟨#[97, 99]⟩ : ByteArray), 1, 1⟩, (⟨#[]⟩ : ByteArray)⟩]
def awB : List Int := match block_Build.f 24 awL 2 with
  | some x => x.1
  | none => []
set_option maxRecDepth 100000 in
theorem aw_build : block_Build.f 24 awL 2 = some (awB, 0) := by kernel_rfl
set_option maxRecDepth 100000 in
theorem aw_len : awB.length = 35 := by kernel_rfl
set_option maxRecDepth 100000 in
theorem aw_0 : rd awB 0 = 0 := by kernel_rfl
set_option maxRecDepth 100000 in
theorem aw_1 : rd awB 1 = 10 := by kernel_rfl
set_option maxRecDepth 100000 in
theorem aw_14 : rd awB 14 = 1 := by kernel_rfl
set_option maxRecDepth 100000 in
theorem aw_open : open_g 24 awB = some (some (awL, 2)) := by kernel_rfl
set_option maxRecDepth 100000 in
theorem aw_find1 : find_f 24 awL 2 ⟨(⟨#[97, 98]⟩ : ByteArray), 9, 0⟩ = some 0 := by kernel_rfl
set_option maxRecDepth 100000 in
theorem aw_find2 : find_f 24 awL 2 ⟨(⟨#[97, 98]⟩ : ByteArray), 0, 0⟩ = some 1 := by kernel_rfl
set_option maxHeartbeats 1000000 in
set_option maxRecDepth 100000 in
theorem awake_calls (w : World) : Calls Try.prog 10 #[] w fun e w' => e = .returned (.bool true) ∧ Below w.heap.size w w' := by
  have HB := Aside0.mk (Below.refl w.heap.size w)
  go_enter Try.func10, Try.ntmps10
  go_upto_region 4 with (first
    | ((with_reducible refine gate_dst (N := 12) rfl ?_); refine Kd.R_lit k42 _ 42 ?hg (N := 12) ?hd (xs := awL) (inner := [.string (⟨#[97, 98]⟩ : ByteArray), .int .u64 1, .int .i64 1, .string (⟨#[120]⟩ : ByteArray), .string (⟨#[97, 99]⟩ : ByteArray), .int .u64 1, .int .i64 1, .string (⟨#[]⟩ : ByteArray)]) (ok := fun _ => True) (okp := fun _ => True) ?hr ?hp (fun _ hk => hk) trivial (Below.refl _ _) (Nat.le_refl _) (by decide) ?_; (case hd => rfl); (case hg => rfl); (case hr => first | (go_simp; done) | (go_simp; rfl)); (case hp => exact Reps.c4 (k42_mkM _ _ _ ⟨⟨(⟨#[97, 98]⟩ : ByteArray), 1, 1⟩, (⟨#[120]⟩ : ByteArray)⟩) (Reps.c4 (k42_mkM _ _ _ ⟨⟨(⟨#[97, 99]⟩ : ByteArray), 1, 1⟩, (⟨#[]⟩ : ByteArray)⟩) (Reps.none _ _)))
       intro vl w2 hol hb hg_ hnew_
       clear hg_ hnew_
       have HL := Aside0.mk hol
       have HB1 := Aside0.mk (below_step HB.out hb)
       obtain ⟨Al, cl, el⟩ := Kd.R_slice hol
       subst el
       clear hol hb)
    | (go_at_call 11; with_reducible refine (block_Build.calls 24 Al cl awL 2 awB 0 _ (Kd.R_reads' HL.out).2.2 (Kd.R_reads' HL.out).2.1 aw_build).mono ?_; rintro e w3 ⟨vb, rfl, hob, hb⟩
       have HL2 := Aside0.mk (Kd.R_below HL.out hb)
       have HO := Aside0.mk hob
       have HB2 := Aside0.mk (below_step HB1.out hb)
       obtain ⟨Ab, cb, eb⟩ := Kd.R_slice hob
       subst eb
       clear hob hb HL)
    | (go_at_call 14; with_reducible refine (Open_own 24 Ab cb awB (some (awL, 2)) _ (Kd.R_reads' HO.out).2.2 (Kd.R_reads' HO.out).2.1 aw_open).mono ?_; rintro e w4 ⟨hb, hm⟩; obtain ⟨g, rfl, hgw, hown⟩ := hm
       have HL3 := Aside0.mk (Kd.R_below HL2.out hb)
       have HO3 := Aside0.mk (Kd.R_below HO.out hb)
       have BLK := Aside0.mk hown.blk
       have HB3 := Aside0.mk (below_step HB2.out hb)
       clear hb hgw hown HO HL2))
  obtain ⟨ab, eab, hc0⟩ := Kd.at_int (Kd.R_reads' HO3.out).2.2 0 (by decide) (by rw [aw_len]; decide)
  subst eab
  obtain ⟨ab1, eab1, hc1⟩ := Kd.at_int (Kd.R_reads' HO3.out).2.2 1 (by decide) (by rw [aw_len]; decide)
  obtain ⟨ab2, eab2, hc2⟩ := Kd.at_int (Kd.R_reads' HO3.out).2.2 14 (by decide) (by rw [aw_len]; decide)
  cases eab1
  cases eab2
  rw [aw_0] at hc0
  rw [aw_1] at hc1
  rw [aw_14] at hc2
  have hc0' : w4.cell? ab = some (.int .u8 0) := by simpa [Addr.add] using hc0
  have hc1' : w4.cell? ⟨ab.block, ab.off + 1, none⟩ = some (.int .u8 10) := hc1
  have hc2' : w4.cell? ⟨ab.block, ab.off + 14, none⟩ = some (.int .u8 1) := hc2
  have hL := aw_len
  go_upto_region 7 with (first
    | (go_at_call 19; with_reducible refine (At_calls g awL 2 1 _ BLK.out (by decide) (by decide)).mono ?_; rintro e w5 ⟨he, hb⟩
       have he2 : e = .returned (.tuple #[.agg #[.string (⟨#[97, 99]⟩ : ByteArray), .int .u64 1, .int .i64 1, .string (⟨#[]⟩ : ByteArray)], .int .i64 0]) := he
       subst he2
       have BLK5 := Aside0.mk (BLK.out.below hb)
       have HL5 := Aside0.mk (Kd.R_below HL3.out hb)
       have HB5 := Aside0.mk (below_step HB3.out hb)
       clear he hb)
    | ((with_reducible refine gate_dst (N := 6) rfl ?_); refine box_event ?hg (N := 6) ?hd (cs := #[.string (⟨#[]⟩ : ByteArray), .int .u64 0, .int .i64 0, .string (⟨#[]⟩ : ByteArray)]) (t := 42) ?hr ?_; (case hd => rfl); (case hg => rfl); (case hr => first | (go_simp; done) | (go_simp; rfl)); intro gy hg w6 hbox hb
       have BY := Aside0.mk hbox
       have GY : Aside0 (w.heap.size ≤ gy) := ⟨by rw [hg]; exact below_size HB5.out⟩
       have GY5 : Aside0 (w5.heap.size ≤ gy) := ⟨by rw [hg]; exact Nat.le_refl _⟩
       have BLK6 := Aside0.mk (BLK5.out.below hb)
       have HL6 : Aside0 (Kd.R k42 42 w6 _ (fun k => k ≠ gy) (.slice Al awL.length cl) awL) := ⟨Kd.R_below (Kd.R_mono (Kd.R_bound HL5.out) (fun k hk => by have := hk.2.2.1; have := GY5.out; omega)) hb⟩
       have HB6 := Aside0.mk (below_step HB5.out hb)
       have HB56 := Aside0.mk hb
       have hz0 : w6.cell? ⟨gy, 0, none⟩ = some (.string (⟨#[]⟩ : ByteArray)) := (blk_cell hbox 0).trans rfl
       have hz1 : w6.cell? ⟨gy, 1, none⟩ = some (.int .u64 0) := (blk_cell hbox 1).trans rfl
       have hz2 : w6.cell? ⟨gy, 2, none⟩ = some (.int .i64 0) := (blk_cell hbox 2).trans rfl
       have hz3 : w6.cell? ⟨gy, 3, none⟩ = some (.string (⟨#[]⟩ : ByteArray)) := (blk_cell hbox 3).trans rfl
       have hf0 := blk_frozen hbox 0
       have hf1 := blk_frozen hbox 1
       have hf2 := blk_frozen hbox 2
       have hf3 := blk_frozen hbox 3
       clear hg hbox hb))
  obtain ⟨W9, hW9⟩ : ∃ x, ((((w6.setCell ⟨gy, 0, none⟩ (.string (⟨#[97, 99]⟩ : ByteArray))).setCell ⟨gy, 1, none⟩ (.int .u64 1)).setCell ⟨gy, 2, none⟩ (.int .i64 1)).setCell ⟨gy, 3, none⟩ (.string (⟨#[]⟩ : ByteArray))) = x := ⟨_, rfl⟩
  rw [hW9]
  have BY9 : W9.heap[gy]? = some (.cells #[.string (⟨#[97, 99]⟩ : ByteArray), .int .u64 1, .int .i64 1, .string (⟨#[]⟩ : ByteArray)] 42 (0, 0)) := by rw [← hW9]; exact blk_put (cs := #[.string (⟨#[97, 99]⟩ : ByteArray), .int .u64 1, .int .i64 1, .string (⟨#[]⟩ : ByteArray)]) (blk_put (cs := #[.string (⟨#[97, 99]⟩ : ByteArray), .int .u64 1, .int .i64 0, .string (⟨#[]⟩ : ByteArray)]) (blk_put (cs := #[.string (⟨#[97, 99]⟩ : ByteArray), .int .u64 0, .int .i64 0, .string (⟨#[]⟩ : ByteArray)]) (blk_put (cs := #[.string (⟨#[]⟩ : ByteArray), .int .u64 0, .int .i64 0, .string (⟨#[]⟩ : ByteArray)]) BY.out 0 _ rfl) 1 _ rfl) 2 _ rfl) 3 _ rfl
  have HB59 : Below w5.heap.size w5 W9 := by rw [← hW9]; exact below_set (below_set (below_set (below_set HB56.out GY5.out) GY5.out) GY5.out) GY5.out
  have HB9 : Below w.heap.size w W9 := by rw [← hW9]; exact below_set (below_set (below_set (below_set HB6.out GY.out) GY.out) GY.out) GY.out
  have BLKD : Aside0 (IsBlk W9.drew g awL 2) := ⟨BLK5.out.below (below_drew1 HB59)⟩
  have HLD : Kd.R k42 42 W9.drew _ (fun _ => True) (.slice Al awL.length cl) awL := Kd.R_below HL5.out (below_drew1 HB59)
  obtain ⟨al, eal, k0, k1, k2, k3⟩ := at_T42 (Kd.R_reads' HLD).2.2 1 (by decide) (by decide)
  cases eal
  have hBYD : W9.drew.heap[gy]? = some (.cells #[.string (⟨#[97, 99]⟩ : ByteArray), .int .u64 1, .int .i64 1, .string (⟨#[]⟩ : ByteArray)] 42 (0, 0)) := blk_drew BY9
  have HBD : Aside0 (Below w.heap.size w W9.drew) := ⟨below_drew1 HB9⟩
  have hLL : awL.length = 2 := rfl
  replace k0 := Aside0.mk (show W9.drew.cell? ⟨al.block, al.off + 4, none⟩ = some (.string (⟨#[97, 99]⟩ : ByteArray)) from k0)
  replace k1 := Aside0.mk (show W9.drew.cell? ⟨al.block, al.off + 4 + 1, none⟩ = some (.int .u64 1) from k1)
  replace k2 := Aside0.mk (show W9.drew.cell? ⟨al.block, al.off + 4 + 2, none⟩ = some (.int .i64 1) from k2)
  replace k3 := Aside0.mk (show W9.drew.cell? ⟨al.block, al.off + 4 + 3, none⟩ = some (.string (⟨#[]⟩ : ByteArray)) from k3)
  have m0 := Aside0.mk (show W9.drew.cell? ⟨gy, 0, none⟩ = some (.string (⟨#[97, 99]⟩ : ByteArray)) from (blk_cell hBYD 0).trans rfl)
  have m1 := Aside0.mk (show W9.drew.cell? ⟨gy, 1, none⟩ = some (.int .u64 1) from (blk_cell hBYD 1).trans rfl)
  have m2 := Aside0.mk (show W9.drew.cell? ⟨gy, 2, none⟩ = some (.int .i64 1) from (blk_cell hBYD 2).trans rfl)
  have m3 := Aside0.mk (show W9.drew.cell? ⟨gy, 3, none⟩ = some (.string (⟨#[]⟩ : ByteArray)) from (blk_cell hBYD 3).trans rfl)
  clear hW9 BY9 HB59 HB9 HLD hBYD hz0 hz1 hz2 hz3 hf0 hf1 hf2 hf3 hc0 hc1 hc2 hc0' hc1' hc2'
  refine start_ (n := 27) (S := fun w' => w'.cell? ⟨al.block, al.off + 4, none⟩ = some (.string (⟨#[97, 99]⟩ : ByteArray)) ∧ w'.cell? ⟨al.block, al.off + 4 + 1, none⟩ = some (.int .u64 1) ∧ w'.cell? ⟨al.block, al.off + 4 + 2, none⟩ = some (.int .i64 1) ∧ w'.cell? ⟨al.block, al.off + 4 + 3, none⟩ = some (.string (⟨#[]⟩ : ByteArray)) ∧ w'.cell? ⟨gy, 0, none⟩ = some (.string (⟨#[97, 99]⟩ : ByteArray)) ∧ w'.cell? ⟨gy, 1, none⟩ = some (.int .u64 1) ∧ w'.cell? ⟨gy, 2, none⟩ = some (.int .i64 1) ∧ w'.cell? ⟨gy, 3, none⟩ = some (.string (⟨#[]⟩ : ByteArray))) (ds := []) #[false, false, false, false, false, false, false, false, false, false, false, false, false, false, false, false, false, false, false, false, false, false, false, false, false, false, false] (by kernel_rfl) rfl rfl ⟨k0.out, k1.out, k2.out, k3.out, m0.out, m1.out, m2.out, m3.out⟩ (fun hHeld => ?_)
  refine pure_ (i := 0) (N := some 61) (v := ?_) (a' := ?_) #[true, false, false, false, false, false, false, false, false, false, false, false, false, false, false, false, false, false, false, false, false, false, false, false, false, false, false] rfl rfl (by kernel_rfl) (fun _ _ _ h => h) (Or.inl ⟨by rfl, ?_⟩) ?_ ?_
  rotate_left
  · intro w'
    go_simp
    with_reducible rfl
  rotate_left
  · simp only [Act.put, List.setIfInBounds_toArray, List.set_cons_zero, List.set_cons_succ, i64_w, i32_w]
    rfl
  refine one_ (i := 1) (N := some 62) #[true, true, false, false, false, false, false, false, false, false, false, false, false, false, false, false, false, false, false, false, false, false, false, false, false, false, false] rfl rfl (by kernel_rfl) (by decide) (fun K hK => ?_)
  refine goes_ Try.func16 (by kernel_rfl) rfl #[.pointer (some ⟨g, 0, none⟩)] (by rfl) rfl rfl (by simp only [List.map_toArray, List.map_cons, List.map_nil]; rfl) ?_
  with_reducible refine (Len_calls g awL 2 _ BLKD.out).mono ?_
  rintro e W1 ⟨rfl, rfl⟩
  refine ⟨_, rfl, ?_⟩
  refine hK.out _ _ ⟨k0.out, k1.out, k2.out, k3.out, m0.out, m1.out, m2.out, m3.out⟩ (fun hHeld => ?_)
  clear hK K
  refine norm_ (a' := ?_) ?_ ?_
  rotate_left
  · show Act.put _ (some 62) _ = _
    simp only [Act.put, List.setIfInBounds_toArray, List.set_cons_zero, List.set_cons_succ, i64_w, i32_w]
    rfl
  refine pure_ (i := 2) (N := some 63) (v := ?_) (a' := ?_) #[true, true, true, false, false, false, false, false, false, false, false, false, false, false, false, false, false, false, false, false, false, false, false, false, false, false, false] rfl rfl (by kernel_rfl) (fun _ _ _ h => h) (Or.inl ⟨by rfl, ?_⟩) ?_ ?_
  rotate_left
  · intro w'
    go_simp
    with_reducible rfl
  rotate_left
  · simp only [Act.put, List.setIfInBounds_toArray, List.set_cons_zero, List.set_cons_succ, i64_w, i32_w]
    rfl
  refine pure_ (i := 3) (N := some 64) (v := ?_) (a' := ?_) #[true, true, true, true, false, false, false, false, false, false, false, false, false, false, false, false, false, false, false, false, false, false, false, false, false, false, false] rfl rfl (by kernel_rfl) (fun _ _ _ h => h) (Or.inl ⟨by rfl, ?_⟩) ?_ ?_
  rotate_left
  · intro w'
    go_simp
    with_reducible rfl
  rotate_left
  · simp only [Act.put, List.setIfInBounds_toArray, List.set_cons_zero, List.set_cons_succ, i64_w, i32_w]
    rfl
  refine pure_ (i := 5) (N := some 66) (v := ?_) (a' := ?_) #[true, true, true, true, false, true, false, false, false, false, false, false, false, false, false, false, false, false, false, false, false, false, false, false, false, false, false] rfl rfl (by kernel_rfl) (fun _ _ _ h => h) (Or.inl ⟨by rfl, ?_⟩) ?_ ?_
  rotate_left
  · intro w'
    go_simp
    with_reducible rfl
  rotate_left
  · simp only [Act.put, List.setIfInBounds_toArray, List.set_cons_zero, List.set_cons_succ, i64_w, i32_w]
    rfl
  refine pure_ (i := 6) (N := some 67) (v := ?_) (a' := ?_) #[true, true, true, true, false, true, true, false, false, false, false, false, false, false, false, false, false, false, false, false, false, false, false, false, false, false, false] rfl rfl (by kernel_rfl) (fun _ _ _ h => h) (Or.inl ⟨by rfl, ?_⟩) ?_ ?_
  rotate_left
  · intro w'
    go_simp
    with_reducible rfl
  rotate_left
  · simp only [Act.put, List.setIfInBounds_toArray, List.set_cons_zero, List.set_cons_succ, i64_w, i32_w]
    rfl
  refine take_ (i := 4) (N := some 65) (v := ?_) (a' := ?_) #[true, true, true, true, true, true, true, false, false, false, false, false, false, false, false, false, false, false, false, false, false, false, false, false, false, false, false] rfl rfl (by kernel_rfl) (fun _ _ _ h => h) (Or.inl ⟨by rfl, ?_⟩) hHeld ?_ ?_
  rotate_left
  · rintro w' ⟨s0, s1, s2, s3, s4, s5, s6, s7⟩
    go_simp
    with_reducible rfl
  rotate_left
  · simp only [Act.put, List.setIfInBounds_toArray, List.set_cons_zero, List.set_cons_succ, i64_w, i32_w]
    rfl
  refine take_ (i := 7) (N := some 68) (v := ?_) (a' := ?_) #[true, true, true, true, true, true, true, true, false, false, false, false, false, false, false, false, false, false, false, false, false, false, false, false, false, false, false] rfl rfl (by kernel_rfl) (fun _ _ _ h => h) (Or.inl ⟨by rfl, ?_⟩) hHeld ?_ ?_
  rotate_left
  · rintro w' ⟨s0, s1, s2, s3, s4, s5, s6, s7⟩
    go_simp
    with_reducible rfl
  rotate_left
  · simp only [Act.put, List.setIfInBounds_toArray, List.set_cons_zero, List.set_cons_succ, i64_w, i32_w]
    rfl
  refine pure_ (i := 8) (N := some 69) (v := ?_) (a' := ?_) #[true, true, true, true, true, true, true, true, true, false, false, false, false, false, false, false, false, false, false, false, false, false, false, false, false, false, false] rfl rfl (by kernel_rfl) (fun _ _ _ h => h) (Or.inl ⟨by rfl, ?_⟩) ?_ ?_
  rotate_left
  · intro w'
    go_simp
    with_reducible rfl
  rotate_left
  · simp only [Act.put, List.setIfInBounds_toArray, List.set_cons_zero, List.set_cons_succ, i64_w, i32_w]
    rfl
  refine pure_ (i := 9) (N := some 70) (v := ?_) (a' := ?_) #[true, true, true, true, true, true, true, true, true, true, false, false, false, false, false, false, false, false, false, false, false, false, false, false, false, false, false] rfl rfl (by kernel_rfl) (fun _ _ _ h => h) (Or.inl ⟨by rfl, ?_⟩) ?_ ?_
  rotate_left
  · intro w'
    go_simp
    with_reducible rfl
  rotate_left
  · simp only [Act.put, List.setIfInBounds_toArray, List.set_cons_zero, List.set_cons_succ, i64_w, i32_w]
    rfl
  refine pure_ (i := 10) (N := some 71) (v := ?_) (a' := ?_) #[true, true, true, true, true, true, true, true, true, true, true, false, false, false, false, false, false, false, false, false, false, false, false, false, false, false, false] rfl rfl (by kernel_rfl) (fun _ _ _ h => h) (Or.inl ⟨by rfl, ?_⟩) ?_ ?_
  rotate_left
  · intro w'
    go_simp
    with_reducible rfl
  rotate_left
  · simp only [Act.put, List.setIfInBounds_toArray, List.set_cons_zero, List.set_cons_succ, i64_w, i32_w]
    rfl
  refine pure_ (i := 11) (N := some 72) (v := ?_) (a' := ?_) #[true, true, true, true, true, true, true, true, true, true, true, true, false, false, false, false, false, false, false, false, false, false, false, false, false, false, false] rfl rfl (by kernel_rfl) (fun _ _ _ h => h) (Or.inl ⟨by rfl, ?_⟩) ?_ ?_
  rotate_left
  · intro w'
    go_simp
    with_reducible rfl
  rotate_left
  · simp only [Act.put, List.setIfInBounds_toArray, List.set_cons_zero, List.set_cons_succ, i64_w, i32_w]
    rfl
  refine pure_ (i := 12) (N := some 73) (v := ?_) (a' := ?_) #[true, true, true, true, true, true, true, true, true, true, true, true, true, false, false, false, false, false, false, false, false, false, false, false, false, false, false] rfl rfl (by kernel_rfl) (fun _ _ _ h => h) (Or.inl ⟨by rfl, ?_⟩) ?_ ?_
  rotate_left
  · intro w'
    go_simp
    with_reducible rfl
  rotate_left
  · simp only [Act.put, List.setIfInBounds_toArray, List.set_cons_zero, List.set_cons_succ, i64_w, i32_w]
    rfl
  refine pure_ (i := 13) (N := some 74) (v := ?_) (a' := ?_) #[true, true, true, true, true, true, true, true, true, true, true, true, true, true, false, false, false, false, false, false, false, false, false, false, false, false, false] rfl rfl (by kernel_rfl) (fun _ _ _ h => h) (Or.inl ⟨by rfl, ?_⟩) ?_ ?_
  rotate_left
  · intro w'
    go_simp
    with_reducible rfl
  rotate_left
  · simp only [Act.put, List.setIfInBounds_toArray, List.set_cons_zero, List.set_cons_succ, i64_w, i32_w]
    rfl
  refine pure_ (i := 14) (N := some 75) (v := ?_) (a' := ?_) #[true, true, true, true, true, true, true, true, true, true, true, true, true, true, true, false, false, false, false, false, false, false, false, false, false, false, false] rfl rfl (by kernel_rfl) (fun _ _ _ h => h) (Or.inl ⟨by rfl, ?_⟩) ?_ ?_
  rotate_left
  · intro w'
    go_simp
    with_reducible rfl
  rotate_left
  · simp only [Act.put, List.setIfInBounds_toArray, List.set_cons_zero, List.set_cons_succ, i64_w, i32_w]
    rfl
  refine pure_ (i := 15) (N := some 76) (v := ?_) (a' := ?_) #[true, true, true, true, true, true, true, true, true, true, true, true, true, true, true, true, false, false, false, false, false, false, false, false, false, false, false] rfl rfl (by kernel_rfl) (fun _ _ _ h => h) (Or.inl ⟨by rfl, ?_⟩) ?_ ?_
  rotate_left
  · intro w'
    go_simp
    with_reducible rfl
  rotate_left
  · simp only [Act.put, List.setIfInBounds_toArray, List.set_cons_zero, List.set_cons_succ, i64_w, i32_w]
    rfl
  refine pure_ (i := 16) (N := some 77) (v := ?_) (a' := ?_) #[true, true, true, true, true, true, true, true, true, true, true, true, true, true, true, true, true, false, false, false, false, false, false, false, false, false, false] rfl rfl (by kernel_rfl) (fun _ _ _ h => h) (Or.inl ⟨by rfl, ?_⟩) ?_ ?_
  rotate_left
  · intro w'
    go_simp
    with_reducible rfl
  rotate_left
  · simp only [Act.put, List.setIfInBounds_toArray, List.set_cons_zero, List.set_cons_succ, i64_w, i32_w]
    rfl
  refine one_ (i := 17) (N := some 78) #[true, true, true, true, true, true, true, true, true, true, true, true, true, true, true, true, true, true, false, false, false, false, false, false, false, false, false] rfl rfl (by kernel_rfl) (by decide) (fun K hK => ?_)
  refine goes_ Try.func17 (by kernel_rfl) rfl #[.pointer (some ⟨g, 0, none⟩), .agg #[.string (⟨#[97, 98]⟩ : ByteArray), .int .u64 9, .int .i64 0]] (by rfl) rfl rfl (by simp only [List.map_toArray, List.map_cons, List.map_nil]; rfl) ?_
  with_reducible refine (Find_calls 24 g awL 2 ⟨(⟨#[97, 98]⟩ : ByteArray), 9, 0⟩ 0 _ BLKD.out aw_find1).mono ?_
  rintro e W7 ⟨rfl, hb⟩
  refine ⟨_, rfl, ?_⟩
  have BLK7 := Aside0.mk (BLKD.out.below hb)
  have HB7 := Aside0.mk (below_step HBD.out hb)
  have k0b := Aside0.mk ((hb.cell (World.block_lt_of_cell? _ _ k0.out)).trans k0.out)
  have k1b := Aside0.mk ((hb.cell (World.block_lt_of_cell? _ _ k1.out)).trans k1.out)
  have k2b := Aside0.mk ((hb.cell (World.block_lt_of_cell? _ _ k2.out)).trans k2.out)
  have k3b := Aside0.mk ((hb.cell (World.block_lt_of_cell? _ _ k3.out)).trans k3.out)
  have m0b := Aside0.mk ((hb.cell (World.block_lt_of_cell? _ _ m0.out)).trans m0.out)
  have m1b := Aside0.mk ((hb.cell (World.block_lt_of_cell? _ _ m1.out)).trans m1.out)
  have m2b := Aside0.mk ((hb.cell (World.block_lt_of_cell? _ _ m2.out)).trans m2.out)
  have m3b := Aside0.mk ((hb.cell (World.block_lt_of_cell? _ _ m3.out)).trans m3.out)
  clear hb
  refine hK.out _ _ ⟨k0b.out, k1b.out, k2b.out, k3b.out, m0b.out, m1b.out, m2b.out, m3b.out⟩ (fun hHeld => ?_)
  clear hK K
  refine norm_ (a' := ?_) ?_ ?_
  rotate_left
  · show Act.put _ (some 78) _ = _
    simp only [Act.put, List.setIfInBounds_toArray, List.set_cons_zero, List.set_cons_succ, i64_w, i32_w]
    rfl
  refine pure_ (i := 18) (N := some 79) (v := ?_) (a' := ?_) #[true, true, true, true, true, true, true, true, true, true, true, true, true, true, true, true, true, true, true, false, false, false, false, false, false, false, false] rfl rfl (by kernel_rfl) (fun _ _ _ h => h) (Or.inl ⟨by rfl, ?_⟩) ?_ ?_
  rotate_left
  · intro w'
    go_simp
    with_reducible rfl
  rotate_left
  · simp only [Act.put, List.setIfInBounds_toArray, List.set_cons_zero, List.set_cons_succ, i64_w, i32_w]
    rfl
  refine pure_ (i := 19) (N := some 80) (v := ?_) (a' := ?_) #[true, true, true, true, true, true, true, true, true, true, true, true, true, true, true, true, true, true, true, true, false, false, false, false, false, false, false] rfl rfl (by kernel_rfl) (fun _ _ _ h => h) (Or.inl ⟨by rfl, ?_⟩) ?_ ?_
  rotate_left
  · intro w'
    go_simp
    with_reducible rfl
  rotate_left
  · simp only [Act.put, List.setIfInBounds_toArray, List.set_cons_zero, List.set_cons_succ, i64_w, i32_w]
    rfl
  refine pure_ (i := 20) (N := some 81) (v := ?_) (a' := ?_) #[true, true, true, true, true, true, true, true, true, true, true, true, true, true, true, true, true, true, true, true, true, false, false, false, false, false, false] rfl rfl (by kernel_rfl) (fun _ _ _ h => h) (Or.inl ⟨by rfl, ?_⟩) ?_ ?_
  rotate_left
  · intro w'
    go_simp
    with_reducible rfl
  rotate_left
  · simp only [Act.put, List.setIfInBounds_toArray, List.set_cons_zero, List.set_cons_succ, i64_w, i32_w]
    rfl
  refine pure_ (i := 21) (N := some 82) (v := ?_) (a' := ?_) #[true, true, true, true, true, true, true, true, true, true, true, true, true, true, true, true, true, true, true, true, true, true, false, false, false, false, false] rfl rfl (by kernel_rfl) (fun _ _ _ h => h) (Or.inl ⟨by rfl, ?_⟩) ?_ ?_
  rotate_left
  · intro w'
    go_simp
    with_reducible rfl
  rotate_left
  · simp only [Act.put, List.setIfInBounds_toArray, List.set_cons_zero, List.set_cons_succ, i64_w, i32_w]
    rfl
  refine pure_ (i := 22) (N := some 83) (v := ?_) (a' := ?_) #[true, true, true, true, true, true, true, true, true, true, true, true, true, true, true, true, true, true, true, true, true, true, true, false, false, false, false] rfl rfl (by kernel_rfl) (fun _ _ _ h => h) (Or.inl ⟨by rfl, ?_⟩) ?_ ?_
  rotate_left
  · intro w'
    go_simp
    with_reducible rfl
  rotate_left
  · simp only [Act.put, List.setIfInBounds_toArray, List.set_cons_zero, List.set_cons_succ, i64_w, i32_w]
    rfl
  refine one_ (i := 23) (N := some 84) #[true, true, true, true, true, true, true, true, true, true, true, true, true, true, true, true, true, true, true, true, true, true, true, true, false, false, false] rfl rfl (by kernel_rfl) (by decide) (fun K hK => ?_)
  refine goes_ Try.func17 (by kernel_rfl) rfl #[.pointer (some ⟨g, 0, none⟩), .agg #[.string (⟨#[97, 98]⟩ : ByteArray), .int .u64 0, .int .i64 0]] (by rfl) rfl rfl (by simp only [List.map_toArray, List.map_cons, List.map_nil]; rfl) ?_
  with_reducible refine (Find_calls 24 g awL 2 ⟨(⟨#[97, 98]⟩ : ByteArray), 0, 0⟩ 1 _ BLK7.out aw_find2).mono ?_
  rintro e W8 ⟨rfl, hb⟩
  refine ⟨_, rfl, ?_⟩
  have BLK8 := Aside0.mk (BLK7.out.below hb)
  have HB8 := Aside0.mk (below_step HB7.out hb)
  have k0c := Aside0.mk ((hb.cell (World.block_lt_of_cell? _ _ k0b.out)).trans k0b.out)
  have k1c := Aside0.mk ((hb.cell (World.block_lt_of_cell? _ _ k1b.out)).trans k1b.out)
  have k2c := Aside0.mk ((hb.cell (World.block_lt_of_cell? _ _ k2b.out)).trans k2b.out)
  have k3c := Aside0.mk ((hb.cell (World.block_lt_of_cell? _ _ k3b.out)).trans k3b.out)
  have m0c := Aside0.mk ((hb.cell (World.block_lt_of_cell? _ _ m0b.out)).trans m0b.out)
  have m1c := Aside0.mk ((hb.cell (World.block_lt_of_cell? _ _ m1b.out)).trans m1b.out)
  have m2c := Aside0.mk ((hb.cell (World.block_lt_of_cell? _ _ m2b.out)).trans m2b.out)
  have m3c := Aside0.mk ((hb.cell (World.block_lt_of_cell? _ _ m3b.out)).trans m3b.out)
  clear hb
  refine hK.out _ _ ⟨k0c.out, k1c.out, k2c.out, k3c.out, m0c.out, m1c.out, m2c.out, m3c.out⟩ (fun hHeld => ?_)
  clear hK K
  refine norm_ (a' := ?_) ?_ ?_
  rotate_left
  · show Act.put _ (some 84) _ = _
    simp only [Act.put, List.setIfInBounds_toArray, List.set_cons_zero, List.set_cons_succ, i64_w, i32_w]
    rfl
  refine pure_ (i := 24) (N := some 85) (v := ?_) (a' := ?_) #[true, true, true, true, true, true, true, true, true, true, true, true, true, true, true, true, true, true, true, true, true, true, true, true, true, false, false] rfl rfl (by kernel_rfl) (fun _ _ _ h => h) (Or.inl ⟨by rfl, ?_⟩) ?_ ?_
  rotate_left
  · intro w'
    go_simp
    with_reducible rfl
  rotate_left
  · simp only [Act.put, List.setIfInBounds_toArray, List.set_cons_zero, List.set_cons_succ, i64_w, i32_w]
    rfl
  refine pure_ (i := 25) (N := some 86) (v := ?_) (a' := ?_) #[true, true, true, true, true, true, true, true, true, true, true, true, true, true, true, true, true, true, true, true, true, true, true, true, true, true, false] rfl rfl (by kernel_rfl) (fun _ _ _ h => h) (Or.inl ⟨by rfl, ?_⟩) ?_ ?_
  rotate_left
  · intro w'
    go_simp
    with_reducible rfl
  rotate_left
  · simp only [Act.put, List.setIfInBounds_toArray, List.set_cons_zero, List.set_cons_succ, i64_w, i32_w]
    rfl
  refine pure_ (i := 26) (N := some 0) (v := ?_) (a' := ?_) #[true, true, true, true, true, true, true, true, true, true, true, true, true, true, true, true, true, true, true, true, true, true, true, true, true, true, true] rfl rfl (by kernel_rfl) (fun _ _ _ h => h) (Or.inl ⟨by rfl, ?_⟩) ?_ ?_
  rotate_left
  · intro w'
    go_simp
    with_reducible rfl
  rotate_left
  · simp only [Act.put, List.setIfInBounds_toArray, List.set_cons_zero, List.set_cons_succ, i64_w, i32_w]
    rfl
  refine done_ (by kernel_rfl) ?_
  go_wp2
  go_ret
  exact ⟨rfl, HB8.out⟩
end Go.Proofs.Ytppkpleagnddeaa.B
