/- The head 'awake' of edit's statements answers true: its walk. -/
import Derived.Test.YthkkbgehmiobaaaED
import Derived.Test.YthkkbgehmiobaaaP10
namespace Go.Proofs.Ythkkbgehmiobaaa.E
open Go.RowKit Go.Proofs.YthkkbgehmiobaaaW.PrintWords Go.Proofs.YthkkbgehmiobaaaW.PrintLast Go.Proofs.YthkkbgehmiobaaaW.PrintMore Go.Proofs.Ythkkbgehmiobaaa.P
set_option linter.unusedVariables false
set_option linter.unusedSimpArgs false
def awD : List S40 := [⟨1, 300⟩]
def awF : List S44 := []
def awG : List S44 := [⟨4, 0, 0, ⟨(⟨#[]⟩ : ByteArray), 0, 0⟩, ⟨(⟨#[]⟩ : ByteArray), 0, 0⟩⟩]
def awB : List Int := [3, 0, 0, 1, 1, 172, 2, 0]
set_option maxRecDepth 100000 in
theorem aw_enc : enc_f 24 3 0 0 awD [] = some (awB, 0) := by kernel_rfl
set_option maxRecDepth 100000 in
theorem aw_dec : dec_g 24 awB = some (some ⟨3, 0, 0, awD, awF⟩) := by kernel_rfl
set_option maxRecDepth 100000 in
theorem aw_same : staddleref13_Same.f 24 3 0 0 awD [] 3 0 0 awD awF = some true := by kernel_rfl
set_option maxRecDepth 100000 in
theorem aw_check : edit_Check.f 24 0 0 0 [] awG = some 130 := by kernel_rfl
theorem enc_aw (A : Option Addr) (c : Nat) (w : World) (h : Kd.C k40 w A awD.length awD) (hc : awD.length ≤ c) : Calls Try.prog 9 #[.agg #[.int .u64 3, .int .u64 0, .int .u64 0, .slice A awD.length c, .slice none 0 0]] w fun e w' => ∃ v0_ : Value, e = .returned (.tuple #[v0_, .int .i64 0]) ∧ Kd.R (Kd.int .u8) 5 w' w.heap.size (fun _ => True) v0_ awB ∧ Below w.heap.size w w' :=
  enc_calls 24 3 0 0 A c awD none 0 [] awB 0 w h hc (Kd.C_nil _ _) (Nat.le_refl _) aw_enc
theorem same_aw (A A' A4 : Option Addr) (c c' c4 : Nat) (w : World) (h : Kd.C k40 w A awD.length awD) (hc : awD.length ≤ c) (h' : Kd.C k40 w A' awD.length awD) (hc' : awD.length ≤ c') (h4 : Kd.C k44 w A4 awF.length awF) (hc4 : awF.length ≤ c4) :
    Calls Try.prog 11 #[.agg #[.int .u64 3, .int .u64 0, .int .u64 0, .slice A awD.length c, .slice none 0 0], .agg #[.int .u64 3, .int .u64 0, .int .u64 0, .slice A' awD.length c', .slice A4 awF.length c4]] w fun e w' => e = .returned (.bool true) ∧ Below w.heap.size w w' :=
  staddleref13_Same.calls 24 3 0 0 A c awD none 0 [] 3 0 0 A' c' awD A4 c4 awF true w h hc (Kd.C_nil _ _) (Nat.le_refl _) h' hc' h4 hc4 aw_same
theorem check_aw (A4 : Option Addr) (c4 : Nat) (w : World) (h4 : Kd.C k44 w A4 awG.length awG) (hc4 : awG.length ≤ c4) :
    Calls Try.prog 12 #[.agg #[.int .u64 0, .int .u64 0, .int .u64 0, .slice none 0 0, .slice A4 awG.length c4]] w fun e w' => e = .returned (.int .i64 130) ∧ Below w.heap.size w w' :=
  edit_Check.calls 24 0 0 0 none 0 [] A4 c4 awG 130 w (Kd.C_nil _ _) (Nat.le_refl _) h4 hc4 aw_check
theorem aw_lit (w : World) : Kd.R k44 44 (w.alloc (.cells #[.int .i64 4, .int .u64 0, .int .i64 0, .string (⟨#[]⟩ : ByteArray), .int .u64 0, .int .i64 0, .string (⟨#[]⟩ : ByteArray), .int .u64 0, .int .i64 0] 44)) w.heap.size (fun _ => True) (.slice (some ⟨w.heap.size, 0, none⟩) 1 1) awG :=
  ⟨fun _ _ => trivial, [.int .i64 4, .int .u64 0, .int .i64 0, .string (⟨#[]⟩ : ByteArray), .int .u64 0, .int .i64 0, .string (⟨#[]⟩ : ByteArray), .int .u64 0, .int .i64 0], World.ownsRow_lit (base := w.heap.size) (e := 44) (size := k44.sz) w #[.int .i64 4, .int .u64 0, .int .i64 0, .string (⟨#[]⟩ : ByteArray), .int .u64 0, .int .i64 0, .string (⟨#[]⟩ : ByteArray), .int .u64 0, .int .i64 0] 1 (Nat.le_refl _) (by decide) (by rfl), Reps.c9 (k44_mkM _ _ _ ⟨4, 0, 0, ⟨(⟨#[]⟩ : ByteArray), 0, 0⟩, ⟨(⟨#[]⟩ : ByteArray), 0, 0⟩⟩) (Reps.none _ _)⟩
theorem check_aw2 (w : World) :
    Calls Try.prog 12 #[.agg #[.int .u64 0, .int .u64 0, .int .u64 0, .slice none 0 0, .slice (some ⟨w.heap.size, 0, none⟩) 1 1]] (w.alloc (.cells #[.int .i64 4, .int .u64 0, .int .i64 0, .string (⟨#[]⟩ : ByteArray), .int .u64 0, .int .i64 0, .string (⟨#[]⟩ : ByteArray), .int .u64 0, .int .i64 0] 44)) fun e w' => e = .returned (.int .i64 130) ∧ Below (w.alloc (.cells #[.int .i64 4, .int .u64 0, .int .i64 0, .string (⟨#[]⟩ : ByteArray), .int .u64 0, .int .i64 0, .string (⟨#[]⟩ : ByteArray), .int .u64 0, .int .i64 0] 44)).heap.size (w.alloc (.cells #[.int .i64 4, .int .u64 0, .int .i64 0, .string (⟨#[]⟩ : ByteArray), .int .u64 0, .int .i64 0, .string (⟨#[]⟩ : ByteArray), .int .u64 0, .int .i64 0] 44)) w' :=
  check_aw _ _ _ (Kd.R_reads' (aw_lit w)).2.2 (Kd.R_reads' (aw_lit w)).2.1
set_option maxHeartbeats 2000000 in
set_option maxRecDepth 100000 in
theorem awake_calls (w : World) : Calls Try.prog 8 #[] w fun e w' => e = .returned (.bool true) ∧ Below w.heap.size w w' := by
  have HB := Aside0.mk (Below.refl w.heap.size w)
  go_enter Try.func8, Try.ntmps8
  go_upto_region 2 with (first
    | ((with_reducible refine gate_dst (N := 8) rfl ?_); refine Kd.R_lit k40 _ 40 ?hg (N := 8) ?hd (xs := awD) (inner := [.int .i64 1, .int .u64 300]) (ok := fun _ => True) (okp := fun _ => True) ?hr ?hp (fun _ hk => hk) trivial (Below.refl _ _) (Nat.le_refl _) (by decide) ?_; (case hd => rfl); (case hg => rfl); (case hr => first | (go_simp; done) | (go_simp; rfl)); (case hp => exact Reps.c2 (k40_mkM _ _ _ ⟨1, 300⟩) (Reps.none _ _))
       intro vl w2 hol hb hg_ hnew_
       clear hg_ hnew_
       have HL := Aside0.mk hol
       have HB1 := Aside0.mk (below_step HB.out hb)
       obtain ⟨Al, cl, el⟩ := Kd.R_slice hol
       subst el
       clear hol hb)
    | ((with_reducible refine gate_dst (N := 1) rfl ?_); refine box_event ?hg (N := 1) ?hd (cs := #[Value.int .u64 0, .int .u64 0, .int .u64 0, .slice none 0 0, .slice none 0 0]) (t := 27) ?hr ?_; (case hd => rfl); (case hg => rfl); (case hr => first | (go_simp; done) | (go_simp; rfl)); intro g1 hg w3 hbox hb
       have BX3 := Aside0.mk hbox
       have GX : Aside0 (w.heap.size ≤ g1) := ⟨by rw [hg]; exact below_size HB1.out⟩
       have HL3 : Aside0 (Kd.R k40 40 w3 _ (fun k => k ≠ g1) (.slice Al awD.length cl) awD) := ⟨Kd.R_below (Kd.R_mono (Kd.R_bound HL.out) (fun k hk => by have := hk.2.2.1; omega)) hb⟩
       have HB3 := Aside0.mk (below_step HB1.out hb)
       have zc0 : w3.cell? ⟨g1, 0, none⟩ = some (Value.int .u64 0) := (blk_cell hbox 0).trans rfl
       have zf0 := blk_frozen hbox 0
       have zc1 : w3.cell? ⟨g1, 1, none⟩ = some (.int .u64 0) := (blk_cell hbox 1).trans rfl
       have zf1 := blk_frozen hbox 1
       have zc2 : w3.cell? ⟨g1, 2, none⟩ = some (.int .u64 0) := (blk_cell hbox 2).trans rfl
       have zf2 := blk_frozen hbox 2
       have zc3 : w3.cell? ⟨g1, 3, none⟩ = some (.slice none 0 0) := (blk_cell hbox 3).trans rfl
       have zf3 := blk_frozen hbox 3
       have zc4 : w3.cell? ⟨g1, 4, none⟩ = some (.slice none 0 0) := (blk_cell hbox 4).trans rfl
       have zf4 := blk_frozen hbox 4
       clear hg hbox hb HL HB1))
  obtain ⟨W4, hW4⟩ : ∃ x, (((((w3.setCell ⟨g1, 0, none⟩ (Value.int .u64 3)).setCell ⟨g1, 1, none⟩ (.int .u64 0)).setCell ⟨g1, 2, none⟩ (.int .u64 0)).setCell ⟨g1, 3, none⟩ (.slice Al awD.length cl)).setCell ⟨g1, 4, none⟩ (.slice none 0 0)) = x := ⟨_, rfl⟩
  rw [hW4]
  have BX4 : Aside0 (W4.heap[g1]? = some (.cells #[Value.int .u64 3, .int .u64 0, .int .u64 0, .slice Al awD.length cl, .slice none 0 0] 27 (0, 0))) := ⟨by rw [← hW4]; exact blk_put (cs := #[Value.int .u64 3, .int .u64 0, .int .u64 0, .slice Al awD.length cl, .slice none 0 0]) (blk_put (cs := #[Value.int .u64 3, .int .u64 0, .int .u64 0, .slice none 0 0, .slice none 0 0]) (blk_put (cs := #[Value.int .u64 3, .int .u64 0, .int .u64 0, .slice none 0 0, .slice none 0 0]) (blk_put (cs := #[Value.int .u64 3, .int .u64 0, .int .u64 0, .slice none 0 0, .slice none 0 0]) (blk_put (cs := #[Value.int .u64 0, .int .u64 0, .int .u64 0, .slice none 0 0, .slice none 0 0]) (BX3.out) 0 _ rfl) 1 _ rfl) 2 _ rfl) 3 _ rfl) 4 _ rfl⟩
  have HB4 : Aside0 (Below w.heap.size w W4) := ⟨by rw [← hW4]; exact below_set (below_set (below_set (below_set (below_set HB3.out GX.out) GX.out) GX.out) GX.out) GX.out⟩
  have HL4 : Aside0 (Kd.R k40 40 W4 _ (fun k => k ≠ g1) (.slice Al awD.length cl) awD) := ⟨Kd.R_move HL3.out (fun j hj => by rw [← hW4]; exact (Below.heap_setCell _ _ _ j hj).trans ((Below.heap_setCell _ _ _ j hj).trans ((Below.heap_setCell _ _ _ j hj).trans ((Below.heap_setCell _ _ _ j hj).trans ((Below.heap_setCell _ _ _ j hj))))))⟩
  clear hW4 BX3 HL3 HB3 zc0 zf0 zc1 zf1 zc2 zf2 zc3 zf3 zc4 zf4
  have xc0 : W4.cell? ⟨g1, 0, none⟩ = some (Value.int .u64 3) := (blk_cell BX4.out 0).trans rfl
  have xc1 : W4.cell? ⟨g1, 1, none⟩ = some (.int .u64 0) := (blk_cell BX4.out 1).trans rfl
  have xc2 : W4.cell? ⟨g1, 2, none⟩ = some (.int .u64 0) := (blk_cell BX4.out 2).trans rfl
  have xc3 : W4.cell? ⟨g1, 3, none⟩ = some (.slice Al awD.length cl) := (blk_cell BX4.out 3).trans rfl
  have xc4 : W4.cell? ⟨g1, 4, none⟩ = some (.slice none 0 0) := (blk_cell BX4.out 4).trans rfl
  go_upto_region 4 with (first
    | (go_at_call 9; (with_reducible refine (enc_aw Al cl _ (Kd.R_reads' HL4.out).2.2 (Kd.R_reads' HL4.out).2.1).mono ?_); (rintro e w5 ⟨vb, rfl, hob, hb⟩)
       have HO5 := Aside0.mk hob
       have BX5 := Aside0.mk (blk_below BX4.out hb)
       have HL5 := Aside0.mk (Kd.R_below HL4.out hb)
       have HB5 := Aside0.mk (below_step HB4.out hb)
       obtain ⟨Ab, cb, eb⟩ := Kd.R_slice hob
       subst eb
       clear hob hb)
    | (go_at_call 14; (with_reducible refine (dec_calls 24 Ab cb awB _ _ (Kd.R_reads' HO5.out).2.2 (Kd.R_reads' HO5.out).2.1 aw_dec).mono ?_); (rintro e w6 ⟨hb, v3, v4, he, hr3, hr4⟩)
       have he2 : e = .returned (.tuple #[.agg #[.int .u64 3, .int .u64 0, .int .u64 0, v3, v4], .int .i64 0]) := he
       subst he2
       replace hr3 : Kd.R k40 40 w6 _ (fun _ => True) v3 awD := hr3
       replace hr4 : Kd.R k44 44 w6 _ _ v4 awF := hr4
       obtain ⟨A3, c3, e3⟩ := Kd.R_slice hr3
       subst e3
       obtain ⟨A4, c4, e4⟩ := Kd.R_slice hr4
       subst e4
       have R36 : Aside0 (Kd.R k40 40 w6 _ (fun _ => True) (.slice A3 awD.length c3) awD) := ⟨hr3⟩
       have R46 : Aside0 (Kd.R k44 44 w6 _ _ (.slice A4 awF.length c4) awF) := ⟨hr4⟩
       have BX6 := Aside0.mk (blk_below BX5.out hb)
       have HO6 := Aside0.mk (Kd.R_below HO5.out hb)
       have HL6 := Aside0.mk (Kd.R_below HL5.out hb)
       have HB6 := Aside0.mk (below_step HB5.out hb)
       clear he hb hr3 hr4)
    | ((with_reducible refine gate_dst (N := 4) rfl ?_); refine box_event ?hg (N := 4) ?hd (cs := #[Value.int .u64 0, .int .u64 0, .int .u64 0, .slice none 0 0, .slice none 0 0]) (t := 27) ?hr ?_; (case hd => rfl); (case hg => rfl); (case hr => first | (go_simp; done) | (go_simp; rfl)); intro g4 hg w7 hbox hb
       have BY7 := Aside0.mk hbox
       have GY : Aside0 (w.heap.size ≤ g4) := ⟨by rw [hg]; exact below_size HB6.out⟩
       have GN : Aside0 (g1 ≠ g4) := ⟨by have := blk_lt BX6.out; omega⟩
       have BX7 := Aside0.mk (blk_below BX6.out hb)
       have HO7 : Aside0 (Kd.R (Kd.int .u8) 5 w7 _ (fun k => k ≠ g4) (.slice Ab awB.length cb) awB) := ⟨Kd.R_below (Kd.R_mono (Kd.R_bound HO6.out) (fun k hk => by have := hk.2.2.1; omega)) hb⟩
       have HL7 : Aside0 (Kd.R k40 40 w7 _ (fun k => k ≠ g4) (.slice Al awD.length cl) awD) := ⟨Kd.R_below (Kd.R_mono (Kd.R_bound HL6.out) (fun k hk => by have := hk.2.2.1; omega)) hb⟩
       have R37 : Aside0 (Kd.R k40 40 w7 _ (fun k => k ≠ g4) (.slice A3 awD.length c3) awD) := ⟨Kd.R_below (Kd.R_mono (Kd.R_bound R36.out) (fun k hk => by have := hk.2.2.1; omega)) hb⟩
       have R47 : Aside0 (Kd.R k44 44 w7 _ (fun k => k ≠ g4) (.slice A4 awF.length c4) awF) := ⟨Kd.R_below (Kd.R_mono (Kd.R_bound R46.out) (fun k hk => by have := hk.2.2.1; omega)) hb⟩
       have HB7 := Aside0.mk (below_step HB6.out hb)
       have zc0 : w7.cell? ⟨g4, 0, none⟩ = some (Value.int .u64 0) := (blk_cell hbox 0).trans rfl
       have zf0 := blk_frozen hbox 0
       have zc1 : w7.cell? ⟨g4, 1, none⟩ = some (.int .u64 0) := (blk_cell hbox 1).trans rfl
       have zf1 := blk_frozen hbox 1
       have zc2 : w7.cell? ⟨g4, 2, none⟩ = some (.int .u64 0) := (blk_cell hbox 2).trans rfl
       have zf2 := blk_frozen hbox 2
       have zc3 : w7.cell? ⟨g4, 3, none⟩ = some (.slice none 0 0) := (blk_cell hbox 3).trans rfl
       have zf3 := blk_frozen hbox 3
       have zc4 : w7.cell? ⟨g4, 4, none⟩ = some (.slice none 0 0) := (blk_cell hbox 4).trans rfl
       have zf4 := blk_frozen hbox 4
       clear hg hbox hb))
  clear HB HB4 HB5 HB6 HO5 HO6 HL4 HL5 HL6 BX4 BX5 BX6 R36 R46 xc0 xc1 xc2 xc3 xc4
  obtain ⟨W8, hW8⟩ : ∃ x, (((((w7.setCell ⟨g4, 0, none⟩ (Value.int .u64 3)).setCell ⟨g4, 1, none⟩ (.int .u64 0)).setCell ⟨g4, 2, none⟩ (.int .u64 0)).setCell ⟨g4, 3, none⟩ (.slice A3 awD.length c3)).setCell ⟨g4, 4, none⟩ (.slice A4 awF.length c4)) = x := ⟨_, rfl⟩
  rw [hW8]
  have hmv : ∀ j, j ≠ g4 → W8.heap[j]? = w7.heap[j]? := fun j hj => by rw [← hW8]; exact (Below.heap_setCell _ _ _ j hj).trans ((Below.heap_setCell _ _ _ j hj).trans ((Below.heap_setCell _ _ _ j hj).trans ((Below.heap_setCell _ _ _ j hj).trans ((Below.heap_setCell _ _ _ j hj)))))
  have BY8 : Aside0 (W8.heap[g4]? = some (.cells #[Value.int .u64 3, .int .u64 0, .int .u64 0, .slice A3 awD.length c3, .slice A4 awF.length c4] 27 (0, 0))) := ⟨by rw [← hW8]; exact blk_put (cs := #[Value.int .u64 3, .int .u64 0, .int .u64 0, .slice A3 awD.length c3, .slice none 0 0]) (blk_put (cs := #[Value.int .u64 3, .int .u64 0, .int .u64 0, .slice none 0 0, .slice none 0 0]) (blk_put (cs := #[Value.int .u64 3, .int .u64 0, .int .u64 0, .slice none 0 0, .slice none 0 0]) (blk_put (cs := #[Value.int .u64 3, .int .u64 0, .int .u64 0, .slice none 0 0, .slice none 0 0]) (blk_put (cs := #[Value.int .u64 0, .int .u64 0, .int .u64 0, .slice none 0 0, .slice none 0 0]) (BY7.out) 0 _ rfl) 1 _ rfl) 2 _ rfl) 3 _ rfl) 4 _ rfl⟩
  have BX8 : Aside0 (W8.heap[g1]? = some (.cells #[Value.int .u64 3, .int .u64 0, .int .u64 0, .slice Al awD.length cl, .slice none 0 0] 27 (0, 0))) := ⟨(hmv g1 GN.out).trans BX7.out⟩
  have HB8 : Aside0 (Below w.heap.size w W8) := ⟨by rw [← hW8]; exact below_set (below_set (below_set (below_set (below_set HB7.out GY.out) GY.out) GY.out) GY.out) GY.out⟩
  have HO8 := Aside0.mk (Kd.R_move HO7.out hmv)
  have HL8 := Aside0.mk (Kd.R_move HL7.out hmv)
  have R38 := Aside0.mk (Kd.R_move R37.out hmv)
  have R48 := Aside0.mk (Kd.R_move R47.out hmv)
  clear hW8 hmv BX7 BY7 HO7 HL7 R37 R47 HB7 zc0 zf0 zc1 zf1 zc2 zf2 zc3 zf3 zc4 zf4
  have xc0 : W8.cell? ⟨g1, 0, none⟩ = some (Value.int .u64 3) := (blk_cell BX8.out 0).trans rfl
  have xc1 : W8.cell? ⟨g1, 1, none⟩ = some (.int .u64 0) := (blk_cell BX8.out 1).trans rfl
  have xc2 : W8.cell? ⟨g1, 2, none⟩ = some (.int .u64 0) := (blk_cell BX8.out 2).trans rfl
  have xc3 : W8.cell? ⟨g1, 3, none⟩ = some (.slice Al awD.length cl) := (blk_cell BX8.out 3).trans rfl
  have xc4 : W8.cell? ⟨g1, 4, none⟩ = some (.slice none 0 0) := (blk_cell BX8.out 4).trans rfl
  have yc0 : W8.cell? ⟨g4, 0, none⟩ = some (Value.int .u64 3) := (blk_cell BY8.out 0).trans rfl
  have yc1 : W8.cell? ⟨g4, 1, none⟩ = some (.int .u64 0) := (blk_cell BY8.out 1).trans rfl
  have yc2 : W8.cell? ⟨g4, 2, none⟩ = some (.int .u64 0) := (blk_cell BY8.out 2).trans rfl
  have yc3 : W8.cell? ⟨g4, 3, none⟩ = some (.slice A3 awD.length c3) := (blk_cell BY8.out 3).trans rfl
  have yc4 : W8.cell? ⟨g4, 4, none⟩ = some (.slice A4 awF.length c4) := (blk_cell BY8.out 4).trans rfl
  go_upto_region 5 with (first
    | (go_at_call 11; (with_reducible refine (same_aw Al A3 A4 cl c3 c4 _ (Kd.R_reads' HL8.out).2.2 (Kd.R_reads' HL8.out).2.1 (Kd.R_reads' R38.out).2.2 (Kd.R_reads' R38.out).2.1 (Kd.R_reads' R48.out).2.2 (Kd.R_reads' R48.out).2.1).mono ?_); (rintro e w9 ⟨rfl, hb⟩)
       have HO9 := Aside0.mk (Kd.R_below HO8.out hb)
       have HB9 := Aside0.mk (below_step HB8.out hb)
       clear hb))
  clear xc0 yc0 xc1 yc1 xc2 yc2 xc3 yc3 xc4 yc4
  obtain ⟨ab, eab, hc0⟩ := Kd.at_int (Kd.R_reads' HO9.out).2.2 0 (by decide) (by decide)
  subst eab
  obtain ⟨ab1, eab1, hc1⟩ := Kd.at_int (Kd.R_reads' HO9.out).2.2 5 (by decide) (by decide)
  cases eab1
  rw [show rd awB 0 = 3 from rfl] at hc0
  rw [show rd awB 5 = 172 from rfl] at hc1
  have hc0' : w9.cell? ab = some (.int .u8 3) := by simpa [Addr.add] using hc0
  have hc1' : w9.cell? ⟨ab.block, ab.off + 5, none⟩ = some (.int .u8 172) := hc1
  have hL : awB.length = 8 := rfl
  clear hc0 hc1
  go_wp2_with (first
    | (go_at_call 12; (with_reducible refine (check_aw2 w9).mono ?_); (rintro e w11 ⟨rfl, hb⟩)
       have HB11 := Aside0.mk (below_step (below_alloc HB9.out _) hb)
       clear hb))
  go_ret
  exact ⟨by first | rfl | simp, HB11.out⟩
end Go.Proofs.Ythkkbgehmiobaaa.E
