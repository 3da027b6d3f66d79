/- The walk of EditBack. -/
import Derived.Test.YthkkbgehmiobaaaEA
namespace Go.Proofs.Ythkkbgehmiobaaa.E
open Go.RowKit Go.Proofs.YthkkbgehmiobaaaW.PrintWords Go.Proofs.YthkkbgehmiobaaaW.PrintLast Go.Proofs.YthkkbgehmiobaaaW.PrintMore Go.Proofs.Ythkkbgehmiobaaa.P
set_option linter.unusedVariables false
set_option linter.unusedSimpArgs false
/-- the cut, made positive -/
def cv (a : Int) : Int := if a < 0 then -(a + 1) else a
theorem cv_w (a : Int) (h0 : -9223372036854775808 ≤ a) (h : a < 0) : wrap64 (-wrap64 (a + 1)) = cv a := by unfold cv wrap64; rw [if_pos h]; omega
theorem cv_w2 (a : Int) (h0 : -9223372036854775808 ≤ a) (h : a < 0) : wrap64 (-(a + 1)) = cv a := by unfold cv wrap64; rw [if_pos h]; omega
theorem cv_p (a : Int) (h : ¬ a < 0) : cv a = a := by unfold cv; rw [if_neg h]
theorem ct_w1 (n : Nat) (h : n ≤ 1000000000) : wrap64 ((n : Int) + 1) = ((n + 1 : Nat) : Int) := by unfold wrap64; omega
theorem ct_w2 (n : Nat) (h : n ≤ 1000000000) : wrap64 (n : Int) = (n : Int) := by unfold wrap64; omega
def awN : List S40 := []
/-- what the statement comes to -/
def Back (k : Nat) (x : Ed) (a1 : Int) (more : List Int) : Prop := (-9223372036854775808 ≤ a1 ∧ a1 < 9223372036854775808) ∧ ∃ b e, enc_f k x.l0 x.l1 x.l2 x.ds x.fs = some (b, e) ∧
  (e ≠ 0 → b = [] ∧ edit_Check.f k x.l0 x.l1 x.l2 x.ds x.fs = some e) ∧
  (e = 0 → dec_g k b = some (some x) ∧ staddleref13_Same.f k x.l0 x.l1 x.l2 x.ds x.fs x.l0 x.l1 x.l2 x.ds x.fs = some true ∧ b.length ≤ 1000000 ∧ more.length ≤ 1048576 ∧
    ∃ n : Nat, n ≤ b.length ∧ Int.tmod (cv a1) ((b.length + 1 : Nat) : Int) = (n : Int) ∧ ∃ r, dec_g k (b.take n ++ more) = some r ∧ (r = none → staddleref13_Same.f k 0 0 0 awN awF 0 0 0 [] [] = some true) ∧ ∀ z, r = some z → enc_f k z.l0 z.l1 z.l2 z.ds z.fs = some (b.take n ++ more, 0))
theorem same_nil (k : Nat) (A A4 : Option Addr) (c c4 : Nat) (w : World) (h : Kd.C k40 w A awN.length awN) (hc : awN.length ≤ c) (h4 : Kd.C k44 w A4 awF.length awF) (hc4 : awF.length ≤ c4) (hf : staddleref13_Same.f k 0 0 0 awN awF 0 0 0 [] [] = some true) :
    Calls Try.prog 11 #[.agg #[.int .u64 0, .int .u64 0, .int .u64 0, .slice A awN.length c, .slice A4 awF.length c4], .agg #[.int .u64 0, .int .u64 0, .int .u64 0, .slice none 0 0, .slice none 0 0]] w fun e w' => e = .returned (.bool true) ∧ Below w.heap.size w w' :=
  staddleref13_Same.calls k 0 0 0 A c awN A4 c4 awF 0 0 0 none 0 [] none 0 [] true w h hc h4 hc4 (Kd.C_nil _ _) (Nat.le_refl _) (Kd.C_nil _ _) (Nat.le_refl _) hf
set_option maxHeartbeats 8000000 in
set_option maxRecDepth 100000 in
theorem back_calls (k : Nat) (x : Ed) (A3 : Option Addr) (c3 : Nat) (A4 : Option Addr) (c4 : Nat) (a1 : Int) (A2 : Option Addr) (c2 : Nat) (more : List Int) (w : World) (hr3 : Kd.C k40 w A3 x.ds.length x.ds) (hc3 : x.ds.length ≤ c3) (hr4 : Kd.C k44 w A4 x.fs.length x.fs) (hc4 : x.fs.length ≤ c4) (hr2 : Kd.C (Kd.int .u8) w A2 more.length more) (hc2 : more.length ≤ c2) (hf : Back k x a1 more) :
    Calls Try.prog 6 #[.agg #[.int .u64 x.l0, .int .u64 x.l1, .int .u64 x.l2, .slice A3 x.ds.length c3, .slice A4 x.fs.length c4], .int .i64 a1, .slice A2 more.length c2] w fun e w' => e = .returned (.bool true) ∧ Below w.heap.size w w' := by
  obtain ⟨ha, b, e, he, hne, hgood⟩ := hf
  have HR3 := Aside0.mk hr3
  have HC3 := Aside0.mk hc3
  have HR4 := Aside0.mk hr4
  have HC4 := Aside0.mk hc4
  have HR2 := Aside0.mk hr2
  have HC2 := Aside0.mk hc2
  have HA := Aside0.mk ha
  have HE := Aside0.mk he
  have HB := Aside0.mk (Below.refl w.heap.size w)
  clear hr3 hc3 hr4 hc4 hr2 hc2 he ha
  go_enter Try.func6, Try.ntmps6
  go_upto_region 2 with (first
    | ((with_reducible refine gate_dst (N := 3) rfl ?_); refine box_event ?hg (N := 3) ?hd (cs := #[Value.int .u64 x.l0, .int .u64 x.l1, .int .u64 x.l2, .slice A3 x.ds.length c3, .slice A4 x.fs.length c4]) (t := 27) ?hr ?_; (case hd => rfl); (case hg => rfl); (case hr => first | (go_simp; done) | (go_simp; rfl)); intro g1 hg w1 hbox hb
       have BX1 := Aside0.mk hbox
       have HB1 := Aside0.mk (below_step HB.out hb)
       clear hg hbox hb)
    | (go_at_call 8; with_reducible refine (awake_calls _).mono ?_; rintro ea w2 ⟨rfl, hb⟩
       have BX2 := Aside0.mk (blk_below BX1.out hb)
       have HB2 := Aside0.mk (below_step HB1.out hb)
       clear hb))
  have xc0 : w2.cell? ⟨g1, 0, none⟩ = some (Value.int .u64 x.l0) := (blk_cell BX2.out 0).trans rfl
  have xc1 : w2.cell? ⟨g1, 1, none⟩ = some (.int .u64 x.l1) := (blk_cell BX2.out 1).trans rfl
  have xc2 : w2.cell? ⟨g1, 2, none⟩ = some (.int .u64 x.l2) := (blk_cell BX2.out 2).trans rfl
  have xc3 : w2.cell? ⟨g1, 3, none⟩ = some (.slice A3 x.ds.length c3) := (blk_cell BX2.out 3).trans rfl
  have xc4 : w2.cell? ⟨g1, 4, none⟩ = some (.slice A4 x.fs.length c4) := (blk_cell BX2.out 4).trans rfl
  go_upto_region 3 with (first
    | (go_at_call 9; (with_reducible refine (enc_calls k x.l0 x.l1 x.l2 A3 c3 x.ds A4 c4 x.fs b e _ (Kd.C_below HR3.out HB2.out) HC3.out (Kd.C_below HR4.out HB2.out) HC4.out HE.out).mono ?_); (rintro ee w3 ⟨vb, rfl, hob, hb⟩)
       have BX3 := Aside0.mk (blk_below BX2.out hb)
       have HB3 := Aside0.mk (below_step HB2.out hb)
       have HO3 := Aside0.mk hob
       obtain ⟨Ab, cb, eb⟩ := Kd.R_slice hob
       subst eb
       clear hob hb))
  clear xc0 xc1 xc2 xc3 xc4 HB HB1 BX1
  by_cases h0 : e = 0
  case neg =>
    have hn := hne h0
    have hb1 : (e != 0) = true := bne_iff_ne.mpr h0
    have hb0 : (e == 0) = false := beq_eq_false_iff_ne.mpr h0
    have HCK := Aside0.mk hn.2
    obtain rfl := hn.1
    clear hgood hne hn h0
    have hln : ([] : List Int).length = 0 := rfl
    have xc0 : w3.cell? ⟨g1, 0, none⟩ = some (Value.int .u64 x.l0) := (blk_cell BX3.out 0).trans rfl
    have xc1 : w3.cell? ⟨g1, 1, none⟩ = some (.int .u64 x.l1) := (blk_cell BX3.out 1).trans rfl
    have xc2 : w3.cell? ⟨g1, 2, none⟩ = some (.int .u64 x.l2) := (blk_cell BX3.out 2).trans rfl
    have xc3 : w3.cell? ⟨g1, 3, none⟩ = some (.slice A3 x.ds.length c3) := (blk_cell BX3.out 3).trans rfl
    have xc4 : w3.cell? ⟨g1, 4, none⟩ = some (.slice A4 x.fs.length c4) := (blk_cell BX3.out 4).trans rfl
    go_wp2_with (first
      | (go_at_call 12; (with_reducible refine (edit_Check.calls k x.l0 x.l1 x.l2 A3 c3 x.ds A4 c4 x.fs e _ (Kd.C_below HR3.out HB3.out) HC3.out (Kd.C_below HR4.out HB3.out) HC4.out HCK.out).mono ?_); (rintro ee w4 ⟨rfl, hb⟩)
         have HB4 := Aside0.mk (below_step HB3.out hb)
         clear hb))
    go_ret
    exact ⟨by first | rfl | simp, HB4.out⟩
  subst h0
  obtain ⟨hd, hs, hbl, hml, n, hn, hrem, r, hr, hnone, hsome⟩ := hgood rfl
  have HD := Aside0.mk hd
  have HS := Aside0.mk hs
  have HBL := Aside0.mk hbl
  have HML := Aside0.mk hml
  have HN := Aside0.mk hn
  have HREM := Aside0.mk hrem
  have HRR := Aside0.mk hr
  have HNO := Aside0.mk hnone
  have HSO := Aside0.mk hsome
  clear hne hgood hd hs hbl hml hn hrem hr hnone hsome BX2 HB2
  go_upto_region 6 with (first
    | (go_at_call 14; (with_reducible refine (dec_calls k Ab cb b _ _ (Kd.R_reads' HO3.out).2.2 (Kd.R_reads' HO3.out).2.1 HD.out).mono ?_); (rintro ed w4 ⟨hb, v3, v4, hee, hr3, hr4⟩)
       have he2 : ed = .returned (.tuple #[.agg #[.int .u64 x.l0, .int .u64 x.l1, .int .u64 x.l2, v3, v4], .int .i64 0]) := hee
       subst he2
       replace hr3 : Kd.R k40 40 w4 _ (fun _ => True) v3 x.ds := hr3
       replace hr4 : Kd.R k44 44 w4 _ _ v4 x.fs := hr4
       obtain ⟨B3, d3, e3⟩ := Kd.R_slice hr3
       subst e3
       obtain ⟨B4, d4, e4⟩ := Kd.R_slice hr4
       subst e4
       have R34 := Aside0.mk hr3
       have R44 := Aside0.mk hr4
       have BX4 := Aside0.mk (blk_below BX3.out hb)
       have HO4 := Aside0.mk (Kd.R_below HO3.out hb)
       have HB4 := Aside0.mk (below_step HB3.out hb)
       clear hee hb hr3 hr4)
    | ((with_reducible refine gate_dst (N := 10) rfl ?_); refine box_event ?hg (N := 10) ?hd (cs := #[Value.int .u64 0, .int .u64 0, .int .u64 0, .slice none 0 0, .slice none 0 0]) (t := 27) ?hr ?_; (case hd => rfl); (case hg => rfl); (case hr => first | (go_simp; done) | (go_simp; rfl)); intro g4 hg w5 hbox hb
       have BY5 := Aside0.mk hbox
       have GY : Aside0 (w.heap.size ≤ g4) := ⟨by rw [hg]; exact below_size HB4.out⟩
       have GN : Aside0 (g1 ≠ g4) := ⟨by have := blk_lt BX4.out; omega⟩
       have BX5 := Aside0.mk (blk_below BX4.out hb)
       have HO5 : Aside0 (Kd.R (Kd.int .u8) 5 w5 _ (fun k => k ≠ g4) (.slice Ab b.length cb) b) := ⟨Kd.R_below (Kd.R_mono (Kd.R_bound HO4.out) (fun k hk => by have := hk.2.2.1; omega)) hb⟩
       have R35 : Aside0 (Kd.R k40 40 w5 _ (fun k => k ≠ g4) (.slice B3 x.ds.length d3) x.ds) := ⟨Kd.R_below (Kd.R_mono (Kd.R_bound R34.out) (fun k hk => by have := hk.2.2.1; omega)) hb⟩
       have R45 : Aside0 (Kd.R k44 44 w5 _ (fun k => k ≠ g4) (.slice B4 x.fs.length d4) x.fs) := ⟨Kd.R_below (Kd.R_mono (Kd.R_bound R44.out) (fun k hk => by have := hk.2.2.1; omega)) hb⟩
       have HB5 := Aside0.mk (below_step HB4.out hb)
       have zc0 : w5.cell? ⟨g4, 0, none⟩ = some (Value.int .u64 0) := (blk_cell hbox 0).trans rfl
       have zf0 := blk_frozen hbox 0
       have zc1 : w5.cell? ⟨g4, 1, none⟩ = some (.int .u64 0) := (blk_cell hbox 1).trans rfl
       have zf1 := blk_frozen hbox 1
       have zc2 : w5.cell? ⟨g4, 2, none⟩ = some (.int .u64 0) := (blk_cell hbox 2).trans rfl
       have zf2 := blk_frozen hbox 2
       have zc3 : w5.cell? ⟨g4, 3, none⟩ = some (.slice none 0 0) := (blk_cell hbox 3).trans rfl
       have zf3 := blk_frozen hbox 3
       have zc4 : w5.cell? ⟨g4, 4, none⟩ = some (.slice none 0 0) := (blk_cell hbox 4).trans rfl
       have zf4 := blk_frozen hbox 4
       clear hg hbox hb))
  clear BX3 BX4 HO3 HO4 HB3 HB4 R34 R44
  obtain ⟨W6, hW6⟩ : ∃ y, (((((w5.setCell ⟨g4, 0, none⟩ (Value.int .u64 x.l0)).setCell ⟨g4, 1, none⟩ (.int .u64 x.l1)).setCell ⟨g4, 2, none⟩ (.int .u64 x.l2)).setCell ⟨g4, 3, none⟩ (.slice B3 x.ds.length d3)).setCell ⟨g4, 4, none⟩ (.slice B4 x.fs.length d4)) = y := ⟨_, rfl⟩
  rw [hW6]
  have hmv : ∀ j, j ≠ g4 → W6.heap[j]? = w5.heap[j]? := fun j hj => by rw [← hW6]; exact (Below.heap_setCell _ _ _ j hj).trans ((Below.heap_setCell _ _ _ j hj).trans ((Below.heap_setCell _ _ _ j hj).trans ((Below.heap_setCell _ _ _ j hj).trans ((Below.heap_setCell _ _ _ j hj)))))
  have BY6 : W6.heap[g4]? = some (.cells #[Value.int .u64 x.l0, .int .u64 x.l1, .int .u64 x.l2, .slice B3 x.ds.length d3, .slice B4 x.fs.length d4] 27 (0, 0)) := by rw [← hW6]; exact blk_put (cs := #[Value.int .u64 x.l0, .int .u64 x.l1, .int .u64 x.l2, .slice B3 x.ds.length d3, .slice none 0 0]) (blk_put (cs := #[Value.int .u64 x.l0, .int .u64 x.l1, .int .u64 x.l2, .slice none 0 0, .slice none 0 0]) (blk_put (cs := #[Value.int .u64 x.l0, .int .u64 x.l1, .int .u64 0, .slice none 0 0, .slice none 0 0]) (blk_put (cs := #[Value.int .u64 x.l0, .int .u64 0, .int .u64 0, .slice none 0 0, .slice none 0 0]) (blk_put (cs := #[Value.int .u64 0, .int .u64 0, .int .u64 0, .slice none 0 0, .slice none 0 0]) (BY5.out) 0 _ rfl) 1 _ rfl) 2 _ rfl) 3 _ rfl) 4 _ rfl
  have BX6 : W6.heap[g1]? = some (.cells #[Value.int .u64 x.l0, .int .u64 x.l1, .int .u64 x.l2, .slice A3 x.ds.length c3, .slice A4 x.fs.length c4] 27 (0, 0)) := (hmv g1 GN.out).trans BX5.out
  have HB6 : Aside0 (Below w.heap.size w W6) := ⟨by rw [← hW6]; exact below_set (below_set (below_set (below_set (below_set (HB5.out) GY.out) GY.out) GY.out) GY.out) GY.out⟩
  have HO6 := Aside0.mk (Kd.R_move HO5.out hmv)
  have R36 := Aside0.mk (Kd.R_move R35.out hmv)
  have R46 := Aside0.mk (Kd.R_move R45.out hmv)
  clear hW6 hmv BX5 BY5 HO5 R35 R45 HB5 zc0 zf0 zc1 zf1 zc2 zf2 zc3 zf3 zc4 zf4
  have xc0 : W6.cell? ⟨g1, 0, none⟩ = some (Value.int .u64 x.l0) := (blk_cell BX6 0).trans rfl
  have xc1 : W6.cell? ⟨g1, 1, none⟩ = some (.int .u64 x.l1) := (blk_cell BX6 1).trans rfl
  have xc2 : W6.cell? ⟨g1, 2, none⟩ = some (.int .u64 x.l2) := (blk_cell BX6 2).trans rfl
  have xc3 : W6.cell? ⟨g1, 3, none⟩ = some (.slice A3 x.ds.length c3) := (blk_cell BX6 3).trans rfl
  have xc4 : W6.cell? ⟨g1, 4, none⟩ = some (.slice A4 x.fs.length c4) := (blk_cell BX6 4).trans rfl
  have yc0 : W6.cell? ⟨g4, 0, none⟩ = some (Value.int .u64 x.l0) := (blk_cell BY6 0).trans rfl
  have yc1 : W6.cell? ⟨g4, 1, none⟩ = some (.int .u64 x.l1) := (blk_cell BY6 1).trans rfl
  have yc2 : W6.cell? ⟨g4, 2, none⟩ = some (.int .u64 x.l2) := (blk_cell BY6 2).trans rfl
  have yc3 : W6.cell? ⟨g4, 3, none⟩ = some (.slice B3 x.ds.length d3) := (blk_cell BY6 3).trans rfl
  have yc4 : W6.cell? ⟨g4, 4, none⟩ = some (.slice B4 x.fs.length d4) := (blk_cell BY6 4).trans rfl
  clear BX6 BY6
  go_upto_region 9 with (first
    | (go_at_call 11; (with_reducible refine (staddleref13_Same.calls k x.l0 x.l1 x.l2 A3 c3 x.ds A4 c4 x.fs x.l0 x.l1 x.l2 B3 d3 x.ds B4 d4 x.fs true _ (Kd.C_below HR3.out HB6.out) HC3.out (Kd.C_below HR4.out HB6.out) HC4.out (Kd.R_reads' R36.out).2.2 (Kd.R_reads' R36.out).2.1 (Kd.R_reads' R46.out).2.2 (Kd.R_reads' R46.out).2.1 HS.out).mono ?_); (rintro es w7 ⟨rfl, hb⟩)
       have HO7 := Aside0.mk (Kd.R_below HO6.out hb)
       have HB7 := Aside0.mk (below_step HB6.out hb)
       clear hb))
  clear xc0 xc1 xc2 xc3 xc4 yc0 yc1 yc2 yc3 yc4 HO6 R36 R46 HB6 HD HS HE
  have CB := Aside0.mk (Kd.R_reads' HO7.out).2.2
  have CBC := Aside0.mk (Kd.R_reads' HO7.out).2.1
  clear HO7
  go_upto_if 54 with fail
  go_cut [1] (fun v1 wc => v1 = .int .i64 (cv a1) ∧ Aside0 (Kd.C (Kd.int .u8) wc Ab b.length b) ∧ Aside0 (Below w.heap.size w wc))
  case first =>
    by_cases c : a1 < 0
    · have d1 : decide (a1 < 0) = true := decide_eq_true c
      have HV1 := Aside0.mk (cv_w a1 HA.out.1 c)
      have HV2 := Aside0.mk (cv_w2 a1 HA.out.1 c)
      clear c
      (first | rw [d1] | skip)
      go_wp2
      go_meet
      case rel => exact ⟨by first | rfl | rw [HV1.out] | rw [HV2.out] | (simp only [i64_w]; first | rw [HV1.out] | rw [HV2.out]), CB, HB7⟩
    · have d1 : decide (a1 < 0) = false := decide_eq_false c
      have HV1 := Aside0.mk (cv_p a1 c)
      clear c
      (first | rw [d1] | skip)
      go_wp2
      go_meet
      case rel => exact ⟨by rw [HV1.out], CB, HB7⟩
  case rest =>
    clear CB HB7
    obtain ⟨rfl, CB, HB2⟩ := hcut
    obtain ⟨i5, hi5, _, hs5, _⟩ := info_parts info5
    obtain ⟨hcut1, hrd1, hcp1⟩ := print_take_of (P := Try.prog) (Value.int .u8) (0 : Int) 28 5 .i64 Try.underlying28 hi5 hs5 Ab cb b (n : Int) (Int.natCast_nonneg _) (by have := HN.out; omega) CBC.out
    rw [Int.toNat_natCast] at hcut1 hrd1 hcp1
    obtain ⟨E, hE⟩ : ∃ y, b.take n = y := ⟨_, rfl⟩
    rw [hE] at hcut1 hrd1 hcp1 HRR HSO
    have HEL : Aside0 (E.length ≤ b.length) := ⟨by rw [← hE, List.length_take]; omega⟩
    have CT := Aside0.mk (show Kd.C (Kd.int .u8) wc Ab E.length E from Kd.C_of_reads (h1 := fun _ => rfl) (hrd1 _ (Kd.reads_of_C CB.out)))
    have hw1 : wrap64 ((b.length : Int) + 1) = ((b.length + 1 : Nat) : Int) := ct_w1 _ (by have := HBL.out; omega)
    have hrem := HREM.out
    have hrem2 : Int.tmod (cv a1) ((b.length : Int) + 1) = (n : Int) := HREM.out
    have hwz3 : ¬ ((b.length : Int) + 1 = 0) := by omega
    have hwz4 : (((b.length : Int) + 1) == 0) = false := beq_eq_false_iff_ne.mpr hwz3
    have hwn : wrap64 (n : Int) = (n : Int) := ct_w2 _ (by have := HBL.out; have := HN.out; omega)
    have hwz : (((b.length + 1 : Nat) : Int) == 0) = false := beq_eq_false_iff_ne.mpr (by clear hw1 hwn hrem hrem2; omega)
    have hwz2 : ¬ (((b.length + 1 : Nat) : Int) = 0) := by clear hw1 hwn hrem hrem2; omega
    clear hrd1 hcp1 hi5 hs5 hE
    obtain ⟨cc_, hcc⟩ : ∃ y, E ++ more = y := ⟨_, rfl⟩
    rw [hcc] at HRR HSO
    have HCC := Aside0.mk hcc
    clear hcc
    go_upto_region 12 with (first
      | ((with_reducible refine gate_dst (N := 58) rfl ?_); refine Kd.R_lit (Kd.int .u8) _ 5 ?hg (N := 58) ?hd (xs := ([] : List Int)) (inner := []) (ok := fun _ => True) (okp := fun _ => True) ?hr ?hp (fun _ hk => hk) trivial (Below.refl _ _) (Nat.le_refl _) (by simp) ?_; (case hd => rfl); (case hg => rfl); (case hr => first | (go_simp; done) | (go_simp; rfl)); (case hp => exact (Reps.none _ _)); intro v58 w8 ho_ hb_ hg_ hnew_
         clear hg_ hnew_
         have HE58 := Aside0.mk (Kd.R_bound ho_)
         have HB58 := Aside0.mk hb_
         clear hb_ ho_)
      | ((with_reducible refine gate_builtin (b := .append) (xs := #[.tmp 58, .tmp 65]) rfl ?_); at_builtin; refine Kd.R_append_rows (Kd.int .u8) (w0 := wc) wc.heap.size rfl (.tmp 58) (.tmp 65) 28 5 (.int .u8 0) 1 rfl Try.underlying28 info5 rfl (by decide) (by omega) v58 ([] : List Int) E _ _ _ (fun k => wc.heap.size ≤ k) (fun _ => False) rfl rfl ?aO ?aR (fun _ _ h => h) (fun _ h => h.elim) ?aF ?aB ?aS ?aL ?_
         (case aR => exact Kd.C_below CT.out HB58.out)
         (case aB => exact HB58.out)
         (case aF => exact (fun _ hk => Nat.le_trans (below_size HB58.out) hk))
         (case aO => exact Kd.R_mono HE58.out (fun k hk => hk.2.1))
         (case aS => exact below_size HB58.out)
         (case aL => have := HEL.out; have := HBL.out; simp only [List.length_nil]; omega)
         intro v66 w9 ho_ hb_ hg_ hat_
         have ho2_ := ho_
         have HB66 := Aside0.mk hb_
         clear ho_ hb_ hg_ hat_
         rw [List.nil_append] at ho2_
         have H66 := Aside0.mk ho2_
         clear ho2_)
      | ((with_reducible refine gate_builtin (b := .append) (xs := #[.tmp 66, .tmp 67]) rfl ?_); at_builtin; refine Kd.R_append_rows (Kd.int .u8) (w0 := wc) wc.heap.size rfl (.tmp 66) (.tmp 67) 28 5 (.int .u8 0) 1 rfl Try.underlying28 info5 rfl (by decide) (by omega) v66 E more _ _ _ (fun k => wc.heap.size ≤ k) (fun _ => False) rfl rfl ?aO ?aR (fun _ _ h => h) (fun _ h => h.elim) ?aF ?aB ?aS ?aL ?_
         (case aR => exact Kd.C_below HR2.out (below_step HB2.out HB66.out))
         (case aB => exact HB66.out)
         (case aF => exact (fun _ hk => Nat.le_trans (below_size HB66.out) hk))
         (case aO => exact H66.out)
         (case aS => exact below_size HB66.out)
         (case aL => have := HEL.out; have := HBL.out; have := HML.out; omega)
         intro v68 w10 ho_ hb_ hg_ hat_
         have ho2_ := ho_
         rw [HCC.out] at ho2_
         have HB10 := Aside0.mk (below_step HB2.out hb_)
         clear ho_ hb_ hg_ hat_
         have H10 := Aside0.mk ho2_
         obtain ⟨Ac, cc, ec⟩ := Kd.R_slice ho2_
         subst ec
         clear ho2_))
    clear hcut1 hw1 hrem hrem2 hwz3 hwz4 hwn hwz hwz2 HE58 HB58 H66 HB66 CT CB CBC HB2 HREM HN HEL HBL HML HR2 HC2
    cases r with
    | none =>
      have HN2 := Aside0.mk (HNO.out rfl)
      go_upto_region 14 with (first
        | (go_at_call 14; (with_reducible refine (dec_calls k Ac cc cc_ _ _ (Kd.R_reads' H10.out).2.2 (Kd.R_reads' H10.out).2.1 HRR.out).mono ?_); (rintro ed w11 ⟨hb, v3, v4, hee, hr3, hr4⟩)
           have he2 : ed = .returned (.tuple #[.agg #[.int .u64 0, .int .u64 0, .int .u64 0, v3, v4], .int .i64 133]) := hee
           subst he2
           replace hr3 : Kd.R k40 40 w11 _ (fun _ => True) v3 awN := hr3
           replace hr4 : Kd.R k44 44 w11 _ _ v4 awF := hr4
           obtain ⟨B3, d3, e3⟩ := Kd.R_slice hr3
           subst e3
           obtain ⟨B4, d4, e4⟩ := Kd.R_slice hr4
           subst e4
           have R34 := Aside0.mk hr3
           have R44 := Aside0.mk hr4
           have HB11 := Aside0.mk (below_step HB10.out hb)
           clear hee hb hr3 hr4)
        | ((with_reducible refine gate_dst (N := 14) rfl ?_); refine box_event ?hg (N := 14) ?hd (cs := #[Value.int .u64 0, .int .u64 0, .int .u64 0, .slice none 0 0, .slice none 0 0]) (t := 27) ?hr ?_; (case hd => rfl); (case hg => rfl); (case hr => first | (go_simp; done) | (go_simp; rfl)); intro g5 hg w12 hbox hb
           have BY12 := Aside0.mk hbox
           have GY2 : Aside0 (w.heap.size ≤ g5) := ⟨by rw [hg]; exact below_size HB11.out⟩
           have R35 : Aside0 (Kd.R k40 40 w12 _ (fun k => k ≠ g5) (.slice B3 awN.length d3) awN) := ⟨Kd.R_below (Kd.R_mono (Kd.R_bound R34.out) (fun k hk => by have := hk.2.2.1; omega)) hb⟩
           have R45 : Aside0 (Kd.R k44 44 w12 _ (fun k => k ≠ g5) (.slice B4 awF.length d4) awF) := ⟨Kd.R_below (Kd.R_mono (Kd.R_bound R44.out) (fun k hk => by have := hk.2.2.1; omega)) hb⟩
           have HB12 := Aside0.mk (below_step HB11.out hb)
           have zc0 : w12.cell? ⟨g5, 0, none⟩ = some (Value.int .u64 0) := (blk_cell hbox 0).trans rfl
           have zf0 := blk_frozen hbox 0
           have zc1 : w12.cell? ⟨g5, 1, none⟩ = some (.int .u64 0) := (blk_cell hbox 1).trans rfl
           have zf1 := blk_frozen hbox 1
           have zc2 : w12.cell? ⟨g5, 2, none⟩ = some (.int .u64 0) := (blk_cell hbox 2).trans rfl
           have zf2 := blk_frozen hbox 2
           have zc3 : w12.cell? ⟨g5, 3, none⟩ = some (.slice none 0 0) := (blk_cell hbox 3).trans rfl
           have zf3 := blk_frozen hbox 3
           have zc4 : w12.cell? ⟨g5, 4, none⟩ = some (.slice none 0 0) := (blk_cell hbox 4).trans rfl
           have zf4 := blk_frozen hbox 4
           clear hg hbox hb))
      obtain ⟨W13, hW13⟩ : ∃ y, (((((w12.setCell ⟨g5, 0, none⟩ (Value.int .u64 0)).setCell ⟨g5, 1, none⟩ (.int .u64 0)).setCell ⟨g5, 2, none⟩ (.int .u64 0)).setCell ⟨g5, 3, none⟩ (.slice B3 awN.length d3)).setCell ⟨g5, 4, none⟩ (.slice B4 awF.length d4)) = y := ⟨_, rfl⟩
      rw [hW13]
      have hmv : ∀ j, j ≠ g5 → W13.heap[j]? = w12.heap[j]? := fun j hj => by rw [← hW13]; exact (Below.heap_setCell _ _ _ j hj).trans ((Below.heap_setCell _ _ _ j hj).trans ((Below.heap_setCell _ _ _ j hj).trans ((Below.heap_setCell _ _ _ j hj).trans ((Below.heap_setCell _ _ _ j hj)))))
      have BY13 : W13.heap[g5]? = some (.cells #[Value.int .u64 0, .int .u64 0, .int .u64 0, .slice B3 awN.length d3, .slice B4 awF.length d4] 27 (0, 0)) := by rw [← hW13]; exact blk_put (cs := #[Value.int .u64 0, .int .u64 0, .int .u64 0, .slice B3 awN.length d3, .slice none 0 0]) (blk_put (cs := #[Value.int .u64 0, .int .u64 0, .int .u64 0, .slice none 0 0, .slice none 0 0]) (blk_put (cs := #[Value.int .u64 0, .int .u64 0, .int .u64 0, .slice none 0 0, .slice none 0 0]) (blk_put (cs := #[Value.int .u64 0, .int .u64 0, .int .u64 0, .slice none 0 0, .slice none 0 0]) (blk_put (cs := #[Value.int .u64 0, .int .u64 0, .int .u64 0, .slice none 0 0, .slice none 0 0]) (BY12.out) 0 _ rfl) 1 _ rfl) 2 _ rfl) 3 _ rfl) 4 _ rfl
      have HB13 : Aside0 (Below w.heap.size w W13) := ⟨by rw [← hW13]; exact below_set (below_set (below_set (below_set (below_set (HB12.out) GY2.out) GY2.out) GY2.out) GY2.out) GY2.out⟩
      have R36 := Aside0.mk (Kd.R_move R35.out hmv)
      have R46 := Aside0.mk (Kd.R_move R45.out hmv)
      clear hW13 hmv zc0 zf0 zc1 zf1 zc2 zf2 zc3 zf3 zc4 zf4
      have yc0 : W13.cell? ⟨g5, 0, none⟩ = some (Value.int .u64 0) := (blk_cell BY13 0).trans rfl
      have yc1 : W13.cell? ⟨g5, 1, none⟩ = some (.int .u64 0) := (blk_cell BY13 1).trans rfl
      have yc2 : W13.cell? ⟨g5, 2, none⟩ = some (.int .u64 0) := (blk_cell BY13 2).trans rfl
      have yc3 : W13.cell? ⟨g5, 3, none⟩ = some (.slice B3 awN.length d3) := (blk_cell BY13 3).trans rfl
      have yc4 : W13.cell? ⟨g5, 4, none⟩ = some (.slice B4 awF.length d4) := (blk_cell BY13 4).trans rfl
      go_wp2_with (first
        | (go_at_call 11; (with_reducible refine (same_nil k B3 B4 d3 d4 _ (Kd.R_reads' R36.out).2.2 (Kd.R_reads' R36.out).2.1 (Kd.R_reads' R46.out).2.2 (Kd.R_reads' R46.out).2.1 HN2.out).mono ?_); (rintro es w14 ⟨rfl, hb⟩)
           have HB14 := Aside0.mk (below_step HB13.out hb)
           clear hb))
      go_ret
      exact ⟨by first | rfl | simp, HB14.out⟩
    | some z =>
      have HS2 := Aside0.mk (HSO.out z rfl)
      go_upto_region 16 with (first
        | (go_at_call 14; (with_reducible refine (dec_calls k Ac cc cc_ _ _ (Kd.R_reads' H10.out).2.2 (Kd.R_reads' H10.out).2.1 HRR.out).mono ?_); (rintro ed w11 ⟨hb, v3, v4, hee, hr3, hr4⟩)
           have he2 : ed = .returned (.tuple #[.agg #[.int .u64 z.l0, .int .u64 z.l1, .int .u64 z.l2, v3, v4], .int .i64 0]) := hee
           subst he2
           replace hr3 : Kd.R k40 40 w11 _ (fun _ => True) v3 z.ds := hr3
           replace hr4 : Kd.R k44 44 w11 _ _ v4 z.fs := hr4
           obtain ⟨B3, d3, e3⟩ := Kd.R_slice hr3
           subst e3
           obtain ⟨B4, d4, e4⟩ := Kd.R_slice hr4
           subst e4
           have R34 := Aside0.mk hr3
           have R44 := Aside0.mk hr4
           have H11 := Aside0.mk (Kd.R_below H10.out hb)
           have HB11 := Aside0.mk (below_step HB10.out hb)
           clear hee hb hr3 hr4)
        | ((with_reducible refine gate_dst (N := 14) rfl ?_); refine box_event ?hg (N := 14) ?hd (cs := #[Value.int .u64 0, .int .u64 0, .int .u64 0, .slice none 0 0, .slice none 0 0]) (t := 27) ?hr ?_; (case hd => rfl); (case hg => rfl); (case hr => first | (go_simp; done) | (go_simp; rfl)); intro g5 hg w12 hbox hb
           have BY12 := Aside0.mk hbox
           have GY2 : Aside0 (w.heap.size ≤ g5) := ⟨by rw [hg]; exact below_size HB11.out⟩
           have H12 : Aside0 (Kd.R (Kd.int .u8) 5 w12 _ (fun k => k ≠ g5) (.slice Ac cc_.length cc) cc_) := ⟨Kd.R_below (Kd.R_mono (Kd.R_bound H11.out) (fun k hk => by have := hk.2.2.1; omega)) hb⟩
           have R35 : Aside0 (Kd.R k40 40 w12 _ (fun k => k ≠ g5) (.slice B3 z.ds.length d3) z.ds) := ⟨Kd.R_below (Kd.R_mono (Kd.R_bound R34.out) (fun k hk => by have := hk.2.2.1; omega)) hb⟩
           have R45 : Aside0 (Kd.R k44 44 w12 _ (fun k => k ≠ g5) (.slice B4 z.fs.length d4) z.fs) := ⟨Kd.R_below (Kd.R_mono (Kd.R_bound R44.out) (fun k hk => by have := hk.2.2.1; omega)) hb⟩
           have HB12 := Aside0.mk (below_step HB11.out hb)
           have zc0 : w12.cell? ⟨g5, 0, none⟩ = some (Value.int .u64 0) := (blk_cell hbox 0).trans rfl
           have zf0 := blk_frozen hbox 0
           have zc1 : w12.cell? ⟨g5, 1, none⟩ = some (.int .u64 0) := (blk_cell hbox 1).trans rfl
           have zf1 := blk_frozen hbox 1
           have zc2 : w12.cell? ⟨g5, 2, none⟩ = some (.int .u64 0) := (blk_cell hbox 2).trans rfl
           have zf2 := blk_frozen hbox 2
           have zc3 : w12.cell? ⟨g5, 3, none⟩ = some (.slice none 0 0) := (blk_cell hbox 3).trans rfl
           have zf3 := blk_frozen hbox 3
           have zc4 : w12.cell? ⟨g5, 4, none⟩ = some (.slice none 0 0) := (blk_cell hbox 4).trans rfl
           have zf4 := blk_frozen hbox 4
           clear hg hbox hb))
      obtain ⟨W13, hW13⟩ : ∃ y, (((((w12.setCell ⟨g5, 0, none⟩ (Value.int .u64 z.l0)).setCell ⟨g5, 1, none⟩ (.int .u64 z.l1)).setCell ⟨g5, 2, none⟩ (.int .u64 z.l2)).setCell ⟨g5, 3, none⟩ (.slice B3 z.ds.length d3)).setCell ⟨g5, 4, none⟩ (.slice B4 z.fs.length d4)) = y := ⟨_, rfl⟩
      rw [hW13]
      have hmv : ∀ j, j ≠ g5 → W13.heap[j]? = w12.heap[j]? := fun j hj => by rw [← hW13]; exact (Below.heap_setCell _ _ _ j hj).trans ((Below.heap_setCell _ _ _ j hj).trans ((Below.heap_setCell _ _ _ j hj).trans ((Below.heap_setCell _ _ _ j hj).trans ((Below.heap_setCell _ _ _ j hj)))))
      have BY13 : W13.heap[g5]? = some (.cells #[Value.int .u64 z.l0, .int .u64 z.l1, .int .u64 z.l2, .slice B3 z.ds.length d3, .slice B4 z.fs.length d4] 27 (0, 0)) := by rw [← hW13]; exact blk_put (cs := #[Value.int .u64 z.l0, .int .u64 z.l1, .int .u64 z.l2, .slice B3 z.ds.length d3, .slice none 0 0]) (blk_put (cs := #[Value.int .u64 z.l0, .int .u64 z.l1, .int .u64 z.l2, .slice none 0 0, .slice none 0 0]) (blk_put (cs := #[Value.int .u64 z.l0, .int .u64 z.l1, .int .u64 0, .slice none 0 0, .slice none 0 0]) (blk_put (cs := #[Value.int .u64 z.l0, .int .u64 0, .int .u64 0, .slice none 0 0, .slice none 0 0]) (blk_put (cs := #[Value.int .u64 0, .int .u64 0, .int .u64 0, .slice none 0 0, .slice none 0 0]) (BY12.out) 0 _ rfl) 1 _ rfl) 2 _ rfl) 3 _ rfl) 4 _ rfl
      have HB13 : Aside0 (Below w.heap.size w W13) := ⟨by rw [← hW13]; exact below_set (below_set (below_set (below_set (below_set (HB12.out) GY2.out) GY2.out) GY2.out) GY2.out) GY2.out⟩
      have H13 := Aside0.mk (Kd.R_move H12.out hmv)
      have R36 := Aside0.mk (Kd.R_move R35.out hmv)
      have R46 := Aside0.mk (Kd.R_move R45.out hmv)
      clear hW13 hmv zc0 zf0 zc1 zf1 zc2 zf2 zc3 zf3 zc4 zf4
      have yc0 : W13.cell? ⟨g5, 0, none⟩ = some (Value.int .u64 z.l0) := (blk_cell BY13 0).trans rfl
      have yc1 : W13.cell? ⟨g5, 1, none⟩ = some (.int .u64 z.l1) := (blk_cell BY13 1).trans rfl
      have yc2 : W13.cell? ⟨g5, 2, none⟩ = some (.int .u64 z.l2) := (blk_cell BY13 2).trans rfl
      have yc3 : W13.cell? ⟨g5, 3, none⟩ = some (.slice B3 z.ds.length d3) := (blk_cell BY13 3).trans rfl
      have yc4 : W13.cell? ⟨g5, 4, none⟩ = some (.slice B4 z.fs.length d4) := (blk_cell BY13 4).trans rfl
      go_upto_region 17 with (first
        | (go_at_call 9; (with_reducible refine (enc_calls k z.l0 z.l1 z.l2 B3 d3 z.ds B4 d4 z.fs cc_ 0 _ (Kd.R_reads' R36.out).2.2 (Kd.R_reads' R36.out).2.1 (Kd.R_reads' R46.out).2.2 (Kd.R_reads' R46.out).2.1 HS2.out).mono ?_); (rintro ee w14 ⟨vd, rfl, hod, hb⟩)
           have H14 := Aside0.mk (Kd.R_below H13.out hb)
           have HB14 := Aside0.mk (below_step HB13.out hb)
           have HO14 := Aside0.mk hod
           obtain ⟨Ad, cd, ed_⟩ := Kd.R_slice hod
           subst ed_
           clear hod hb))
      have hcv1 := Kd.C_string (P := Try.prog) (A := Ac) (c := cc) Try.underlying28 Try.underlying5 Try.underlying9 (Kd.R_reads' H14.out).2.2
      have hcv2 := Kd.C_string (P := Try.prog) (A := Ad) (c := cd) Try.underlying28 Try.underlying5 Try.underlying9 (Kd.R_reads' HO14.out).2.2
      go_wp2
      go_ret
      exact ⟨by first | rfl | simp, HB14.out⟩
end Go.Proofs.Ythkkbgehmiobaaa.E
namespace Go.Proofs.Ythkkbgehmiobaaa.P
open Go.RowKit Go.Proofs.YthkkbgehmiobaaaW.PrintWords
theorem staddlelaw13_EditBack.calls (k : Nat) (a b c : Int) (A3 : Option Addr) (c3 : Nat) (D : List S40) (A4 : Option Addr) (c4 : Nat) (L : List S44) (a1 : Int) (A2 : Option Addr) (c2 : Nat) (more : List Int) (r : Bool) (w : World) (hr3 : Kd.C k40 w A3 D.length D) (hc3 : D.length ≤ c3) (hr4 : Kd.C k44 w A4 L.length L) (hc4 : L.length ≤ c4) (hr2 : Kd.C (Kd.int .u8) w A2 more.length more) (hc2 : more.length ≤ c2) (hf : E.Back k ⟨a, b, c, D, L⟩ a1 more ∧ true = r) :
    Calls Try.prog 6 #[.agg #[.int .u64 a, .int .u64 b, .int .u64 c, .slice A3 D.length c3, .slice A4 L.length c4], .int .i64 a1, .slice A2 more.length c2] w fun e w' => e = .returned (.bool r) ∧ Below w.heap.size w w' := by
  obtain ⟨hf, rfl⟩ := hf
  exact E.back_calls k ⟨a, b, c, D, L⟩ A3 c3 A4 c4 a1 A2 c2 more w hr3 hc3 hr4 hc4 hr2 hc2 hf
end Go.Proofs.Ythkkbgehmiobaaa.P
