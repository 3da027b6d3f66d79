/- The words of the first call: what Build, Open and Get come to at the heads of the statements. -/
import Derived.Test.YthdemdjobgbpdaaTX
import Derived.Test.YthdemdjobgbpdaaTO
namespace Go.Proofs.Ythdemdjobgbpdaa.T
open Go.RowKit Go.Shelf Go.Proofs.YthdemdjobgbpdaaW.PrintWords Go.Proofs.YthdemdjobgbpdaaW.PrintLast Go.Proofs.YthdemdjobgbpdaaW.PrintMore Go.Proofs.Ythdemdjobgbpdaa.P Go.Proofs.Ythdemdjobgbpdaa.B Go.Proofs.Ythdemdjobgbpdaa.Q
set_option linter.unusedVariables false
def awA : ByteArray := ⟨#[97]⟩
def awX : ByteArray := ⟨#[120]⟩
def awL : List S47 := [⟨⟨awA, 1, 1⟩, awX⟩]
def awB : List Int := [0, 9, 1, 97, 1, 1, 0, 0, 0, 0, 0, 0, 120, 0, 0, 0, 0, 1, 1, 0, 0, 0, 255, 50, 247, 41, 8, 16, 32, 64, 128, 0, 1, 0, 6, 211, 158, 187, 120, 0, 9, 2, 97, 1, 1, 0, 0, 0, 0, 0, 0, 0, 22, 0, 0, 0, 0, 1, 1, 0, 0, 0, 208, 63, 114, 96, 26, 0, 0, 0, 9, 0, 0, 0, 39, 0, 0, 0, 23, 0, 0, 0, 1, 0, 0, 0, 115, 116, 97, 100, 100, 108, 101, 49]
def awF : List Int := [8, 16, 32, 64, 128, 0, 1, 0, 6]
def awI : List Int := [0, 9, 2, 97, 1, 1, 0, 0, 0, 0, 0, 0, 0, 22, 0, 0, 0, 0, 1, 1, 0, 0, 0]
def awP : List SPl := [⟨⟨awA, 1, 1⟩, 0, 22⟩]
set_option maxRecDepth 100000
theorem aw_bloom : bloomB 100 [awA] 4621819117588971520 = some (awF, 0) := by kernel_rfl
theorem aw_block : block_Build.f 100 awL 1 = some ([0, 9, 1, 97, 1, 1, 0, 0, 0, 0, 0, 0, 120, 0, 0, 0, 0, 1, 1, 0, 0, 0], 0) := by kernel_rfl
theorem aw_tab : tab_f 100 100 awL 1 1 4621819117588971520 = some (awB, 0) := by kernel_rfl
theorem aw_p0 : part_f 100 awB 26 9 = some (awF, true) := by kernel_rfl
theorem aw_p1 : part_f 100 awB 39 23 = some (awI, true) := by kernel_rfl
theorem aw_open : open_g 100 awI = some (some ([⟨⟨awA, 1, 1⟩, ⟨#[0, 22]⟩⟩], 1)) := by kernel_rfl
theorem aw_get1 : get_f 100 awB awF awP (⟨#[97]⟩ : ByteArray) 1 = some ((⟨#[120]⟩ : ByteArray), 2, 0) := by kernel_rfl
theorem aw_get0 : get_f 100 awB awF awP (⟨#[97]⟩ : ByteArray) 0 = some (noText, 0, 0) := by kernel_rfl
theorem run_store_float {P : Program} {w : World} {a : Addr} (k : FloatKind) (b : Nat) {m : _} : (store a (.float k b) m).run P w = stored P w a (.float k b) m := run_store P w a _ m rfl
attribute [local go_sem] run_store_float
def awN : Nat → Int := fun i => ([26, 9, 39, 23, 1] : List Int).getD i 0
theorem aw_ok : OpenOk 100 awB 66 26 9 39 23 awN awF awI [⟨⟨awA, 1, 1⟩, ⟨#[0, 22]⟩⟩] 1 awP where
  len := rfl
  lt := by decide
  magic := by kernel_rfl
  nums := fun i hi => by
    rcases (show i = 0 ∨ i = 1 ∨ i = 2 ∨ i = 3 ∨ i = 4 by omega) with rfl | rfl | rfl | rfl | rfl
    · exact ⟨0, by kernel_rfl⟩
    · exact ⟨0, by kernel_rfl⟩
    · exact ⟨0, by kernel_rfl⟩
    · exact ⟨0, by kernel_rfl⟩
    · exact ⟨0, by kernel_rfl⟩
  e0 := rfl
  e1 := rfl
  e2 := rfl
  e3 := rfl
  s2 := rfl
  s4 := rfl
  p0 := aw_p0
  p1 := aw_p1
  op := aw_open
  ne := by simp
  il := by decide
  x5 := ⟨by decide, by kernel_rfl⟩
  pl := .cons (kk := 1) (m := 1) (size := 22) (a1 := [0]) (by kernel_rfl) (by decide) (by kernel_rfl) (by kernel_rfl) (by kernel_rfl) (by kernel_rfl) (by kernel_rfl) (by decide) (by decide) (.nil 26)
theorem aw_openc (A : Option Addr) (c : Nat) (w : World) (hC : Kd.C (Kd.int .u8) w A awB.length awB) (hc : awB.length ≤ c) :
    Calls Try.prog 13 #[.slice A 94 c] w fun en w' => ∃ g, en = .returned (.tuple #[.pointer (some ⟨g, 0, none⟩), .int .i64 0]) ∧ w.heap.size ≤ g ∧ IsTab w' g awB awF awP (awN 4) ∧ Below w.heap.size w w' :=
  open_calls 100 A c awB 66 26 9 39 23 awN awF awI _ 1 awP w hC hc aw_ok
set_option maxHeartbeats 4000000 in
/-- the calls at the head of every statement -/
theorem awake_calls (w : World) : Calls Try.prog 9 #[] w fun e w' => e = .returned (.bool true) ∧ Below w.heap.size w w' := by
  go_enter Try.func9, Try.ntmps9
  go_upto_region 2 with (first
    | ((with_reducible refine gate_dst (N := 1) rfl ?_); refine box_event ?hg (N := 1) ?hd (cs := #[.int .i64 0, .int .i64 0, .float .f64 0]) (t := 26) ?hr ?_; (case hd => rfl); (case hg => rfl); (case hr => first | (go_simp; done) | (go_simp; rfl)); intro gb hg w2 hbox hb
       have BK := Aside0.mk hbox
       have HB2 := Aside0.mk hb
       have HGB : Aside0 (w.heap.size ≤ gb) := ⟨by rw [hg]; exact Nat.le_refl _⟩
       clear hb hbox hg
       have hcz0 : w2.cell? ⟨gb, 0, none⟩ = some (.int .i64 0) := (blk_cell BK.out 0).trans rfl
       have hcz1 : w2.cell? ⟨gb, 1, none⟩ = some (.int .i64 0) := (blk_cell BK.out 1).trans rfl
       have hcz2 : w2.cell? ⟨gb, 2, none⟩ = some (.float .f64 0) := (blk_cell BK.out 2).trans rfl
       have hfz0 := blk_frozen BK.out 0
       have hfz1 := blk_frozen BK.out 1
       have hfz2 := blk_frozen BK.out 2))
  obtain ⟨w3, hw3⟩ : ∃ y, ((w2.setCell ⟨gb, 0, none⟩ (.int .i64 1)).setCell ⟨gb, 1, none⟩ (.int .i64 1)).setCell ⟨gb, 2, none⟩ (.float .f64 4621819117588971520) = y := ⟨_, rfl⟩
  have BK3 : Aside0 (w3.heap[gb]? = some (.cells #[.int .i64 1, .int .i64 1, .float .f64 4621819117588971520] 26 (0, 0))) := ⟨by
    rw [← hw3]
    exact blk_put (cs := #[.int .i64 1, .int .i64 1, .float .f64 0]) (blk_put (cs := #[.int .i64 1, .int .i64 0, .float .f64 0]) (blk_put (cs := #[.int .i64 0, .int .i64 0, .float .f64 0]) BK.out 0 _ rfl) 1 _ rfl) 2 _ rfl⟩
  have HB3 : Aside0 (Below w.heap.size w w3) := ⟨by rw [← hw3]; exact below_set (below_set (below_set HB2.out HGB.out) HGB.out) HGB.out⟩
  rw [hw3]
  clear hw3 hcz0 hcz1 hcz2 hfz0 hfz1 hfz2 BK HB2
  have hln : awB.length = 94 := rfl
  have hln2 : ((awB.length : Int) != 94) = false := rfl
  have hpl : awP.length = 1 := rfl
  go_wp2_with (first
    | ((with_reducible refine gate_dst (N := 16) rfl ?_); refine Kd.R_lit k47 _ 47 ?hg (N := 16) ?hd (xs := awL) (inner := [.string (⟨#[97]⟩ : ByteArray), .int .u64 1, .int .i64 1, .string (⟨#[120]⟩ : ByteArray)]) (ok := fun _ => True) (okp := fun _ => True) ?hr ?hp (fun _ hk => hk) trivial (Below.refl _ _) (Nat.le_refl _) (by decide) ?_; (case hd => rfl); (case hg => rfl); (case hr => first | (go_simp; done) | (go_simp; rfl)); (case hp => exact Reps.c4 (k47_mkM _ _ _ ⟨⟨(⟨#[97]⟩ : ByteArray), 1, 1⟩, (⟨#[120]⟩ : ByteArray)⟩) (Reps.none _ _))
       intro v4 w4 ho hb hg hat
       have BK4 := blk_below BK3.out hb
       have HB4 := Aside0.mk (below_step HB3.out hb)
       obtain ⟨A4, c4, e4⟩ := Kd.R_slice ho
       subst e4
       have HO4 := Aside0.mk ho
       have hcl0 : w4.cell? ⟨gb, 0, none⟩ = some (.int .i64 1) := (blk_cell BK4 0).trans rfl
       have hcl1 : w4.cell? ⟨gb, 1, none⟩ = some (.int .i64 1) := (blk_cell BK4 1).trans rfl
       have hcl2 : w4.cell? ⟨gb, 2, none⟩ = some (.float .f64 4621819117588971520) := (blk_cell BK4 2).trans rfl
       clear ho hb hg hat BK4)
    | (go_at_call 10; with_reducible refine (tab_calls 100 100 A4 c4 awL 1 1 4621819117588971520 (awB, 0) _ (Kd.R_reads' HO4.out).2.2 (Kd.R_reads' HO4.out).2.1 aw_tab).mono ?_; rintro ex w5 ⟨v5, rfl, hob, hb⟩
       have HB5 := Aside0.mk (below_step HB4.out hb)
       obtain ⟨A5, c5, e5⟩ := Kd.R_slice hob
       subst e5
       have HO5 := Aside0.mk hob
       clear hob hb hcl0 hcl1 hcl2)
    | (go_at_call 13; with_reducible refine (aw_openc A5 c5 _ (Kd.R_reads' HO5.out).2.2 (Kd.R_reads' HO5.out).2.1).mono ?_; rintro ex w6 ⟨gt, rfl, hge, htab, hb⟩
       have HB6 := Aside0.mk (below_step HB5.out hb)
       have HT6 := Aside0.mk htab
       clear hb htab hge)
    | (go_at_call 16; with_reducible refine (get_calls 100 gt awB awF awP (awN 4) (⟨#[97]⟩ : ByteArray) 1 ((⟨#[120]⟩ : ByteArray), 2, 0) _ HT6.out aw_get1).mono ?_; rintro ex w7 ⟨rfl, hb⟩
       have HB7 := Aside0.mk (below_step HB6.out hb)
       have HT7 := Aside0.mk (HT6.out.below hb)
       clear hb)
    | (go_at_call 16; with_reducible refine (get_calls 100 gt awB awF awP (awN 4) (⟨#[97]⟩ : ByteArray) 0 (noText, 0, 0) _ HT7.out aw_get0).mono ?_; rintro ex w8 ⟨rfl, hb⟩
       have HB8 := Aside0.mk (below_step HB7.out hb)
       have HT8 := Aside0.mk (HT7.out.below hb)
       clear hb)
    | (go_at_call 15; with_reducible refine (blocks_calls gt awB awF awP (awN 4) _ HT8.out).mono ?_; rintro ex w9 ⟨rfl, hww⟩; obtain rfl := hww.symm))
  go_ret
  exact ⟨rfl, HB8.out⟩
set_option maxRecDepth 100000 in
set_option maxHeartbeats 4000000 in
theorem names_calls (w : World) : Calls Try.prog 3 #[] w fun e w' => e = .returned (.bool true) ∧ Below w.heap.size w w' := by
  go_enter Try.func3, Try.ntmps3
  go_wp2_with (go_at_call 9; with_reducible refine (awake_calls _).mono ?_; rintro e w2 ⟨rfl, hb⟩; have HB := Aside0.mk hb; clear hb)
  go_ret
  exact ⟨rfl, HB.out⟩
end Go.Proofs.Ythdemdjobgbpdaa.T
namespace Go.Proofs.Ythdemdjobgbpdaa.T
open Go.RowKit Go.Proofs.YthdemdjobgbpdaaW.PrintWords Go.Proofs.YthdemdjobgbpdaaW.PrintLast Go.Proofs.YthdemdjobgbpdaaW.PrintMore Go.Proofs.Ythdemdjobgbpdaa.P
set_option linter.unusedVariables false
set_option maxRecDepth 100000 in
set_option maxHeartbeats 1000000 in
theorem all_nil (w : World) : Calls Try.prog 14 #[.pointer none] w fun e w' => e = .returned (.tuple #[.slice none 0 0, .int .i64 1]) ∧ w' = w := by
  go_enter Try.func14, Try.ntmps14
  go_wp2
  go_ret2
  exact ⟨rfl, rfl⟩
set_option maxRecDepth 100000 in
set_option maxHeartbeats 4000000 in
theorem nil_calls (user : ByteArray) (seq : Int) (w : World) : Calls Try.prog 7 #[.string user, .int .u64 seq] w fun e w' => e = .returned (.bool true) ∧ Below w.heap.size w w' := by
  have hnt : noText.toList.isEmpty = true := by unfold noText; rw [ByteArray.toList_eq]; rfl
  go_enter Try.func7, Try.ntmps7
  go_wp2_with (first
    | (go_at_call 9; with_reducible refine (awake_calls _).mono ?_; rintro e w2 ⟨rfl, hb⟩; have HB := Aside0.mk hb; clear hb)
    | (go_at_call 14; with_reducible refine (all_nil _).mono ?_; rintro e w3 ⟨rfl, hww⟩; obtain rfl := hww.symm)
    | (go_at_call 16; with_reducible refine (get_nil user seq _).mono ?_; rintro e w3 ⟨rfl, hww⟩; obtain rfl := hww.symm)
    | (go_at_call 15; with_reducible refine (blocks_nil _).mono ?_; rintro e w3 ⟨rfl, hww⟩; obtain rfl := hww.symm))
  go_ret
  exact ⟨rfl, HB.out⟩
end Go.Proofs.Ythdemdjobgbpdaa.T
namespace Go.Proofs.Ythdemdjobgbpdaa.P
open Go.RowKit
theorem staddlelaw12_SstableNil.calls (a0 : ByteArray) (a1 : Int) (r : Bool) (w : World) (hf : true = r) : Calls Try.prog 7 #[.string a0, .int .u64 a1] w fun e w' => e = .returned (.bool r) ∧ Below w.heap.size w w' := by
  subst hf
  exact T.nil_calls a0 a1 w
end Go.Proofs.Ythdemdjobgbpdaa.P
