/- The words of the first call: what Build, Open and Get come to at the heads of the statements. The parts of a table: sums, and what is read of them. Plain Lean. What Build lays, of entries that rise: blocks one behind the other, a filter, an index, a foot. Plain Lean. A filter: it is laid, and tells of each of its keys that it may be there. Plain Lean. What Build comes to, whatever it is handed. Plain Lean. What Build comes to: its bytes, or an error. Plain Lean. What Build lays is opened, and read whole. Plain Lean. A table that is laid, read whole, and asked. Plain Lean. A table that is laid, asked of a key: what its entries tell. Plain Lean. A table that is built, opened and asked, as the walks of the statements want it; the walk of SstableTunes. What Same comes to. What is built is opened, read and asked: one number of rounds for all of it. Plain Lean; and what SstableTunes wants. -/
import Derived.Test.YthdemdjobgbpdaaCC
import Derived.Test.YthdemdjobgbpdaaCQ
import Derived.Test.YthdemdjobgbpdaaSame
set_option linter.unusedVariables false
set_option linter.unusedSimpArgs false
namespace Go.Proofs.Ythdemdjobgbpdaa.T
open Go.RowKit Go.Shelf Go.Proofs.YthdemdjobgbpdaaW.PrintWords Go.Proofs.YthdemdjobgbpdaaW.PrintLast Go.Proofs.YthdemdjobgbpdaaW.PrintMore Go.Proofs.Ythdemdjobgbpdaa.P Go.Proofs.Ythdemdjobgbpdaa.B Go.Proofs.Ythdemdjobgbpdaa.Q
set_option linter.unusedVariables false
def awA : ByteArray := ⟨#[97]⟩
def awX : ByteArray := ⟨#[120]⟩
def awL : List S47 := [⟨⟨awA, 1, 1⟩, awX⟩]
def awB : List Int := [0, 9, 1, 97, 1, 1, 0, 0, 0, 0, 0, 0, 120, 0, 0, 0, 0, 1, 1, 0, 0, 0, 255, 50, 247, 41, 8, 16, 32, 64, 128, 0, 1, 0, 6, 211, 158, 187, 120, 0, 9, 2, 97, 1, 1, 0, 0, 0, 0, 0, 0, 0, 22, 0, 0, 0, 0, 1, 1, 0, 0, 0, 208, 63, 114, 96, 26, 0, 0, 0, 9, 0, 0, 0, 39, 0, 0, 0, 23, 0, 0, 0, 1, 0, 0, 0, 115, 116, 97, 100, 100, 108, 101, 49]
def awF : List Int := [8, 16, 32, 64, 128, 0, 1, 0, 6]
def awI : List Int := [0, 9, 2, 97, 1, 1, 0, 0, 0, 0, 0, 0, 0, 22, 0, 0, 0, 0, 1, 1, 0, 0, 0]
def awP : List SPl := [⟨⟨awA, 1, 1⟩, 0, 22⟩]
set_option maxRecDepth 100000
theorem aw_tab : tab_f 100 100 awL 1 1 4621819117588971520 = some (awB, 0) := by kernel_rfl
theorem aw_p0 : part_f 100 awB 26 9 = some (awF, true) := by kernel_rfl
theorem aw_p1 : part_f 100 awB 39 23 = some (awI, true) := by kernel_rfl
theorem aw_open : open_g 100 awI = some (some ([⟨⟨awA, 1, 1⟩, ⟨#[0, 22]⟩⟩], 1)) := by kernel_rfl
theorem aw_get1 : get_f 100 awB awF awP (⟨#[97]⟩ : ByteArray) 1 = some ((⟨#[120]⟩ : ByteArray), 2, 0) := by kernel_rfl
theorem aw_get0 : get_f 100 awB awF awP (⟨#[97]⟩ : ByteArray) 0 = some (noText, 0, 0) := by kernel_rfl
theorem run_store_float {P : Program} {w : World} {a : Addr} (k : FloatKind) (b : Nat) {m : _} : (store a (.float k b) m).run P w = stored P w a (.float k b) m := run_store P w a _ m rfl
attribute [local go_sem] run_store_float
def awN : Nat → Int := fun i => ([26, 9, 39, 23, 1] : List Int).getD i 0
theorem aw_ok : OpenOk 100 awB 66 26 9 39 23 awN awF awI [⟨⟨awA, 1, 1⟩, ⟨#[0, 22]⟩⟩] 1 awP where
  len := rfl
  lt := by decide
  magic := by kernel_rfl
  nums := fun i hi => by
    rcases (show i = 0 ∨ i = 1 ∨ i = 2 ∨ i = 3 ∨ i = 4 by omega) with rfl | rfl | rfl | rfl | rfl
    · exact ⟨0, by kernel_rfl⟩
    · exact ⟨0, by kernel_rfl⟩
    · exact ⟨0, by kernel_rfl⟩
    · exact ⟨0, by kernel_rfl⟩
    · exact ⟨0, by kernel_rfl⟩
  e0 := rfl
  e1 := rfl
  e2 := rfl
  e3 := rfl
  s2 := rfl
  s4 := rfl
  p0 := aw_p0
  p1 := aw_p1
  op := aw_open
  ne := by simp
  il := by decide
  x5 := ⟨by decide, by kernel_rfl⟩
  pl := .cons (kk := 1) (m := 1) (size := 22) (a1 := [0]) (by kernel_rfl) (by decide) (by kernel_rfl) (by kernel_rfl) (by kernel_rfl) (by kernel_rfl) (by kernel_rfl) (by decide) (by decide) (.nil 26)
theorem aw_openc (A : Option Addr) (c : Nat) (w : World) (hC : Kd.C (Kd.int .u8) w A awB.length awB) (hc : awB.length ≤ c) :
    Calls Try.prog 13 #[.slice A 94 c] w fun en w' => ∃ g, en = .returned (.tuple #[.pointer (some ⟨g, 0, none⟩), .int .i64 0]) ∧ w.heap.size ≤ g ∧ IsTab w' g awB awF awP (awN 4) ∧ Below w.heap.size w w' :=
  open_calls 100 A c awB 66 26 9 39 23 awN awF awI _ 1 awP w hC hc aw_ok
set_option maxHeartbeats 4000000 in
/-- the calls at the head of every statement -/
theorem awake_calls (w : World) : Calls Try.prog 9 #[] w fun e w' => e = .returned (.bool true) ∧ Below w.heap.size w w' := by
  go_enter Try.func9, Try.ntmps9
  go_upto_region 2 with (first
    | ((with_reducible refine gate_dst (N := 1) rfl ?_); refine box_event ?hg (N := 1) ?hd (cs := #[.int .i64 0, .int .i64 0, .float .f64 0]) (t := 26) ?hr ?_; (case hd => rfl); (case hg => rfl); (case hr => first | (go_simp; done) | (go_simp; rfl)); intro gb hg w2 hbox hb
       have BK := Aside0.mk hbox
       have HB2 := Aside0.mk hb
       have HGB : Aside0 (w.heap.size ≤ gb) := ⟨by rw [hg]; exact Nat.le_refl _⟩
       clear hb hbox hg
       have hcz0 : w2.cell? ⟨gb, 0, none⟩ = some (.int .i64 0) := (blk_cell BK.out 0).trans rfl
       have hcz1 : w2.cell? ⟨gb, 1, none⟩ = some (.int .i64 0) := (blk_cell BK.out 1).trans rfl
       have hcz2 : w2.cell? ⟨gb, 2, none⟩ = some (.float .f64 0) := (blk_cell BK.out 2).trans rfl
       have hfz0 := blk_frozen BK.out 0
       have hfz1 := blk_frozen BK.out 1
       have hfz2 := blk_frozen BK.out 2))
  obtain ⟨w3, hw3⟩ : ∃ y, ((w2.setCell ⟨gb, 0, none⟩ (.int .i64 1)).setCell ⟨gb, 1, none⟩ (.int .i64 1)).setCell ⟨gb, 2, none⟩ (.float .f64 4621819117588971520) = y := ⟨_, rfl⟩
  have BK3 : Aside0 (w3.heap[gb]? = some (.cells #[.int .i64 1, .int .i64 1, .float .f64 4621819117588971520] 26 (0, 0))) := ⟨by
    rw [← hw3]
    exact blk_put (cs := #[.int .i64 1, .int .i64 1, .float .f64 0]) (blk_put (cs := #[.int .i64 1, .int .i64 0, .float .f64 0]) (blk_put (cs := #[.int .i64 0, .int .i64 0, .float .f64 0]) BK.out 0 _ rfl) 1 _ rfl) 2 _ rfl⟩
  have HB3 : Aside0 (Below w.heap.size w w3) := ⟨by rw [← hw3]; exact below_set (below_set (below_set HB2.out HGB.out) HGB.out) HGB.out⟩
  rw [hw3]
  clear hw3 hcz0 hcz1 hcz2 hfz0 hfz1 hfz2 BK HB2
  have hln : awB.length = 94 := rfl
  have hln2 : ((awB.length : Int) != 94) = false := rfl
  have hpl : awP.length = 1 := rfl
  go_wp2_with (first
    | ((with_reducible refine gate_dst (N := 16) rfl ?_); refine Kd.R_lit k47 _ 47 ?hg (N := 16) ?hd (xs := awL) (inner := [.string (⟨#[97]⟩ : ByteArray), .int .u64 1, .int .i64 1, .string (⟨#[120]⟩ : ByteArray)]) (ok := fun _ => True) (okp := fun _ => True) ?hr ?hp (fun _ hk => hk) trivial (Below.refl _ _) (Nat.le_refl _) (by decide) ?_; (case hd => rfl); (case hg => rfl); (case hr => first | (go_simp; done) | (go_simp; rfl)); (case hp => exact Reps.c4 (k47_mkM _ _ _ ⟨⟨(⟨#[97]⟩ : ByteArray), 1, 1⟩, (⟨#[120]⟩ : ByteArray)⟩) (Reps.none _ _))
       intro v4 w4 ho hb hg hat
       have BK4 := blk_below BK3.out hb
       have HB4 := Aside0.mk (below_step HB3.out hb)
       obtain ⟨A4, c4, e4⟩ := Kd.R_slice ho
       subst e4
       have HO4 := Aside0.mk ho
       have hcl0 : w4.cell? ⟨gb, 0, none⟩ = some (.int .i64 1) := (blk_cell BK4 0).trans rfl
       have hcl1 : w4.cell? ⟨gb, 1, none⟩ = some (.int .i64 1) := (blk_cell BK4 1).trans rfl
       have hcl2 : w4.cell? ⟨gb, 2, none⟩ = some (.float .f64 4621819117588971520) := (blk_cell BK4 2).trans rfl
       clear ho hb hg hat BK4)
    | (go_at_call 10; with_reducible refine (tab_calls 100 100 A4 c4 awL 1 1 4621819117588971520 (awB, 0) _ (Kd.R_reads' HO4.out).2.2 (Kd.R_reads' HO4.out).2.1 aw_tab).mono ?_; rintro ex w5 ⟨v5, rfl, hob, hb⟩
       have HB5 := Aside0.mk (below_step HB4.out hb)
       obtain ⟨A5, c5, e5⟩ := Kd.R_slice hob
       subst e5
       have HO5 := Aside0.mk hob
       clear hob hb hcl0 hcl1 hcl2)
    | (go_at_call 13; with_reducible refine (aw_openc A5 c5 _ (Kd.R_reads' HO5.out).2.2 (Kd.R_reads' HO5.out).2.1).mono ?_; rintro ex w6 ⟨gt, rfl, hge, htab, hb⟩
       have HB6 := Aside0.mk (below_step HB5.out hb)
       have HT6 := Aside0.mk htab
       clear hb htab hge)
    | (go_at_call 16; with_reducible refine (get_calls 100 gt awB awF awP (awN 4) (⟨#[97]⟩ : ByteArray) 1 ((⟨#[120]⟩ : ByteArray), 2, 0) _ HT6.out aw_get1).mono ?_; rintro ex w7 ⟨rfl, hb⟩
       have HB7 := Aside0.mk (below_step HB6.out hb)
       have HT7 := Aside0.mk (HT6.out.below hb)
       clear hb)
    | (go_at_call 16; with_reducible refine (get_calls 100 gt awB awF awP (awN 4) (⟨#[97]⟩ : ByteArray) 0 (noText, 0, 0) _ HT7.out aw_get0).mono ?_; rintro ex w8 ⟨rfl, hb⟩
       have HB8 := Aside0.mk (below_step HB7.out hb)
       have HT8 := Aside0.mk (HT7.out.below hb)
       clear hb)
    | (go_at_call 15; with_reducible refine (blocks_calls gt awB awF awP (awN 4) _ HT8.out).mono ?_; rintro ex w9 ⟨rfl, hww⟩; obtain rfl := hww.symm))
  go_ret
  exact ⟨rfl, HB8.out⟩
end Go.Proofs.Ythdemdjobgbpdaa.T
namespace Go.Proofs.Ythdemdjobgbpdaa.T
open Go.RowKit Go.Proofs.YthdemdjobgbpdaaW.PrintWords Go.Proofs.YthdemdjobgbpdaaW.PrintLast Go.Proofs.YthdemdjobgbpdaaW.PrintMore Go.Proofs.Ythdemdjobgbpdaa.P
set_option linter.unusedVariables false
set_option maxRecDepth 100000 in
set_option maxHeartbeats 1000000 in
theorem all_nil (w : World) : Calls Try.prog 14 #[.pointer none] w fun e w' => e = .returned (.tuple #[.slice none 0 0, .int .i64 1]) ∧ w' = w := by
  go_enter Try.func14, Try.ntmps14
  go_wp2
  go_ret2
  exact ⟨rfl, rfl⟩
set_option maxRecDepth 100000 in
set_option maxHeartbeats 4000000 in
theorem nil_calls (user : ByteArray) (seq : Int) (w : World) : Calls Try.prog 7 #[.string user, .int .u64 seq] w fun e w' => e = .returned (.bool true) ∧ Below w.heap.size w w' := by
  have hnt : noText.toList.isEmpty = true := by unfold noText; rw [ByteArray.toList_eq]; rfl
  go_enter Try.func7, Try.ntmps7
  go_wp2_with (first
    | (go_at_call 9; with_reducible refine (awake_calls _).mono ?_; rintro e w2 ⟨rfl, hb⟩; have HB := Aside0.mk hb; clear hb)
    | (go_at_call 14; with_reducible refine (all_nil _).mono ?_; rintro e w3 ⟨rfl, hww⟩; obtain rfl := hww.symm)
    | (go_at_call 16; with_reducible refine (get_nil user seq _).mono ?_; rintro e w3 ⟨rfl, hww⟩; obtain rfl := hww.symm)
    | (go_at_call 15; with_reducible refine (blocks_nil _).mono ?_; rintro e w3 ⟨rfl, hww⟩; obtain rfl := hww.symm))
  go_ret
  exact ⟨rfl, HB.out⟩
end Go.Proofs.Ythdemdjobgbpdaa.T
namespace Go.Proofs.Ythdemdjobgbpdaa.P
open Go.RowKit
theorem staddlelaw12_SstableNil.calls (a0 : ByteArray) (a1 : Int) (r : Bool) (w : World) (hf : true = r) : Calls Try.prog 7 #[.string a0, .int .u64 a1] w fun e w' => e = .returned (.bool r) ∧ Below w.heap.size w w' := by
  subst hf
  exact T.nil_calls a0 a1 w
end Go.Proofs.Ythdemdjobgbpdaa.P
namespace Go.Proofs.Ythdemdjobgbpdaa.Q
open Go.RowKit Go.Proofs.YthdemdjobgbpdaaW.PrintWords Go.Proofs.YthdemdjobgbpdaaW.PrintLast Go.Proofs.YthdemdjobgbpdaaW.PrintMore Go.Proofs.Ythdemdjobgbpdaa.P Go.Proofs.Ythdemdjobgbpdaa.M Go.Proofs.Ythdemdjobgbpdaa.B Go.Proofs.Ythdemdjobgbpdaa.T
set_option linter.unusedVariables false
/-! ### A block that is laid is opened -/
theorem rd_g_of : ∀ (k bl : Nat) (D last : List Int) (acc r : List S47), last.length + D.length < 140737488355328 → rd_l k bl D last acc = some r → rd_g k bl D last acc = some (some r)
  | 0, _, _, _, _, _, _, h => by cases h
  | k + 1, bl, D, last, acc, r, hb, h => by
    unfold rd_l at h
    unfold rd_g
    by_cases h0 : D.length = 0
    · rw [if_pos h0] at h ⊢
      injection h with h
      rw [h]
    · rw [if_neg h0] at h ⊢
      obtain ⟨u1, e1, h⟩ := Option.bind_eq_some_iff.mp h
      split at h
      case isFalse => cases h
      rename_i c1
      obtain ⟨u2, e2, h⟩ := Option.bind_eq_some_iff.mp h
      split at h
      case isFalse => cases h
      rename_i c2
      obtain ⟨u3, e3, h⟩ := Option.bind_eq_some_iff.mp h
      split at h
      case isFalse => cases h
      rename_i c3
      split at h
      case isFalse => cases h
      rename_i c4
      obtain ⟨y, e4, h⟩ := Option.bind_eq_some_iff.mp h
      split at h
      case isFalse => cases h
      rename_i c5
      simp only [nm]
      rw [e1, Option.bind_some, if_pos c1, e2, Option.bind_some, if_pos c2, e3, Option.bind_some, if_pos c3]
      have hD3 : (((D.drop u1.2.1.toNat).drop u2.2.1.toNat).drop u3.2.1.toNat).length ≤ D.length := by simp only [List.length_drop]; omega
      have hT : (last.take u1.1.toNat).length ≤ last.length := by rw [List.length_take]; omega
      rw [if_pos (by omega)]
      unfold tk
      rw [if_pos c4.1]
      dsimp only
      rw [e4, Option.bind_some, if_pos c5.1, if_pos c5.2.1]
      try dsimp only
      rw [if_pos c5.2.2]
      refine rd_g_of k bl _ _ _ r ?_ h
      rw [List.length_append, List.length_take, List.length_take]
      simp only [List.length_drop]
      omega
theorem read_g_of {k : Nat} {b : List Int} {x : List S47 × Int} (h : read_f k b = some x) : read_g k b = some (some x) := by
  unfold read_f at h
  unfold read_g
  split at h
  case isFalse => cases h
  rename_i h5
  obtain ⟨m, e1, h⟩ := Option.bind_eq_some_iff.mp h
  split at h
  case isFalse => cases h
  rename_i h6
  obtain ⟨l, e2, h⟩ := Option.bind_eq_some_iff.mp h
  rw [if_neg (by omega), if_pos h5.2, e1, Option.bind_some, if_pos h6.1, if_pos h6.2, rd_g_of _ _ _ _ _ _ (by rw [List.length_take, List.length_nil]; omega) e2, Option.bind_some]
  injection h with h
  subst h
  rfl
theorem open_gb_ev (iv : Nat) (h1 : 1 ≤ iv) (h16 : iv ≤ 16) (l : List S47) (hc : ck none l = 0) (hw : ∀ e ∈ l, 0 ≤ e.f0.f1) (hl : l.length ≤ 1000) : Ev (fun k => open_g k (lay iv l)) (some (l, (iv : Int))) := by
  obtain ⟨K, hK⟩ := open_ev iv h1 h16 l hc hw hl
  refine ⟨K, fun k hk => ?_⟩
  have h := hK k hk
  unfold open_f at h
  obtain ⟨x, e1, h⟩ := Option.bind_eq_some_iff.mp h
  unfold open_g
  dsimp only
  rw [read_g_of e1]
  simp only [Option.bind_some]
  exact h
/-! ### Sums -/
def sm (b : List Int) : List Int := fx 4 (mask (crc b)).toNat
theorem sm_length (b : List Int) : (sm b).length = 4 := fx_length _ _
theorem sm_IsB (b : List Int) : IsB (sm b) := fx_IsB _ _
theorem mask_nat (n : Int) : ((mask n).toNat : Int) = mask n := Int.toNat_of_nonneg (mask_range n).1
theorem mask_w (n : Int) : IntKind.u64.wrap (mask n) = mask n := wU64 (mask_range n).1 (by have := (mask_range n).2; omega)
theorem Summed_ev (out b : List Int) (hb : IsB b) (hl : out.length + b.length < 1000000000000) : Ev (fun k => sstable_summed.f k out b) (out ++ (b ++ sm b)) := by
  have hp := PutFixed_ev (mask (crc b)).toNat 4 (out ++ b) (by decide) (by rw [List.length_append]; omega)
  rw [mask_nat, List.append_assoc] at hp
  obtain ⟨K, hK⟩ := hp
  refine ⟨K, fun k hk => ?_⟩
  show (if out.length + b.length < 140737488355328 then ((codec_Crc.f b).bind fun t185 => ((codec_Mask.f t185).bind fun t186 => ((codec_PutFixed.f k (out ++ b) (IntKind.u64.wrap (t186)) 4).bind fun t187 => (some t187)))) else (none)) = _
  rw [if_pos (by omega), Crc_eq b hb, Option.bind_some, Mask_eq _ (crc_range b).1 (crc_range b).2, Option.bind_some, mask_w]
  have := hK k hk
  simp only [Int.cast_ofNat_Int] at this
  rw [this]
  rfl
/-- a part, and whether four bytes behind it are its sum -/
theorem Part_ev (pre b s post : List Int) (hs : s.length = 4) (hb : IsB (pre ++ (b ++ (s ++ post)))) (hl : (pre ++ (b ++ (s ++ post))).length < 1000000000000) :
    Ev (fun k => part_f k (pre ++ (b ++ (s ++ post))) pre.length b.length) (b, ((fxd s : Int) == mask (crc b))) := by
  have e1 : (pre ++ (b ++ (s ++ post))).drop (pre.length + b.length) = s ++ post := by
    rw [← List.append_assoc, ← List.length_append]
    exact List.drop_left
  have e2 : ((pre ++ (b ++ (s ++ post))).take (pre.length + b.length)).drop pre.length = b := by
    rw [← List.append_assoc, ← List.length_append, List.take_left, List.drop_left]
  have hbb : IsB b := hb.right.left
  have hf := Fixed_ev (s ++ post) hb.right.right 4 (by decide) (by decide)
  rw [if_neg (by rw [List.length_append, hs]; omega), List.take_append_of_le_length (by omega), ← hs, List.take_length, hs] at hf
  obtain ⟨K, hK⟩ := hf
  refine ⟨K, fun k hk => ?_⟩
  unfold part_f
  dsimp only
  rw [if_pos ⟨by rw [List.length_append, List.length_append]; omega, hl⟩, e1, e2]
  have := hK k hk
  simp only [Int.cast_ofNat_Int] at this
  rw [this, Option.bind_some, Crc_eq b hbb, Option.bind_some, Mask_eq _ (crc_range b).1 (crc_range b).2, Option.bind_some, mask_w]
end Go.Proofs.Ythdemdjobgbpdaa.Q
namespace Go.Proofs.Ythdemdjobgbpdaa.Q
open Go.RowKit Go.Proofs.YthdemdjobgbpdaaW.PrintWords Go.Proofs.YthdemdjobgbpdaaW.PrintLast Go.Proofs.YthdemdjobgbpdaaW.PrintMore Go.Proofs.Ythdemdjobgbpdaa.P Go.Proofs.Ythdemdjobgbpdaa.M Go.Proofs.Ythdemdjobgbpdaa.B Go.Proofs.Ythdemdjobgbpdaa.T
set_option linter.unusedVariables false
/-! ### Stretches of entries that rise -/
theorem ck_head {p : Option S47} {e : S47} {t : List S47} (h : ck p (e :: t) = 0) : ck none (e :: t) = 0 := by
  obtain ⟨h1, h2⟩ := ck_cons h
  obtain ⟨a, b, _⟩ := ckAt_zero h1
  have h3 : ckAt none e = 0 := by
    unfold ckAt
    rw [if_pos a, if_neg (by omega)]
  rw [ck, if_pos h3]
  exact h2
theorem ck_none : ∀ {l : List S47} {p : Option S47}, ck p l = 0 → ck none l = 0
  | [], _, _ => rfl
  | e :: t, p, h => ck_head h
theorem ck_drop : ∀ (n : Nat) (l : List S47) (p : Option S47), ck p l = 0 → ck none (l.drop n) = 0
  | 0, l, p, h => ck_none h
  | n + 1, [], p, h => rfl
  | n + 1, e :: t, p, h => ck_drop n t _ (ck_cons h).2
theorem ck_take : ∀ (n : Nat) (l : List S47) (p : Option S47), ck p l = 0 → ck p (l.take n) = 0
  | 0, l, p, h => rfl
  | n + 1, [], p, h => rfl
  | n + 1, e :: t, p, h => by
    obtain ⟨h1, h2⟩ := ck_cons h
    rw [List.take_succ_cons, ck, if_pos h1]
    exact ck_take n t _ h2
theorem ck_seg {l : List S47} (h : ck none l = 0) (lo hi : Nat) : ck none ((l.take hi).drop lo) = 0 := ck_drop lo _ none (ck_take hi l none h)
def lastK (s : List S47) : S45 := (rd_T47 s ((s.length : Int) - 1)).f0
def cutOf (iv : Nat) (s : List S47) : S45 × List Int := (lastK s, lay iv s)
theorem rd_seg (l : List S47) (lo hi : Nat) (h1 : lo < hi) (h2 : hi ≤ l.length) : (rd_T47 l ((hi - 1 : Nat) : Int)).f0 = lastK ((l.take hi).drop lo) := by
  have hl : ((l.take hi).drop lo).length = hi - lo := by simp; omega
  unfold lastK
  rw [hl]
  have e : (((hi - lo : Nat) : Int) - 1).toNat = hi - lo - 1 := by omega
  have e2 : ((hi - 1 : Nat) : Int).toNat = hi - 1 := by omega
  simp only [rd_T47, e, e2, List.getD_eq_getElem?_getD, List.getElem?_drop, List.getElem?_take]
  rw [if_pos (by omega), show lo + (hi - lo - 1) = hi - 1 by omega]
/-- the segments -/
theorem cuts_ev (l : List S47) (blk : Int) (iv : Nat) (h1 : 1 ≤ iv) (h16 : iv ≤ 16) (hc : ck none l = 0) (hw : ∀ e ∈ l, 0 ≤ e.f0.f1) (hl : l.length ≤ 300) :
    ∀ (g lo hi : Nat), l.length + 2 ≤ g + hi → lo < hi → hi ≤ l.length + 1 → (lo < l.length → hi ≤ l.length) → lo ≤ l.length → ∃ ss : List (List S47), ss.flatten = l.drop lo ∧ (∀ s ∈ ss, s ≠ []) ∧ Ev (fun k => cuts_g k l blk (iv : Int) g lo hi) (ss.map (cutOf iv))
  | 0, lo, hi, hg, _, hh, _, _ => absurd hg (by omega)
  | g + 1, lo, hi, hg, hlh, hh, hlo, hll => by
    by_cases c1 : lo < l.length
    · have c2 := hlo c1
      have hb := Build_ev ((l.take hi).drop lo) (iv : Int) (by simp; omega) (fun e he => hw e (List.mem_of_mem_take (List.mem_of_mem_drop he)))
      rw [blt_ok h1 h16 (ck_seg hc lo hi)] at hb
      by_cases c3 : ((lay iv ((l.take hi).drop lo)).length : Int) < blk ∧ hi < l.length
      · obtain ⟨ss, e1, e2, e3⟩ := cuts_ev l blk iv h1 h16 hc hw hl g lo (hi + 1) (by omega) (by omega) (by omega) (fun _ => by omega) hll
        refine ⟨ss, e1, e2, ?_⟩
        simp only [cuts_g]
        exact Ev.ifT c1 (Ev.ifT ⟨hlh, c2⟩ (Ev.bind hb (Ev.ifT c3 e3)))
      · obtain ⟨ss, e1, e2, e3⟩ := cuts_ev l blk iv h1 h16 hc hw hl g hi (hi + 1) (by omega) (by omega) (by omega) (fun _ => by omega) c2
        refine ⟨(l.take hi).drop lo :: ss, ?_, ?_, ?_⟩
        · rw [List.flatten_cons, e1]
          have := List.drop_append_of_le_length (l₁ := l.take hi) (l₂ := l.drop hi) (i := lo) (by rw [List.length_take]; omega)
          rw [List.take_append_drop] at this
          exact this.symm
        · intro s hs
          rcases List.mem_cons.1 hs with rfl | hs
          · intro e
            have := congrArg List.length e
            simp at this
            omega
          · exact e2 s hs
        · simp only [cuts_g]
          refine Ev.ifT c1 (Ev.ifT ⟨hlh, c2⟩ (Ev.bind hb (Ev.ifF c3 ?_)))
          obtain ⟨K, hK⟩ := e3
          refine ⟨K, fun k hk => ?_⟩
          have := hK k hk
          simp only [] at this ⊢
          rw [this, Option.map_some, List.map_cons, rd_seg l lo hi hlh c2]
          rfl
    · refine ⟨[], by rw [List.drop_eq_nil_of_le (by omega)]; rfl, (fun s hs => by cases hs), ?_⟩
      simp only [cuts_g]
      exact Ev.ifF c1 (Ev.now _)
/-! ### Blocks behind each other, and their index -/
def outOf (bs : List (List Int)) : List Int := (bs.map fun b => b ++ sm b).flatten
def idxOf : Nat → List (S45 × List Int) → List S47
  | _, [] => []
  | at_, x :: t => ⟨x.1, strOfNums (uv at_ ++ uv x.2.length)⟩ :: idxOf (at_ + x.2.length + 4) t
theorem idxOf_length : ∀ (cs : List (S45 × List Int)) (n : Nat), (idxOf n cs).length = cs.length
  | [], _ => rfl
  | x :: t, n => by rw [idxOf, List.length_cons, idxOf_length t, List.length_cons]
theorem Putu_w (n : Nat) (l : List Int) (hn : n < 18446744073709551616) (hl : l.length + 10 < 140737488355328) : Ev (fun k => codec_PutUvarint.f k l (IntKind.u64.wrap (n : Int))) (l ++ uv n) := by
  rw [wU64 (by omega) (by omega)]
  exact PutUvarint_ev n l hn hl
theorem Putf_w (n : Nat) (l : List Int) (hn : n < 18446744073709551616) (hl : l.length + 8 < 140737488355328) : Ev (fun k => codec_PutFixed.f k l (IntKind.u64.wrap (n : Int)) 4) (l ++ fx 4 n) := by
  rw [wU64 (by omega) (by omega)]
  exact PutFixed_ev n 4 l (by decide) hl
theorem step_ev : ∀ (cs : List (S45 × List Int)) (out : List Int) (idx : List S47), (∀ x ∈ cs, IsB x.2 ∧ x.2.length ≤ 2000000) → idx.length + cs.length ≤ 1000 → out.length + cs.length * 2000004 < 1000000000 →
    Ev (fun k => tab_step k cs out idx) (out ++ outOf (cs.map (·.2)), idx ++ idxOf out.length cs)
  | [], out, idx, _, _, _ => by
    simp only [tab_step, List.map_nil, outOf, List.flatten_nil, List.append_nil, idxOf]
    exact Ev.now _
  | x :: t, out, idx, hx, hi, ho => by
    obtain ⟨hb, hbl⟩ := hx x List.mem_cons_self
    rw [List.length_cons] at hi ho
    have hu := uv_len64 (n := out.length) (by omega)
    simp only [tab_step]
    refine Ev.ifT (by omega) (Ev.bind (Putu_w out.length [] (by omega) (by simp)) (Ev.bind (Putu_w x.2.length _ (by omega) (by rw [List.nil_append]; omega)) (Ev.bind (Summed_ev out x.2 hb (by omega)) ?_)))
    have ih := step_ev t (out ++ (x.2 ++ sm x.2)) (idx ++ [⟨x.1, strOfNums ([] ++ uv out.length ++ uv x.2.length)⟩]) (fun y hy => hx y (List.mem_cons_of_mem _ hy)) (by rw [List.length_append, List.length_singleton]; omega) (by simp only [List.length_append, sm_length]; omega)
    have hln : (out ++ (x.2 ++ sm x.2)).length = out.length + x.2.length + 4 := by simp only [List.length_append, sm_length]; omega
    rw [hln] at ih
    simp only [outOf, List.map_cons, List.flatten_cons, idxOf, List.nil_append] at ih ⊢
    rw [List.append_assoc, List.append_assoc] at ih
    simpa only [List.append_assoc, List.singleton_append] using ih
theorem parts_ev (fl x out : List Int) (hf : IsB fl) (hx : IsB x) (hl : out.length + fl.length + x.length < 1000000000) :
    Ev (fun k => tab_parts k [fl, x] out []) (out ++ ((fl ++ sm fl) ++ (x ++ sm x)), fx 4 out.length ++ (fx 4 fl.length ++ (fx 4 (out.length + fl.length + 4) ++ fx 4 x.length))) := by
  simp only [tab_parts]
  have hln : (out ++ (fl ++ sm fl)).length = out.length + fl.length + 4 := by simp only [List.length_append, sm_length]; omega
  refine Ev.bind (Putf_w out.length [] (by omega) (by simp)) (Ev.bind (Putf_w fl.length _ (by omega) (by simp [fx_length])) (Ev.bind (Summed_ev out fl hf (by omega)) ?_))
  refine Ev.bind (Putf_w _ _ (by omega) (by simp [fx_length])) (Ev.bind (Putf_w x.length _ (by omega) (by simp [fx_length])) (Ev.bind (Summed_ev _ x hx (by omega)) ?_))
  rw [hln]
  simp only [List.nil_append, List.append_assoc]
  exact Ev.now _
end Go.Proofs.Ythdemdjobgbpdaa.Q
namespace Go.Proofs.Ythdemdjobgbpdaa.Q
open Go.RowKit Go.Proofs.YthdemdjobgbpdaaW.PrintWords Go.Proofs.YthdemdjobgbpdaaW.PrintLast Go.Proofs.YthdemdjobgbpdaaW.PrintMore Go.Proofs.Ythdemdjobgbpdaa.P Go.Proofs.Ythdemdjobgbpdaa.M Go.Proofs.Ythdemdjobgbpdaa.B Go.Proofs.Ythdemdjobgbpdaa.T
set_option linter.unusedVariables false
theorem Ev.one {α : Type} {g : Nat → Option α} {a b : α} (h : Ev g a) (k : Ev g b) : a = b := by
  obtain ⟨K, hK⟩ := h
  obtain ⟨J, hJ⟩ := k
  have h1 := hK (max K J) (Nat.le_max_left ..)
  rw [hJ (max K J) (Nat.le_max_right ..)] at h1
  exact (Option.some.inj h1).symm
/-! ### Hash -/
theorem xor32_pos (x y : Int) : 0 ≤ Go.bits .xor .u32 x y := by rw [bits_xor32]; omega
theorem hash_l0 : ∀ (n : Nat) (l : List Int) (x : Int), l.length = n → IsB l → 0 ≤ x → ∃ h, 0 ≤ h ∧ Ev (fun k => bloom_Hash.l0 k l x) h := by
  intro n
  induction n using Nat.strongRecOn with
  | _ n ih =>
    intro l x hn hb hx
    by_cases h4 : 4 ≤ l.length
    · have hf := Fixed_ev l hb 4 (by decide) (by decide)
      rw [if_neg (by omega)] at hf
      obtain ⟨h, h0, he⟩ := ih (l.drop 4).length (by rw [List.length_drop]; omega) (l.drop 4) (Go.bits .xor .u32 ((((x + (((fxd (l.take 4) : Nat) : Int) % 4294967296)) % 4294967296) * 3332679571) % 4294967296) (((((x + (((fxd (l.take 4) : Nat) : Int) % 4294967296)) % 4294967296) * 3332679571) % 4294967296) / 65536)) rfl (hb.drop 4) (xor32_pos _ _)
      refine ⟨h, h0, Ev.step (f := fun k => if (l.length : Int) ≥ 4 then ((codec_Fixed.f k l 4).bind fun bt105 => (if 4 ≤ (l.length : Int) then (bloom_Hash.l0 k (l.drop 4) (Go.bits .xor .u32 ((((x + ((bt105.1) % 4294967296)) % 4294967296) * 3332679571) % 4294967296) (((((x + ((bt105.1) % 4294967296)) % 4294967296) * 3332679571) % 4294967296) / 65536))) else (none))) else (if (l.length : Int) > 0 then ((codec_Fixed.f k l (l.length : Int)).bind fun bt112 => (some (Go.bits .xor .u32 ((((x + ((bt112.1) % 4294967296)) % 4294967296) * 3332679571) % 4294967296) (((((x + ((bt112.1) % 4294967296)) % 4294967296) * 3332679571) % 4294967296) / 16777216)))) else (some x))) (fun k => rfl) ?_⟩
      exact Ev.ifT (by omega) (Ev.bind hf (Ev.ifT (by omega) he))
    · by_cases h0 : 0 < l.length
      · have hf := Fixed_ev l hb l.length (by omega) (by omega)
        rw [if_neg (by omega)] at hf
        refine ⟨Go.bits .xor .u32 ((((x + (((fxd (l.take l.length) : Nat) : Int) % 4294967296)) % 4294967296) * 3332679571) % 4294967296) (((((x + (((fxd (l.take l.length) : Nat) : Int) % 4294967296)) % 4294967296) * 3332679571) % 4294967296) / 16777216), xor32_pos _ _, Ev.step (f := fun k => if (l.length : Int) ≥ 4 then ((codec_Fixed.f k l 4).bind fun bt105 => (if 4 ≤ (l.length : Int) then (bloom_Hash.l0 k (l.drop 4) (Go.bits .xor .u32 ((((x + ((bt105.1) % 4294967296)) % 4294967296) * 3332679571) % 4294967296) (((((x + ((bt105.1) % 4294967296)) % 4294967296) * 3332679571) % 4294967296) / 65536))) else (none))) else (if (l.length : Int) > 0 then ((codec_Fixed.f k l (l.length : Int)).bind fun bt112 => (some (Go.bits .xor .u32 ((((x + ((bt112.1) % 4294967296)) % 4294967296) * 3332679571) % 4294967296) (((((x + ((bt112.1) % 4294967296)) % 4294967296) * 3332679571) % 4294967296) / 16777216)))) else (some x))) (fun k => rfl) ?_⟩
        exact Ev.ifF (by omega) (Ev.ifT (by omega) (Ev.bind hf (Ev.now _)))
      · refine ⟨x, hx, Ev.step (f := fun k => if (l.length : Int) ≥ 4 then ((codec_Fixed.f k l 4).bind fun bt105 => (if 4 ≤ (l.length : Int) then (bloom_Hash.l0 k (l.drop 4) (Go.bits .xor .u32 ((((x + ((bt105.1) % 4294967296)) % 4294967296) * 3332679571) % 4294967296) (((((x + ((bt105.1) % 4294967296)) % 4294967296) * 3332679571) % 4294967296) / 65536))) else (none))) else (if (l.length : Int) > 0 then ((codec_Fixed.f k l (l.length : Int)).bind fun bt112 => (some (Go.bits .xor .u32 ((((x + ((bt112.1) % 4294967296)) % 4294967296) * 3332679571) % 4294967296) (((((x + ((bt112.1) % 4294967296)) % 4294967296) * 3332679571) % 4294967296) / 16777216)))) else (some x))) (fun k => rfl) ?_⟩
        exact Ev.ifF (by omega) (Ev.ifF (by omega) (Ev.now _))
theorem hash_ev (s : ByteArray) (hs : s.size ≤ 9223372036854775807) : ∃ h, 0 ≤ h ∧ Ev (fun k => bloom_Hash.f k s) h := by
  obtain ⟨h, h0, he⟩ := hash_l0 _ (bytesOf s) (Go.bits .xor .u32 3164544308 (((((s.size : Int)) % 4294967296) * 3332679571) % 4294967296)) rfl (IsB.bytesOf s) (xor32_pos _ _)
  refine ⟨h, h0, ?_⟩
  simp only [bloom_Hash.f]
  exact Ev.ifT hs he
/-! ### Bits -/
theorem or_tab : ((List.range 256).all fun a => (List.range 8).all fun i => decide (0 ≤ Go.bits .or .u8 ((a : Nat) : Int) (2 ^ i % 256)) && decide (Go.bits .or .u8 ((a : Nat) : Int) (2 ^ i % 256) < 256) && (List.range 8).all fun j => (Go.bits .and .u8 (Go.bits .or .u8 ((a : Nat) : Int) (2 ^ i % 256) / 2 ^ j) 1 == 0) == (if i = j then false else (Go.bits .and .u8 (((a : Nat) : Int) / 2 ^ j) 1 == 0))) = true := by kernel_rfl
theorem or_of (a : Int) (i j : Nat) (h0 : 0 ≤ a) (h1 : a < 256) (hi : i < 8) (hj : j < 8) : (0 ≤ Go.bits .or .u8 a (2 ^ i % 256) ∧ Go.bits .or .u8 a (2 ^ i % 256) < 256) ∧ (Go.bits .and .u8 (Go.bits .or .u8 a (2 ^ i % 256) / 2 ^ j) 1 == 0) = (if i = j then false else (Go.bits .and .u8 (a / 2 ^ j) 1 == 0)) := by
  obtain ⟨n, rfl⟩ := Int.eq_ofNat_of_zero_le h0
  have h := List.all_eq_true.mp or_tab n (List.mem_range.mpr (by omega))
  have h2 := List.all_eq_true.mp h i (List.mem_range.mpr hi)
  rw [Bool.and_eq_true, Bool.and_eq_true] at h2
  have h3 := List.all_eq_true.mp h2.2 j (List.mem_range.mpr hj)
  exact ⟨⟨of_decide_eq_true h2.1.1, of_decide_eq_true h2.1.2⟩, beq_iff_eq.mp h3⟩
theorem rd_set (L : List Int) (n : Nat) (v : Int) (q : Int) (hq : 0 ≤ q) (hn : n < L.length) : rd (L.set n v) q = if q.toNat = n then v else rd L q := by
  simp only [rd, List.getD_eq_getElem?_getD, List.getElem?_set]
  by_cases e : n = q.toNat
  · rw [if_pos e, if_pos e.symm, if_pos (by omega)]
    rfl
  · rw [if_neg e, if_neg (fun h => e h.symm)]
theorem rd_in {L : List Int} (hb : IsB L) (q : Int) : 0 ≤ rd L q ∧ rd L q < 256 := by
  simp only [rd, List.getD_eq_getElem?_getD]
  cases h : L[q.toNat]? with
  | none => simp
  | some x => exact hb x (List.mem_of_getElem? h)
theorem setBit_bset (L : List Int) (x y : Int) (hb : IsB L) (hx0 : 0 ≤ x) (hx : x < 8 * (L.length : Int)) (hy0 : 0 ≤ y) : bset (setBit L x) y = (decide (x = y) || bset L y) := by
  have hq : (x / 8).toNat < L.length := by omega
  have hro : rdOf 0 L (x / 8) = rd L (x / 8) := rfl
  obtain ⟨r0, r1⟩ := rd_in hb (x / 8)
  unfold bset setBit
  rw [hro, rd_set _ _ _ _ (by omega) hq]
  by_cases e : (y / 8).toNat = (x / 8).toNat
  · rw [if_pos e]
    have h8 : y / 8 = x / 8 := by omega
    have := (or_of (rd L (x / 8)) (x % 8).toNat (y % 8).toNat r0 r1 (by omega) (by omega)).2
    rw [this, h8]
    by_cases e2 : (x % 8).toNat = (y % 8).toNat
    · have hxy : x = y := by omega
      rw [if_pos e2]
      simp [hxy]
    · have hxy : x ≠ y := fun h => e2 (by rw [h])
      rw [if_neg e2]
      simp [hxy]
  · rw [if_neg e]
    have hxy : x ≠ y := fun h => e (by rw [h])
    simp [hxy]
theorem setBit_IsB (L : List Int) (x : Int) (hb : IsB L) : IsB (setBit L x) := by
  intro v hv
  unfold setBit at hv
  rcases List.mem_or_eq_of_mem_set hv with h | rfl
  · exact hb v h
  · have hro : rdOf 0 L (x / 8) = rd L (x / 8) := rfl
    obtain ⟨r0, r1⟩ := rd_in hb (x / 8)
    rw [hro]
    exact (or_of (rd L (x / 8)) (x % 8).toNat 0 r0 r1 (by omega) (by decide)).1
theorem setBits_all (h all : Int) : ∀ (pre : List Nat) (L : List Int), IsB L → all ≤ 8 * (L.length : Int) → (∀ i, 0 ≤ bitAt h all i ∧ bitAt h all i < all) → IsB (setBits h all pre L) ∧ (∀ y, 0 ≤ y → bset L y = true → bset (setBits h all pre L) y = true) ∧ ∀ i ∈ pre, bset (setBits h all pre L) (bitAt h all i) = true
  | [], L, hb, _, _ => ⟨hb, fun _ _ h => h, fun i hi => by cases hi⟩
  | a :: t, L, hb, hl, hin => by
    have hlen : (setBit L (bitAt h all a)).length = L.length := by unfold setBit; rw [List.length_set]
    obtain ⟨i1, i2, i3⟩ := setBits_all h all t (setBit L (bitAt h all a)) (setBit_IsB L _ hb) (by rw [hlen]; exact hl) hin
    have hs : ∀ y, 0 ≤ y → bset (setBit L (bitAt h all a)) y = (decide (bitAt h all a = y) || bset L y) := fun y hy => setBit_bset L _ y hb (hin a).1 (by have := (hin a).2; omega) hy
    refine ⟨i1, fun y hy hby => i2 y hy (by rw [hs y hy, hby, Bool.or_true]), fun i hi => ?_⟩
    rcases List.mem_cons.1 hi with rfl | hi
    · exact i2 _ (hin i).1 (by rw [hs _ (hin i).1]; simp)
    · exact i3 i hi
theorem rows_ev (n pr : Nat) (hn : 0 < n) : ∀ (keys : List ByteArray) (L : List Int), IsB L → L.length = n → (∀ s ∈ keys, s.size ≤ 9223372036854775807) →
    ∃ L', Ev (fun k => rowsB k (8 * (n : Int)) pr keys L) L' ∧ IsB L' ∧ L'.length = n ∧ (∀ y, 0 ≤ y → bset L y = true → bset L' y = true) ∧ ∀ s ∈ keys, ∀ h, Ev (fun k => bloom_Hash.f k s) h → ∀ i, i < pr → bset L' (bitAt h (8 * (n : Int)) i) = true
  | [], L, hb, hl, _ => ⟨L, by simp only [rowsB]; exact Ev.now _, hb, hl, fun _ _ h => h, fun s hs => by cases hs⟩
  | s :: t, L, hb, hl, hk => by
    obtain ⟨h, h0, he⟩ := hash_ev s (hk s List.mem_cons_self)
    obtain ⟨j1, j2, j3⟩ := setBits_all h (8 * (n : Int)) (List.range pr) L hb (by rw [hl]; omega) (fun i => bitAt_in h0 (by omega) i)
    obtain ⟨L', e1, e2, e3, e4, e5⟩ := rows_ev n pr hn t (setBits h (8 * (n : Int)) (List.range pr) L) j1 (by rw [setBits_len, hl]) (fun s hs => hk s (List.mem_cons_of_mem _ hs))
    refine ⟨L', ?_, e2, e3, fun y hy hby => e4 y hy (j2 y hy hby), fun x hx g hg i hi => ?_⟩
    · simp only [rowsB]
      exact Ev.bind he (Ev.ifT h0 e1)
    · rcases List.mem_cons.1 hx with rfl | hx
      · obtain rfl := Ev.one hg he
        exact e4 _ (bitAt_in h0 (by omega) i).1 (j3 i (List.mem_range.mpr hi))
      · exact e5 x hx g hg i hi
end Go.Proofs.Ythdemdjobgbpdaa.Q
namespace Go.Proofs.Ythdemdjobgbpdaa.Q
open Go.RowKit Go.Proofs.YthdemdjobgbpdaaW.PrintWords Go.Proofs.YthdemdjobgbpdaaW.PrintLast Go.Proofs.YthdemdjobgbpdaaW.PrintMore Go.Proofs.Ythdemdjobgbpdaa.P Go.Proofs.Ythdemdjobgbpdaa.M Go.Proofs.Ythdemdjobgbpdaa.B Go.Proofs.Ythdemdjobgbpdaa.T
set_option linter.unusedVariables false
/-! ### The filter -/
theorem fInt_of {b c : Nat} {r : Nat} {n : Int} (h1 : floatBits .mul .f64 b c = some r) (h2 : floatToIntVal .f64 r .i64 = some n) : fIntOf b c = some n := by
  unfold fIntOf
  rw [h1, Option.bind_some, h2]
theorem bset_app (L : List Int) (v : Int) (y : Int) (h0 : 0 ≤ y) (h1 : y < 8 * (L.length : Int)) : bset (L ++ [v]) y = bset L y := by
  unfold bset
  have : rd (L ++ [v]) (y / 8) = rd L (y / 8) := by
    simp only [rd, List.getD_eq_getElem?_getD]
    rw [List.getElem?_append_left (by omega)]
  rw [this]
theorem rd_last (L : List Int) (v : Int) : rd (L ++ [v]) (((L ++ [v]).length - 1 : Nat) : Int) = v := by
  simp only [rd, List.getD_eq_getElem?_getD, List.length_append, List.length_singleton, Nat.add_sub_cancel, Int.toNat_natCast]
  rw [List.getElem?_append_right (Nat.le_refl _)]
  simp
/-- a filter that tells of all its keys -/
structure FilterOf (keys : List ByteArray) (fl : List Int) : Prop where
  b : IsB fl
  len : fl.length ≤ 10000
  may : ∀ s ∈ keys, Ev (fun k => may_f k fl s) true
  any : ∀ s : ByteArray, s.size ≤ 9223372036854775807 → ∃ m, Ev (fun k => may_f k fl s) m
theorem bloom_ev (keys : List ByteArray) (fb : Nat) (hk : keys.length ≤ 300) (hs : ∀ s ∈ keys, s.size ≤ 9223372036854775807) :
    (okBits fb = true ∧ ∃ fl, Ev (fun k => bloomB k keys fb) (fl, 0) ∧ FilterOf keys fl) ∨ (okBits fb = false ∧ Ev (fun k => bloomB k keys fb) ([], 100)) := by
  cases ho : okBits fb with
  | false =>
    refine .inr ⟨rfl, ?_⟩
    simp only [bloomB]
    exact Ev.ifF (by rw [ho]; decide) (Ev.now _)
  | true =>
  refine .inl ⟨rfl, ?_⟩
  obtain ⟨r1, p, h1, h2, p0, p1⟩ := f_probes fb ho
  obtain ⟨r2, s, h3, h4, s0, s1⟩ := f_size fb keys.length hk ho
  have e1 := fInt_of h1 h2
  have e2 := fInt_of h3 h4
  obtain ⟨n, hn⟩ : ∃ n : Nat, (max 64 s + 7) / 8 = (n : Int) := Int.eq_ofNat_of_zero_le (by omega)
  have hn0 : 0 < n := by omega
  have hn1 : n ≤ 8193 := by omega
  obtain ⟨L, l1, l2, l3, l4, l5⟩ := rows_ev n (max 1 p).toNat hn0 keys (List.replicate n 0) (fun x hx => by rw [List.eq_of_mem_replicate hx]; decide) List.length_replicate hs
  have hev : Ev (fun k => bloomB k keys fb) (L ++ [max 1 p], 0) := by
    simp only [bloomB, e1, e2, Option.bind_some]
    refine Ev.ifT ho (Ev.ifT hk (Ev.ifT ⟨⟨p0, p1⟩, s0, s1⟩ ?_))
    rw [hn, Int.toNat_natCast]
    obtain ⟨K, hK⟩ := l1
    refine ⟨K, fun j hj => ?_⟩
    have := hK j hj
    simp only [] at this ⊢
    rw [this]
    rfl
  have hlen : (L ++ [max 1 p]).length = n + 1 := by rw [List.length_append, List.length_singleton, l3]
  have hb : IsB (L ++ [max 1 p]) := l2.append (IsB.cons (by omega) (by omega) IsB.nil)
  have hval : ∀ s : ByteArray, s.size ≤ 9223372036854775807 → ∀ h, 0 ≤ h → Ev (fun k => bloom_Hash.f k s) h → Ev (fun k => may_f k (L ++ [max 1 p]) s) (if 30 < max 1 p then true else (List.range (max 1 p).toNat).all fun i => bset (L ++ [max 1 p]) (bitAt h (8 * (n : Int)) i)) := by
    intro s hsz h h0 he
    simp only [may_f, rd_last]
    refine Ev.ifF (by omega) ?_
    by_cases c : 30 < max 1 p
    · rw [if_pos c]
      exact Ev.ifT c (Ev.now _)
    · rw [if_neg c]
      refine Ev.ifF c (Ev.ifT ⟨by omega, by omega⟩ (Ev.bind he (Ev.ifT h0 ?_)))
      rw [hlen, Nat.add_sub_cancel]
      exact Ev.now _
  refine ⟨_, hev, hb, by omega, fun s hsm => ?_, fun s hsz => ?_⟩
  · obtain ⟨h, h0, he⟩ := hash_ev s (hs s hsm)
    have hv := hval s (hs s hsm) h h0 he
    have hall : (if 30 < max 1 p then true else (List.range (max 1 p).toNat).all fun i => bset (L ++ [max 1 p]) (bitAt h (8 * (n : Int)) i)) = true := by
      split
      · rfl
      · rw [List.all_eq_true]
        intro i hi
        obtain ⟨b0, b1⟩ := bitAt_in h0 (show 0 < 8 * (n : Int) by omega) i
        rw [bset_app L _ _ b0 (by rw [l3]; exact b1)]
        exact l5 s hsm h he i (List.mem_range.mp hi)
    rw [hall] at hv
    exact hv
  · obtain ⟨h, h0, he⟩ := hash_ev s hsz
    exact ⟨_, hval s hsz h h0 he⟩
/-! ### Entries that rise -/
theorem ck_lt : ∀ (t : List S47) (e : S47), ck (some e) t = 0 → ∀ x ∈ t, kk e x < 0
  | [], _, _, x, hx => by cases hx
  | y :: t, e, h, x, hx => by
    obtain ⟨h1, h2⟩ := ck_cons h
    have hy := (ckAt_zero h1).2.2 e rfl
    rcases List.mem_cons.1 hx with rfl | hx
    · exact hy
    · exact kq_step (q := x.f0) hy (by have := ck_lt t y h2 x hx; unfold kk at this; unfold kq; omega)
theorem ck_pair : ∀ (l : List S47) (p : Option S47), ck p l = 0 → l.Pairwise fun a b => kk a b < 0
  | [], _, _ => List.Pairwise.nil
  | e :: t, p, h => List.Pairwise.cons (ck_lt t e (ck_cons h).2) (ck_pair t _ (ck_cons h).2)
theorem ck_of : ∀ (l : List S47) (p : Option S47), (∀ e ∈ l, ck1 e = 0 ∧ e.f1.size ≤ 1000) → (l.Pairwise fun a b => kk a b < 0) → (∀ q, p = some q → ∀ e ∈ l, kk q e < 0) → ck p l = 0
  | [], _, _, _, _ => rfl
  | e :: t, p, h, hp, hq => by
    obtain ⟨h1, h2⟩ := h e List.mem_cons_self
    have hpw := List.pairwise_cons.mp hp
    have ha : ckAt p e = 0 := by
      unfold ckAt
      rw [if_pos h1, if_neg (by omega)]
      cases p with
      | none => rfl
      | some q =>
        have := hq q rfl e List.mem_cons_self
        simp only []
        rw [if_neg (by omega)]
    rw [ck, if_pos ha]
    exact ck_of t _ (fun x hx => h x (List.mem_cons_of_mem _ hx)) hpw.2 (fun q hq2 x hx => by cases hq2; exact hpw.1 x hx)
theorem lastK_mem {s : List S47} (h : s ≠ []) : ∃ e ∈ s, lastK s = e.f0 := by
  have hl : 0 < s.length := List.length_pos_iff.mpr h
  refine ⟨s[s.length - 1], List.getElem_mem _, ?_⟩
  unfold lastK
  have e : ((s.length : Int) - 1).toNat = s.length - 1 := by omega
  simp only [rd_T47, e, List.getD_eq_getElem?_getD, List.getElem?_eq_getElem (show s.length - 1 < s.length by omega), Option.getD_some]
theorem strOf_size (l : List Int) : (strOfNums l).size = l.length := by
  simp [strOfNums, ByteArray.size]
/-- segments of entries that rise -/
structure SegOf (l : List S47) (ss : List (List S47)) : Prop where
  fl : ss.flatten = l
  ne : ∀ s ∈ ss, s ≠ []
theorem SegOf.mem {l : List S47} {ss : List (List S47)} (h : SegOf l ss) {s : List S47} (hs : s ∈ ss) {e : S47} (he : e ∈ s) : e ∈ l := by
  rw [← h.fl]
  exact List.mem_flatten.mpr ⟨s, hs, he⟩
theorem SegOf.len {l : List S47} {ss : List (List S47)} (h : SegOf l ss) : ss.length ≤ l.length := by
  rw [← h.fl]
  have : ∀ ss : List (List S47), (∀ s ∈ ss, s ≠ []) → ss.length ≤ ss.flatten.length := by
    intro ss
    induction ss with
    | nil => intro _; exact Nat.zero_le _
    | cons s t ih =>
      intro hn
      have h1 : 0 < s.length := List.length_pos_iff.mpr (hn s List.mem_cons_self)
      have h2 := ih (fun x hx => hn x (List.mem_cons_of_mem _ hx))
      rw [List.flatten_cons, List.length_append, List.length_cons]
      omega
  exact this ss h.ne
theorem SegOf.seg_len {l : List S47} {ss : List (List S47)} (h : SegOf l ss) {s : List S47} (hs : s ∈ ss) : s.length ≤ l.length := by
  rw [← h.fl]
  exact (List.sublist_flatten_of_mem hs).length_le
theorem SegOf.seg_ck {l : List S47} {ss : List (List S47)} (h : SegOf l ss) (hc : ck none l = 0) {s : List S47} (hs : s ∈ ss) : ck none s = 0 := by
  have hp := ck_pair l none hc
  rw [← h.fl] at hp
  exact ck_of s none (fun e he => ck_all hc e (h.mem hs he)) ((List.pairwise_flatten.mp hp).1 s hs) (fun q hq => by cases hq)
theorem idx_keys (iv : Nat) : ∀ (ss : List (List S47)) (n : Nat) (x : S47), x ∈ idxOf n (ss.map (cutOf iv)) → ∃ s ∈ ss, x.f0 = lastK s
  | [], n, x, hx => by cases hx
  | s :: t, n, x, hx => by
    rw [List.map_cons, idxOf] at hx
    rcases List.mem_cons.1 hx with rfl | hx
    · exact ⟨s, List.mem_cons_self, rfl⟩
    · obtain ⟨s', h1, h2⟩ := idx_keys iv t _ x hx
      exact ⟨s', List.mem_cons_of_mem _ h1, h2⟩
theorem idx_vals (iv : Nat) : ∀ (ss : List (List S47)) (n : Nat), n + ss.length * 2000004 < 1000000000 → (∀ s ∈ ss, (lay iv s).length ≤ 2000000) → ∀ x ∈ idxOf n (ss.map (cutOf iv)), x.f1.size ≤ 20
  | [], n, _, _, x, hx => by cases hx
  | s :: t, n, hn, hl, x, hx => by
    rw [List.map_cons, idxOf] at hx
    rw [List.length_cons] at hn
    have h1 := hl s List.mem_cons_self
    rcases List.mem_cons.1 hx with rfl | hx
    · rw [strOf_size, List.length_append]
      have h2 := uv_len64 (n := n) (by omega)
      have h3 := uv_len64 (n := (cutOf iv s).2.length) (by show (lay iv s).length < _; omega)
      omega
    · exact idx_vals iv t _ (by show n + (lay iv s).length + 4 + _ < _; omega) (fun s hs => hl s (List.mem_cons_of_mem _ hs)) x hx
theorem idx_pair (iv : Nat) : ∀ (ss : List (List S47)) (n : Nat), (∀ s ∈ ss, s ≠ []) → (ss.Pairwise fun a b => ∀ x ∈ a, ∀ y ∈ b, kk x y < 0) → (idxOf n (ss.map (cutOf iv))).Pairwise fun a b => kk a b < 0
  | [], n, _, _ => List.Pairwise.nil
  | s :: t, n, hn, hp => by
    rw [List.map_cons, idxOf]
    have hpc := List.pairwise_cons.mp hp
    refine List.Pairwise.cons (fun y hy => ?_) (idx_pair iv t _ (fun s hs => hn s (List.mem_cons_of_mem _ hs)) hpc.2)
    obtain ⟨s', h1, h2⟩ := idx_keys iv t _ y hy
    obtain ⟨a, ha, ea⟩ := lastK_mem (hn s List.mem_cons_self)
    obtain ⟨b, hb, eb⟩ := lastK_mem (hn s' (List.mem_cons_of_mem _ h1))
    have := hpc.1 s' h1 a ha b hb
    unfold kk at this ⊢
    rw [h2, eb]
    show kcmp (lastK s).f0 (lastK s).f1 (lastK s).f2 _ _ _ < 0
    rw [ea]
    exact this
theorem idx_ck (iv : Nat) {l : List S47} {ss : List (List S47)} (h : SegOf l ss) (hc : ck none l = 0) (hn : ss.length * 2000004 < 1000000000) (hl : ∀ s ∈ ss, (lay iv s).length ≤ 2000000) : ck none (idxOf 0 (ss.map (cutOf iv))) = 0 := by
  have hp := ck_pair l none hc
  rw [← h.fl] at hp
  refine ck_of _ none (fun x hx => ⟨?_, Nat.le_trans (idx_vals iv ss 0 (by omega) hl x hx) (by decide)⟩) (idx_pair iv ss 0 h.ne (List.pairwise_flatten.mp hp).2) (fun q hq => by cases hq)
  obtain ⟨s, hs, e1⟩ := idx_keys iv ss 0 x hx
  obtain ⟨a, ha, e2⟩ := lastK_mem (h.ne s hs)
  have := (ck_all hc a (h.mem hs ha)).1
  unfold ck1 at this ⊢
  rw [e1, e2]
  exact this
theorem idx_pos (iv : Nat) {l : List S47} {ss : List (List S47)} (h : SegOf l ss) (hw : ∀ e ∈ l, 0 ≤ e.f0.f1) (n : Nat) : ∀ x ∈ idxOf n (ss.map (cutOf iv)), 0 ≤ x.f0.f1 := by
  intro x hx
  obtain ⟨s, hs, e1⟩ := idx_keys iv ss n x hx
  obtain ⟨a, ha, e2⟩ := lastK_mem (h.ne s hs)
  rw [e1, e2]
  exact hw a (h.mem hs ha)
end Go.Proofs.Ythdemdjobgbpdaa.Q
namespace Go.Proofs.Ythdemdjobgbpdaa.Q
open Go.RowKit Go.Proofs.YthdemdjobgbpdaaW.PrintWords Go.Proofs.YthdemdjobgbpdaaW.PrintLast Go.Proofs.YthdemdjobgbpdaaW.PrintMore Go.Proofs.Ythdemdjobgbpdaa.P Go.Proofs.Ythdemdjobgbpdaa.M Go.Proofs.Ythdemdjobgbpdaa.B Go.Proofs.Ythdemdjobgbpdaa.T
set_option linter.unusedVariables false
def ixB (iv : Nat) (ss : List (List S47)) : List Int := lay 1 (idxOf 0 (ss.map (cutOf iv)))
def outB (iv : Nat) (ss : List (List S47)) : List Int := outOf (ss.map (lay iv))
def footB (o f x n : Nat) : List Int := fx 4 o ++ (fx 4 f ++ (fx 4 (o + f + 4) ++ (fx 4 x ++ (fx 4 n ++ bytesOf tabMagic))))
def tabB (iv : Nat) (ss : List (List S47)) (fl : List Int) (n : Nat) : List Int :=
  outB iv ss ++ ((fl ++ sm fl) ++ ((ixB iv ss ++ sm (ixB iv ss)) ++ footB (outB iv ss).length fl.length (ixB iv ss).length n))
/-- a table's bytes, and what they were made of -/
structure TabOf (l : List S47) (iv : Nat) (ss : List (List S47)) (fl : List Int) : Prop where
  i1 : 1 ≤ iv
  i16 : iv ≤ 16
  ck0 : ck none l = 0
  ne : l ≠ []
  len : l.length ≤ 300
  w : ∀ e ∈ l, 0 ≤ e.f0.f1
  seg : SegOf l ss
  fil : FilterOf (l.map fun x => x.f0.f0) fl
theorem TabOf.lay_len {l : List S47} {iv : Nat} {ss : List (List S47)} {fl : List Int} (h : TabOf l iv ss fl) {s : List S47} (hs : s ∈ ss) : (lay iv s).length ≤ 2000000 :=
  (lay_length iv s (Fit.of (h.seg.seg_ck h.ck0 hs) (fun e he => h.w e (h.seg.mem hs he))) (by have := h.seg.seg_len hs; have := h.len; omega)).2
theorem TabOf.ss_len {l : List S47} {iv : Nat} {ss : List (List S47)} {fl : List Int} (h : TabOf l iv ss fl) : ss.length ≤ 300 := Nat.le_trans h.seg.len h.len
theorem TabOf.ix_ck {l : List S47} {iv : Nat} {ss : List (List S47)} {fl : List Int} (h : TabOf l iv ss fl) : ck none (idxOf 0 (ss.map (cutOf iv))) = 0 := idx_ck iv h.seg h.ck0 (by have := h.ss_len; omega) (fun s hs => h.lay_len hs)
theorem TabOf.ix_w {l : List S47} {iv : Nat} {ss : List (List S47)} {fl : List Int} (h : TabOf l iv ss fl) : ∀ x ∈ idxOf 0 (ss.map (cutOf iv)), 0 ≤ x.f0.f1 := idx_pos iv h.seg h.w 0
theorem TabOf.ix_n {l : List S47} {iv : Nat} {ss : List (List S47)} {fl : List Int} (h : TabOf l iv ss fl) : (idxOf 0 (ss.map (cutOf iv))).length = ss.length := by rw [idxOf_length, List.length_map]
theorem TabOf.ix_len {l : List S47} {iv : Nat} {ss : List (List S47)} {fl : List Int} (h : TabOf l iv ss fl) : (ixB iv ss).length ≤ 2000000 :=
  (lay_length 1 _ (Fit.of h.ix_ck h.ix_w) (by rw [h.ix_n]; have := h.ss_len; omega)).2
theorem outOf_len : ∀ (bs : List (List Int)), (∀ b ∈ bs, b.length ≤ 2000000) → (outOf bs).length ≤ bs.length * 2000004
  | [], _ => by simp [outOf]
  | b :: t, h => by
    have h1 := h b List.mem_cons_self
    have h2 := outOf_len t (fun x hx => h x (List.mem_cons_of_mem _ hx))
    simp only [outOf, List.map_cons, List.flatten_cons, List.length_append, sm_length, List.length_cons] at h2 ⊢
    omega
theorem outOf_IsB : ∀ (bs : List (List Int)), (∀ b ∈ bs, IsB b) → IsB (outOf bs)
  | [], _ => by simp [outOf]; exact IsB.nil
  | b :: t, h => by
    simp only [outOf, List.map_cons, List.flatten_cons]
    exact ((h b List.mem_cons_self).append (sm_IsB b)).append (outOf_IsB t (fun x hx => h x (List.mem_cons_of_mem _ hx)))
theorem TabOf.out_len {l : List S47} {iv : Nat} {ss : List (List S47)} {fl : List Int} (h : TabOf l iv ss fl) : (outB iv ss).length ≤ 600001200 := by
  have h1 := outOf_len (ss.map (lay iv)) (fun b hb => by obtain ⟨s, hs, rfl⟩ := List.mem_map.mp hb; exact h.lay_len hs)
  rw [List.length_map] at h1
  have := h.ss_len
  unfold outB
  omega
theorem TabOf.out_IsB {l : List S47} {iv : Nat} {ss : List (List S47)} {fl : List Int} (h : TabOf l iv ss fl) : IsB (outB iv ss) := outOf_IsB _ (fun b hb => by obtain ⟨s, hs, rfl⟩ := List.mem_map.mp hb; exact lay_IsB iv h.i16 s)
theorem footB_len (o f x n : Nat) : (footB o f x n).length = 28 := by
  have : (bytesOf tabMagic).length = 8 := rfl
  simp only [footB, List.length_append, fx_length, this]
/-- any entries, any options -/
theorem tab_ev (l : List S47) (blk iv : Int) (fb : Nat) (hl : l.length ≤ 300) (hw : ∀ e ∈ l, 0 ≤ e.f0.f1) (hs : ∀ e ∈ l, e.f0.f0.size ≤ 9223372036854775807) :
    ∃ r, Ev (fun k => tab_f k 1000 l blk iv fb) r ∧ ((r.2 ≠ 0 ∧ r.1 = []) ∨ ∃ (n : Nat) (ss : List (List S47)) (fl : List Int), iv = (n : Int) ∧ TabOf l n ss fl ∧ r = (tabB n ss fl l.length, 0)) := by
  by_cases c1 : blk < 1
  · exact ⟨([], 1), by simp only [tab_f]; exact Ev.ifT c1 (Ev.now _), .inl ⟨by decide, rfl⟩⟩
  by_cases c2 : 65536 < blk
  · exact ⟨([], 1), by simp only [tab_f]; exact Ev.ifF c1 (Ev.ifT c2 (Ev.now _)), .inl ⟨by decide, rfl⟩⟩
  by_cases c3 : iv < 1
  · exact ⟨([], 1), by simp only [tab_f]; exact Ev.ifF c1 (Ev.ifF c2 (Ev.ifT c3 (Ev.now _))), .inl ⟨by decide, rfl⟩⟩
  by_cases c4 : 16 < iv
  · exact ⟨([], 1), by simp only [tab_f]; exact Ev.ifF c1 (Ev.ifF c2 (Ev.ifF c3 (Ev.ifT c4 (Ev.now _)))), .inl ⟨by decide, rfl⟩⟩
  have go : ∀ {r}, Ev (fun k => (bloomB k (l.map fun x => x.f0.f0) fb).bind fun f => if f.2 ≠ 0 then some ([], f.2) else if l.length = 0 then some ([], 120) else
    (block_Build.f k l iv).bind fun b => if b.2 ≠ 0 then some ([], b.2) else
    (cuts_g k l blk iv 1000 0 1).bind fun cs => (tab_step k cs [] []).bind fun oi => (block_Build.f k oi.2 1).bind fun x => (tab_parts k [f.1, x.1] oi.1 []).bind fun ot =>
    (codec_PutFixed.f k ot.2 (IntKind.u64.wrap (l.length : Int)) 4).bind fun tl => if ot.1.length + tl.length < 1000000000000 then some (ot.1 ++ tl ++ bytesOf tabMagic, 0) else none) r → Ev (fun k => tab_f k 1000 l blk iv fb) r := by
    intro r h
    simp only [tab_f]
    exact Ev.ifF c1 (Ev.ifF c2 (Ev.ifF c3 (Ev.ifF c4 (Ev.ifT hl h))))
  obtain ⟨n, rfl⟩ := Int.eq_ofNat_of_zero_le (show 0 ≤ iv by omega)
  rcases bloom_ev (l.map fun x => x.f0.f0) fb (by rw [List.length_map]; exact hl) (fun s hsm => by obtain ⟨e, he, rfl⟩ := List.mem_map.mp hsm; exact hs e he) with ⟨ho, fl, hbl, hfil⟩ | ⟨ho, hbl⟩
  case inr =>
    exact ⟨([], 100), go (Ev.bind hbl (Ev.ifT (by decide) (Ev.now _))), .inl ⟨by decide, rfl⟩⟩
  by_cases h0 : l.length = 0
  · exact ⟨([], 120), go (Ev.bind hbl (Ev.ifF (by simp) (Ev.ifT h0 (Ev.now _)))), .inl ⟨by decide, rfl⟩⟩
  have hbb := Build_ev l (n : Int) (by omega) hw
  by_cases hc : ck none l = 0
  case neg =>
    have hv : blt l (n : Int) = ([], ck none l) := by
      unfold blt
      rw [if_neg (by omega), if_neg hc]
    rw [hv] at hbb
    exact ⟨([], ck none l), go (Ev.bind hbl (Ev.ifF (by simp) (Ev.ifF h0 (Ev.bind hbb (Ev.ifT hc (Ev.now _)))))), .inl ⟨hc, rfl⟩⟩
  rw [blt_ok (by omega) (by omega) hc] at hbb
  obtain ⟨ss, e1, e2, e3⟩ := cuts_ev l blk n (by omega) (by omega) hc hw hl 1000 0 1 (by omega) (by omega) (by omega) (fun _ => by omega) (by omega)
  rw [List.drop_zero] at e1
  have T : TabOf l n ss fl := ⟨by omega, by omega, hc, fun e => h0 (by rw [e]; rfl), hl, hw, ⟨e1, e2⟩, hfil⟩
  have hst := step_ev (ss.map (cutOf n)) [] [] (fun x hx => by obtain ⟨s, hs2, rfl⟩ := List.mem_map.mp hx; exact ⟨lay_IsB n T.i16 s, T.lay_len hs2⟩) (by rw [List.length_nil, List.length_map]; have := T.ss_len; omega) (by rw [List.length_nil, List.length_map]; have := T.ss_len; omega)
  have hmm : (ss.map (cutOf n)).map (·.2) = ss.map (lay n) := by rw [List.map_map]; rfl
  rw [List.nil_append, List.nil_append, hmm, List.length_nil] at hst
  have hx := Build_ev (idxOf 0 (ss.map (cutOf n))) 1 (by rw [T.ix_n]; have := T.ss_len; omega) T.ix_w
  have hx1 : blt (idxOf 0 (ss.map (cutOf n))) 1 = (ixB n ss, 0) := blt_ok (iv := 1) (by decide) (by decide) T.ix_ck
  rw [hx1] at hx
  have hol := T.out_len
  have hil := T.ix_len
  have hfl := T.fil.len
  have hp := parts_ev fl (ixB n ss) (outB n ss) hfil.b (lay_IsB 1 (by decide) _) (by omega)
  have hf := Putf_w l.length (fx 4 (outB n ss).length ++ (fx 4 fl.length ++ (fx 4 ((outB n ss).length + fl.length + 4) ++ fx 4 (ixB n ss).length))) (by omega) (by simp only [List.length_append, fx_length]; omega)
  refine ⟨(tabB n ss fl l.length, 0), go (Ev.bind hbl (Ev.ifF (by simp) (Ev.ifF h0 (Ev.bind hbb (Ev.ifF (by simp) (Ev.bind e3 (Ev.bind hst (Ev.bind hx (Ev.bind hp (Ev.bind hf (Ev.ifT ?_ ?_))))))))))), .inr ⟨n, ss, fl, rfl, T, rfl⟩⟩
  · simp only [List.length_append, fx_length, sm_length]
    omega
  · have : outB n ss ++ ((fl ++ sm fl) ++ (ixB n ss ++ sm (ixB n ss))) ++ (fx 4 (outB n ss).length ++ (fx 4 fl.length ++ (fx 4 ((outB n ss).length + fl.length + 4) ++ fx 4 (ixB n ss).length)) ++ fx 4 l.length) ++ bytesOf tabMagic = tabB n ss fl l.length := by
      simp only [tabB, footB, List.append_assoc]
    rw [← this]
    exact Ev.now _
end Go.Proofs.Ythdemdjobgbpdaa.Q
namespace Go.Proofs.Ythdemdjobgbpdaa.Q
open Go.RowKit Go.Proofs.YthdemdjobgbpdaaW.PrintWords Go.Proofs.YthdemdjobgbpdaaW.PrintLast Go.Proofs.YthdemdjobgbpdaaW.PrintMore Go.Proofs.Ythdemdjobgbpdaa.P Go.Proofs.Ythdemdjobgbpdaa.M Go.Proofs.Ythdemdjobgbpdaa.B Go.Proofs.Ythdemdjobgbpdaa.T
set_option linter.unusedVariables false
theorem drop_pre : ∀ (A B : List Int) (m : Nat), (A ++ B).drop (A.length + m) = B.drop m
  | [], B, m => by simp
  | a :: A, B, m => by
    rw [List.cons_append, List.length_cons, show A.length + 1 + m = (A.length + m) + 1 by omega, List.drop_succ_cons]
    exact drop_pre A B m
theorem fix_at (v : Nat) (rest : List Int) (hv : v < 4294967296) (hb : IsB rest) : Ev (fun k => codec_Fixed.f k (fx 4 v ++ rest) 4) ((v : Int), 0) := by
  have hf := Fixed_ev (fx 4 v ++ rest) ((fx_IsB _ _).append hb) 4 (by decide) (by decide)
  rw [if_neg (by rw [List.length_append, fx_length]; omega), List.take_append_of_le_length (by rw [fx_length]; omega)] at hf
  have ht : (fx 4 v).take 4 = fx 4 v := List.take_of_length_le (by rw [fx_length]; omega)
  rw [ht, fxd_fx, Nat.mod_eq_of_lt (by simpa using hv)] at hf
  exact hf
theorem drop_fx (v : Nat) (R : List Int) (m : Nat) : (fx 4 v ++ R).drop (4 + m) = R.drop m := by
  have := drop_pre (fx 4 v) R m
  rwa [fx_length] at this
def footN (o f x n : Nat) : Nat → Nat := fun i => ([o, f, o + f + 4, x, n] : List Nat).getD i 0
theorem foot_ev (o f x n : Nat) (h : o + f + x + n < 1000000000) (i : Nat) (hi : i < 5) : Ev (fun k => codec_Fixed.f k ((footB o f x n).drop (4 * i)) 4) ((footN o f x n i : Int), 0) := by
  have hm : IsB (bytesOf tabMagic) := IsB.bytesOf _
  rcases (show i = 0 ∨ i = 1 ∨ i = 2 ∨ i = 3 ∨ i = 4 by omega) with rfl | rfl | rfl | rfl | rfl
  · exact fix_at o _ (by omega) ((fx_IsB _ _).append ((fx_IsB _ _).append ((fx_IsB _ _).append ((fx_IsB _ _).append hm))))
  · have : (footB o f x n).drop (4 * 1) = fx 4 f ++ (fx 4 (o + f + 4) ++ (fx 4 x ++ (fx 4 n ++ bytesOf tabMagic))) := drop_fx o _ 0
    rw [this]
    exact fix_at f _ (by omega) ((fx_IsB _ _).append ((fx_IsB _ _).append ((fx_IsB _ _).append hm)))
  · have : (footB o f x n).drop (4 * 2) = fx 4 (o + f + 4) ++ (fx 4 x ++ (fx 4 n ++ bytesOf tabMagic)) := (drop_fx o _ 4).trans (drop_fx f _ 0)
    rw [this]
    exact fix_at (o + f + 4) _ (by omega) ((fx_IsB _ _).append ((fx_IsB _ _).append hm))
  · have : (footB o f x n).drop (4 * 3) = fx 4 x ++ (fx 4 n ++ bytesOf tabMagic) := (drop_fx o _ 8).trans ((drop_fx f _ 4).trans (drop_fx _ _ 0))
    rw [this]
    exact fix_at x _ (by omega) ((fx_IsB _ _).append hm)
  · have : (footB o f x n).drop (4 * 4) = fx 4 n ++ bytesOf tabMagic := (drop_fx o _ 12).trans ((drop_fx f _ 8).trans ((drop_fx _ _ 4).trans (drop_fx x _ 0)))
    rw [this]
    exact fix_at n _ (by omega) hm
theorem eq_l0 (l : List Int) (hl : l.length < 1000000000) : ∀ (d i : Nat), i + d = l.length → Ev (fun k => slices_Equal_byte_byte.l0 k l l (l.length : Int) (i : Int)) true
  | 0, i, h => Ev.step (f := fun _ => some true) (fun k => by
      simp only [slices_Equal_byte_byte.l0]
      rw [if_neg (by omega)]) (Ev.now _)
  | d + 1, i, h => Ev.step (f := fun k => slices_Equal_byte_byte.l0 k l l (l.length : Int) ((i + 1 : Nat) : Int)) (fun k => by
      rw [slices_Equal_byte_byte.l0]
      rw [if_pos (by omega), if_pos (by omega), if_pos (by omega), if_pos (by omega), if_pos rfl, w64 (by omega) (by omega)]
      rfl) (eq_l0 l hl d (i + 1) (by omega))
theorem Equal_ev (l : List Int) (hl : l.length < 1000000000) : Ev (fun k => slices_Equal_byte_byte.f k l l) true := by
  simp only [slices_Equal_byte_byte.f]
  exact Ev.ifT trivial (eq_l0 l hl l.length 0 (by omega))
/-! ### Places -/
def plsOf : Nat → List (S45 × List Int) → List SPl
  | _, [] => []
  | at_, x :: t => ⟨x.1, at_, x.2.length⟩ :: plsOf (at_ + x.2.length + 4) t
theorem plsOf_length : ∀ (cs : List (S45 × List Int)) (n : Nat), (plsOf n cs).length = cs.length
  | [], _ => rfl
  | x :: t, n => by rw [plsOf, List.length_cons, plsOf_length t, List.length_cons]
theorem outOf_cons (b : List Int) (t : List (List Int)) : (outOf (b :: t)).length = b.length + 4 + (outOf t).length := by
  simp only [outOf, List.map_cons, List.flatten_cons, List.length_append, sm_length]
theorem places_ev (bl : Nat) : ∀ (cs : List (S45 × List Int)) (n : Nat), n + (outOf (cs.map (·.2))).length < 1000000000 → (∀ x ∈ cs, x.2.length ≤ bl) → ∃ K, ∀ k, K ≤ k → Places k bl (idxOf n cs) n (plsOf n cs) (n + (outOf (cs.map (·.2))).length)
  | [], n, _, _ => ⟨0, fun k _ => .nil n⟩
  | x :: t, n, hn, hb => by
    rw [List.map_cons, outOf_cons] at hn
    obtain ⟨K0, h0⟩ := places_ev bl t (n + x.2.length + 4) (by omega) (fun y hy => hb y (List.mem_cons_of_mem _ hy))
    have hv : bytesOf (strOfNums (uv n ++ uv x.2.length)) = uv n ++ uv x.2.length := bytesOf_str _ ((uv_IsB _).append (uv_IsB _))
    have l1 := uv_len64 (n := n) (by omega)
    have l2 := uv_len64 (n := x.2.length) (by omega)
    obtain ⟨K1, h1⟩ := Uv_ev n (uv x.2.length) (by omega) (uv_IsB _)
    obtain ⟨K2, h2⟩ := Uv_ev x.2.length [] (by omega) IsB.nil
    obtain ⟨K3, h3⟩ := PutUvarint_ev n [] (by omega) (by simp)
    obtain ⟨K4, h4⟩ := PutUvarint_ev x.2.length (uv n) (by omega) (by omega)
    obtain ⟨K5, h5⟩ := Equal_ev (uv n ++ uv x.2.length) (by rw [List.length_append]; omega)
    refine ⟨K0 + K1 + K2 + K3 + K4 + K5, fun k hk => ?_⟩
    have hz : n + (outOf ((x :: t).map (·.2))).length = n + x.2.length + 4 + (outOf (t.map (·.2))).length := by rw [List.map_cons, outOf_cons]; omega
    rw [idxOf, plsOf, hz]
    have g2 := h2 k (by omega)
    simp only [List.append_nil] at g2
    exact .cons (kk := (uv n).length) (m := (uv x.2.length).length) (a1 := uv n) (by rw [hv]; exact h1 k (by omega)) (by rw [hv, List.length_append]; omega) (by rw [hv, List.drop_left]; exact g2) (h3 k (by omega)) (by rw [hv]; exact h4 k (by omega)) (by rw [hv]; exact h5 k (by omega)) (by rw [hv, List.length_append]) (by rw [hv, List.length_append]; omega) (hb x List.mem_cons_self) (h0 k (by omega))
def endB (iv : Nat) (ss : List (List S47)) (fl : List Int) : Nat := (outB iv ss).length + fl.length + 4 + (ixB iv ss).length + 4
theorem tab_split (iv : Nat) (ss : List (List S47)) (fl : List Int) (n : Nat) : ∃ A, tabB iv ss fl n = A ++ footB (outB iv ss).length fl.length (ixB iv ss).length n ∧ A.length = endB iv ss fl := by
  refine ⟨outB iv ss ++ ((fl ++ sm fl) ++ (ixB iv ss ++ sm (ixB iv ss))), by simp only [tabB, List.append_assoc], ?_⟩
  simp only [List.length_append, sm_length, endB]
  omega
theorem lay_tail (iv : Nat) (l : List S47) : 5 ≤ (lay iv l).length ∧ rd (lay iv l) (((lay iv l).length : Int) - 5) = (iv : Int) := by
  have hl : (lay iv l).length = (body iv 0 [] l ++ mfx (mks iv 0 [] 0 l)).length + 5 := by
    unfold lay
    simp only [List.length_append, List.length_cons, fx_length]
    omega
  refine ⟨by omega, ?_⟩
  have he : (((lay iv l).length : Int) - 5).toNat = (body iv 0 [] l ++ mfx (mks iv 0 [] 0 l)).length := by omega
  simp only [rd, he, List.getD_eq_getElem?_getD]
  unfold lay
  rw [← List.append_assoc, List.getElem?_append_right (Nat.le_refl _), Nat.sub_self]
  rfl
end Go.Proofs.Ythdemdjobgbpdaa.Q
namespace Go.Proofs.Ythdemdjobgbpdaa.Q
open Go.RowKit Go.Proofs.YthdemdjobgbpdaaW.PrintWords Go.Proofs.YthdemdjobgbpdaaW.PrintLast Go.Proofs.YthdemdjobgbpdaaW.PrintMore Go.Proofs.Ythdemdjobgbpdaa.P Go.Proofs.Ythdemdjobgbpdaa.M Go.Proofs.Ythdemdjobgbpdaa.B Go.Proofs.Ythdemdjobgbpdaa.T
set_option linter.unusedVariables false
theorem outB_app (iv : Nat) (a b : List (List S47)) : outB iv (a ++ b) = outB iv a ++ outB iv b := by
  simp only [outB, outOf, List.map_append, List.flatten_append]
theorem outB_cons (iv : Nat) (s : List S47) (t : List (List S47)) : outB iv (s :: t) = (lay iv s ++ sm (lay iv s)) ++ outB iv t := by
  simp only [outB, outOf, List.map_cons, List.flatten_cons]
theorem sm_own (b : List Int) : ((fxd (sm b) : Int) == mask (crc b)) = true := by
  rw [sm, fxd_fx, Nat.mod_eq_of_lt (by have := (mask_range (crc b)).2; have := mask_nat (crc b); omega), mask_nat]
  exact beq_self_eq_true _
/-! ### All -/
theorem next_ev {acc s : List S47} (h : ∀ x ∈ acc, ∀ y ∈ s, kk x y < 0) (hs : s ≠ []) : next_f acc s = some () := by
  unfold next_f
  by_cases h0 : acc.length = 0
  · rw [if_pos h0]
  · rw [if_neg h0]
    have h1 : rd_T47 acc ((acc.length - 1 : Nat) : Int) ∈ acc := by
      simp only [rd_T47, Int.toNat_natCast, List.getD_eq_getElem?_getD, List.getElem?_eq_getElem (show acc.length - 1 < acc.length by omega), Option.getD_some]
      exact List.getElem_mem _
    have hl : 0 < s.length := List.length_pos_iff.mpr hs
    have h2 : rd_T47 s 0 ∈ s := by
      simp only [rd_T47, List.getD_eq_getElem?_getD, Int.toNat_zero, List.getElem?_eq_getElem hl, Option.getD_some]
      exact List.getElem_mem _
    have h3 := h _ h1 _ h2
    unfold kk at h3
    have h4 : ∀ x y : S47, ikey_Compare.f x.f0.f0 x.f0.f1 x.f0.f2 y.f0.f0 y.f0.f1 y.f0.f2 = some (kcmp x.f0.f0 x.f0.f1 x.f0.f2 y.f0.f0 y.f0.f1 y.f0.f2) := fun x y => rfl
    rw [h4, Option.bind_some, if_pos h3]
/-! ### Get -/
theorem rd_pls (iv : Nat) : ∀ (a : List (List S47)) (s : List S47) (t : List (List S47)) (n : Nat), rd_TPl (plsOf n ((a ++ s :: t).map (cutOf iv))) (a.length : Int) = ⟨lastK s, n + (outB iv a).length, (lay iv s).length⟩
  | [], s, t, n => rfl
  | x :: a, s, t, n => by
    have ih := rd_pls iv a s t (n + (lay iv x).length + 4)
    have hl : (outB iv (x :: a)).length = (lay iv x).length + 4 + (outB iv a).length := by
      rw [outB_cons]
      simp only [List.length_append, sm_length]
    rw [List.cons_append, List.map_cons, plsOf, hl]
    have e : rd_TPl (⟨(cutOf iv x).1, n, (cutOf iv x).2.length⟩ :: plsOf (n + (cutOf iv x).2.length + 4) ((a ++ s :: t).map (cutOf iv))) ((x :: a).length : Int) = rd_TPl (plsOf (n + (lay iv x).length + 4) ((a ++ s :: t).map (cutOf iv))) (a.length : Int) := by
      simp [rd_TPl, cutOf]
    rw [e, ih]
    congr 1
    omega
theorem bs_ev (ps : List SPl) (q : S45) (c : Nat → Int) (hc : ∀ i, i < ps.length → cmpP (rd_TPl ps (i : Int)) q = some (c i)) (hm : ∀ i j, i < j → j < ps.length → c j < 0 → c i < 0) :
    ∀ (g i j : Nat), j - i < g → i ≤ j → j ≤ ps.length → (∀ m, m < i → c m < 0) → (∀ m, j ≤ m → m < ps.length → ¬ c m < 0) → ∃ r, r ≤ ps.length ∧ bs_l g ps q i j = some r ∧ (∀ m, m < r → c m < 0) ∧ (∀ m, r ≤ m → m < ps.length → ¬ c m < 0)
  | 0, i, j, hg, _, _, _, _ => absurd hg (by omega)
  | g + 1, i, j, hg, hij, hj, h1, h2 => by
    by_cases cij : i < j
    · have hh : (i + j) / 2 < j ∧ i ≤ (i + j) / 2 := by omega
      have hcv := hc ((i + j) / 2) (by omega)
      simp only [bs_l]
      rw [if_pos cij, hcv, Option.bind_some]
      by_cases cc : c ((i + j) / 2) < 0
      · rw [if_pos cc]
        exact bs_ev ps q c hc hm g _ j (by omega) (by omega) hj (fun m hm2 => by
          rcases Nat.lt_or_ge m ((i + j) / 2) with h | h
          · exact hm m _ h (by omega) cc
          · have : m = (i + j) / 2 := by omega
            rw [this]; exact cc) h2
      · rw [if_neg cc]
        exact bs_ev ps q c hc hm g i _ (by omega) hh.2 (by omega) h1 (fun m hm2 hml => by
          rcases Nat.lt_or_ge ((i + j) / 2) m with h | h
          · exact fun h3 => cc (hm _ m h hml h3)
          · have : m = (i + j) / 2 := by omega
            rw [this]; exact cc)
    · have : i = j := by omega
      subst this
      refine ⟨i, hj, ?_, h1, h2⟩
      simp only [bs_l]
      rw [if_neg cij]
theorem fi_app : ∀ (a b : List S47) (q : S45), (∀ x ∈ a, kq x q < 0) → fi (a ++ b) q = a.length + fi b q
  | [], b, q, _ => by simp
  | x :: a, b, q, h => by
    have hx := h x List.mem_cons_self
    rw [List.cons_append, fi, if_pos hx, fi_app a b q (fun y hy => h y (List.mem_cons_of_mem _ hy)), List.length_cons]
    omega
end Go.Proofs.Ythdemdjobgbpdaa.Q
namespace Go.Proofs.Ythdemdjobgbpdaa.Q
open Go.RowKit Go.Proofs.YthdemdjobgbpdaaW.PrintWords Go.Proofs.YthdemdjobgbpdaaW.PrintLast Go.Proofs.YthdemdjobgbpdaaW.PrintMore Go.Proofs.Ythdemdjobgbpdaa.P Go.Proofs.Ythdemdjobgbpdaa.M Go.Proofs.Ythdemdjobgbpdaa.B Go.Proofs.Ythdemdjobgbpdaa.T
set_option linter.unusedVariables false
def known (l : List S47) (user : ByteArray) (seq : Int) : ByteArray × Int × Int := tell_f l (fi l ⟨user, capSeq seq, 1⟩) user
theorem last_split {s : List S47} (h : s ≠ []) : ∃ i e, s = i ++ [e] ∧ lastK s = e.f0 := by
  refine ⟨s.dropLast, s.getLast h, (List.dropLast_concat_getLast h).symm, ?_⟩
  have hl : 0 < s.length := List.length_pos_iff.mpr h
  unfold lastK
  have e : ((s.length : Int) - 1).toNat = s.length - 1 := by omega
  simp only [rd_T47, e, List.getD_eq_getElem?_getD, List.getElem?_eq_getElem (show s.length - 1 < s.length by omega), Option.getD_some, List.getLast_eq_getElem]
theorem fi_cut (e : S47) (t : List S47) (q : S45) (h : ¬ kq e q < 0) : ∀ i : List S47, fi (i ++ e :: t) q = fi (i ++ [e]) q ∧ fi (i ++ [e]) q ≤ i.length
  | [] => by
    simp [fi, h]
  | x :: i => by
    obtain ⟨h1, h2⟩ := fi_cut e t q h i
    rw [List.cons_append, List.cons_append, fi, fi, h1, List.length_cons]
    split
    · exact ⟨rfl, by omega⟩
    · exact ⟨rfl, by omega⟩
theorem seg_below {s : List S47} {q : S45} (h : s ≠ []) (hc : ck none s = 0) (hq : kcmp (lastK s).f0 (lastK s).f1 (lastK s).f2 q.f0 q.f1 q.f2 < 0) : ∀ x ∈ s, kq x q < 0 := by
  obtain ⟨i, e, h1, h2⟩ := last_split h
  rw [h2] at hq
  have hp := ck_pair s none hc
  rw [h1] at hp
  have hpa := (List.pairwise_append.mp hp).2.2
  intro x hx
  rw [h1] at hx
  rcases List.mem_append.mp hx with hx | hx
  · exact kq_step (hpa x hx e (by simp)) (Int.le_of_lt hq)
  · rcases List.mem_singleton.mp hx with rfl
    exact hq
theorem seg_in {s t : List S47} {q : S45} (h : s ≠ []) (hq : ¬ kcmp (lastK s).f0 (lastK s).f1 (lastK s).f2 q.f0 q.f1 q.f2 < 0) : fi (s ++ t) q = fi s q ∧ fi s q < s.length := by
  obtain ⟨i, e, h1, h2⟩ := last_split h
  rw [h2] at hq
  obtain ⟨c1, c2⟩ := fi_cut e t q hq i
  rw [h1, List.append_assoc, List.singleton_append]
  exact ⟨c1, by rw [List.length_append, List.length_singleton]; omega⟩
theorem tell_app (a s t : List S47) (n : Nat) (user : ByteArray) (h : n < s.length) : tell_f (a ++ (s ++ t)) (a.length + n) user = tell_f s n user := by
  have hr : rd_T47 (a ++ (s ++ t)) ((a.length + n : Nat) : Int) = rd_T47 s (n : Int) := by
    simp only [rd_T47, Int.toNat_natCast, List.getD_eq_getElem?_getD]
    rw [List.getElem?_append_right (by omega), Nat.add_sub_cancel_left, List.getElem?_append_left h]
  unfold tell_f
  rw [hr, if_pos h, if_pos (by simp only [List.length_append]; omega)]
theorem tell_none (l : List S47) (n : Nat) (user : ByteArray) (h : ∀ e ∈ l, e.f0.f0 ≠ user) : tell_f l n user = (noText, 0, 0) := by
  unfold tell_f
  split
  case isFalse => rfl
  rename_i hn
  rw [if_neg]
  refine h _ ?_
  simp only [rd_T47, Int.toNat_natCast, List.getD_eq_getElem?_getD, List.getElem?_eq_getElem hn, Option.getD_some]
  exact List.getElem_mem _
theorem bs_mono (ps : List SPl) (q : S45) (r : Nat) : ∀ (k i j g : Nat), g ≤ k → bs_l g ps q i j = some r → bs_l k ps q i j = some r
  | k, i, j, 0, _, h => by cases h
  | 0, i, j, g + 1, hk, h => absurd hk (by omega)
  | k + 1, i, j, g + 1, hk, h => by
    simp only [bs_l] at h ⊢
    by_cases c : i < j
    · rw [if_pos c] at h ⊢
      obtain ⟨v, e, h⟩ := Option.bind_eq_some_iff.mp h
      rw [e, Option.bind_some]
      by_cases cc : v < 0
      · rw [if_pos cc] at h ⊢
        exact bs_mono ps q r k _ _ g (by omega) h
      · rw [if_neg cc] at h ⊢
        exact bs_mono ps q r k _ _ g (by omega) h
    · rw [if_neg c] at h ⊢
      exact h
end Go.Proofs.Ythdemdjobgbpdaa.Q
namespace Go.Proofs.Ythdemdjobgbpdaa.T
open Go.RowKit Go.Shelf Go.Proofs.YthdemdjobgbpdaaW.PrintWords Go.Proofs.YthdemdjobgbpdaaW.PrintLast Go.Proofs.YthdemdjobgbpdaaW.PrintMore Go.Proofs.Ythdemdjobgbpdaa.P Go.Proofs.Ythdemdjobgbpdaa.B Go.Proofs.Ythdemdjobgbpdaa.Q
attribute [local go_sem] Oper.semAt_some
set_option linter.unusedVariables false
set_option linter.unusedSimpArgs false
/-- bytes that are opened, read whole, and tell what the entries tell -/
structure TabAt (k : Nat) (L : List S47) (bs fl : List Int) (ps : List SPl) (asks : ByteArray → Int → Prop) : Prop where
  op : ∃ e n0 n1 n2 n3 ns x idx iv, OpenOk k bs e n0 n1 n2 n3 ns fl x idx iv ps ∧ ns 4 = (L.length : Int)
  all : all_t k bs ps (L.length : Int) = some (some L)
  get : ∀ u s, asks u s → get_f k bs fl ps u s = some (known L u s)
  blk : 1 ≤ ps.length ∧ ps.length ≤ L.length
theorem TabAt.open_calls {k : Nat} {L : List S47} {bs fl : List Int} {ps : List SPl} {asks : ByteArray → Int → Prop} (h : TabAt k L bs fl ps asks) (A : Option Addr) (c : Nat) (w : World) (hC : Kd.C (Kd.int .u8) w A bs.length bs) (hc : bs.length ≤ c) :
    Calls Try.prog 13 #[.slice A bs.length c] w fun en w' => ∃ g, en = .returned (.tuple #[.pointer (some ⟨g, 0, none⟩), .int .i64 0]) ∧ w.heap.size ≤ g ∧ IsTab w' g bs fl ps (L.length : Int) ∧ Below w.heap.size w w' := by
  obtain ⟨e, n0, n1, n2, n3, ns, x, idx, iv, ok, h4⟩ := h.op
  rw [← h4]
  exact T.open_calls k A c bs e n0 n1 n2 n3 ns fl x idx iv ps w hC hc ok
/-- what a Build comes to, and what is known of its bytes -/
def Built (k : Nat) (L : List S47) (blk iv : Int) (fb : Nat) (asks : ByteArray → Int → Prop) : Prop :=
  ∃ r, tab_f k 1000 L blk iv fb = some r ∧ ((r.2 ≠ 0 ∧ r.1 = []) ∨ (r.2 = 0 ∧ ∃ fl ps, TabAt k L r.1 fl ps asks))
def cut3h (l : List S47) : List S47 := if 300 < l.length then l.take 300 else l
theorem cut3h_len (l : List S47) : (cut3h l).length ≤ 300 := by
  unfold cut3h
  split
  · rw [List.length_take]; omega
  · omega
def Tunes (k : Nat) (l : List S47) (b1 i1 : Int) (f1 : Nat) (b2 i2 : Int) (f2 : Nat) (user : ByteArray) (from_ : Int) : Prop :=
  Built k (cut3h l) b1 i1 f1 (fun u s => u = user ∧ ∃ j : Nat, j < 12 ∧ s = IntKind.u64.wrap (from_ + j)) ∧ Built k (cut3h l) b2 i2 f2 (fun u s => u = user ∧ ∃ j : Nat, j < 12 ∧ s = IntKind.u64.wrap (from_ + j)) ∧ staddleref08_Same.f k (cut3h l) (cut3h l) = some true ∧ (0 ≤ from_ ∧ from_ < 18446744073709551616) ∧ (∀ j : Nat, j < 12 → (known (cut3h l) user (IntKind.u64.wrap (from_ + j))).2.2 = 0)
theorem tn_w (from_ : Int) (j : Nat) (h0 : 0 ≤ from_) (h1 : from_ < 18446744073709551616) (hj : j ≤ 12) : IntKind.u64.wrap (IntKind.u64.wrap (from_ + (j : Int)) - from_) = (j : Int) := by simp [IntKind.wrap, IntKind.bits, IntKind.signed]; omega
theorem tn_s (from_ : Int) (j : Nat) (h0 : 0 ≤ from_) (h1 : from_ < 18446744073709551616) : IntKind.u64.wrap (IntKind.u64.wrap (from_ + (j : Int)) + 1) = IntKind.u64.wrap (from_ + ((j + 1 : Nat) : Int)) := by simp [IntKind.wrap, IntKind.bits, IntKind.signed]; omega
theorem tn_0 (from_ : Int) (h0 : 0 ≤ from_) (h1 : from_ < 18446744073709551616) : from_ = IntKind.u64.wrap (from_ + ((0 : Nat) : Int)) := by simp [IntKind.wrap, IntKind.bits, IntKind.signed]; omega
set_option maxHeartbeats 8000000 in
set_option maxRecDepth 100000 in
theorem tunes_calls (k : Nat) (A0 : Option Addr) (c0 : Nat) (l0 : List S47) (b1 i1 : Int) (f1 : Nat) (b2 i2 : Int) (f2 : Nat) (user : ByteArray) (from_ : Int) (w : World) (hr0 : Kd.C k47 w A0 l0.length l0) (hc0 : l0.length ≤ c0) (hf : Tunes k l0 b1 i1 f1 b2 i2 f2 user from_) :
    Calls Try.prog 8 #[.slice A0 l0.length c0, .agg #[.int .i64 b1, .int .i64 i1, .float .f64 f1], .agg #[.int .i64 b2, .int .i64 i2, .float .f64 f2], .string user, .int .u64 from_] w fun e w' => e = .returned (.bool true) ∧ Below w.heap.size w w' := by
  have HR0 := Aside0.mk hr0
  have HC0 := Aside0.mk hc0
  have HF := Aside0.mk hf
  have hK0 := Aside0.mk (cut3h_len l0)
  clear hr0 hc0 hf
  go_enter Try.func8, Try.ntmps8
  go_upto_region 1 with fail
  obtain ⟨w2, hw2⟩ : ∃ y, (w.alloc (.cells #[.int .i64 b1, .int .i64 i1, .float .f64 f1] 26)).alloc (.cells #[.int .i64 b2, .int .i64 i2, .float .f64 f2] 26) = y := ⟨_, rfl⟩
  have HB2 : Aside0 (Below w.heap.size w w2) := ⟨by rw [← hw2]; exact below_alloc (below_alloc (Below.refl _ _) _) _⟩
  have BO2 : Aside0 (w2.heap[w.heap.size]? = some (.cells #[.int .i64 b1, .int .i64 i1, .float .f64 f1] 26 (0, 0))) := ⟨by rw [← hw2]; exact blk_alloc (blk_new w _) _⟩
  have BP2 : Aside0 (w2.heap[w.heap.size + 1]? = some (.cells #[.int .i64 b2, .int .i64 i2, .float .f64 f2] 26 (0, 0))) := ⟨by
    rw [← hw2]
    have := blk_new (w.alloc (.cells #[.int .i64 b1, .int .i64 i1, .float .f64 f1] 26)) (.cells #[.int .i64 b2, .int .i64 i2, .float .f64 f2] 26)
    rwa [World.size_alloc] at this⟩
  rw [hw2]
  clear hw2
  go_upto_region 2 with (first
    | (go_at_call 9; with_reducible refine (awake_calls _).mono ?_; rintro e w3 ⟨rfl, hb⟩
       have BO3 := Aside0.mk (blk_below BO2.out hb)
       have BP3 := Aside0.mk (blk_below BP2.out hb)
       have HB3 := Aside0.mk (below_step HB2.out hb)
       clear hb))
  go_upto_if 35 with fail
  go_cut [0] (fun v0 wc => ∃ (c1 : Nat), v0 = .slice A0 (cut3h l0).length c1 ∧ Aside0 ((cut3h l0).length ≤ c1) ∧ Aside0 (Kd.C k47 wc A0 (cut3h l0).length (cut3h l0)) ∧ Aside0 (wc.heap[w.heap.size]? = some (.cells #[.int .i64 b1, .int .i64 i1, .float .f64 f1] 26 (0, 0))) ∧ Aside0 (wc.heap[w.heap.size + 1]? = some (.cells #[.int .i64 b2, .int .i64 i2, .float .f64 f2] 26 (0, 0))) ∧ Aside0 (Below w.heap.size w wc))
  case first =>
    by_cases c : 300 < l0.length
    · have hcut : cut3h l0 = l0.take 300 := by unfold cut3h; rw [if_pos c]
      have hlen : (l0.take 300).length = 300 := by rw [List.length_take]; omega
      have HRC : Aside0 (Kd.C k47 w3 A0 (l0.take 300).length (l0.take 300)) := ⟨Kd.C_take (Kd.C_below HR0.out HB3.out) (by omega)⟩
      have c4b0 : decide (300 < (l0.length : Int)) = true := decide_eq_true (by omega)
      have c4b1 : decide (300 < l0.length) = true := decide_eq_true c
      have c5b0 := eq_true (show 300 ≤ (l0.length : Int) by omega)
      have c5b1 : decide (300 ≤ (l0.length : Int)) = true := decide_eq_true (by omega)
      have c5b2 : (300 : Int) ≤ (c0 : Int) := by have := HC0.out; omega
      have c5b3 : 300 ≤ c0 := by have := HC0.out; omega
      (first | rw [c4b0] | rw [c4b1] | (simp only [i64_w, i32_w]; rw [c4b0]) | skip)
      go_wp2
      go_meet
      case rel =>
        refine ⟨c0, ?_, ⟨by rw [hcut, hlen]; exact c5b3⟩, ⟨by rw [hcut]; exact HRC.out⟩, BO3, BP3, HB3⟩
        rw [hcut, hlen]
    · have hcut : cut3h l0 = l0 := by unfold cut3h; rw [if_neg c]
      have c4b0 : decide (300 < (l0.length : Int)) = false := decide_eq_false (by omega)
      have c4b1 : decide (300 < l0.length) = false := decide_eq_false c
      have HRC : Aside0 (Kd.C k47 w3 A0 l0.length l0) := ⟨Kd.C_below HR0.out HB3.out⟩
      (first | rw [c4b0] | rw [c4b1] | (simp only [i64_w, i32_w]; rw [c4b0]) | skip)
      go_wp2
      go_meet
      case rel => exact ⟨c0, by rw [hcut], ⟨by rw [hcut]; exact HC0.out⟩, ⟨by rw [hcut]; exact HRC.out⟩, BO3, BP3, HB3⟩
  case rest =>
    clear HR0 HC0 BO2 BP2 BO3 BP3 HB2 HB3
    obtain ⟨c1, rfl, HC1, HR1, BO1, BP1, HB1⟩ := hcut
    obtain ⟨⟨r1, hr1, h1⟩, ⟨r2, hr2, h2⟩, hsame, hfr, hkn⟩ := HF.out
    clear HF
    generalize cut3h l0 = L at *
    have HR1E := Aside0.mk hr1
    have HR2E := Aside0.mk hr2
    have HSM := Aside0.mk hsame
    have HFR := Aside0.mk hfr
    have HKN := Aside0.mk hkn
    have H1 := Aside0.mk h1
    have H2 := Aside0.mk h2
    clear hr1 hr2 h1 h2 hsame hfr hkn
    obtain ⟨bs1, e1⟩ := r1
    obtain ⟨bs2, e2⟩ := r2
    have k0 := (blk_cell BO1.out 0).trans (show _ = some (Value.int .i64 b1) from rfl)
    have k1 := (blk_cell BO1.out 1).trans (show _ = some (Value.int .i64 i1) from rfl)
    have k2 := (blk_cell BO1.out 2).trans (show _ = some (Value.float .f64 f1) from rfl)
    go_upto_region 6 with (first
      | (go_at_call 10; with_reducible refine (tab_calls k 1000 A0 c1 L b1 i1 f1 (bs1, e1) _ HR1.out HC1.out HR1E.out).mono ?_; rintro ex w4 ⟨v4, rfl, hob, hb⟩
         have BP4 := blk_below BP1.out hb
         have m0 : w4.cell? ⟨w.heap.size + 1, 0, none⟩ = some (.int .i64 b2) := (blk_cell BP4 0).trans rfl
         have m1 : w4.cell? ⟨w.heap.size + 1, 1, none⟩ = some (.int .i64 i2) := (blk_cell BP4 1).trans rfl
         have m2 : w4.cell? ⟨w.heap.size + 1, 2, none⟩ = some (.float .f64 f2) := (blk_cell BP4 2).trans rfl
         have HR4 := Aside0.mk (Kd.C_below HR1.out hb)
         have HB4 := Aside0.mk (below_step HB1.out hb)
         obtain ⟨A4, c4, e4⟩ := Kd.R_slice hob
         subst e4
         have HO4 := Aside0.mk hob
         clear hob hb k0 k1 k2 BP4)
      | (go_at_call 10; with_reducible refine (tab_calls k 1000 A0 c1 L b2 i2 f2 (bs2, e2) _ HR4.out HC1.out HR2E.out).mono ?_; rintro ex w5 ⟨v5, rfl, hob, hb⟩
         have HO5 := Aside0.mk (Kd.R_below HO4.out hb)
         have HB5 := Aside0.mk (below_step HB4.out hb)
         obtain ⟨A5, c5, e5⟩ := Kd.R_slice hob
         subst e5
         have HP5 := Aside0.mk hob
         clear hob hb m0 m1 m2))
    by_cases he1 : e1 = 0
    case neg =>
      have hb1 : (e1 != 0) = true := bne_iff_ne.mpr he1
      clear he1
      go_wp2
      go_ret
      exact ⟨rfl, HB5.out⟩
    case pos =>
    subst he1
    by_cases he2 : e2 = 0
    case neg =>
      have hb2 : (e2 != 0) = true := bne_iff_ne.mpr he2
      clear he2
      go_wp2
      go_ret
      exact ⟨rfl, HB5.out⟩
    case pos =>
    subst he2
    obtain ⟨_, fl1, ps1, T1⟩ := H1.out.resolve_left (fun h => h.1 rfl)
    obtain ⟨_, fl2, ps2, T2⟩ := H2.out.resolve_left (fun h => h.1 rfl)
    try dsimp only at T1 T2
    have T1 := Aside0.mk T1
    have T2 := Aside0.mk T2
    clear H1 H2
    go_upto_region 17 with (first
      | (go_at_call 13; with_reducible refine (T1.out.open_calls A4 c4 _ (Kd.R_reads' HO5.out).2.2 (Kd.R_reads' HO5.out).2.1).mono ?_; rintro ex w6 ⟨g1, rfl, hge, htab, hb⟩
         have HT6 := Aside0.mk htab
         have HP6 := Aside0.mk (Kd.R_below HP5.out hb)
         have HB6 := Aside0.mk (below_step HB5.out hb)
         clear hge htab hb)
      | (go_at_call 13; with_reducible refine (T2.out.open_calls A5 c5 _ (Kd.R_reads' HP6.out).2.2 (Kd.R_reads' HP6.out).2.1).mono ?_; rintro ex w7 ⟨g2, rfl, hge, htab, hb⟩
         have HU7 := Aside0.mk htab
         have HT7 := Aside0.mk (HT6.out.below hb)
         have HB7 := Aside0.mk (below_step HB6.out hb)
         clear hge htab hb)
      | (go_at_call 14; with_reducible refine (all_calls k g1 bs1 fl1 ps1 (L.length : Int) (some L) _ HT7.out T1.out.all).mono ?_; rintro ex w8 ⟨hb, v8, rfl, hob⟩
         have HT8 := Aside0.mk (HT7.out.below hb)
         have HU8 := Aside0.mk (HU7.out.below hb)
         have HB8 := Aside0.mk (below_step HB7.out hb)
         obtain ⟨A8, c8, e8⟩ := Kd.R_slice hob
         subst e8
         have HO8 := Aside0.mk hob
         clear hob hb)
      | (go_at_call 14; with_reducible refine (all_calls k g2 bs2 fl2 ps2 (L.length : Int) (some L) _ HU8.out T2.out.all).mono ?_; rintro ex w9 ⟨hb, v9, rfl, hob⟩
         have HT9 := Aside0.mk (HT8.out.below hb)
         have HU9 := Aside0.mk (HU8.out.below hb)
         have HO9 := Aside0.mk (Kd.R_below HO8.out hb)
         have HB9 := Aside0.mk (below_step HB8.out hb)
         obtain ⟨A9, c9, e9⟩ := Kd.R_slice hob
         subst e9
         have HP9 := Aside0.mk hob
         clear hob hb)
      | (go_at_call 12; with_reducible refine (staddleref08_Same.calls k A8 c8 L A9 c9 L true _ (Kd.R_reads' HO9.out).2.2 (Kd.R_reads' HO9.out).2.1 (Kd.R_reads' HP9.out).2.2 (Kd.R_reads' HP9.out).2.1 HSM.out).mono ?_; rintro ex w10 ⟨rfl, ⟨nd, rfl⟩⟩))
    have HT10 := Aside0.mk (HT9.out.below (pw_below_drewN (Below.refl _ _) nd))
    have HU10 := Aside0.mk (HU9.out.below (pw_below_drewN (Below.refl _ _) nd))
    have HB10 := Aside0.mk (pw_below_drewN HB9.out nd)
    go_upto_region 18 with fail
    obtain ⟨w11, hw11⟩ : ∃ y, w9.drewN nd = y := ⟨_, rfl⟩
    rw [hw11] at HT10 HU10 HB10 ⊢
    clear hw11
    obtain ⟨hf0, hf1⟩ := HFR.out
    have hft := tn_0 from_ hf0 hf1
    go_loopg [25] 13 (fun gf v25 wx => ∃ j : Nat, v25 = .int .u64 (IntKind.u64.wrap (from_ + (j : Int))) ∧ Aside0 (gf + j = 13 ∧ j ≤ 12) ∧ Aside0 (IsTab wx g1 bs1 fl1 ps1 (L.length : Int)) ∧ Aside0 (IsTab wx g2 bs2 fl2 ps2 (L.length : Int)) ∧ Aside0 (Below w.heap.size w wx))
    case atStart => exact ⟨0, congrArg (Value.int .u64) hft, ⟨by omega, by omega⟩, HT10, HU10, HB10⟩
    case round =>
      clear HT10 HU10 HB10 hft
      obtain ⟨j, rfl, HJ, HT10, HU10, HB10⟩ := hrel
      cases gk with
      | zero => exact absurd HJ.out.1 (by have := HJ.out.2; omega)
      | succ g_ =>
        have hw1 := tn_w from_ j hf0 hf1 HJ.out.2
        have hw2 := Aside0.mk (tn_s from_ j hf0 hf1)
        obtain ⟨S, hS⟩ : ∃ y, IntKind.u64.wrap (from_ + (j : Int)) = y := ⟨_, rfl⟩
        have HS := Aside0.mk hS
        rw [hS] at hw1 hw2 ⊢
        clear hS
        by_cases cj : j < 12
        · have d1 : decide ((j : Int) < 12) = true := decide_eq_true (by omega)
          have d1b : decide (j < 12) = true := decide_eq_true cj
          have d2 := eq_true (show (j : Int) < 12 by omega)
          have hz := HKN.out j cj
          rw [HS.out] at hz
          have HG1 := T1.out.get user S ⟨rfl, j, cj, HS.out.symm⟩
          have HG2 := T2.out.get user S ⟨rfl, j, cj, HS.out.symm⟩
          obtain ⟨⟨kv, kw, ke⟩, hkn⟩ : ∃ y, known L user S = y := ⟨_, rfl⟩
          rw [hkn] at hz HG1 HG2
          have hz : ke = 0 := hz
          subst hz
          have HG1 := Aside0.mk HG1
          have HG2 := Aside0.mk HG2
          have HCJ := Aside0.mk cj
          clear hkn cj
          go_upto_region 19 with (first
            | (go_at_call 16; with_reducible refine (get_calls k g1 bs1 fl1 ps1 (L.length : Int) user S (kv, kw, 0) _ HT10.out HG1.out).mono ?_; rintro ex w12 ⟨rfl, hb⟩
               have HT12 := Aside0.mk (HT10.out.below hb)
               have HU12 := Aside0.mk (HU10.out.below hb)
               have HB12 := Aside0.mk (below_step HB10.out hb)
               clear hb)
            | (go_at_call 16; with_reducible refine (get_calls k g2 bs2 fl2 ps2 (L.length : Int) user S (kv, kw, 0) _ HU12.out HG2.out).mono ?_; rintro ex w13 ⟨rfl, hb⟩
               have HT13 := Aside0.mk (HT12.out.below hb)
               have HU13 := Aside0.mk (HU12.out.below hb)
               have HB13 := Aside0.mk (below_step HB12.out hb)
               clear hb))
          clear hw1 d1 d1b d2
          go_wp2
          simp only [hw2.out]
          go_roundg g_
          case measure => omega
          case rel => exact ⟨j + 1, rfl, ⟨by have := HJ.out.1; omega, HCJ.out⟩, HT13, HU13, HB13⟩
        · have d1 : decide ((j : Int) < 12) = false := decide_eq_false (by omega)
          have d1b : decide (j < 12) = false := decide_eq_false cj
          clear cj
          go_wp2
          go_ret
          exact ⟨rfl, HB10.out⟩
end Go.Proofs.Ythdemdjobgbpdaa.T
namespace Go.Proofs.Ythdemdjobgbpdaa.Q
open Go.RowKit Go.Proofs.YthdemdjobgbpdaaW.PrintWords Go.Proofs.YthdemdjobgbpdaaW.PrintLast Go.Proofs.YthdemdjobgbpdaaW.PrintMore Go.Proofs.Ythdemdjobgbpdaa.P Go.Proofs.Ythdemdjobgbpdaa.M
end Go.Proofs.Ythdemdjobgbpdaa.Q
namespace Go.Proofs.Ythdemdjobgbpdaa.Q
open Go.RowKit Go.Proofs.YthdemdjobgbpdaaW.PrintWords Go.Proofs.YthdemdjobgbpdaaW.PrintLast Go.Proofs.YthdemdjobgbpdaaW.PrintMore Go.Proofs.Ythdemdjobgbpdaa.P Go.Proofs.Ythdemdjobgbpdaa.M Go.Proofs.Ythdemdjobgbpdaa.B Go.Proofs.Ythdemdjobgbpdaa.T
set_option linter.unusedVariables false
theorem cut3h_mem {l : List S47} {e : S47} (h : e ∈ cut3h l) : e ∈ l := by
  unfold cut3h at h
  split at h
  · exact List.mem_of_mem_take h
  · exact h
theorem tell_ok (l : List S47) (n : Nat) (u : ByteArray) : (tell_f l n u).2.2 = 0 := by
  unfold tell_f
  split
  · split
    · split <;> rfl
    · rfl
  · rfl
theorem Built.less {k : Nat} {L : List S47} {blk iv : Int} {fb : Nat} {a b : ByteArray → Int → Prop} (h : Built k L blk iv fb a) (hab : ∀ u s, b u s → a u s) : Built k L blk iv fb b := by
  obtain ⟨r, h1, h2⟩ := h
  refine ⟨r, h1, h2.imp id (fun ⟨h3, fl, ps, t⟩ => ⟨h3, fl, ps, t.op, t.all, fun u s hus => t.get u s (hab u s hus), t.blk⟩)⟩
end Go.Proofs.Ythdemdjobgbpdaa.Q
namespace Go.Proofs.Ythdemdjobgbpdaa.P
open Go.RowKit Go.Proofs.YthdemdjobgbpdaaW.PrintWords
theorem staddlelaw12_SstableTunes.calls (k : Nat) (A0 : Option Addr) (c0 : Nat) (l0 : List S47) (a1_0 a1_1 : Int) (a1_2 : Nat) (a2_0 a2_1 : Int) (a2_2 : Nat) (a3 : ByteArray) (a4 : Int) (r : Bool) (w : World) (hr0 : Kd.C k47 w A0 l0.length l0) (hc0 : l0.length ≤ c0) (hf : T.Tunes k l0 a1_0 a1_1 a1_2 a2_0 a2_1 a2_2 a3 a4 ∧ true = r) :
    Calls Try.prog 8 #[.slice A0 l0.length c0, .agg #[.int .i64 a1_0, .int .i64 a1_1, .float .f64 a1_2], .agg #[.int .i64 a2_0, .int .i64 a2_1, .float .f64 a2_2], .string a3, .int .u64 a4] w fun e w' => e = .returned (.bool r) ∧ Below w.heap.size w w' := by
  obtain ⟨hf, rfl⟩ := hf
  exact T.tunes_calls k A0 c0 l0 a1_0 a1_1 a1_2 a2_0 a2_1 a2_2 a3 a4 w hr0 hc0 hf
end Go.Proofs.Ythdemdjobgbpdaa.P
