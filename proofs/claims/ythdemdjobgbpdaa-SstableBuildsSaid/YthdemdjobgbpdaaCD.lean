/- The words of the first call: what Build, Open and Get come to at the heads of the statements. The parts of a table: sums, and what is read of them. Plain Lean. What Build lays, of entries that rise: blocks one behind the other, a filter, an index, a foot. Plain Lean. A filter: it is laid, and tells of each of its keys that it may be there. Plain Lean. What Build comes to, whatever it is handed. Plain Lean. What Build comes to: its bytes, or an error. Plain Lean. The first three hundred entries. What Same comes to. -/
import Derived.Test.YthdemdjobgbpdaaCC
import Derived.Test.YthdemdjobgbpdaaCQ
import Derived.Test.YthdemdjobgbpdaaP20
set_option linter.unusedVariables false
set_option linter.unusedSimpArgs false
namespace Go.Proofs.Ythdemdjobgbpdaa.T
open Go.RowKit Go.Shelf Go.Proofs.YthdemdjobgbpdaaW.PrintWords Go.Proofs.YthdemdjobgbpdaaW.PrintLast Go.Proofs.YthdemdjobgbpdaaW.PrintMore Go.Proofs.Ythdemdjobgbpdaa.P Go.Proofs.Ythdemdjobgbpdaa.B Go.Proofs.Ythdemdjobgbpdaa.Q
set_option linter.unusedVariables false
def awA : ByteArray := ⟨#[97]⟩
def awX : ByteArray := ⟨#[120]⟩
def awL : List S47 := [⟨⟨awA, 1, 1⟩, awX⟩]
def awB : List Int := [0, 9, 1, 97, 1, 1, 0, 0, 0, 0, 0, 0, 120, 0, 0, 0, 0, 1, 1, 0, 0, 0, 255, 50, 247, 41, 8, 16, 32, 64, 128, 0, 1, 0, 6, 211, 158, 187, 120, 0, 9, 2, 97, 1, 1, 0, 0, 0, 0, 0, 0, 0, 22, 0, 0, 0, 0, 1, 1, 0, 0, 0, 208, 63, 114, 96, 26, 0, 0, 0, 9, 0, 0, 0, 39, 0, 0, 0, 23, 0, 0, 0, 1, 0, 0, 0, 115, 116, 97, 100, 100, 108, 101, 49]
def awF : List Int := [8, 16, 32, 64, 128, 0, 1, 0, 6]
def awI : List Int := [0, 9, 2, 97, 1, 1, 0, 0, 0, 0, 0, 0, 0, 22, 0, 0, 0, 0, 1, 1, 0, 0, 0]
def awP : List SPl := [⟨⟨awA, 1, 1⟩, 0, 22⟩]
set_option maxRecDepth 100000
theorem aw_tab : tab_f 100 100 awL 1 1 4621819117588971520 = some (awB, 0) := by kernel_rfl
theorem aw_p0 : part_f 100 awB 26 9 = some (awF, true) := by kernel_rfl
theorem aw_p1 : part_f 100 awB 39 23 = some (awI, true) := by kernel_rfl
theorem aw_open : open_g 100 awI = some (some ([⟨⟨awA, 1, 1⟩, ⟨#[0, 22]⟩⟩], 1)) := by kernel_rfl
theorem aw_get1 : get_f 100 awB awF awP (⟨#[97]⟩ : ByteArray) 1 = some ((⟨#[120]⟩ : ByteArray), 2, 0) := by kernel_rfl
theorem aw_get0 : get_f 100 awB awF awP (⟨#[97]⟩ : ByteArray) 0 = some (noText, 0, 0) := by kernel_rfl
theorem run_store_float {P : Program} {w : World} {a : Addr} (k : FloatKind) (b : Nat) {m : _} : (store a (.float k b) m).run P w = stored P w a (.float k b) m := run_store P w a _ m rfl
attribute [local go_sem] run_store_float
def awN : Nat → Int := fun i => ([26, 9, 39, 23, 1] : List Int).getD i 0
theorem aw_ok : OpenOk 100 awB 66 26 9 39 23 awN awF awI [⟨⟨awA, 1, 1⟩, ⟨#[0, 22]⟩⟩] 1 awP where
  len := rfl
  lt := by decide
  magic := by kernel_rfl
  nums := fun i hi => by
    rcases (show i = 0 ∨ i = 1 ∨ i = 2 ∨ i = 3 ∨ i = 4 by omega) with rfl | rfl | rfl | rfl | rfl
    · exact ⟨0, by kernel_rfl⟩
    · exact ⟨0, by kernel_rfl⟩
    · exact ⟨0, by kernel_rfl⟩
    · exact ⟨0, by kernel_rfl⟩
    · exact ⟨0, by kernel_rfl⟩
  e0 := rfl
  e1 := rfl
  e2 := rfl
  e3 := rfl
  s2 := rfl
  s4 := rfl
  p0 := aw_p0
  p1 := aw_p1
  op := aw_open
  ne := by simp
  il := by decide
  x5 := ⟨by decide, by kernel_rfl⟩
  pl := .cons (kk := 1) (m := 1) (size := 22) (a1 := [0]) (by kernel_rfl) (by decide) (by kernel_rfl) (by kernel_rfl) (by kernel_rfl) (by kernel_rfl) (by kernel_rfl) (by decide) (by decide) (.nil 26)
theorem aw_openc (A : Option Addr) (c : Nat) (w : World) (hC : Kd.C (Kd.int .u8) w A awB.length awB) (hc : awB.length ≤ c) :
    Calls Try.prog 13 #[.slice A 94 c] w fun en w' => ∃ g, en = .returned (.tuple #[.pointer (some ⟨g, 0, none⟩), .int .i64 0]) ∧ w.heap.size ≤ g ∧ IsTab w' g awB awF awP (awN 4) ∧ Below w.heap.size w w' :=
  open_calls 100 A c awB 66 26 9 39 23 awN awF awI _ 1 awP w hC hc aw_ok
set_option maxHeartbeats 4000000 in
/-- the calls at the head of every statement -/
theorem awake_calls (w : World) : Calls Try.prog 9 #[] w fun e w' => e = .returned (.bool true) ∧ Below w.heap.size w w' := by
  go_enter Try.func9, Try.ntmps9
  go_upto_region 2 with (first
    | ((with_reducible refine gate_dst (N := 1) rfl ?_); refine box_event ?hg (N := 1) ?hd (cs := #[.int .i64 0, .int .i64 0, .float .f64 0]) (t := 26) ?hr ?_; (case hd => rfl); (case hg => rfl); (case hr => first | (go_simp; done) | (go_simp; rfl)); intro gb hg w2 hbox hb
       have BK := Aside0.mk hbox
       have HB2 := Aside0.mk hb
       have HGB : Aside0 (w.heap.size ≤ gb) := ⟨by rw [hg]; exact Nat.le_refl _⟩
       clear hb hbox hg
       have hcz0 : w2.cell? ⟨gb, 0, none⟩ = some (.int .i64 0) := (blk_cell BK.out 0).trans rfl
       have hcz1 : w2.cell? ⟨gb, 1, none⟩ = some (.int .i64 0) := (blk_cell BK.out 1).trans rfl
       have hcz2 : w2.cell? ⟨gb, 2, none⟩ = some (.float .f64 0) := (blk_cell BK.out 2).trans rfl
       have hfz0 := blk_frozen BK.out 0
       have hfz1 := blk_frozen BK.out 1
       have hfz2 := blk_frozen BK.out 2))
  obtain ⟨w3, hw3⟩ : ∃ y, ((w2.setCell ⟨gb, 0, none⟩ (.int .i64 1)).setCell ⟨gb, 1, none⟩ (.int .i64 1)).setCell ⟨gb, 2, none⟩ (.float .f64 4621819117588971520) = y := ⟨_, rfl⟩
  have BK3 : Aside0 (w3.heap[gb]? = some (.cells #[.int .i64 1, .int .i64 1, .float .f64 4621819117588971520] 26 (0, 0))) := ⟨by
    rw [← hw3]
    exact blk_put (cs := #[.int .i64 1, .int .i64 1, .float .f64 0]) (blk_put (cs := #[.int .i64 1, .int .i64 0, .float .f64 0]) (blk_put (cs := #[.int .i64 0, .int .i64 0, .float .f64 0]) BK.out 0 _ rfl) 1 _ rfl) 2 _ rfl⟩
  have HB3 : Aside0 (Below w.heap.size w w3) := ⟨by rw [← hw3]; exact below_set (below_set (below_set HB2.out HGB.out) HGB.out) HGB.out⟩
  rw [hw3]
  clear hw3 hcz0 hcz1 hcz2 hfz0 hfz1 hfz2 BK HB2
  have hln : awB.length = 94 := rfl
  have hln2 : ((awB.length : Int) != 94) = false := rfl
  have hpl : awP.length = 1 := rfl
  go_wp2_with (first
    | ((with_reducible refine gate_dst (N := 16) rfl ?_); refine Kd.R_lit k47 _ 47 ?hg (N := 16) ?hd (xs := awL) (inner := [.string (⟨#[97]⟩ : ByteArray), .int .u64 1, .int .i64 1, .string (⟨#[120]⟩ : ByteArray)]) (ok := fun _ => True) (okp := fun _ => True) ?hr ?hp (fun _ hk => hk) trivial (Below.refl _ _) (Nat.le_refl _) (by decide) ?_; (case hd => rfl); (case hg => rfl); (case hr => first | (go_simp; done) | (go_simp; rfl)); (case hp => exact Reps.c4 (k47_mkM _ _ _ ⟨⟨(⟨#[97]⟩ : ByteArray), 1, 1⟩, (⟨#[120]⟩ : ByteArray)⟩) (Reps.none _ _))
       intro v4 w4 ho hb hg hat
       have BK4 := blk_below BK3.out hb
       have HB4 := Aside0.mk (below_step HB3.out hb)
       obtain ⟨A4, c4, e4⟩ := Kd.R_slice ho
       subst e4
       have HO4 := Aside0.mk ho
       have hcl0 : w4.cell? ⟨gb, 0, none⟩ = some (.int .i64 1) := (blk_cell BK4 0).trans rfl
       have hcl1 : w4.cell? ⟨gb, 1, none⟩ = some (.int .i64 1) := (blk_cell BK4 1).trans rfl
       have hcl2 : w4.cell? ⟨gb, 2, none⟩ = some (.float .f64 4621819117588971520) := (blk_cell BK4 2).trans rfl
       clear ho hb hg hat BK4)
    | (go_at_call 10; with_reducible refine (tab_calls 100 100 A4 c4 awL 1 1 4621819117588971520 (awB, 0) _ (Kd.R_reads' HO4.out).2.2 (Kd.R_reads' HO4.out).2.1 aw_tab).mono ?_; rintro ex w5 ⟨v5, rfl, hob, hb⟩
       have HB5 := Aside0.mk (below_step HB4.out hb)
       obtain ⟨A5, c5, e5⟩ := Kd.R_slice hob
       subst e5
       have HO5 := Aside0.mk hob
       clear hob hb hcl0 hcl1 hcl2)
    | (go_at_call 13; with_reducible refine (aw_openc A5 c5 _ (Kd.R_reads' HO5.out).2.2 (Kd.R_reads' HO5.out).2.1).mono ?_; rintro ex w6 ⟨gt, rfl, hge, htab, hb⟩
       have HB6 := Aside0.mk (below_step HB5.out hb)
       have HT6 := Aside0.mk htab
       clear hb htab hge)
    | (go_at_call 16; with_reducible refine (get_calls 100 gt awB awF awP (awN 4) (⟨#[97]⟩ : ByteArray) 1 ((⟨#[120]⟩ : ByteArray), 2, 0) _ HT6.out aw_get1).mono ?_; rintro ex w7 ⟨rfl, hb⟩
       have HB7 := Aside0.mk (below_step HB6.out hb)
       have HT7 := Aside0.mk (HT6.out.below hb)
       clear hb)
    | (go_at_call 16; with_reducible refine (get_calls 100 gt awB awF awP (awN 4) (⟨#[97]⟩ : ByteArray) 0 (noText, 0, 0) _ HT7.out aw_get0).mono ?_; rintro ex w8 ⟨rfl, hb⟩
       have HB8 := Aside0.mk (below_step HB7.out hb)
       have HT8 := Aside0.mk (HT7.out.below hb)
       clear hb)
    | (go_at_call 15; with_reducible refine (blocks_calls gt awB awF awP (awN 4) _ HT8.out).mono ?_; rintro ex w9 ⟨rfl, hww⟩; obtain rfl := hww.symm))
  go_ret
  exact ⟨rfl, HB8.out⟩
end Go.Proofs.Ythdemdjobgbpdaa.T
namespace Go.Proofs.Ythdemdjobgbpdaa.T
open Go.RowKit Go.Proofs.YthdemdjobgbpdaaW.PrintWords Go.Proofs.YthdemdjobgbpdaaW.PrintLast Go.Proofs.YthdemdjobgbpdaaW.PrintMore Go.Proofs.Ythdemdjobgbpdaa.P
set_option linter.unusedVariables false
set_option maxRecDepth 100000 in
set_option maxHeartbeats 1000000 in
theorem all_nil (w : World) : Calls Try.prog 14 #[.pointer none] w fun e w' => e = .returned (.tuple #[.slice none 0 0, .int .i64 1]) ∧ w' = w := by
  go_enter Try.func14, Try.ntmps14
  go_wp2
  go_ret2
  exact ⟨rfl, rfl⟩
set_option maxRecDepth 100000 in
set_option maxHeartbeats 4000000 in
theorem nil_calls (user : ByteArray) (seq : Int) (w : World) : Calls Try.prog 7 #[.string user, .int .u64 seq] w fun e w' => e = .returned (.bool true) ∧ Below w.heap.size w w' := by
  have hnt : noText.toList.isEmpty = true := by unfold noText; rw [ByteArray.toList_eq]; rfl
  go_enter Try.func7, Try.ntmps7
  go_wp2_with (first
    | (go_at_call 9; with_reducible refine (awake_calls _).mono ?_; rintro e w2 ⟨rfl, hb⟩; have HB := Aside0.mk hb; clear hb)
    | (go_at_call 14; with_reducible refine (all_nil _).mono ?_; rintro e w3 ⟨rfl, hww⟩; obtain rfl := hww.symm)
    | (go_at_call 16; with_reducible refine (get_nil user seq _).mono ?_; rintro e w3 ⟨rfl, hww⟩; obtain rfl := hww.symm)
    | (go_at_call 15; with_reducible refine (blocks_nil _).mono ?_; rintro e w3 ⟨rfl, hww⟩; obtain rfl := hww.symm))
  go_ret
  exact ⟨rfl, HB.out⟩
end Go.Proofs.Ythdemdjobgbpdaa.T
namespace Go.Proofs.Ythdemdjobgbpdaa.P
open Go.RowKit
theorem staddlelaw12_SstableNil.calls (a0 : ByteArray) (a1 : Int) (r : Bool) (w : World) (hf : true = r) : Calls Try.prog 7 #[.string a0, .int .u64 a1] w fun e w' => e = .returned (.bool r) ∧ Below w.heap.size w w' := by
  subst hf
  exact T.nil_calls a0 a1 w
end Go.Proofs.Ythdemdjobgbpdaa.P
namespace Go.Proofs.Ythdemdjobgbpdaa.Q
open Go.RowKit Go.Proofs.YthdemdjobgbpdaaW.PrintWords Go.Proofs.YthdemdjobgbpdaaW.PrintLast Go.Proofs.YthdemdjobgbpdaaW.PrintMore Go.Proofs.Ythdemdjobgbpdaa.P Go.Proofs.Ythdemdjobgbpdaa.M Go.Proofs.Ythdemdjobgbpdaa.B Go.Proofs.Ythdemdjobgbpdaa.T
set_option linter.unusedVariables false
/-! ### A block that is laid is opened -/
/-! ### Sums -/
def sm (b : List Int) : List Int := fx 4 (mask (crc b)).toNat
theorem sm_length (b : List Int) : (sm b).length = 4 := fx_length _ _
theorem mask_nat (n : Int) : ((mask n).toNat : Int) = mask n := Int.toNat_of_nonneg (mask_range n).1
theorem mask_w (n : Int) : IntKind.u64.wrap (mask n) = mask n := wU64 (mask_range n).1 (by have := (mask_range n).2; omega)
theorem Summed_ev (out b : List Int) (hb : IsB b) (hl : out.length + b.length < 1000000000000) : Ev (fun k => sstable_summed.f k out b) (out ++ (b ++ sm b)) := by
  have hp := PutFixed_ev (mask (crc b)).toNat 4 (out ++ b) (by decide) (by rw [List.length_append]; omega)
  rw [mask_nat, List.append_assoc] at hp
  obtain ⟨K, hK⟩ := hp
  refine ⟨K, fun k hk => ?_⟩
  show (if out.length + b.length < 140737488355328 then ((codec_Crc.f b).bind fun t185 => ((codec_Mask.f t185).bind fun t186 => ((codec_PutFixed.f k (out ++ b) (IntKind.u64.wrap (t186)) 4).bind fun t187 => (some t187)))) else (none)) = _
  rw [if_pos (by omega), Crc_eq b hb, Option.bind_some, Mask_eq _ (crc_range b).1 (crc_range b).2, Option.bind_some, mask_w]
  have := hK k hk
  simp only [Int.cast_ofNat_Int] at this
  rw [this]
  rfl
end Go.Proofs.Ythdemdjobgbpdaa.Q
namespace Go.Proofs.Ythdemdjobgbpdaa.Q
open Go.RowKit Go.Proofs.YthdemdjobgbpdaaW.PrintWords Go.Proofs.YthdemdjobgbpdaaW.PrintLast Go.Proofs.YthdemdjobgbpdaaW.PrintMore Go.Proofs.Ythdemdjobgbpdaa.P Go.Proofs.Ythdemdjobgbpdaa.M Go.Proofs.Ythdemdjobgbpdaa.B Go.Proofs.Ythdemdjobgbpdaa.T
set_option linter.unusedVariables false
/-! ### Stretches of entries that rise -/
theorem ck_head {p : Option S47} {e : S47} {t : List S47} (h : ck p (e :: t) = 0) : ck none (e :: t) = 0 := by
  obtain ⟨h1, h2⟩ := ck_cons h
  obtain ⟨a, b, _⟩ := ckAt_zero h1
  have h3 : ckAt none e = 0 := by
    unfold ckAt
    rw [if_pos a, if_neg (by omega)]
  rw [ck, if_pos h3]
  exact h2
theorem ck_none : ∀ {l : List S47} {p : Option S47}, ck p l = 0 → ck none l = 0
  | [], _, _ => rfl
  | e :: t, p, h => ck_head h
theorem ck_drop : ∀ (n : Nat) (l : List S47) (p : Option S47), ck p l = 0 → ck none (l.drop n) = 0
  | 0, l, p, h => ck_none h
  | n + 1, [], p, h => rfl
  | n + 1, e :: t, p, h => ck_drop n t _ (ck_cons h).2
theorem ck_take : ∀ (n : Nat) (l : List S47) (p : Option S47), ck p l = 0 → ck p (l.take n) = 0
  | 0, l, p, h => rfl
  | n + 1, [], p, h => rfl
  | n + 1, e :: t, p, h => by
    obtain ⟨h1, h2⟩ := ck_cons h
    rw [List.take_succ_cons, ck, if_pos h1]
    exact ck_take n t _ h2
theorem ck_seg {l : List S47} (h : ck none l = 0) (lo hi : Nat) : ck none ((l.take hi).drop lo) = 0 := ck_drop lo _ none (ck_take hi l none h)
def lastK (s : List S47) : S45 := (rd_T47 s ((s.length : Int) - 1)).f0
def cutOf (iv : Nat) (s : List S47) : S45 × List Int := (lastK s, lay iv s)
theorem rd_seg (l : List S47) (lo hi : Nat) (h1 : lo < hi) (h2 : hi ≤ l.length) : (rd_T47 l ((hi - 1 : Nat) : Int)).f0 = lastK ((l.take hi).drop lo) := by
  have hl : ((l.take hi).drop lo).length = hi - lo := by simp; omega
  unfold lastK
  rw [hl]
  have e : (((hi - lo : Nat) : Int) - 1).toNat = hi - lo - 1 := by omega
  have e2 : ((hi - 1 : Nat) : Int).toNat = hi - 1 := by omega
  simp only [rd_T47, e, e2, List.getD_eq_getElem?_getD, List.getElem?_drop, List.getElem?_take]
  rw [if_pos (by omega), show lo + (hi - lo - 1) = hi - 1 by omega]
/-! ### Blocks behind each other, and their index -/
def outOf (bs : List (List Int)) : List Int := (bs.map fun b => b ++ sm b).flatten
def idxOf : Nat → List (S45 × List Int) → List S47
  | _, [] => []
  | at_, x :: t => ⟨x.1, strOfNums (uv at_ ++ uv x.2.length)⟩ :: idxOf (at_ + x.2.length + 4) t
theorem idxOf_length : ∀ (cs : List (S45 × List Int)) (n : Nat), (idxOf n cs).length = cs.length
  | [], _ => rfl
  | x :: t, n => by rw [idxOf, List.length_cons, idxOf_length t, List.length_cons]
theorem Putu_w (n : Nat) (l : List Int) (hn : n < 18446744073709551616) (hl : l.length + 10 < 140737488355328) : Ev (fun k => codec_PutUvarint.f k l (IntKind.u64.wrap (n : Int))) (l ++ uv n) := by
  rw [wU64 (by omega) (by omega)]
  exact PutUvarint_ev n l hn hl
theorem Putf_w (n : Nat) (l : List Int) (hn : n < 18446744073709551616) (hl : l.length + 8 < 140737488355328) : Ev (fun k => codec_PutFixed.f k l (IntKind.u64.wrap (n : Int)) 4) (l ++ fx 4 n) := by
  rw [wU64 (by omega) (by omega)]
  exact PutFixed_ev n 4 l (by decide) hl
theorem step_ev : ∀ (cs : List (S45 × List Int)) (out : List Int) (idx : List S47), (∀ x ∈ cs, IsB x.2 ∧ x.2.length ≤ 2000000) → idx.length + cs.length ≤ 1000 → out.length + cs.length * 2000004 < 1000000000 →
    Ev (fun k => tab_step k cs out idx) (out ++ outOf (cs.map (·.2)), idx ++ idxOf out.length cs)
  | [], out, idx, _, _, _ => by
    simp only [tab_step, List.map_nil, outOf, List.flatten_nil, List.append_nil, idxOf]
    exact Ev.now _
  | x :: t, out, idx, hx, hi, ho => by
    obtain ⟨hb, hbl⟩ := hx x List.mem_cons_self
    rw [List.length_cons] at hi ho
    have hu := uv_len64 (n := out.length) (by omega)
    simp only [tab_step]
    refine Ev.ifT (by omega) (Ev.bind (Putu_w out.length [] (by omega) (by simp)) (Ev.bind (Putu_w x.2.length _ (by omega) (by rw [List.nil_append]; omega)) (Ev.bind (Summed_ev out x.2 hb (by omega)) ?_)))
    have ih := step_ev t (out ++ (x.2 ++ sm x.2)) (idx ++ [⟨x.1, strOfNums ([] ++ uv out.length ++ uv x.2.length)⟩]) (fun y hy => hx y (List.mem_cons_of_mem _ hy)) (by rw [List.length_append, List.length_singleton]; omega) (by simp only [List.length_append, sm_length]; omega)
    have hln : (out ++ (x.2 ++ sm x.2)).length = out.length + x.2.length + 4 := by simp only [List.length_append, sm_length]; omega
    rw [hln] at ih
    simp only [outOf, List.map_cons, List.flatten_cons, idxOf, List.nil_append] at ih ⊢
    rw [List.append_assoc, List.append_assoc] at ih
    simpa only [List.append_assoc, List.singleton_append] using ih
theorem parts_ev (fl x out : List Int) (hf : IsB fl) (hx : IsB x) (hl : out.length + fl.length + x.length < 1000000000) :
    Ev (fun k => tab_parts k [fl, x] out []) (out ++ ((fl ++ sm fl) ++ (x ++ sm x)), fx 4 out.length ++ (fx 4 fl.length ++ (fx 4 (out.length + fl.length + 4) ++ fx 4 x.length))) := by
  simp only [tab_parts]
  have hln : (out ++ (fl ++ sm fl)).length = out.length + fl.length + 4 := by simp only [List.length_append, sm_length]; omega
  refine Ev.bind (Putf_w out.length [] (by omega) (by simp)) (Ev.bind (Putf_w fl.length _ (by omega) (by simp [fx_length])) (Ev.bind (Summed_ev out fl hf (by omega)) ?_))
  refine Ev.bind (Putf_w _ _ (by omega) (by simp [fx_length])) (Ev.bind (Putf_w x.length _ (by omega) (by simp [fx_length])) (Ev.bind (Summed_ev _ x hx (by omega)) ?_))
  rw [hln]
  simp only [List.nil_append, List.append_assoc]
  exact Ev.now _
end Go.Proofs.Ythdemdjobgbpdaa.Q
namespace Go.Proofs.Ythdemdjobgbpdaa.Q
open Go.RowKit Go.Proofs.YthdemdjobgbpdaaW.PrintWords Go.Proofs.YthdemdjobgbpdaaW.PrintLast Go.Proofs.YthdemdjobgbpdaaW.PrintMore Go.Proofs.Ythdemdjobgbpdaa.P Go.Proofs.Ythdemdjobgbpdaa.M Go.Proofs.Ythdemdjobgbpdaa.B Go.Proofs.Ythdemdjobgbpdaa.T
set_option linter.unusedVariables false
theorem Ev.one {α : Type} {g : Nat → Option α} {a b : α} (h : Ev g a) (k : Ev g b) : a = b := by
  obtain ⟨K, hK⟩ := h
  obtain ⟨J, hJ⟩ := k
  have h1 := hK (max K J) (Nat.le_max_left ..)
  rw [hJ (max K J) (Nat.le_max_right ..)] at h1
  exact (Option.some.inj h1).symm
/-! ### Hash -/
theorem xor32_pos (x y : Int) : 0 ≤ Go.bits .xor .u32 x y := by rw [bits_xor32]; omega
theorem hash_l0 : ∀ (n : Nat) (l : List Int) (x : Int), l.length = n → IsB l → 0 ≤ x → ∃ h, 0 ≤ h ∧ Ev (fun k => bloom_Hash.l0 k l x) h := by
  intro n
  induction n using Nat.strongRecOn with
  | _ n ih =>
    intro l x hn hb hx
    by_cases h4 : 4 ≤ l.length
    · have hf := Fixed_ev l hb 4 (by decide) (by decide)
      rw [if_neg (by omega)] at hf
      obtain ⟨h, h0, he⟩ := ih (l.drop 4).length (by rw [List.length_drop]; omega) (l.drop 4) (Go.bits .xor .u32 ((((x + (((fxd (l.take 4) : Nat) : Int) % 4294967296)) % 4294967296) * 3332679571) % 4294967296) (((((x + (((fxd (l.take 4) : Nat) : Int) % 4294967296)) % 4294967296) * 3332679571) % 4294967296) / 65536)) rfl (hb.drop 4) (xor32_pos _ _)
      refine ⟨h, h0, Ev.step (f := fun k => if (l.length : Int) ≥ 4 then ((codec_Fixed.f k l 4).bind fun bt105 => (if 4 ≤ (l.length : Int) then (bloom_Hash.l0 k (l.drop 4) (Go.bits .xor .u32 ((((x + ((bt105.1) % 4294967296)) % 4294967296) * 3332679571) % 4294967296) (((((x + ((bt105.1) % 4294967296)) % 4294967296) * 3332679571) % 4294967296) / 65536))) else (none))) else (if (l.length : Int) > 0 then ((codec_Fixed.f k l (l.length : Int)).bind fun bt112 => (some (Go.bits .xor .u32 ((((x + ((bt112.1) % 4294967296)) % 4294967296) * 3332679571) % 4294967296) (((((x + ((bt112.1) % 4294967296)) % 4294967296) * 3332679571) % 4294967296) / 16777216)))) else (some x))) (fun k => rfl) ?_⟩
      exact Ev.ifT (by omega) (Ev.bind hf (Ev.ifT (by omega) he))
    · by_cases h0 : 0 < l.length
      · have hf := Fixed_ev l hb l.length (by omega) (by omega)
        rw [if_neg (by omega)] at hf
        refine ⟨Go.bits .xor .u32 ((((x + (((fxd (l.take l.length) : Nat) : Int) % 4294967296)) % 4294967296) * 3332679571) % 4294967296) (((((x + (((fxd (l.take l.length) : Nat) : Int) % 4294967296)) % 4294967296) * 3332679571) % 4294967296) / 16777216), xor32_pos _ _, Ev.step (f := fun k => if (l.length : Int) ≥ 4 then ((codec_Fixed.f k l 4).bind fun bt105 => (if 4 ≤ (l.length : Int) then (bloom_Hash.l0 k (l.drop 4) (Go.bits .xor .u32 ((((x + ((bt105.1) % 4294967296)) % 4294967296) * 3332679571) % 4294967296) (((((x + ((bt105.1) % 4294967296)) % 4294967296) * 3332679571) % 4294967296) / 65536))) else (none))) else (if (l.length : Int) > 0 then ((codec_Fixed.f k l (l.length : Int)).bind fun bt112 => (some (Go.bits .xor .u32 ((((x + ((bt112.1) % 4294967296)) % 4294967296) * 3332679571) % 4294967296) (((((x + ((bt112.1) % 4294967296)) % 4294967296) * 3332679571) % 4294967296) / 16777216)))) else (some x))) (fun k => rfl) ?_⟩
        exact Ev.ifF (by omega) (Ev.ifT (by omega) (Ev.bind hf (Ev.now _)))
      · refine ⟨x, hx, Ev.step (f := fun k => if (l.length : Int) ≥ 4 then ((codec_Fixed.f k l 4).bind fun bt105 => (if 4 ≤ (l.length : Int) then (bloom_Hash.l0 k (l.drop 4) (Go.bits .xor .u32 ((((x + ((bt105.1) % 4294967296)) % 4294967296) * 3332679571) % 4294967296) (((((x + ((bt105.1) % 4294967296)) % 4294967296) * 3332679571) % 4294967296) / 65536))) else (none))) else (if (l.length : Int) > 0 then ((codec_Fixed.f k l (l.length : Int)).bind fun bt112 => (some (Go.bits .xor .u32 ((((x + ((bt112.1) % 4294967296)) % 4294967296) * 3332679571) % 4294967296) (((((x + ((bt112.1) % 4294967296)) % 4294967296) * 3332679571) % 4294967296) / 16777216)))) else (some x))) (fun k => rfl) ?_⟩
        exact Ev.ifF (by omega) (Ev.ifF (by omega) (Ev.now _))
theorem hash_ev (s : ByteArray) (hs : s.size ≤ 9223372036854775807) : ∃ h, 0 ≤ h ∧ Ev (fun k => bloom_Hash.f k s) h := by
  obtain ⟨h, h0, he⟩ := hash_l0 _ (bytesOf s) (Go.bits .xor .u32 3164544308 (((((s.size : Int)) % 4294967296) * 3332679571) % 4294967296)) rfl (IsB.bytesOf s) (xor32_pos _ _)
  refine ⟨h, h0, ?_⟩
  simp only [bloom_Hash.f]
  exact Ev.ifT hs he
/-! ### Bits -/
theorem or_tab : ((List.range 256).all fun a => (List.range 8).all fun i => decide (0 ≤ Go.bits .or .u8 ((a : Nat) : Int) (2 ^ i % 256)) && decide (Go.bits .or .u8 ((a : Nat) : Int) (2 ^ i % 256) < 256) && (List.range 8).all fun j => (Go.bits .and .u8 (Go.bits .or .u8 ((a : Nat) : Int) (2 ^ i % 256) / 2 ^ j) 1 == 0) == (if i = j then false else (Go.bits .and .u8 (((a : Nat) : Int) / 2 ^ j) 1 == 0))) = true := by kernel_rfl
theorem or_of (a : Int) (i j : Nat) (h0 : 0 ≤ a) (h1 : a < 256) (hi : i < 8) (hj : j < 8) : (0 ≤ Go.bits .or .u8 a (2 ^ i % 256) ∧ Go.bits .or .u8 a (2 ^ i % 256) < 256) ∧ (Go.bits .and .u8 (Go.bits .or .u8 a (2 ^ i % 256) / 2 ^ j) 1 == 0) = (if i = j then false else (Go.bits .and .u8 (a / 2 ^ j) 1 == 0)) := by
  obtain ⟨n, rfl⟩ := Int.eq_ofNat_of_zero_le h0
  have h := List.all_eq_true.mp or_tab n (List.mem_range.mpr (by omega))
  have h2 := List.all_eq_true.mp h i (List.mem_range.mpr hi)
  rw [Bool.and_eq_true, Bool.and_eq_true] at h2
  have h3 := List.all_eq_true.mp h2.2 j (List.mem_range.mpr hj)
  exact ⟨⟨of_decide_eq_true h2.1.1, of_decide_eq_true h2.1.2⟩, beq_iff_eq.mp h3⟩
theorem rd_set (L : List Int) (n : Nat) (v : Int) (q : Int) (hq : 0 ≤ q) (hn : n < L.length) : rd (L.set n v) q = if q.toNat = n then v else rd L q := by
  simp only [rd, List.getD_eq_getElem?_getD, List.getElem?_set]
  by_cases e : n = q.toNat
  · rw [if_pos e, if_pos e.symm, if_pos (by omega)]
    rfl
  · rw [if_neg e, if_neg (fun h => e h.symm)]
theorem rd_in {L : List Int} (hb : IsB L) (q : Int) : 0 ≤ rd L q ∧ rd L q < 256 := by
  simp only [rd, List.getD_eq_getElem?_getD]
  cases h : L[q.toNat]? with
  | none => simp
  | some x => exact hb x (List.mem_of_getElem? h)
theorem setBit_bset (L : List Int) (x y : Int) (hb : IsB L) (hx0 : 0 ≤ x) (hx : x < 8 * (L.length : Int)) (hy0 : 0 ≤ y) : bset (setBit L x) y = (decide (x = y) || bset L y) := by
  have hq : (x / 8).toNat < L.length := by omega
  have hro : rdOf 0 L (x / 8) = rd L (x / 8) := rfl
  obtain ⟨r0, r1⟩ := rd_in hb (x / 8)
  unfold bset setBit
  rw [hro, rd_set _ _ _ _ (by omega) hq]
  by_cases e : (y / 8).toNat = (x / 8).toNat
  · rw [if_pos e]
    have h8 : y / 8 = x / 8 := by omega
    have := (or_of (rd L (x / 8)) (x % 8).toNat (y % 8).toNat r0 r1 (by omega) (by omega)).2
    rw [this, h8]
    by_cases e2 : (x % 8).toNat = (y % 8).toNat
    · have hxy : x = y := by omega
      rw [if_pos e2]
      simp [hxy]
    · have hxy : x ≠ y := fun h => e2 (by rw [h])
      rw [if_neg e2]
      simp [hxy]
  · rw [if_neg e]
    have hxy : x ≠ y := fun h => e (by rw [h])
    simp [hxy]
theorem setBit_IsB (L : List Int) (x : Int) (hb : IsB L) : IsB (setBit L x) := by
  intro v hv
  unfold setBit at hv
  rcases List.mem_or_eq_of_mem_set hv with h | rfl
  · exact hb v h
  · have hro : rdOf 0 L (x / 8) = rd L (x / 8) := rfl
    obtain ⟨r0, r1⟩ := rd_in hb (x / 8)
    rw [hro]
    exact (or_of (rd L (x / 8)) (x % 8).toNat 0 r0 r1 (by omega) (by decide)).1
theorem setBits_all (h all : Int) : ∀ (pre : List Nat) (L : List Int), IsB L → all ≤ 8 * (L.length : Int) → (∀ i, 0 ≤ bitAt h all i ∧ bitAt h all i < all) → IsB (setBits h all pre L) ∧ (∀ y, 0 ≤ y → bset L y = true → bset (setBits h all pre L) y = true) ∧ ∀ i ∈ pre, bset (setBits h all pre L) (bitAt h all i) = true
  | [], L, hb, _, _ => ⟨hb, fun _ _ h => h, fun i hi => by cases hi⟩
  | a :: t, L, hb, hl, hin => by
    have hlen : (setBit L (bitAt h all a)).length = L.length := by unfold setBit; rw [List.length_set]
    obtain ⟨i1, i2, i3⟩ := setBits_all h all t (setBit L (bitAt h all a)) (setBit_IsB L _ hb) (by rw [hlen]; exact hl) hin
    have hs : ∀ y, 0 ≤ y → bset (setBit L (bitAt h all a)) y = (decide (bitAt h all a = y) || bset L y) := fun y hy => setBit_bset L _ y hb (hin a).1 (by have := (hin a).2; omega) hy
    refine ⟨i1, fun y hy hby => i2 y hy (by rw [hs y hy, hby, Bool.or_true]), fun i hi => ?_⟩
    rcases List.mem_cons.1 hi with rfl | hi
    · exact i2 _ (hin i).1 (by rw [hs _ (hin i).1]; simp)
    · exact i3 i hi
theorem rows_ev (n pr : Nat) (hn : 0 < n) : ∀ (keys : List ByteArray) (L : List Int), IsB L → L.length = n → (∀ s ∈ keys, s.size ≤ 9223372036854775807) →
    ∃ L', Ev (fun k => rowsB k (8 * (n : Int)) pr keys L) L' ∧ IsB L' ∧ L'.length = n ∧ (∀ y, 0 ≤ y → bset L y = true → bset L' y = true) ∧ ∀ s ∈ keys, ∀ h, Ev (fun k => bloom_Hash.f k s) h → ∀ i, i < pr → bset L' (bitAt h (8 * (n : Int)) i) = true
  | [], L, hb, hl, _ => ⟨L, by simp only [rowsB]; exact Ev.now _, hb, hl, fun _ _ h => h, fun s hs => by cases hs⟩
  | s :: t, L, hb, hl, hk => by
    obtain ⟨h, h0, he⟩ := hash_ev s (hk s List.mem_cons_self)
    obtain ⟨j1, j2, j3⟩ := setBits_all h (8 * (n : Int)) (List.range pr) L hb (by rw [hl]; omega) (fun i => bitAt_in h0 (by omega) i)
    obtain ⟨L', e1, e2, e3, e4, e5⟩ := rows_ev n pr hn t (setBits h (8 * (n : Int)) (List.range pr) L) j1 (by rw [setBits_len, hl]) (fun s hs => hk s (List.mem_cons_of_mem _ hs))
    refine ⟨L', ?_, e2, e3, fun y hy hby => e4 y hy (j2 y hy hby), fun x hx g hg i hi => ?_⟩
    · simp only [rowsB]
      exact Ev.bind he (Ev.ifT h0 e1)
    · rcases List.mem_cons.1 hx with rfl | hx
      · obtain rfl := Ev.one hg he
        exact e4 _ (bitAt_in h0 (by omega) i).1 (j3 i (List.mem_range.mpr hi))
      · exact e5 x hx g hg i hi
end Go.Proofs.Ythdemdjobgbpdaa.Q
namespace Go.Proofs.Ythdemdjobgbpdaa.Q
open Go.RowKit Go.Proofs.YthdemdjobgbpdaaW.PrintWords Go.Proofs.YthdemdjobgbpdaaW.PrintLast Go.Proofs.YthdemdjobgbpdaaW.PrintMore Go.Proofs.Ythdemdjobgbpdaa.P Go.Proofs.Ythdemdjobgbpdaa.M Go.Proofs.Ythdemdjobgbpdaa.B Go.Proofs.Ythdemdjobgbpdaa.T
set_option linter.unusedVariables false
/-! ### The filter -/
theorem fInt_of {b c : Nat} {r : Nat} {n : Int} (h1 : floatBits .mul .f64 b c = some r) (h2 : floatToIntVal .f64 r .i64 = some n) : fIntOf b c = some n := by
  unfold fIntOf
  rw [h1, Option.bind_some, h2]
theorem bset_app (L : List Int) (v : Int) (y : Int) (h0 : 0 ≤ y) (h1 : y < 8 * (L.length : Int)) : bset (L ++ [v]) y = bset L y := by
  unfold bset
  have : rd (L ++ [v]) (y / 8) = rd L (y / 8) := by
    simp only [rd, List.getD_eq_getElem?_getD]
    rw [List.getElem?_append_left (by omega)]
  rw [this]
theorem rd_last (L : List Int) (v : Int) : rd (L ++ [v]) (((L ++ [v]).length - 1 : Nat) : Int) = v := by
  simp only [rd, List.getD_eq_getElem?_getD, List.length_append, List.length_singleton, Nat.add_sub_cancel, Int.toNat_natCast]
  rw [List.getElem?_append_right (Nat.le_refl _)]
  simp
/-- a filter that tells of all its keys -/
structure FilterOf (keys : List ByteArray) (fl : List Int) : Prop where
  b : IsB fl
  len : fl.length ≤ 10000
  may : ∀ s ∈ keys, Ev (fun k => may_f k fl s) true
  any : ∀ s : ByteArray, s.size ≤ 9223372036854775807 → ∃ m, Ev (fun k => may_f k fl s) m
theorem bloom_ev (keys : List ByteArray) (fb : Nat) (hk : keys.length ≤ 300) (hs : ∀ s ∈ keys, s.size ≤ 9223372036854775807) :
    (okBits fb = true ∧ ∃ fl, Ev (fun k => bloomB k keys fb) (fl, 0) ∧ FilterOf keys fl) ∨ (okBits fb = false ∧ Ev (fun k => bloomB k keys fb) ([], 100)) := by
  cases ho : okBits fb with
  | false =>
    refine .inr ⟨rfl, ?_⟩
    simp only [bloomB]
    exact Ev.ifF (by rw [ho]; decide) (Ev.now _)
  | true =>
  refine .inl ⟨rfl, ?_⟩
  obtain ⟨r1, p, h1, h2, p0, p1⟩ := f_probes fb ho
  obtain ⟨r2, s, h3, h4, s0, s1⟩ := f_size fb keys.length hk ho
  have e1 := fInt_of h1 h2
  have e2 := fInt_of h3 h4
  obtain ⟨n, hn⟩ : ∃ n : Nat, (max 64 s + 7) / 8 = (n : Int) := Int.eq_ofNat_of_zero_le (by omega)
  have hn0 : 0 < n := by omega
  have hn1 : n ≤ 8193 := by omega
  obtain ⟨L, l1, l2, l3, l4, l5⟩ := rows_ev n (max 1 p).toNat hn0 keys (List.replicate n 0) (fun x hx => by rw [List.eq_of_mem_replicate hx]; decide) List.length_replicate hs
  have hev : Ev (fun k => bloomB k keys fb) (L ++ [max 1 p], 0) := by
    simp only [bloomB, e1, e2, Option.bind_some]
    refine Ev.ifT ho (Ev.ifT hk (Ev.ifT ⟨⟨p0, p1⟩, s0, s1⟩ ?_))
    rw [hn, Int.toNat_natCast]
    obtain ⟨K, hK⟩ := l1
    refine ⟨K, fun j hj => ?_⟩
    have := hK j hj
    simp only [] at this ⊢
    rw [this]
    rfl
  have hlen : (L ++ [max 1 p]).length = n + 1 := by rw [List.length_append, List.length_singleton, l3]
  have hb : IsB (L ++ [max 1 p]) := l2.append (IsB.cons (by omega) (by omega) IsB.nil)
  have hval : ∀ s : ByteArray, s.size ≤ 9223372036854775807 → ∀ h, 0 ≤ h → Ev (fun k => bloom_Hash.f k s) h → Ev (fun k => may_f k (L ++ [max 1 p]) s) (if 30 < max 1 p then true else (List.range (max 1 p).toNat).all fun i => bset (L ++ [max 1 p]) (bitAt h (8 * (n : Int)) i)) := by
    intro s hsz h h0 he
    simp only [may_f, rd_last]
    refine Ev.ifF (by omega) ?_
    by_cases c : 30 < max 1 p
    · rw [if_pos c]
      exact Ev.ifT c (Ev.now _)
    · rw [if_neg c]
      refine Ev.ifF c (Ev.ifT ⟨by omega, by omega⟩ (Ev.bind he (Ev.ifT h0 ?_)))
      rw [hlen, Nat.add_sub_cancel]
      exact Ev.now _
  refine ⟨_, hev, hb, by omega, fun s hsm => ?_, fun s hsz => ?_⟩
  · obtain ⟨h, h0, he⟩ := hash_ev s (hs s hsm)
    have hv := hval s (hs s hsm) h h0 he
    have hall : (if 30 < max 1 p then true else (List.range (max 1 p).toNat).all fun i => bset (L ++ [max 1 p]) (bitAt h (8 * (n : Int)) i)) = true := by
      split
      · rfl
      · rw [List.all_eq_true]
        intro i hi
        obtain ⟨b0, b1⟩ := bitAt_in h0 (show 0 < 8 * (n : Int) by omega) i
        rw [bset_app L _ _ b0 (by rw [l3]; exact b1)]
        exact l5 s hsm h he i (List.mem_range.mp hi)
    rw [hall] at hv
    exact hv
  · obtain ⟨h, h0, he⟩ := hash_ev s hsz
    exact ⟨_, hval s hsz h h0 he⟩
/-! ### Entries that rise -/
theorem ck_lt : ∀ (t : List S47) (e : S47), ck (some e) t = 0 → ∀ x ∈ t, kk e x < 0
  | [], _, _, x, hx => by cases hx
  | y :: t, e, h, x, hx => by
    obtain ⟨h1, h2⟩ := ck_cons h
    have hy := (ckAt_zero h1).2.2 e rfl
    rcases List.mem_cons.1 hx with rfl | hx
    · exact hy
    · exact kq_step (q := x.f0) hy (by have := ck_lt t y h2 x hx; unfold kk at this; unfold kq; omega)
theorem ck_pair : ∀ (l : List S47) (p : Option S47), ck p l = 0 → l.Pairwise fun a b => kk a b < 0
  | [], _, _ => List.Pairwise.nil
  | e :: t, p, h => List.Pairwise.cons (ck_lt t e (ck_cons h).2) (ck_pair t _ (ck_cons h).2)
theorem ck_of : ∀ (l : List S47) (p : Option S47), (∀ e ∈ l, ck1 e = 0 ∧ e.f1.size ≤ 1000) → (l.Pairwise fun a b => kk a b < 0) → (∀ q, p = some q → ∀ e ∈ l, kk q e < 0) → ck p l = 0
  | [], _, _, _, _ => rfl
  | e :: t, p, h, hp, hq => by
    obtain ⟨h1, h2⟩ := h e List.mem_cons_self
    have hpw := List.pairwise_cons.mp hp
    have ha : ckAt p e = 0 := by
      unfold ckAt
      rw [if_pos h1, if_neg (by omega)]
      cases p with
      | none => rfl
      | some q =>
        have := hq q rfl e List.mem_cons_self
        simp only []
        rw [if_neg (by omega)]
    rw [ck, if_pos ha]
    exact ck_of t _ (fun x hx => h x (List.mem_cons_of_mem _ hx)) hpw.2 (fun q hq2 x hx => by cases hq2; exact hpw.1 x hx)
theorem lastK_mem {s : List S47} (h : s ≠ []) : ∃ e ∈ s, lastK s = e.f0 := by
  have hl : 0 < s.length := List.length_pos_iff.mpr h
  refine ⟨s[s.length - 1], List.getElem_mem _, ?_⟩
  unfold lastK
  have e : ((s.length : Int) - 1).toNat = s.length - 1 := by omega
  simp only [rd_T47, e, List.getD_eq_getElem?_getD, List.getElem?_eq_getElem (show s.length - 1 < s.length by omega), Option.getD_some]
theorem strOf_size (l : List Int) : (strOfNums l).size = l.length := by
  simp [strOfNums, ByteArray.size]
/-- segments of entries that rise -/
structure SegOf (l : List S47) (ss : List (List S47)) : Prop where
  fl : ss.flatten = l
  ne : ∀ s ∈ ss, s ≠ []
theorem SegOf.mem {l : List S47} {ss : List (List S47)} (h : SegOf l ss) {s : List S47} (hs : s ∈ ss) {e : S47} (he : e ∈ s) : e ∈ l := by
  rw [← h.fl]
  exact List.mem_flatten.mpr ⟨s, hs, he⟩
theorem SegOf.len {l : List S47} {ss : List (List S47)} (h : SegOf l ss) : ss.length ≤ l.length := by
  rw [← h.fl]
  have : ∀ ss : List (List S47), (∀ s ∈ ss, s ≠ []) → ss.length ≤ ss.flatten.length := by
    intro ss
    induction ss with
    | nil => intro _; exact Nat.zero_le _
    | cons s t ih =>
      intro hn
      have h1 : 0 < s.length := List.length_pos_iff.mpr (hn s List.mem_cons_self)
      have h2 := ih (fun x hx => hn x (List.mem_cons_of_mem _ hx))
      rw [List.flatten_cons, List.length_append, List.length_cons]
      omega
  exact this ss h.ne
theorem SegOf.seg_len {l : List S47} {ss : List (List S47)} (h : SegOf l ss) {s : List S47} (hs : s ∈ ss) : s.length ≤ l.length := by
  rw [← h.fl]
  exact (List.sublist_flatten_of_mem hs).length_le
theorem SegOf.seg_ck {l : List S47} {ss : List (List S47)} (h : SegOf l ss) (hc : ck none l = 0) {s : List S47} (hs : s ∈ ss) : ck none s = 0 := by
  have hp := ck_pair l none hc
  rw [← h.fl] at hp
  exact ck_of s none (fun e he => ck_all hc e (h.mem hs he)) ((List.pairwise_flatten.mp hp).1 s hs) (fun q hq => by cases hq)
theorem idx_keys (iv : Nat) : ∀ (ss : List (List S47)) (n : Nat) (x : S47), x ∈ idxOf n (ss.map (cutOf iv)) → ∃ s ∈ ss, x.f0 = lastK s
  | [], n, x, hx => by cases hx
  | s :: t, n, x, hx => by
    rw [List.map_cons, idxOf] at hx
    rcases List.mem_cons.1 hx with rfl | hx
    · exact ⟨s, List.mem_cons_self, rfl⟩
    · obtain ⟨s', h1, h2⟩ := idx_keys iv t _ x hx
      exact ⟨s', List.mem_cons_of_mem _ h1, h2⟩
theorem idx_vals (iv : Nat) : ∀ (ss : List (List S47)) (n : Nat), n + ss.length * 2000004 < 1000000000 → (∀ s ∈ ss, (lay iv s).length ≤ 2000000) → ∀ x ∈ idxOf n (ss.map (cutOf iv)), x.f1.size ≤ 20
  | [], n, _, _, x, hx => by cases hx
  | s :: t, n, hn, hl, x, hx => by
    rw [List.map_cons, idxOf] at hx
    rw [List.length_cons] at hn
    have h1 := hl s List.mem_cons_self
    rcases List.mem_cons.1 hx with rfl | hx
    · rw [strOf_size, List.length_append]
      have h2 := uv_len64 (n := n) (by omega)
      have h3 := uv_len64 (n := (cutOf iv s).2.length) (by show (lay iv s).length < _; omega)
      omega
    · exact idx_vals iv t _ (by show n + (lay iv s).length + 4 + _ < _; omega) (fun s hs => hl s (List.mem_cons_of_mem _ hs)) x hx
theorem idx_pair (iv : Nat) : ∀ (ss : List (List S47)) (n : Nat), (∀ s ∈ ss, s ≠ []) → (ss.Pairwise fun a b => ∀ x ∈ a, ∀ y ∈ b, kk x y < 0) → (idxOf n (ss.map (cutOf iv))).Pairwise fun a b => kk a b < 0
  | [], n, _, _ => List.Pairwise.nil
  | s :: t, n, hn, hp => by
    rw [List.map_cons, idxOf]
    have hpc := List.pairwise_cons.mp hp
    refine List.Pairwise.cons (fun y hy => ?_) (idx_pair iv t _ (fun s hs => hn s (List.mem_cons_of_mem _ hs)) hpc.2)
    obtain ⟨s', h1, h2⟩ := idx_keys iv t _ y hy
    obtain ⟨a, ha, ea⟩ := lastK_mem (hn s List.mem_cons_self)
    obtain ⟨b, hb, eb⟩ := lastK_mem (hn s' (List.mem_cons_of_mem _ h1))
    have := hpc.1 s' h1 a ha b hb
    unfold kk at this ⊢
    rw [h2, eb]
    show kcmp (lastK s).f0 (lastK s).f1 (lastK s).f2 _ _ _ < 0
    rw [ea]
    exact this
theorem idx_ck (iv : Nat) {l : List S47} {ss : List (List S47)} (h : SegOf l ss) (hc : ck none l = 0) (hn : ss.length * 2000004 < 1000000000) (hl : ∀ s ∈ ss, (lay iv s).length ≤ 2000000) : ck none (idxOf 0 (ss.map (cutOf iv))) = 0 := by
  have hp := ck_pair l none hc
  rw [← h.fl] at hp
  refine ck_of _ none (fun x hx => ⟨?_, Nat.le_trans (idx_vals iv ss 0 (by omega) hl x hx) (by decide)⟩) (idx_pair iv ss 0 h.ne (List.pairwise_flatten.mp hp).2) (fun q hq => by cases hq)
  obtain ⟨s, hs, e1⟩ := idx_keys iv ss 0 x hx
  obtain ⟨a, ha, e2⟩ := lastK_mem (h.ne s hs)
  have := (ck_all hc a (h.mem hs ha)).1
  unfold ck1 at this ⊢
  rw [e1, e2]
  exact this
theorem idx_pos (iv : Nat) {l : List S47} {ss : List (List S47)} (h : SegOf l ss) (hw : ∀ e ∈ l, 0 ≤ e.f0.f1) (n : Nat) : ∀ x ∈ idxOf n (ss.map (cutOf iv)), 0 ≤ x.f0.f1 := by
  intro x hx
  obtain ⟨s, hs, e1⟩ := idx_keys iv ss n x hx
  obtain ⟨a, ha, e2⟩ := lastK_mem (h.ne s hs)
  rw [e1, e2]
  exact hw a (h.mem hs ha)
end Go.Proofs.Ythdemdjobgbpdaa.Q
namespace Go.Proofs.Ythdemdjobgbpdaa.Q
open Go.RowKit Go.Proofs.YthdemdjobgbpdaaW.PrintWords Go.Proofs.YthdemdjobgbpdaaW.PrintLast Go.Proofs.YthdemdjobgbpdaaW.PrintMore Go.Proofs.Ythdemdjobgbpdaa.P Go.Proofs.Ythdemdjobgbpdaa.M Go.Proofs.Ythdemdjobgbpdaa.B Go.Proofs.Ythdemdjobgbpdaa.T
set_option linter.unusedVariables false
def ixB (iv : Nat) (ss : List (List S47)) : List Int := lay 1 (idxOf 0 (ss.map (cutOf iv)))
def outB (iv : Nat) (ss : List (List S47)) : List Int := outOf (ss.map (lay iv))
def footB (o f x n : Nat) : List Int := fx 4 o ++ (fx 4 f ++ (fx 4 (o + f + 4) ++ (fx 4 x ++ (fx 4 n ++ bytesOf tabMagic))))
def tabB (iv : Nat) (ss : List (List S47)) (fl : List Int) (n : Nat) : List Int :=
  outB iv ss ++ ((fl ++ sm fl) ++ ((ixB iv ss ++ sm (ixB iv ss)) ++ footB (outB iv ss).length fl.length (ixB iv ss).length n))
/-- a table's bytes, and what they were made of -/
structure TabOf (l : List S47) (iv : Nat) (ss : List (List S47)) (fl : List Int) : Prop where
  i1 : 1 ≤ iv
  i16 : iv ≤ 16
  ck0 : ck none l = 0
  ne : l ≠ []
  len : l.length ≤ 300
  w : ∀ e ∈ l, 0 ≤ e.f0.f1
  seg : SegOf l ss
  fil : FilterOf (l.map fun x => x.f0.f0) fl
theorem TabOf.lay_len {l : List S47} {iv : Nat} {ss : List (List S47)} {fl : List Int} (h : TabOf l iv ss fl) {s : List S47} (hs : s ∈ ss) : (lay iv s).length ≤ 2000000 :=
  (lay_length iv s (Fit.of (h.seg.seg_ck h.ck0 hs) (fun e he => h.w e (h.seg.mem hs he))) (by have := h.seg.seg_len hs; have := h.len; omega)).2
theorem TabOf.ss_len {l : List S47} {iv : Nat} {ss : List (List S47)} {fl : List Int} (h : TabOf l iv ss fl) : ss.length ≤ 300 := Nat.le_trans h.seg.len h.len
theorem TabOf.ix_ck {l : List S47} {iv : Nat} {ss : List (List S47)} {fl : List Int} (h : TabOf l iv ss fl) : ck none (idxOf 0 (ss.map (cutOf iv))) = 0 := idx_ck iv h.seg h.ck0 (by have := h.ss_len; omega) (fun s hs => h.lay_len hs)
theorem TabOf.ix_w {l : List S47} {iv : Nat} {ss : List (List S47)} {fl : List Int} (h : TabOf l iv ss fl) : ∀ x ∈ idxOf 0 (ss.map (cutOf iv)), 0 ≤ x.f0.f1 := idx_pos iv h.seg h.w 0
theorem TabOf.ix_n {l : List S47} {iv : Nat} {ss : List (List S47)} {fl : List Int} (h : TabOf l iv ss fl) : (idxOf 0 (ss.map (cutOf iv))).length = ss.length := by rw [idxOf_length, List.length_map]
theorem TabOf.ix_len {l : List S47} {iv : Nat} {ss : List (List S47)} {fl : List Int} (h : TabOf l iv ss fl) : (ixB iv ss).length ≤ 2000000 :=
  (lay_length 1 _ (Fit.of h.ix_ck h.ix_w) (by rw [h.ix_n]; have := h.ss_len; omega)).2
theorem outOf_len : ∀ (bs : List (List Int)), (∀ b ∈ bs, b.length ≤ 2000000) → (outOf bs).length ≤ bs.length * 2000004
  | [], _ => by simp [outOf]
  | b :: t, h => by
    have h1 := h b List.mem_cons_self
    have h2 := outOf_len t (fun x hx => h x (List.mem_cons_of_mem _ hx))
    simp only [outOf, List.map_cons, List.flatten_cons, List.length_append, sm_length, List.length_cons] at h2 ⊢
    omega
theorem TabOf.out_len {l : List S47} {iv : Nat} {ss : List (List S47)} {fl : List Int} (h : TabOf l iv ss fl) : (outB iv ss).length ≤ 600001200 := by
  have h1 := outOf_len (ss.map (lay iv)) (fun b hb => by obtain ⟨s, hs, rfl⟩ := List.mem_map.mp hb; exact h.lay_len hs)
  rw [List.length_map] at h1
  have := h.ss_len
  unfold outB
  omega
end Go.Proofs.Ythdemdjobgbpdaa.Q
namespace Go.Proofs.Ythdemdjobgbpdaa.T
open Go.RowKit Go.Proofs.YthdemdjobgbpdaaW.PrintWords Go.Proofs.Ythdemdjobgbpdaa.P
def cut3h (l : List S47) : List S47 := if 300 < l.length then l.take 300 else l
theorem cut3h_len (l : List S47) : (cut3h l).length ≤ 300 := by
  unfold cut3h
  split
  · rw [List.length_take]; omega
  · omega
theorem cut3h_mem {l : List S47} {e : S47} (h : e ∈ cut3h l) : e ∈ l := by
  unfold cut3h at h
  split at h
  · exact List.mem_of_mem_take h
  · exact h
end Go.Proofs.Ythdemdjobgbpdaa.T
namespace Go.Proofs.Ythdemdjobgbpdaa.Q
open Go.RowKit Go.Proofs.YthdemdjobgbpdaaW.PrintWords Go.Proofs.YthdemdjobgbpdaaW.PrintLast Go.Proofs.YthdemdjobgbpdaaW.PrintMore Go.Proofs.Ythdemdjobgbpdaa.P Go.Proofs.Ythdemdjobgbpdaa.M
theorem Same_l0 (l : List S47) (hl : l.length ≤ 1000000) : ∀ (d i : Nat), i + d = l.length → Ev (fun k => staddleref08_Same.l0 k l l (i : Int)) true
  | 0, i, h => Ev.step (fun k => staddleref08_Same.l0.eq_2 (k := k) ..) (Ev.ifF (by omega) (Ev.now _))
  | d + 1, i, h => by
    refine Ev.step (fun k => staddleref08_Same.l0.eq_2 (k := k) ..) (Ev.ifT (by omega) (Ev.ifT (by omega) (Ev.ifT (by omega) (Ev.ifF (by simp) ?_))))
    rw [w64 (by omega) (by omega)]
    exact Same_l0 l hl d (i + 1) (by omega)
theorem Same_ev (l : List S47) (hl : l.length ≤ 1000000) : Ev (fun k => staddleref08_Same.f k l l) true := by
  unfold staddleref08_Same.f
  exact Ev.ifT rfl (Same_l0 l hl l.length 0 (by omega))
end Go.Proofs.Ythdemdjobgbpdaa.Q
