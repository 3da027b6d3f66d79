/- edit's reader: what num and key come to, with all endings. edit's reader: what key comes to, with all endings; the deferred closure. edit's Decode, with all endings. The head 'awake' of edit's statements answers true: its walk. -/
import Derived.Test.YthkkbgehmiobaaaEE
import Derived.Test.YthkkbgehmiobaaaP13
import Derived.Test.YthkkbgehmiobaaaP14
import Derived.Recover
import Derived.Defers
import Derived.Deep.DeepMust
import Derived.Test.YthkkbgehmiobaaaP12
namespace Go.Proofs.Ythkkbgehmiobaaa.E
open Go.RowKit Go.Proofs.YthkkbgehmiobaaaW.PrintWords Go.Proofs.YthkkbgehmiobaaaW.PrintLast Go.Proofs.YthkkbgehmiobaaaW.PrintMore Go.Proofs.Ythkkbgehmiobaaa.P
set_option linter.unusedVariables false
set_option linter.unusedSimpArgs false
/-! ### what stays: all but the reader's cell -/
def Stays (gr : Nat) (a c : World) : Prop := a.heap.size ≤ c.heap.size ∧ ∀ k, k < a.heap.size → k ≠ gr → c.heap[k]? = a.heap[k]?
theorem Stays.refl (gr : Nat) (a : World) : Stays gr a a := ⟨Nat.le_refl _, fun _ _ _ => rfl⟩
theorem Stays.trans {gr : Nat} {a b c : World} (h : Stays gr a b) (h2 : Stays gr b c) : Stays gr a c := ⟨Nat.le_trans h.1 h2.1, fun k h3 h4 => (h2.2 k (Nat.lt_of_lt_of_le h3 h.1) h4).trans (h.2 k h3 h4)⟩
theorem Stays.below {gr : Nat} {a b c : World} (h : Stays gr a b) (hb : Below b.heap.size b c) : Stays gr a c :=
  h.trans ⟨hb.size, fun k h3 _ => hb.block k h3⟩
theorem Stays.put {gr : Nat} {a b : World} (h : Stays gr a b) (u : Value) : Stays gr a (b.setCell ⟨gr, 0, none⟩ u) :=
  h.trans ⟨(Below.setCell (p := ⟨gr, 0, none⟩) (Below.refl 0 b) (Nat.zero_le _) u).size, fun k h3 h4 => Below.heap_setCell b ⟨gr, 0, none⟩ u k h4⟩
structure Rd (w0 : World) (gr : Nat) (D : List Int) (wx : World) : Prop where
  blk : ∃ A c, wx.heap[gr]? = some (.cells #[.slice A D.length c] 59 (0, 0)) ∧ Kd.C (Kd.int .u8) w0 A D.length D ∧ D.length ≤ c
  ge : w0.heap.size ≤ gr
  bel : Below w0.heap.size w0 wx
theorem Rd.below {w0 a c : World} {gr : Nat} {D : List Int} (h : Rd w0 gr D a) (hb : Below a.heap.size a c) : Rd w0 gr D c := by
  obtain ⟨A, cc, h1, h2, h3⟩ := h.blk
  exact ⟨⟨A, cc, blk_below h1 hb, h2, h3⟩, h.ge, below_step h.bel hb⟩
def num_g (k : Nat) (D : List Int) (most : Int) : Option (Option (Int × List Int)) := (codec_Uvarint.f k D).bind fun u => if u.2.2 = 0 ∧ 0 ≤ u.1 ∧ u.1 ≤ most ∧ 0 ≤ u.2.1 ∧ u.2.1 ≤ (D.length : Int) then some (some (u.1, D.drop u.2.1.toNat)) else if u.2.2 ≠ 0 ∨ most < u.1 then some none else none
def key_g (k : Nat) (D : List Int) : Option (Option (S42 × List Int)) := (codec_Text.f k D).bind fun u => if u.2.2 = 0 then if u.1.size ≤ 9223372036854775807 ∧ 0 ≤ u.2.1 ∧ u.2.1 ≤ (D.length : Int) then (ikey_Decode.f k (bytesOf u.1)).bind fun y => if y.2.2.2 = 0 then some (some (⟨y.1, y.2.1, y.2.2.1⟩, D.drop u.2.1.toNat)) else some none else none else some none
def NumEnd (w0 : World) (gr : Nat) (w : World) (r : Option (Int × List Int)) (e : Ending) (w' : World) : Prop := match r with
  | some x => e = .returned (.int .u64 x.1) ∧ Rd w0 gr x.2 w' ∧ Stays gr w w'
  | none => e = .panicked [{ v := .iface 55 (.agg #[]), recovered := false }] ∧ Below w0.heap.size w0 w' ∧ Stays gr w w'
def KeyEnd (w0 : World) (gr : Nat) (w : World) (r : Option (S42 × List Int)) (e : Ending) (w' : World) : Prop := match r with
  | some x => e = .returned (.agg #[.string x.1.f0, .int .u64 x.1.f1, .int .i64 x.1.f2]) ∧ Rd w0 gr x.2 w' ∧ Stays gr w w'
  | none => e = .panicked [{ v := .iface 55 (.agg #[]), recovered := false }] ∧ Below w0.heap.size w0 w' ∧ Stays gr w w'
set_option maxHeartbeats 2000000 in
set_option maxRecDepth 100000 in
theorem num_calls (k : Nat) (gr : Nat) (D : List Int) (most : Int) (r : Option (Int × List Int)) (w0 w : World) (hs : Rd w0 gr D w) (hq : num_g k D most = some r) :
    Calls Try.prog 29 #[.pointer (some ⟨gr, 0, none⟩), .int .u64 most] w fun e w' => NumEnd w0 gr w r e w' := by
  obtain ⟨A, c, hblk, hC, hc⟩ := hs.blk
  unfold num_g at hq
  obtain ⟨⟨n, kk, er⟩, hu, hq⟩ := Option.bind_eq_some_iff.mp hq
  dsimp only at hq
  have HS := Aside0.mk hs
  have BK := Aside0.mk hblk
  have hg : w.cell? ⟨gr, 0, none⟩ = some (.slice A D.length c) := (blk_cell hblk 0).trans rfl
  have hf := blk_frozen hblk 0
  have HR0 := Aside0.mk hC
  have HC0 := Aside0.mk hc
  have HQ := Aside0.mk hu
  clear hs hblk hC hc hu
  split at hq
  · rename_i hcond
    obtain ⟨rfl, hn0, hn, hk⟩ := hcond
    injection hq with hq
    subst hq
    obtain ⟨i5, hi5, _, hs5, _⟩ := info_parts info5
    obtain ⟨A2, hcut, hrd, hcp⟩ := print_drop_of (P := Try.prog) (Value.int .u8) (0 : Int) 28 5 .i64 Try.underlying28 hi5 hs5 A c D kk hk.1 hk.2 HC0.out
    have HR2 := Aside0.mk (show ∀ W : World, Kd.C (Kd.int .u8) W A D.length D → Kd.C (Kd.int .u8) W A2 (D.drop kk.toNat).length (D.drop kk.toNat) from fun W hW => Kd.C_of_reads (h1 := fun _ => rfl) (hrd W (Kd.reads_of_C hW)))
    have HC2 := Aside0.mk hcp
    obtain ⟨E, hE⟩ : ∃ x, D.drop kk.toNat = x := ⟨_, rfl⟩
    rw [hE] at HR2 HC2 hcut ⊢
    have hnm : decide (most < n) = false := decide_eq_false (by omega)
    clear hrd hcp hE hk hn hn0
    go_enter Try.func29, Try.ntmps29
    go_wp2_with (first
      | (go_at_call 42; with_reducible refine (codec_Uvarint.calls k A _ D n kk 0 _ (Kd.C_below HR0.out HS.out.bel) HC0.out HQ.out).mono ?_; rintro ex w2 ⟨rfl, ⟨nd, rfl⟩⟩))
    go_ret
    have B2 := blk_put (cs := #[.slice A D.length c]) (blk_drewN BK.out nd) 0 (.slice A2 E.length (c - kk.toNat)) rfl
    exact ⟨by first | rfl | simp, ⟨⟨A2, _, B2, HR2.out _ HR0.out, HC2.out⟩, HS.out.ge, below_set (pw_below_drewN HS.out.bel nd) HS.out.ge⟩, ((Stays.refl gr w).below (pw_below_drewN (Below.refl _ _) nd)).put _⟩
  · split at hq
    case isFalse => cases hq
    rename_i hb
    injection hq with hq
    subst hq
    go_enter Try.func29, Try.ntmps29
    by_cases h0 : er = 0
    · subst h0
      have h1 : most < n := hb.resolve_left (by simp)
      have hnm : decide (most < n) = true := decide_eq_true h1
      clear hb h1
      go_wp2_with (first
        | (go_at_call 42; with_reducible refine (codec_Uvarint.calls k A _ D n kk 0 _ (Kd.C_below HR0.out HS.out.bel) HC0.out HQ.out).mono ?_; rintro ex w2 ⟨rfl, ⟨nd, rfl⟩⟩))
      exact ⟨rfl, rfl, pw_below_drewN HS.out.bel nd, (Stays.refl gr w).below (pw_below_drewN (Below.refl _ _) nd)⟩
    · have h0b : (er == 0) = false := beq_eq_false_iff_ne.mpr h0
      have h0c : (er != 0) = true := bne_iff_ne.mpr h0
      clear hb
      go_wp2_with (first
        | (go_at_call 42; with_reducible refine (codec_Uvarint.calls k A _ D n kk er _ (Kd.C_below HR0.out HS.out.bel) HC0.out HQ.out).mono ?_; rintro ex w2 ⟨rfl, ⟨nd, rfl⟩⟩))
      exact ⟨rfl, rfl, pw_below_drewN HS.out.bel nd, (Stays.refl gr w).below (pw_below_drewN (Below.refl _ _) nd)⟩
end Go.Proofs.Ythkkbgehmiobaaa.E
namespace Go.Proofs.Ythkkbgehmiobaaa.E
open Go.RowKit Go.Proofs.YthkkbgehmiobaaaW.PrintWords Go.Proofs.YthkkbgehmiobaaaW.PrintLast Go.Proofs.YthkkbgehmiobaaaW.PrintMore Go.Proofs.Ythkkbgehmiobaaa.P
set_option linter.unusedVariables false
set_option linter.unusedSimpArgs false
set_option maxHeartbeats 4000000 in
set_option maxRecDepth 100000 in
theorem key_calls (k : Nat) (gr : Nat) (D : List Int) (r : Option (S42 × List Int)) (w0 w : World) (hs : Rd w0 gr D w) (hq : key_g k D = some r) :
    Calls Try.prog 30 #[.pointer (some ⟨gr, 0, none⟩)] w fun e w' => KeyEnd w0 gr w r e w' := by
  unfold key_g at hq
  obtain ⟨⟨s, kk, er⟩, hu, hq⟩ := Option.bind_eq_some_iff.mp hq
  dsimp only at hq
  have HS := Aside0.mk hs
  have HQ := Aside0.mk hu
  clear hs hu
  split at hq
  case isFalse =>
    rename_i h0
    injection hq with hq
    subst hq
    have h0b : (er == 0) = false := beq_eq_false_iff_ne.mpr h0
    have h0c : (er != 0) = true := bne_iff_ne.mpr h0
    clear h0
    go_enter Try.func30, Try.ntmps30
    go_upto_region 1 with (first
      | ((with_reducible refine gate_dst (N := 2) rfl ?_); refine box_event ?hg (N := 2) ?hd (cs := #[.string (⟨#[]⟩ : ByteArray), .int .u64 0, .int .i64 0]) (t := 42) ?hr ?_; (case hd => rfl); (case hg => rfl); (case hr => first | (go_simp; done) | (go_simp; rfl)); intro g2 hg w1 hbox hb
         have HS1 := Aside0.mk (HS.out.below hb)
         have ST1 : Aside0 (Stays gr w w1) := ⟨(Stays.refl gr w).below hb⟩
         clear hg hbox hb))
    obtain ⟨A, c, hblk, hC, hc⟩ := HS1.out.blk
    have hg : w1.cell? ⟨gr, 0, none⟩ = some (.slice A D.length c) := (blk_cell hblk 0).trans rfl
    have hf := blk_frozen hblk 0
    have HR0 := Aside0.mk hC
    have HC0 := Aside0.mk hc
    clear hblk hC hc
    go_wp2_with (first
      | (go_at_call 43; with_reducible refine (codec_Text.calls k A _ D s kk er _ (Kd.C_below HR0.out HS1.out.bel) HC0.out HQ.out).mono ?_; rintro ex w2 ⟨rfl, ⟨nd, rfl⟩⟩))
    exact ⟨rfl, rfl, pw_below_drewN HS1.out.bel nd, ST1.out.below (pw_below_drewN (Below.refl _ _) nd)⟩
  rename_i h0
  subst h0
  split at hq
  case isFalse => cases hq
  rename_i hcond
  obtain ⟨hsz, hk⟩ := hcond
  obtain ⟨⟨y1, y2, y3, y4⟩, hy, hq⟩ := Option.bind_eq_some_iff.mp hq
  dsimp only at hq
  obtain ⟨E, hE⟩ : ∃ x, D.drop kk.toNat = x := ⟨_, rfl⟩
  rw [hE] at hq
  have HE := Aside0.mk hE
  have HY := Aside0.mk hy
  have HSZ := Aside0.mk hsz
  have HK := Aside0.mk hk
  clear hy hsz hk hE
  go_enter Try.func30, Try.ntmps30
  go_upto_region 1 with (first
    | ((with_reducible refine gate_dst (N := 2) rfl ?_); refine box_event ?hg (N := 2) ?hd (cs := #[.string (⟨#[]⟩ : ByteArray), .int .u64 0, .int .i64 0]) (t := 42) ?hr ?_; (case hd => rfl); (case hg => rfl); (case hr => first | (go_simp; done) | (go_simp; rfl)); intro g2 hg w1 hbox hb
       have HS1 := Aside0.mk (HS.out.below hb)
       have ST1 : Aside0 (Stays gr w w1) := ⟨(Stays.refl gr w).below hb⟩
       have BG1 := Aside0.mk hbox
       have GE1 : Aside0 (w.heap.size ≤ g2) := ⟨by rw [hg]; exact Nat.le_refl _⟩
       clear hg hbox hb))
  obtain ⟨A, c, hblk, hC, hc⟩ := HS1.out.blk
  have hg : w1.cell? ⟨gr, 0, none⟩ = some (.slice A D.length c) := (blk_cell hblk 0).trans rfl
  have hf := blk_frozen hblk 0
  have HR0 := Aside0.mk hC
  have HC0 := Aside0.mk hc
  have BR1 := Aside0.mk hblk
  clear hblk hC hc
  go_upto_region 4 with (first
    | (go_at_call 43; with_reducible refine (codec_Text.calls k A _ D s kk 0 _ (Kd.C_below HR0.out HS1.out.bel) HC0.out HQ.out).mono ?_; rintro ex w2 ⟨rfl, ⟨nd, rfl⟩⟩))
  have HS2 : Aside0 (Rd w0 gr D (w1.drewN nd)) := ⟨HS1.out.below (pw_below_drewN (Below.refl _ _) nd)⟩
  have ST2 : Aside0 (Stays gr w (w1.drewN nd)) := ⟨ST1.out.below (pw_below_drewN (Below.refl _ _) nd)⟩
  have BG2 : Aside0 ((w1.drewN nd).heap[g2]? = some (.cells #[.string (⟨#[]⟩ : ByteArray), .int .u64 0, .int .i64 0] 42 (0, 0))) := ⟨blk_drewN BG1.out nd⟩
  have BR2 : Aside0 ((w1.drewN nd).heap[gr]? = some (.cells #[.slice A D.length c] 59 (0, 0))) := ⟨blk_drewN BR1.out nd⟩
  generalize w1.drewN nd = w2 at HS2 ST2 BG2 BR2 ⊢
  clear hg hf HS1 ST1 BG1 BR1
  go_upto_region 5 with (first
    | ((with_reducible refine gate_dst (N := 22) rfl ?_); refine kd_V_conv rfl (N := 22) rfl 9 28 5 _ rfl s rfl Try.underlying9 Try.underlying28 Try.underlying5 HSZ.out ?_; intro vb w3 hV hb _ _
       obtain ⟨Ab, cb, eb⟩ := Kd.V_slice hV
       subst eb
       have HV := Aside0.mk (Kd.V_reads' hV).2
       have HS3 := Aside0.mk (HS2.out.below hb)
       have ST3 := Aside0.mk (ST2.out.below hb)
       have BG3 := Aside0.mk (blk_below BG2.out hb)
       have BR3 := Aside0.mk (blk_below BR2.out hb)
       clear hV hb)
    | (go_at_call 44; (with_reducible refine (ikey_Decode.calls k Ab cb (bytesOf s) y1 y2 y3 y4 _ HV.out.2 HV.out.1 HY.out).mono ?_); (rintro ex w4 ⟨rfl, hb⟩)
       have HS4 := Aside0.mk (HS3.out.below hb)
       have ST4 := Aside0.mk (ST3.out.below hb)
       have BG4 := Aside0.mk (blk_below BG3.out hb)
       have BR4 := Aside0.mk (blk_below BR3.out hb)
       clear hb)
    | ((with_reducible refine gate_dst (N := 6) rfl ?_); refine box_event ?hg (N := 6) ?hd (cs := #[.string (⟨#[]⟩ : ByteArray), .int .u64 0, .int .i64 0]) (t := 42) ?hr ?_; (case hd => rfl); (case hg => rfl); (case hr => first | (go_simp; done) | (go_simp; rfl)); intro g6 hg w5 hbox hb
       have HS5 := Aside0.mk (HS4.out.below hb)
       have ST5 := Aside0.mk (ST4.out.below hb)
       have BG5 := Aside0.mk (blk_below BG4.out hb)
       have BR5 := Aside0.mk (blk_below BR4.out hb)
       have BY5 := Aside0.mk hbox
       have GE6 : Aside0 (g2 < g6 ∧ gr < g6 ∧ w.heap.size ≤ g6) := ⟨by have h1 := blk_lt BG4.out; have h2 := blk_lt BR4.out; have h3 := ST4.out.1; rw [hg]; omega⟩
       have yc0 : w5.cell? ⟨g6, 0, none⟩ = some (.string (⟨#[]⟩ : ByteArray)) := (blk_cell hbox 0).trans rfl
       have yc1 : w5.cell? ⟨g6, 1, none⟩ = some (.int .u64 0) := (blk_cell hbox 1).trans rfl
       have yc2 : w5.cell? ⟨g6, 2, none⟩ = some (.int .i64 0) := (blk_cell hbox 2).trans rfl
       have yf0 := blk_frozen hbox 0
       have yf1 := blk_frozen hbox 1
       have yf2 := blk_frozen hbox 2
       clear hg hbox hb))
  obtain ⟨W6, hW6⟩ : ∃ x, ((w5.setCell ⟨g6, 0, none⟩ (.string y1)).setCell ⟨g6, 1, none⟩ (.int .u64 y2)).setCell ⟨g6, 2, none⟩ (.int .i64 y3) = x := ⟨_, rfl⟩
  rw [hW6]
  have hmv : ∀ j, j ≠ g6 → W6.heap[j]? = w5.heap[j]? := fun j hj => by rw [← hW6]; exact (Below.heap_setCell _ _ _ j hj).trans ((Below.heap_setCell _ _ _ j hj).trans (Below.heap_setCell _ _ _ j hj))
  have hge : w0.heap.size ≤ g6 := by have := GE6.out; have := HS5.out.ge; omega
  have hsz : w5.heap.size ≤ W6.heap.size := by rw [← hW6]; exact (Below.setCell (p := ⟨g6, 2, none⟩) (Below.setCell (p := ⟨g6, 1, none⟩) (Below.setCell (p := ⟨g6, 0, none⟩) (Below.refl 0 w5) (Nat.zero_le _) _) (Nat.zero_le _) _) (Nat.zero_le _) _).size
  have BY6 : Aside0 (W6.heap[g6]? = some (.cells #[.string y1, .int .u64 y2, .int .i64 y3] 42 (0, 0))) := ⟨by rw [← hW6]; exact blk_put (cs := #[.string y1, .int .u64 y2, .int .i64 0]) (blk_put (cs := #[.string y1, .int .u64 0, .int .i64 0]) (blk_put (cs := #[.string (⟨#[]⟩ : ByteArray), .int .u64 0, .int .i64 0]) BY5.out 0 _ rfl) 1 _ rfl) 2 _ rfl⟩
  have BG6 : Aside0 (W6.heap[g2]? = some (.cells #[.string (⟨#[]⟩ : ByteArray), .int .u64 0, .int .i64 0] 42 (0, 0))) := ⟨(hmv g2 (by have := GE6.out; omega)).trans BG5.out⟩
  have BR6 : Aside0 (W6.heap[gr]? = some (.cells #[.slice A D.length c] 59 (0, 0))) := ⟨(hmv gr (by have := GE6.out; omega)).trans BR5.out⟩
  have ST6 : Aside0 (Stays gr w W6) := ⟨⟨Nat.le_trans ST5.out.1 hsz, fun j hj hj2 => (hmv j (by have := GE6.out; omega)).trans (ST5.out.2 j hj hj2)⟩⟩
  have HB6 : Aside0 (Below w0.heap.size w0 W6) := ⟨by rw [← hW6]; exact below_set (below_set (below_set HS5.out.bel hge) hge) hge⟩
  clear hW6 hmv hge hsz yc0 yc1 yc2 yf0 yf1 yf2
  clear HS2 HS3 HS4 HS5 ST2 ST3 ST4 ST5 BG2 BG3 BG4 BG5 BR2 BR3 BR4 BR5 HV BY5
  have yc0 : W6.cell? ⟨g6, 0, none⟩ = some (.string y1) := (blk_cell BY6.out 0).trans rfl
  have yc1 : W6.cell? ⟨g6, 1, none⟩ = some (.int .u64 y2) := (blk_cell BY6.out 1).trans rfl
  have yc2 : W6.cell? ⟨g6, 2, none⟩ = some (.int .i64 y3) := (blk_cell BY6.out 2).trans rfl
  split at hq
  case isFalse =>
    rename_i h4
    injection hq with hq
    subst hq
    have h0b : (y4 == 0) = false := beq_eq_false_iff_ne.mpr h4
    have h0c : (y4 != 0) = true := bne_iff_ne.mpr h4
    clear h4
    go_wp2
    exact ⟨rfl, rfl, HB6.out, ST6.out⟩
  rename_i h4
  subst h4
  injection hq with hq
  subst hq
  obtain ⟨i5, hi5, _, hs5, _⟩ := info_parts info5
  obtain ⟨A2, hcut, hrd, hcp⟩ := print_drop_of (P := Try.prog) (Value.int .u8) (0 : Int) 28 5 .i64 Try.underlying28 hi5 hs5 A c D kk HK.out.1 HK.out.2 HC0.out
  have HR2 := Aside0.mk (show ∀ W : World, Kd.C (Kd.int .u8) W A D.length D → Kd.C (Kd.int .u8) W A2 (D.drop kk.toNat).length (D.drop kk.toNat) from fun W hW => Kd.C_of_reads (h1 := fun _ => rfl) (hrd W (Kd.reads_of_C hW)))
  have HC2 := Aside0.mk hcp
  rw [HE.out] at HR2 HC2 hcut
  have hg : W6.cell? ⟨gr, 0, none⟩ = some (.slice A D.length c) := (blk_cell BR6.out 0).trans rfl
  have hf := blk_frozen BR6.out 0
  clear hrd hcp
  go_upto_region 8 with fail
  obtain ⟨W7, hW7⟩ : ∃ x, W6.setCell ⟨gr, 0, none⟩ (.slice A2 E.length (c - kk.toNat)) = x := ⟨_, rfl⟩
  rw [hW7]
  have HNE : Aside0 (g2 ≠ gr ∧ g6 ≠ gr) := ⟨by have := GE6.out; exact ⟨fun e_ => by subst e_; have h1 := BG6.out; rw [BR6.out] at h1; simp at h1, by omega⟩⟩
  have BR7 : Aside0 (W7.heap[gr]? = some (.cells #[.slice A2 E.length (c - kk.toNat)] 59 (0, 0))) := ⟨by rw [← hW7]; exact blk_put (cs := #[.slice A D.length c]) BR6.out 0 _ rfl⟩
  have BG7 : Aside0 (W7.heap[g2]? = some (.cells #[.string (⟨#[]⟩ : ByteArray), .int .u64 0, .int .i64 0] 42 (0, 0))) := ⟨by rw [← hW7]; exact (Below.heap_setCell _ _ _ g2 HNE.out.1).trans BG6.out⟩
  have BY7 : Aside0 (W7.heap[g6]? = some (.cells #[.string y1, .int .u64 y2, .int .i64 y3] 42 (0, 0))) := ⟨by rw [← hW7]; exact (Below.heap_setCell _ _ _ g6 HNE.out.2).trans BY6.out⟩
  have ST7 : Aside0 (Stays gr w W7) := ⟨by rw [← hW7]; exact ST6.out.put _⟩
  have HB7 : Aside0 (Below w0.heap.size w0 W7) := ⟨by rw [← hW7]; exact below_set HB6.out HS.out.ge⟩
  clear hW7 yc0 yc1 yc2 hg hf hcut
  have yc0 : W7.cell? ⟨g6, 0, none⟩ = some (.string y1) := (blk_cell BY7.out 0).trans rfl
  have yc1 : W7.cell? ⟨g6, 1, none⟩ = some (.int .u64 y2) := (blk_cell BY7.out 1).trans rfl
  have yc2 : W7.cell? ⟨g6, 2, none⟩ = some (.int .i64 y3) := (blk_cell BY7.out 2).trans rfl
  have xc0 : W7.cell? ⟨g2, 0, none⟩ = some (.string (⟨#[]⟩ : ByteArray)) := (blk_cell BG7.out 0).trans rfl
  have xc1 : W7.cell? ⟨g2, 1, none⟩ = some (.int .u64 0) := (blk_cell BG7.out 1).trans rfl
  have xc2 : W7.cell? ⟨g2, 2, none⟩ = some (.int .i64 0) := (blk_cell BG7.out 2).trans rfl
  have xf0 := blk_frozen BG7.out 0
  have xf1 := blk_frozen BG7.out 1
  have xf2 := blk_frozen BG7.out 2
  go_wp2
  have hW8 : ∃ x, ((W7.setCell ⟨g2, 0, none⟩ (.string y1)).setCell ⟨g2, 1, none⟩ (.int .u64 y2)).setCell ⟨g2, 2, none⟩ (.int .i64 y3) = x := ⟨_, rfl⟩
  obtain ⟨W8, hW8⟩ := hW8
  rw [hW8]
  have hmv : ∀ j, j ≠ g2 → W8.heap[j]? = W7.heap[j]? := fun j hj => by rw [← hW8]; exact (Below.heap_setCell _ _ _ j hj).trans ((Below.heap_setCell _ _ _ j hj).trans (Below.heap_setCell _ _ _ j hj))
  have hge : w0.heap.size ≤ g2 := by have := GE1.out; have := HS.out.bel.size; omega
  have hsz : W7.heap.size ≤ W8.heap.size := by rw [← hW8]; exact (Below.setCell (p := ⟨g2, 2, none⟩) (Below.setCell (p := ⟨g2, 1, none⟩) (Below.setCell (p := ⟨g2, 0, none⟩) (Below.refl 0 W7) (Nat.zero_le _) _) (Nat.zero_le _) _) (Nat.zero_le _) _).size
  have BG8 : W8.heap[g2]? = some (.cells #[.string y1, .int .u64 y2, .int .i64 y3] 42 (0, 0)) := by rw [← hW8]; exact blk_put (cs := #[.string y1, .int .u64 y2, .int .i64 0]) (blk_put (cs := #[.string y1, .int .u64 0, .int .i64 0]) (blk_put (cs := #[.string (⟨#[]⟩ : ByteArray), .int .u64 0, .int .i64 0]) BG7.out 0 _ rfl) 1 _ rfl) 2 _ rfl
  have HB8 : Below w0.heap.size w0 W8 := by rw [← hW8]; exact below_set (below_set (below_set HB7.out hge) hge) hge
  have z0 : W8.cell? ⟨g2, 0, none⟩ = some (.string y1) := (blk_cell BG8 0).trans rfl
  have z1 : W8.cell? ⟨g2, 1, none⟩ = some (.int .u64 y2) := (blk_cell BG8 1).trans rfl
  have z2 : W8.cell? ⟨g2, 2, none⟩ = some (.int .i64 y3) := (blk_cell BG8 2).trans rfl
  refine bodyPost_ret (v := .agg #[.string y1, .int .u64 y2, .int .i64 y3]) ?_ rfl ⟨rfl, ⟨⟨A2, _, (hmv gr (Ne.symm HNE.out.1)).trans BR7.out, HR2.out _ HR0.out, HC2.out⟩, HS.out.ge, HB8⟩, ⟨Nat.le_trans ST7.out.1 hsz, fun j hj hj2 => (hmv j (by have := GE1.out; omega)).trans (ST7.out.2 j hj hj2)⟩⟩
  simp [results, Try.results30, go_sem, z0, z1, z2]
theorem und14 : (Array.replicate 14 undef : Array Value) = #[undef, undef, undef, undef, undef, undef, undef, undef, undef, undef, undef, undef, undef, undef] := rfl
theorem assert_nil (W : World) : (Instr.typeAssert .nilIface 20 55 true).run Try.prog W = .ok (.tuple #[.agg #[], .bool false]) W := by
  have hu : Try.prog.underlying 55 = some (.struct #[]) := by kernel_rfl
  obtain ⟨i, hi, hz⟩ := Option.map_eq_some_iff.1 (show (Try.prog.info? 55).map (·.zero) = some (some (.agg #[])) from by kernel_rfl)
  simp [Instr.typeAssert, run_underlying hu, zeroValue, typeInfo, hi, hz]
theorem assert_bad (W : World) : (Instr.typeAssert (.iface 55 (.agg #[])) 20 55 true).run Try.prog W = .ok (.tuple #[.agg #[], .bool true]) W := by
  have hu : Try.prog.underlying 55 = some (.struct #[]) := by kernel_rfl
  simp [Instr.typeAssert, run_underlying hu, go_sem]
set_option maxHeartbeats 1000000 in
set_option maxRecDepth 100000 in
/-- the deferred closure, where nothing is to be recovered -/
theorem catch_idle (a b : Addr) (w : World) :
    CallsD Try.prog 28 #[.pointer (some a), .pointer (some b)] .returning w fun e u' w' => e = .returned (.tuple #[]) ∧ u' = .returning ∧ Below w.heap.size w w' := by
  refine callsD_of_wpS Try.func28 rfl fun c₀ cs hu => ?_
  apply wpS_seq
  apply wpS_region
  simp [wpOpsS, go_sem, recoverD, hu, Try.ntmps28, Exit.thenS, und14]
  refine wpS_of_wp ?_
  have hta := assert_nil
  go_wp2
  have hB : Below w.heap.size w (w.alloc (Obj.cells #[] 55)) := below_alloc (Below.refl _ _) _
  cases c₀
  simp_all [bodyPostS, results, Try.results28]
set_option maxHeartbeats 2000000 in
set_option maxRecDepth 100000 in
/-- the deferred closure, where deep code has given up -/
theorem catch_bad (gx ge : Nat) (x0 x1 x2 : Int) (v3 v4 : Value) (w : World) (hA : w.heap[gx]? = some (.cells #[Value.int .u64 x0, .int .u64 x1, .int .u64 x2, v3, v4] 27 (0, 0))) (hE : w.heap[ge]? = some (.cells #[.int .i64 0] 29 (0, 0))) (hne : gx ≠ ge) :
    CallsD Try.prog 28 #[.pointer (some ⟨gx, 0, none⟩), .pointer (some ⟨ge, 0, none⟩)] (.panicking [{ v := .iface 55 (.agg #[]), recovered := false }]) w fun e u' w' =>
      e = .returned (.tuple #[]) ∧ u' = .panicking [{ v := .iface 55 (.agg #[]), recovered := true }] ∧ (∀ w0 : World, Below w0.heap.size w0 w → w0.heap.size ≤ gx → w0.heap.size ≤ ge → Below w0.heap.size w0 w') ∧ w'.heap[gx]? = some (.cells #[Value.int .u64 0, .int .u64 0, .int .u64 0, .slice none 0 0, .slice none 0 0] 27 (0, 0)) ∧ w'.heap[ge]? = some (.cells #[.int .i64 133] 29 (0, 0)) := by
  have hne' := Ne.symm hne
  refine callsD_of_wpS Try.func28 rfl fun c₀ cs hu => ?_
  apply wpS_seq
  apply wpS_region
  simp [wpOpsS, go_sem, recoverD, hu, Try.ntmps28, Exit.thenS, und14]
  refine wpS_of_wp ?_
  have hta := assert_bad
  go_wp2_with (first
    | ((with_reducible refine gate_dst (N := 3) rfl ?_); refine box_event ?hg (N := 3) ?hd (cs := #[]) (t := 55) ?hr ?_; (case hd => rfl); (case hg => rfl); (case hr => first | (go_simp; done) | (go_simp; rfl)); intro gb hg w3 hbox hb
       have HB := Aside0.mk hb
       have BA := Aside0.mk (blk_below hA hb)
       have BE := Aside0.mk (blk_below hE hb)
       have hcx0 : w3.cell? ⟨gx, 0, none⟩ = some (Value.int .u64 x0) := (blk_cell BA.out 0).trans rfl
       have hfx0 := blk_frozen BA.out 0
       have hcx1 : w3.cell? ⟨gx, 1, none⟩ = some (.int .u64 x1) := (blk_cell BA.out 1).trans rfl
       have hfx1 := blk_frozen BA.out 1
       have hcx2 : w3.cell? ⟨gx, 2, none⟩ = some (.int .u64 x2) := (blk_cell BA.out 2).trans rfl
       have hfx2 := blk_frozen BA.out 2
       have hcx3 : w3.cell? ⟨gx, 3, none⟩ = some (v3) := (blk_cell BA.out 3).trans rfl
       have hfx3 := blk_frozen BA.out 3
       have hcx4 : w3.cell? ⟨gx, 4, none⟩ = some (v4) := (blk_cell BA.out 4).trans rfl
       have hfx4 := blk_frozen BA.out 4
       have hce : w3.cell? ⟨ge, 0, none⟩ = some (.int .i64 0) := (blk_cell BE.out 0).trans rfl
       have hcg := blk_frozen BE.out 0
       clear hg hbox hb))
  obtain ⟨W4, hW4⟩ : ∃ x, (((((w3.setCell ⟨gx, 0, none⟩ (Value.int .u64 0)).setCell ⟨gx, 1, none⟩ (.int .u64 0)).setCell ⟨gx, 2, none⟩ (.int .u64 0)).setCell ⟨gx, 3, none⟩ (.slice none 0 0)).setCell ⟨gx, 4, none⟩ (.slice none 0 0)) = x := ⟨_, rfl⟩
  have hmv : ∀ j, j ≠ gx → W4.heap[j]? = w3.heap[j]? := fun j hj => by rw [← hW4]; exact (Below.heap_setCell _ _ _ j hj).trans ((Below.heap_setCell _ _ _ j hj).trans ((Below.heap_setCell _ _ _ j hj).trans ((Below.heap_setCell _ _ _ j hj).trans ((Below.heap_setCell _ _ _ j hj)))))
  have BA4 : W4.heap[gx]? = some (.cells #[Value.int .u64 0, .int .u64 0, .int .u64 0, .slice none 0 0, .slice none 0 0] 27 (0, 0)) := by rw [← hW4]; exact blk_put (cs := #[Value.int .u64 0, .int .u64 0, .int .u64 0, .slice none 0 0, v4]) (blk_put (cs := #[Value.int .u64 0, .int .u64 0, .int .u64 0, v3, v4]) (blk_put (cs := #[Value.int .u64 0, .int .u64 0, .int .u64 x2, v3, v4]) (blk_put (cs := #[Value.int .u64 0, .int .u64 x1, .int .u64 x2, v3, v4]) (blk_put (cs := #[Value.int .u64 x0, .int .u64 x1, .int .u64 x2, v3, v4]) (BA.out) 0 _ rfl) 1 _ rfl) 2 _ rfl) 3 _ rfl) 4 _ rfl
  have BE4 : W4.heap[ge]? = some (.cells #[.int .i64 0] 29 (0, 0)) := (hmv ge hne').trans BE.out
  have hB4 : ∀ w0 : World, Below w0.heap.size w0 w → w0.heap.size ≤ gx → Below w0.heap.size w0 W4 := fun w0 hb h1 => by have HB0 := below_step hb HB.out; rw [← hW4]; exact below_set (below_set (below_set (below_set (below_set (HB0) h1) h1) h1) h1) h1
  rw [hW4]
  cases c₀
  refine ⟨rfl, _, rfl, ?_⟩
  exact ⟨.tuple #[], by simp [results, Try.results28, go_sem], rfl, rfl, fun w0 hb h1 h2 => below_set (hB4 w0 hb h1) h2, (Below.heap_setCell _ _ _ gx hne).trans BA4, blk_put (cs := #[.int .i64 0]) BE4 0 _ rfl⟩
end Go.Proofs.Ythkkbgehmiobaaa.E
namespace Go.Proofs.Ythkkbgehmiobaaa.E
open Go.RowKit Go.Proofs.YthkkbgehmiobaaaW.PrintWords Go.Proofs.YthkkbgehmiobaaaW.PrintLast Go.Proofs.YthkkbgehmiobaaaW.PrintMore Go.Proofs.Ythkkbgehmiobaaa.P
set_option linter.unusedVariables false
set_option linter.unusedSimpArgs false
theorem infoG : (Try.prog.info? 40).map (fun i => (i.zero, i.size, i.bytes)) = some (some (.agg #[(.int .i64 0), (.int .u64 0)]), 2, 16) := by kernel_rfl
theorem infoF : (Try.prog.info? 44).map (fun i => (i.zero, i.size, i.bytes)) = some (some (.agg #[(.int .i64 0), (.int .u64 0), (.int .i64 0), (.string ⟨#[]⟩), (.int .u64 0), (.int .i64 0), (.string ⟨#[]⟩), (.int .u64 0), (.int .i64 0)]), 9, 88) := by kernel_rfl
/-- an edit -/
structure Ed where
  l0 : Int
  l1 : Int
  l2 : Int
  ds : List S40
  fs : List S44
def edOf : Option Ed → Ed
  | some x => x
  | none => ⟨0, 0, 0, [], []⟩
def evOf : Option Ed → Int
  | some _ => 0
  | none => 133
/-- a number, or the end -/
def nm {α : Type} (k : Nat) (D : List Int) (most : Int) (f : Int → List Int → Option (Option α)) : Option (Option α) := (num_g k D most).bind fun r => match r with
  | none => some none
  | some x => f x.1 x.2
def ky {α : Type} (k : Nat) (D : List Int) (f : S42 → List Int → Option (Option α)) : Option (Option α) := (key_g k D).bind fun r => match r with
  | none => some none
  | some x => f x.1 x.2
theorem nm_out {α : Type} {k : Nat} {D : List Int} {most : Int} {f : Int → List Int → Option (Option α)} {r : Option α} (h : nm k D most f = some r) : ∃ q, num_g k D most = some q ∧ ((q = none ∧ r = none) ∨ ∃ x, q = some x ∧ f x.1 x.2 = some r) := by
  obtain ⟨q, hq, h⟩ := Option.bind_eq_some_iff.mp h
  cases q with
  | none => exact ⟨_, hq, .inl ⟨rfl, (Option.some.inj h).symm⟩⟩
  | some x => exact ⟨_, hq, .inr ⟨x, rfl, h⟩⟩
theorem ky_out {α : Type} {k : Nat} {D : List Int} {f : S42 → List Int → Option (Option α)} {r : Option α} (h : ky k D f = some r) : ∃ q, key_g k D = some q ∧ ((q = none ∧ r = none) ∨ ∃ x, q = some x ∧ f x.1 x.2 = some r) := by
  obtain ⟨q, hq, h⟩ := Option.bind_eq_some_iff.mp h
  cases q with
  | none => exact ⟨_, hq, .inl ⟨rfl, (Option.some.inj h).symm⟩⟩
  | some x => exact ⟨_, hq, .inr ⟨x, rfl, h⟩⟩
theorem num_g_le {k : Nat} {D : List Int} {most : Int} {x : Int × List Int} (h : num_g k D most = some (some x)) : 0 ≤ x.1 ∧ x.1 ≤ most := by
  unfold num_g at h
  obtain ⟨u, hu, h⟩ := Option.bind_eq_some_iff.mp h
  split at h
  · rename_i hc
    injection h with h
    injection h with h
    subst h
    exact ⟨hc.2.1, hc.2.2.1⟩
  · split at h
    · injection h with h; cases h
    · cases h
def gones_g {α : Type} (k : Nat) : Nat → List Int → List S40 → (List Int → List S40 → Option (Option α)) → Option (Option α)
  | 0, D, acc, f => f D acc
  | c + 1, D, acc, f => nm k D 4 fun l D1 => nm k D1 1099511627776 fun n D2 => gones_g k c D2 (acc ++ [⟨l, n⟩]) f
def files_g {α : Type} (k : Nat) : Nat → List Int → List S44 → (List Int → List S44 → Option (Option α)) → Option (Option α)
  | 0, D, acc, f => f D acc
  | c + 1, D, acc, f => nm k D 4 fun l D1 => nm k D1 1099511627776 fun n D2 => nm k D2 2147483648 fun z D3 => ky k D3 fun s D4 => ky k D4 fun g D5 => files_g k c D5 (acc ++ [⟨l, n, z, s, g⟩]) f
def fin_g (k : Nat) (b : List Int) (x : Ed) : Option (Option Ed) :=
  (enc_f k x.l0 x.l1 x.l2 x.ds x.fs).bind fun y => if y.2 = 0 then (bytes_Equal.f y.1 b).bind fun q => if q = true then some (some x) else some none else some none
def dec_g (k : Nat) (b : List Int) : Option (Option Ed) :=
  nm k b 1099511627776 fun l0 D => nm k D 1099511627776 fun l1 D => nm k D 72057594037927935 fun l2 D => nm k D 20000 fun c D => gones_g k c.toNat D [] fun D ds =>
    nm k D 100 fun c2 D => files_g k c2.toNat D [] fun _ fs => fin_g k b ⟨l0, l1, l2, ds, fs⟩
/-! ### what stands while Decode runs -/
theorem Stays.fresh {gr g j : Nat} {a b : World} (h : Stays gr a b) (hg : a.heap.size ≤ g) (u : Value) : Stays gr a (b.setCell ⟨g, j, none⟩ u) :=
  ⟨Nat.le_trans h.1 (Below.setCell (p := ⟨g, j, none⟩) (Below.refl 0 b) (Nat.zero_le _) u).size, fun k h3 h4 => (Below.heap_setCell b ⟨g, j, none⟩ u k (by show k ≠ g; omega)).trans (h.2 k h3 h4)⟩
theorem Stays.blk {gr g : Nat} {a b : World} {o : Obj} (h : Stays gr a b) (hb : a.heap[g]? = some o) (hne : g ≠ gr) : b.heap[g]? = some o := (h.2 g (blk_lt hb) hne).trans hb
theorem Rd.other {w0 a : World} {gr g j : Nat} {D : List Int} (h : Rd w0 gr D a) (hne : gr ≠ g) (hg : w0.heap.size ≤ g) (u : Value) : Rd w0 gr D (a.setCell ⟨g, j, none⟩ u) := by
  obtain ⟨A, c, h1, h2, h3⟩ := h.blk
  exact ⟨⟨A, c, (Below.heap_setCell a ⟨g, j, none⟩ u gr hne).trans h1, h2, h3⟩, h.ge, below_set h.bel hg⟩
structure DSt (w : World) (gx ge gr : Nat) (l0 l1 l2 : Int) (v3 : Value) (ds : List S40) (v4 : Value) (fs : List S44) (D : List Int) (wx : World) : Prop where
  bx : wx.heap[gx]? = some (.cells #[.int .u64 l0, .int .u64 l1, .int .u64 l2, v3, v4] 27 (0, 0))
  be : wx.heap[ge]? = some (.cells #[.int .i64 0] 29 (0, 0))
  rd : Rd w gr D wx
  gex : w.heap.size ≤ gx
  gee : w.heap.size ≤ ge
  nxe : gx ≠ ge
  nxr : gx ≠ gr
  ner : ge ≠ gr
  r3 : Kd.R k40 40 wx w.heap.size (fun k => k ≠ gx ∧ k ≠ ge ∧ k ≠ gr ∧ some k ≠ v4.ownBlock) v3 ds
  r4 : Kd.R k44 44 wx w.heap.size (fun k => k ≠ gx ∧ k ≠ ge ∧ k ≠ gr ∧ some k ≠ v3.ownBlock) v4 fs
section
variable {w wx wy : World} {gx ge gr : Nat} {l0 l1 l2 : Int} {v3 v4 : Value} {ds : List S40} {fs : List S44} {D D' : List Int}
theorem DSt.num (h : DSt w gx ge gr l0 l1 l2 v3 ds v4 fs D wx) (hrd : Rd w gr D' wy) (hst : Stays gr wx wy) : DSt w gx ge gr l0 l1 l2 v3 ds v4 fs D' wy :=
  ⟨hst.blk h.bx h.nxr, hst.blk h.be h.ner, hrd, h.gex, h.gee, h.nxe, h.nxr, h.ner, Kd.R_mono (Kd.R_move (Kd.R_bound h.r3) (fun k hk => hst.2 k hk.2.2.1 hk.1.2.2.1)) (fun k hk => hk.1), Kd.R_mono (Kd.R_move (Kd.R_bound h.r4) (fun k hk => hst.2 k hk.2.2.1 hk.1.2.2.1)) (fun k hk => hk.1)⟩
theorem DSt.bad (h : DSt w gx ge gr l0 l1 l2 v3 ds v4 fs D wx) (hst : Stays gr wx wy) : wy.heap[gx]? = some (.cells #[.int .u64 l0, .int .u64 l1, .int .u64 l2, v3, v4] 27 (0, 0)) ∧ wy.heap[ge]? = some (.cells #[.int .i64 0] 29 (0, 0)) := ⟨hst.blk h.bx h.nxr, hst.blk h.be h.ner⟩
theorem DSt.put0 (h : DSt w gx ge gr l0 l1 l2 v3 ds v4 fs D wx) (n : Int) : DSt w gx ge gr n l1 l2 v3 ds v4 fs D (wx.setCell ⟨gx, 0, none⟩ (.int .u64 n)) :=
  ⟨blk_put (cs := #[.int .u64 l0, .int .u64 l1, .int .u64 l2, v3, v4]) h.bx 0 _ rfl, (Below.heap_setCell _ _ _ ge (Ne.symm h.nxe)).trans h.be, h.rd.other (Ne.symm h.nxr) h.gex _, h.gex, h.gee, h.nxe, h.nxr, h.ner, Kd.R_move h.r3 (fun k hk => Below.heap_setCell _ _ _ k hk.1), Kd.R_move h.r4 (fun k hk => Below.heap_setCell _ _ _ k hk.1)⟩
theorem DSt.put1 (h : DSt w gx ge gr l0 l1 l2 v3 ds v4 fs D wx) (n : Int) : DSt w gx ge gr l0 n l2 v3 ds v4 fs D (wx.setCell ⟨gx, 1, none⟩ (.int .u64 n)) :=
  ⟨blk_put (cs := #[.int .u64 l0, .int .u64 l1, .int .u64 l2, v3, v4]) h.bx 1 _ rfl, (Below.heap_setCell _ _ _ ge (Ne.symm h.nxe)).trans h.be, h.rd.other (Ne.symm h.nxr) h.gex _, h.gex, h.gee, h.nxe, h.nxr, h.ner, Kd.R_move h.r3 (fun k hk => Below.heap_setCell _ _ _ k hk.1), Kd.R_move h.r4 (fun k hk => Below.heap_setCell _ _ _ k hk.1)⟩
theorem DSt.put2 (h : DSt w gx ge gr l0 l1 l2 v3 ds v4 fs D wx) (n : Int) : DSt w gx ge gr l0 l1 n v3 ds v4 fs D (wx.setCell ⟨gx, 2, none⟩ (.int .u64 n)) :=
  ⟨blk_put (cs := #[.int .u64 l0, .int .u64 l1, .int .u64 l2, v3, v4]) h.bx 2 _ rfl, (Below.heap_setCell _ _ _ ge (Ne.symm h.nxe)).trans h.be, h.rd.other (Ne.symm h.nxr) h.gex _, h.gex, h.gee, h.nxe, h.nxr, h.ner, Kd.R_move h.r3 (fun k hk => Below.heap_setCell _ _ _ k hk.1), Kd.R_move h.r4 (fun k hk => Below.heap_setCell _ _ _ k hk.1)⟩
/-- a file that is taken away is put behind the others -/
theorem DSt.gone {v3' : Value} {ds' : List S40} (h : DSt w gx ge gr l0 l1 l2 v3 ds v4 fs D wx) (hg : wx.grownBy wy v3.ownBlock) (hb : Below w.heap.size w wy) (hr : Kd.R k40 40 wy w.heap.size (fun k => k ≠ gx ∧ k ≠ ge ∧ k ≠ gr ∧ some k ≠ v4.ownBlock) v3' ds') (hat : v3'.ownBlock = v3.ownBlock ∨ ∃ b, v3'.ownBlock = some b ∧ wx.heap.size ≤ b) :
    DSt w gx ge gr l0 l1 l2 v3' ds' v4 fs D (wy.setCell ⟨gx, 3, none⟩ v3') := by
  have hown : ∀ k, v3.ownBlock = some k → k ≠ gx ∧ k ≠ ge ∧ k ≠ gr ∧ some k ≠ v4.ownBlock := h.r3.1
  obtain ⟨A, c, h1, h2, h3⟩ := h.rd.blk
  have hkeep : ∀ k, k < wx.heap.size → (∀ j, v3.ownBlock = some j → k ≠ j) → wy.heap[k]? = wx.heap[k]? := fun k hk hne => hg.block k hk (fun e => hne k e.symm rfl)
  have hx : wy.heap[gx]? = _ := (hkeep gx (blk_lt h.bx) (fun j hj e => (hown j hj).1 e.symm)).trans h.bx
  have hE : wy.heap[ge]? = _ := (hkeep ge (blk_lt h.be) (fun j hj e => (hown j hj).2.1 e.symm)).trans h.be
  have hR : wy.heap[gr]? = _ := (hkeep gr (blk_lt h1) (fun j hj e => (hown j hj).2.2.1 e.symm)).trans h1
  have hr4 := Kd.R_bound h.r4
  refine ⟨blk_put (cs := #[.int .u64 l0, .int .u64 l1, .int .u64 l2, v3, v4]) hx 3 _ rfl, (Below.heap_setCell _ _ _ ge (Ne.symm h.nxe)).trans hE, ?_, h.gex, h.gee, h.nxe, h.nxr, h.ner, Kd.R_move hr (fun k hk => Below.heap_setCell _ _ _ k hk.1), ?_⟩
  · exact Rd.other ⟨⟨A, c, hR, h2, h3⟩, h.rd.ge, hb⟩ (Ne.symm h.nxr) h.gex _
  · refine Kd.R_mono (Kd.R_move hr4 (fun k hk => (Below.heap_setCell _ _ _ k hk.1.1).trans (hkeep k hk.2.2.1 (fun j hj e => hk.1.2.2.2 (by rw [hj, e]))))) (fun k hk => ⟨hk.1.1, hk.1.2.1, hk.1.2.2.1, ?_⟩)
    rcases hat with hat | ⟨b, hb2, hle⟩
    · rw [hat]; exact hk.1.2.2.2
    · rw [hb2]; intro e; injection e with e; have := hk.2.2.1; omega
/-- a file that is added is put behind the others -/
theorem DSt.file {v4' : Value} {fs' : List S44} (h : DSt w gx ge gr l0 l1 l2 v3 ds v4 fs D wx) (hg : wx.grownBy wy v4.ownBlock) (hb : Below w.heap.size w wy) (hr : Kd.R k44 44 wy w.heap.size (fun k => k ≠ gx ∧ k ≠ ge ∧ k ≠ gr ∧ some k ≠ v3.ownBlock) v4' fs') (hat : v4'.ownBlock = v4.ownBlock ∨ ∃ b, v4'.ownBlock = some b ∧ wx.heap.size ≤ b) :
    DSt w gx ge gr l0 l1 l2 v3 ds v4' fs' D (wy.setCell ⟨gx, 4, none⟩ v4') := by
  have hown : ∀ k, v4.ownBlock = some k → k ≠ gx ∧ k ≠ ge ∧ k ≠ gr ∧ some k ≠ v3.ownBlock := h.r4.1
  obtain ⟨A, c, h1, h2, h3⟩ := h.rd.blk
  have hkeep : ∀ k, k < wx.heap.size → (∀ j, v4.ownBlock = some j → k ≠ j) → wy.heap[k]? = wx.heap[k]? := fun k hk hne => hg.block k hk (fun e => hne k e.symm rfl)
  have hx : wy.heap[gx]? = _ := (hkeep gx (blk_lt h.bx) (fun j hj e => (hown j hj).1 e.symm)).trans h.bx
  have hE : wy.heap[ge]? = _ := (hkeep ge (blk_lt h.be) (fun j hj e => (hown j hj).2.1 e.symm)).trans h.be
  have hR : wy.heap[gr]? = _ := (hkeep gr (blk_lt h1) (fun j hj e => (hown j hj).2.2.1 e.symm)).trans h1
  have hr3 := Kd.R_bound h.r3
  refine ⟨blk_put (cs := #[.int .u64 l0, .int .u64 l1, .int .u64 l2, v3, v4]) hx 4 _ rfl, (Below.heap_setCell _ _ _ ge (Ne.symm h.nxe)).trans hE, ?_, h.gex, h.gee, h.nxe, h.nxr, h.ner, ?_, Kd.R_move hr (fun k hk => Below.heap_setCell _ _ _ k hk.1)⟩
  · exact Rd.other ⟨⟨A, c, hR, h2, h3⟩, h.rd.ge, hb⟩ (Ne.symm h.nxr) h.gex _
  · refine Kd.R_mono (Kd.R_move hr3 (fun k hk => (Below.heap_setCell _ _ _ k hk.1.1).trans (hkeep k hk.2.2.1 (fun j hj e => hk.1.2.2.2 (by rw [hj, e]))))) (fun k hk => ⟨hk.1.1, hk.1.2.1, hk.1.2.2.1, ?_⟩)
    rcases hat with hat | ⟨b, hb2, hle⟩
    · rw [hat]; exact hk.1.2.2.2
    · rw [hb2]; intro e; injection e with e; have := hk.2.2.1; omega
/-- new rows' blocks are far from all that stands -/
theorem DSt.new3 (h : DSt w gx ge gr l0 l1 l2 v3 ds v4 fs D wx) (k : Nat) (hk : wx.heap.size ≤ k) : k ≠ gx ∧ k ≠ ge ∧ k ≠ gr ∧ some k ≠ v4.ownBlock := by
  obtain ⟨A, c, h1, h2, h3⟩ := h.rd.blk
  refine ⟨by have := blk_lt h.bx; omega, by have := blk_lt h.be; omega, by have := blk_lt h1; omega, fun e => ?_⟩
  have := ((Kd.R_bound h.r4).1 k e.symm).2.2.1
  omega
theorem DSt.new4 (h : DSt w gx ge gr l0 l1 l2 v3 ds v4 fs D wx) (k : Nat) (hk : wx.heap.size ≤ k) : k ≠ gx ∧ k ≠ ge ∧ k ≠ gr ∧ some k ≠ v3.ownBlock := by
  obtain ⟨A, c, h1, h2, h3⟩ := h.rd.blk
  refine ⟨by have := blk_lt h.bx; omega, by have := blk_lt h.be; omega, by have := blk_lt h1; omega, fun e => ?_⟩
  have := ((Kd.R_bound h.r3).1 k e.symm).2.2.1
  omega
end
/-- how Decode ends -/
def DecEnd (w : World) (r : Option Ed) (e : Ending) (w' : World) : Prop := Below w.heap.size w w' ∧ ∃ v3 v4 : Value, e = .returned (.tuple #[.agg #[.int .u64 (edOf r).l0, .int .u64 (edOf r).l1, .int .u64 (edOf r).l2, v3, v4], .int .i64 (evOf r)]) ∧ Kd.R k40 40 w' w.heap.size (fun _ => True) v3 (edOf r).ds ∧ Kd.R k44 44 w' w.heap.size (fun k => some k ≠ v3.ownBlock) v4 (edOf r).fs
theorem out_of {w wz : World} {gx ge : Nat} {r : Option Ed} {v3 v4 : Value} {tmps : Array Value} (h2 : tmps.getD 2 undef = .pointer (some ⟨gx, 0, none⟩)) (h3 : tmps.getD 3 undef = .pointer (some ⟨ge, 0, none⟩)) (hx : wz.heap[gx]? = some (.cells #[.int .u64 (edOf r).l0, .int .u64 (edOf r).l1, .int .u64 (edOf r).l2, v3, v4] 27 (0, 0))) (he : wz.heap[ge]? = some (.cells #[.int .i64 (evOf r)] 29 (0, 0))) (hb : Below w.heap.size w wz)
    (hr3 : Kd.R k40 40 wz w.heap.size (fun _ => True) v3 (edOf r).ds) (hr4 : Kd.R k44 44 wz w.heap.size (fun k => some k ≠ v3.ownBlock) v4 (edOf r).fs) :
    ∃ v, (results Try.f14 tmps).run Try.prog wz = .ok v wz ∧ DecEnd w r (.returned v) wz := by
  have z0 : wz.cell? ⟨gx, 0, none⟩ = some (.int .u64 (edOf r).l0) := (blk_cell hx 0).trans rfl
  have z1 : wz.cell? ⟨gx, 1, none⟩ = some (.int .u64 (edOf r).l1) := (blk_cell hx 1).trans rfl
  have z2 : wz.cell? ⟨gx, 2, none⟩ = some (.int .u64 (edOf r).l2) := (blk_cell hx 2).trans rfl
  have z3 : wz.cell? ⟨gx, 3, none⟩ = some v3 := (blk_cell hx 3).trans rfl
  have z4 : wz.cell? ⟨gx, 4, none⟩ = some v4 := (blk_cell hx 4).trans rfl
  have z5 : wz.cell? ⟨ge, 0, none⟩ = some (.int .i64 (evOf r)) := (blk_cell he 0).trans rfl
  have h2' : tmps[2]?.getD undef = .pointer (some ⟨gx, 0, none⟩) := by simpa using h2
  have h3' : tmps[3]?.getD undef = .pointer (some ⟨ge, 0, none⟩) := by simpa using h3
  refine ⟨_, ?_, hb, v3, v4, rfl, hr3, hr4⟩
  simp [results, Try.results14, go_sem, h2', h3', z0, z1, z2, z3, z4, z5]
theorem bad_out {w wz : World} {gx ge : Nat} {tmps : Array Value} (h2 : tmps.getD 2 undef = .pointer (some ⟨gx, 0, none⟩)) (h3 : tmps.getD 3 undef = .pointer (some ⟨ge, 0, none⟩)) (hx : wz.heap[gx]? = some (.cells #[Value.int .u64 0, .int .u64 0, .int .u64 0, .slice none 0 0, .slice none 0 0] 27 (0, 0))) (he : wz.heap[ge]? = some (.cells #[.int .i64 133] 29 (0, 0))) (hb : Below w.heap.size w wz) :
    ∃ v, (results Try.f14 tmps).run Try.prog wz = .ok v wz ∧ DecEnd w none (.returned v) wz :=
  out_of (r := none) h2 h3 hx he hb (Kd.R_nil _ _ _ _ _) (Kd.R_nil _ _ _ _ _)
theorem slice3 {α : Type} {d : Kd α} {e base : Nat} {w : World} {ok : Nat → Prop} {v : Value} {xs : List α} (h : d.R e w base ok v xs) : ∃ A n c, v = .slice A n c := by
  obtain ⟨A, c, h⟩ := Kd.R_slice h
  exact ⟨A, _, c, h⟩
theorem dec_w1 (n : Nat) (h : n ≤ 100000) : IntKind.u64.wrap ((n : Int) + 1) = ((n + 1 : Nat) : Int) := by simp [IntKind.wrap, IntKind.bits, IntKind.signed]; omega
theorem dec_w2 (n : Int) (h : 0 ≤ n ∧ n ≤ 2147483648) : wrap64 n = n := by unfold wrap64; omega
set_option maxHeartbeats 16000000 in
set_option maxRecDepth 100000 in
theorem dec_calls (k : Nat) (A0 : Option Addr) (c0 : Nat) (b : List Int) (R : Option Ed) (w : World) (hr0 : Kd.C (Kd.int .u8) w A0 b.length b) (hc0 : b.length ≤ c0) (hf : dec_g k b = some R) :
    Calls Try.prog 14 #[.slice A0 b.length c0] w fun e w' => DecEnd w R e w' := by
  unfold dec_g at hf
  have HR0 := Aside0.mk hr0
  have HC0 := Aside0.mk hc0
  have HH := Aside0.mk hf
  have HB := Aside0.mk (Below.refl w.heap.size w)
  have hmf : ∀ (fn : Fn) (first cap : Array Value) (w : World), (Instr.makeFunc fn first cap).run Try.prog w = .ok (.func fn first cap) w := fun _ _ _ _ => rfl
  clear hr0 hc0 hf
  go_enter_defers Try.func14, Try.ntmps14
  go_upto_region 4 with (first
    | ((with_reducible refine gate_dst (N := 2) rfl ?_); refine box_event ?hg (N := 2) ?hd (cs := #[Value.int .u64 0, .int .u64 0, .int .u64 0, .slice none 0 0, .slice none 0 0]) (t := 27) ?hr ?_; (case hd => rfl); (case hg => rfl); (case hr => first | (go_simp; done) | (go_simp; rfl)); intro gx hg w1 hbox hb
       have BX1 := Aside0.mk hbox
       have GX : Aside0 (w.heap.size ≤ gx) := ⟨by rw [hg]; exact Nat.le_refl _⟩
       have HB1 := Aside0.mk (below_step HB.out hb)
       clear hg hbox hb)
    | ((with_reducible refine gate_dst (N := 3) rfl ?_); refine box_event ?hg (N := 3) ?hd (cs := #[Value.int .i64 0]) (t := 29) ?hr ?_; (case hd => rfl); (case hg => rfl); (case hr => first | (go_simp; done) | (go_simp; rfl)); intro ge hg w2 hbox hb
       have BE2 := Aside0.mk hbox
       have GE : Aside0 (gx < ge) := ⟨by rw [hg]; exact blk_lt BX1.out⟩
       have BX2 := Aside0.mk (blk_below BX1.out hb)
       have HB2 := Aside0.mk (below_step HB1.out hb)
       clear hg hbox hb)
    | ((with_reducible refine gate_dst (N := 13) rfl ?_); refine box_event ?hg (N := 13) ?hd (cs := #[Value.slice A0 b.length c0]) (t := 59) ?hr ?_; (case hd => rfl); (case hg => rfl); (case hr => first | (go_simp; done) | (go_simp; rfl)); intro gr hg w3 hbox hb
       have BR3 := Aside0.mk hbox
       have GR : Aside0 (ge < gr) := ⟨by rw [hg]; exact blk_lt BE2.out⟩
       have BX3 := Aside0.mk (blk_below BX2.out hb)
       have BE3 := Aside0.mk (blk_below BE2.out hb)
       have HB3 := Aside0.mk (below_step HB2.out hb)
       clear hg hbox hb))
  have DS3 : Aside0 (DSt w gx ge gr 0 0 0 (.slice none 0 0) [] (.slice none 0 0) [] b w3) := ⟨⟨BX3.out, BE3.out, ⟨⟨A0, c0, BR3.out, HR0.out, HC0.out⟩, by have := GX.out; have := GE.out; have := GR.out; omega, HB3.out⟩, GX.out, by have := GX.out; have := GE.out; omega, by have := GE.out; omega, by have := GE.out; have := GR.out; omega, by have := GR.out; omega, Kd.R_nil _ _ _ _ _, Kd.R_nil _ _ _ _ _⟩⟩
  clear BX1 BX2 BX3 BE2 BE3 BR3 HB HB1 HB2 HB3
  obtain ⟨q_, hq_, H_⟩ := nm_out HH.out
  have HQ_ := Aside0.mk hq_
  clear HH hq_
  rcases H_ with ⟨rfl, rfl⟩ | ⟨⟨x0, D1⟩, rfl, H_⟩
  · go_wp2_with (first
      | (go_at_call 29; (with_reducible refine (num_calls k gr b 1099511627776 none w _ DS3.out.rd HQ_.out).mono ?_); (rintro e W_ ⟨rfl, hb, hst⟩)
         have DS0_ := DS3
         have ST_ : Stays gr _ W_ := hst
         have HBX_ := Aside0.mk (DS0_.out.bad ST_).1
         have HBE_ := Aside0.mk (DS0_.out.bad ST_).2
         have HBW_ := Aside0.mk hb
         clear hb hst ST_))
    refine leaves_cons (f := 28) (args := #[.pointer (some ⟨gx, 0, none⟩), .pointer (some ⟨ge, 0, none⟩)]) (by simp) (by simp [go_sem]) ?_
    refine (catch_bad gx ge _ _ _ _ _ _ HBX_.out HBE_.out DS0_.out.nxe).mono ?_
    rintro e u' wz ⟨rfl, rfl, hk, hx, he⟩
    exact bad_out rfl rfl hx he (hk w HBW_.out DS0_.out.gex DS0_.out.gee)
  have HH := Aside0.mk H_
  clear H_
  go_upto_region 5 with (first
    | (go_at_call 29; (with_reducible refine (num_calls k gr b 1099511627776 (some (x0, D1)) w _ DS3.out.rd HQ_.out).mono ?_); (rintro e W1 ⟨rfl, hrd, hst⟩)
       have DN0 := Aside0.mk (DS3.out.num hrd hst)
       have xc0 : W1.cell? ⟨gx, 0, none⟩ = some (.int .u64 0) := (blk_cell DN0.out.bx 0).trans rfl
       have xf0 := blk_frozen DN0.out.bx 0
       clear hrd hst))
  have DP0 := Aside0.mk (DN0.out.put0 x0)
  generalize W1.setCell ⟨gx, 0, none⟩ (.int .u64 x0) = V0 at DP0 ⊢
  clear xc0 xf0 DN0 HQ_ DS3
  obtain ⟨q_, hq_, H_⟩ := nm_out HH.out
  have HQ_ := Aside0.mk hq_
  clear HH hq_
  rcases H_ with ⟨rfl, rfl⟩ | ⟨⟨x1, D2⟩, rfl, H_⟩
  · go_wp2_with (first
      | (go_at_call 29; (with_reducible refine (num_calls k gr D1 1099511627776 none w _ DP0.out.rd HQ_.out).mono ?_); (rintro e W_ ⟨rfl, hb, hst⟩)
         have DS0_ := DP0
         have ST_ : Stays gr _ W_ := hst
         have HBX_ := Aside0.mk (DS0_.out.bad ST_).1
         have HBE_ := Aside0.mk (DS0_.out.bad ST_).2
         have HBW_ := Aside0.mk hb
         clear hb hst ST_))
    refine leaves_cons (f := 28) (args := #[.pointer (some ⟨gx, 0, none⟩), .pointer (some ⟨ge, 0, none⟩)]) (by simp) (by simp [go_sem]) ?_
    refine (catch_bad gx ge _ _ _ _ _ _ HBX_.out HBE_.out DS0_.out.nxe).mono ?_
    rintro e u' wz ⟨rfl, rfl, hk, hx, he⟩
    exact bad_out rfl rfl hx he (hk w HBW_.out DS0_.out.gex DS0_.out.gee)
  have HH := Aside0.mk H_
  clear H_
  go_upto_region 6 with (first
    | (go_at_call 29; (with_reducible refine (num_calls k gr D1 1099511627776 (some (x1, D2)) w _ DP0.out.rd HQ_.out).mono ?_); (rintro e W2 ⟨rfl, hrd, hst⟩)
       have DN1 := Aside0.mk (DP0.out.num hrd hst)
       have xc1 : W2.cell? ⟨gx, 1, none⟩ = some (.int .u64 0) := (blk_cell DN1.out.bx 1).trans rfl
       have xf1 := blk_frozen DN1.out.bx 1
       clear hrd hst))
  have DP1 := Aside0.mk (DN1.out.put1 x1)
  generalize W2.setCell ⟨gx, 1, none⟩ (.int .u64 x1) = V1 at DP1 ⊢
  clear xc1 xf1 DN1 HQ_ DP0
  obtain ⟨q_, hq_, H_⟩ := nm_out HH.out
  have HQ_ := Aside0.mk hq_
  clear HH hq_
  rcases H_ with ⟨rfl, rfl⟩ | ⟨⟨x2, D3⟩, rfl, H_⟩
  · go_wp2_with (first
      | (go_at_call 29; (with_reducible refine (num_calls k gr D2 72057594037927935 none w _ DP1.out.rd HQ_.out).mono ?_); (rintro e W_ ⟨rfl, hb, hst⟩)
         have DS0_ := DP1
         have ST_ : Stays gr _ W_ := hst
         have HBX_ := Aside0.mk (DS0_.out.bad ST_).1
         have HBE_ := Aside0.mk (DS0_.out.bad ST_).2
         have HBW_ := Aside0.mk hb
         clear hb hst ST_))
    refine leaves_cons (f := 28) (args := #[.pointer (some ⟨gx, 0, none⟩), .pointer (some ⟨ge, 0, none⟩)]) (by simp) (by simp [go_sem]) ?_
    refine (catch_bad gx ge _ _ _ _ _ _ HBX_.out HBE_.out DS0_.out.nxe).mono ?_
    rintro e u' wz ⟨rfl, rfl, hk, hx, he⟩
    exact bad_out rfl rfl hx he (hk w HBW_.out DS0_.out.gex DS0_.out.gee)
  have HH := Aside0.mk H_
  clear H_
  go_upto_region 7 with (first
    | (go_at_call 29; (with_reducible refine (num_calls k gr D2 72057594037927935 (some (x2, D3)) w _ DP1.out.rd HQ_.out).mono ?_); (rintro e W3 ⟨rfl, hrd, hst⟩)
       have DN2 := Aside0.mk (DP1.out.num hrd hst)
       have xc2 : W3.cell? ⟨gx, 2, none⟩ = some (.int .u64 0) := (blk_cell DN2.out.bx 2).trans rfl
       have xf2 := blk_frozen DN2.out.bx 2
       clear hrd hst))
  have DP2 := Aside0.mk (DN2.out.put2 x2)
  generalize W3.setCell ⟨gx, 2, none⟩ (.int .u64 x2) = V2 at DP2 ⊢
  clear xc2 xf2 DN2 HQ_ DP1
  obtain ⟨q_, hq_, H_⟩ := nm_out HH.out
  have HQ_ := Aside0.mk hq_
  clear HH hq_
  rcases H_ with ⟨rfl, rfl⟩ | ⟨⟨nc, D4⟩, rfl, H_⟩
  · go_wp2_with (first
      | (go_at_call 29; (with_reducible refine (num_calls k gr D3 20000 none w _ DP2.out.rd HQ_.out).mono ?_); (rintro e W_ ⟨rfl, hb, hst⟩)
         have DS0_ := DP2
         have ST_ : Stays gr _ W_ := hst
         have HBX_ := Aside0.mk (DS0_.out.bad ST_).1
         have HBE_ := Aside0.mk (DS0_.out.bad ST_).2
         have HBW_ := Aside0.mk hb
         clear hb hst ST_))
    refine leaves_cons (f := 28) (args := #[.pointer (some ⟨gx, 0, none⟩), .pointer (some ⟨ge, 0, none⟩)]) (by simp) (by simp [go_sem]) ?_
    refine (catch_bad gx ge _ _ _ _ _ _ HBX_.out HBE_.out DS0_.out.nxe).mono ?_
    rintro e u' wz ⟨rfl, rfl, hk, hx, he⟩
    exact bad_out rfl rfl hx he (hk w HBW_.out DS0_.out.gex DS0_.out.gee)
  have HH := Aside0.mk H_
  clear H_
  go_upto_region 8 with (first
    | (go_at_call 29; (with_reducible refine (num_calls k gr D3 20000 (some (nc, D4)) w _ DP2.out.rd HQ_.out).mono ?_); (rintro e W4 ⟨rfl, hrd, hst⟩)
       have DS4 := Aside0.mk (DP2.out.num hrd hst)
       clear hrd hst))
  have hnc := num_g_le HQ_.out
  obtain ⟨c, rfl⟩ := Int.eq_ofNat_of_zero_le hnc.1
  have HCC : Aside0 (c ≤ 20000) := ⟨by have := hnc.2; dsimp only at this; omega⟩
  rw [Int.toNat_natCast] at HH
  clear hnc HQ_ DP2
  go_loopg [27] (c + 1) (fun gf v27 wx => ∃ (m i : Nat) (D : List Int) (acc : List S40) (v3 : Value), v27 = .int .u64 (i : Int) ∧ Aside0 (gf + i = c + 1 ∧ i + m = c ∧ acc.length = i) ∧ Aside0 (gones_g k m D acc (fun D ds => nm k D 100 fun c2 D => files_g k c2.toNat D [] fun _ fs => fin_g k b ⟨x0, x1, x2, ds, fs⟩) = some R) ∧ Aside0 (DSt w gx ge gr x0 x1 x2 v3 acc (.slice none 0 0) [] D wx))
  case atStart => exact ⟨c, 0, D4, [], .slice none 0 0, rfl, ⟨by omega, by omega, rfl⟩, HH, DS4⟩
  case round =>
    clear HH DS4
    obtain ⟨m, i, D, acc, v3, rfl, HI, HH, DS⟩ := hrel
    cases gk with
    | zero => exact absurd HI.out.1 (by have := HI.out.2.1; omega)
    | succ g1_ =>
    cases m with
    | succ m =>
      have hH := HH.out
      simp only [gones_g] at hH
      have HH := Aside0.mk hH
      clear hH
      have d1 : decide ((i : Int) < (c : Int)) = true := decide_eq_true (by have := HI.out.2.1; omega)
      have d2 : decide (i < c) = true := decide_eq_true (by have := HI.out.2.1; omega)
      have HW : Aside0 (IntKind.u64.wrap ((i : Int) + 1) = ((i + 1 : Nat) : Int)) := ⟨dec_w1 i (by have := HI.out.2.1; have := HCC.out; omega)⟩
      obtain ⟨q_, hq_, H_⟩ := nm_out HH.out
      have HQ_ := Aside0.mk hq_
      clear HH hq_
      rcases H_ with ⟨rfl, rfl⟩ | ⟨⟨lv, D5⟩, rfl, H_⟩
      · go_wp2_with (first
          | (go_at_call 29; (with_reducible refine (num_calls k gr D 4 none w _ DS.out.rd HQ_.out).mono ?_); (rintro e W_ ⟨rfl, hb, hst⟩)
             have DS0_ := DS
             have ST_ : Stays gr _ W_ := hst
             have HBX_ := Aside0.mk (DS0_.out.bad ST_).1
             have HBE_ := Aside0.mk (DS0_.out.bad ST_).2
             have HBW_ := Aside0.mk hb
             clear hb hst ST_))
        refine leaves_cons (f := 28) (args := #[.pointer (some ⟨gx, 0, none⟩), .pointer (some ⟨ge, 0, none⟩)]) (by simp) (by simp [go_sem]) ?_
        refine (catch_bad gx ge _ _ _ _ _ _ HBX_.out HBE_.out DS0_.out.nxe).mono ?_
        rintro e u' wz ⟨rfl, rfl, hk, hx, he⟩
        exact bad_out rfl rfl hx he (hk w HBW_.out DS0_.out.gex DS0_.out.gee)
      have HH := Aside0.mk H_
      clear H_
      go_upto_region 10 with (first
        | (go_at_call 29; (with_reducible refine (num_calls k gr D 4 (some (lv, D5)) w _ DS.out.rd HQ_.out).mono ?_); (rintro e W5 ⟨rfl, hrd, hst⟩)
           have RD5 := Aside0.mk hrd
           have ST5 := Aside0.mk hst
           have hlw := dec_w2 lv ⟨(num_g_le HQ_.out).1, Int.le_trans (num_g_le HQ_.out).2 (by decide)⟩
           have hlw2 : IntKind.i64.wrap lv = lv := (i64_w lv).trans hlw
           clear hrd hst)
        | ((with_reducible refine gate_dst (N := 6) rfl ?_); refine box_event ?hg (N := 6) ?hd (cs := #[Value.int .i64 0, .int .u64 0]) (t := 40) ?hr ?_; (case hd => rfl); (case hg => rfl); (case hr => first | (go_simp; done) | (go_simp; rfl)); intro gd hg W6 hbox hb
           have BD6 := Aside0.mk hbox
           have GD : Aside0 (W5.heap.size ≤ gd) := ⟨by rw [hg]; exact Nat.le_refl _⟩
           have HB6 := Aside0.mk hb
           have yc0 : W6.cell? ⟨gd, 0, none⟩ = some (Value.int .i64 0) := (blk_cell hbox 0).trans rfl
           have yc1 : W6.cell? ⟨gd, 1, none⟩ = some (Value.int .u64 0) := (blk_cell hbox 1).trans rfl
           have yf0 := blk_frozen hbox 0
           have yf1 := blk_frozen hbox 1
           clear hg hbox hb))
      clear hlw hlw2 HQ_
      obtain ⟨W7, hW7⟩ : ∃ x, (W6.setCell ⟨gd, 0, none⟩ (.int .i64 lv)).setCell ⟨gd, 1, none⟩ (.int .u64 0) = x := ⟨_, rfl⟩
      rw [hW7]
      have BD7 : Aside0 (W7.heap[gd]? = some (.cells #[.int .i64 lv, .int .u64 0] 40 (0, 0))) := ⟨by rw [← hW7]; exact blk_put (cs := #[.int .i64 lv, .int .u64 0]) (blk_put (cs := #[.int .i64 0, .int .u64 0]) BD6.out 0 _ rfl) 1 _ rfl⟩
      have HB7 : Below W5.heap.size W5 W7 := by rw [← hW7]; exact below_set (below_set HB6.out GD.out) GD.out
      have RD7 := Aside0.mk (RD5.out.below HB7)
      have ST7 := Aside0.mk (ST5.out.below HB7)
      have GD7 : Aside0 (wr.heap.size ≤ gd ∧ gd ≠ gr) := ⟨by obtain ⟨A, cc, h1, h2⟩ := RD5.out.blk; have := blk_lt h1; have := GD.out; have := ST5.out.1; exact ⟨by omega, by omega⟩⟩
      clear hW7 HB7 yc0 yc1 yf0 yf1 HB6 BD6 RD5 ST5
      obtain ⟨q_, hq_, H_⟩ := nm_out HH.out
      have HQ_ := Aside0.mk hq_
      clear HH hq_
      rcases H_ with ⟨rfl, rfl⟩ | ⟨⟨nu, D6⟩, rfl, H_⟩
      · go_wp2_with (first
          | (go_at_call 29; (with_reducible refine (num_calls k gr D5 1099511627776 none w _ RD7.out HQ_.out).mono ?_); (rintro e W_ ⟨rfl, hb, hst⟩)
             have DS0_ := DS
             have ST_ : Stays gr _ W_ := ST7.out.trans hst
             have HBX_ := Aside0.mk (DS0_.out.bad ST_).1
             have HBE_ := Aside0.mk (DS0_.out.bad ST_).2
             have HBW_ := Aside0.mk hb
             clear hb hst ST_))
        refine leaves_cons (f := 28) (args := #[.pointer (some ⟨gx, 0, none⟩), .pointer (some ⟨ge, 0, none⟩)]) (by simp) (by simp [go_sem]) ?_
        refine (catch_bad gx ge _ _ _ _ _ _ HBX_.out HBE_.out DS0_.out.nxe).mono ?_
        rintro e u' wz ⟨rfl, rfl, hk, hx, he⟩
        exact bad_out rfl rfl hx he (hk w HBW_.out DS0_.out.gex DS0_.out.gee)
      have HH := Aside0.mk H_
      clear H_
      go_upto_region 11 with (first
        | (go_at_call 29; (with_reducible refine (num_calls k gr D5 1099511627776 (some (nu, D6)) w _ RD7.out HQ_.out).mono ?_); (rintro e W8 ⟨rfl, hrd, hst⟩)
           have RD8 := Aside0.mk hrd
           have ST8 := Aside0.mk (ST7.out.trans hst)
           have BD8 := Aside0.mk (hst.blk BD7.out GD7.out.2)
           have yc1 : W8.cell? ⟨gd, 1, none⟩ = some (Value.int .u64 0) := (blk_cell BD8.out 1).trans rfl
           have yf1 := blk_frozen BD8.out 1
           clear hrd hst))
      have GDW : Aside0 (w.heap.size ≤ gd) := ⟨by have := DS.out.rd.bel.size; have := GD7.out.1; omega⟩
      have BD9 := Aside0.mk (blk_put (cs := #[.int .i64 lv, .int .u64 0]) (cs' := #[.int .i64 lv, .int .u64 nu]) BD8.out 1 (.int .u64 nu) rfl)
      have RD9 := Aside0.mk (RD8.out.other (j := 1) (Ne.symm GD7.out.2) GDW.out (.int .u64 nu))
      have ST9 := Aside0.mk (ST8.out.fresh (j := 1) GD7.out.1 (.int .u64 nu))
      generalize W8.setCell ⟨gd, 1, none⟩ (.int .u64 nu) = W9 at BD9 RD9 ST9 ⊢
      have DS9 := Aside0.mk (DS.out.num RD9.out ST9.out)
      clear yc1 yf1 BD8 RD8 ST8 HQ_ BD7 RD7 ST7
      have xc3 : W9.cell? ⟨gx, 3, none⟩ = some v3 := (blk_cell DS9.out.bx 3).trans rfl
      have yc0 : W9.cell? ⟨gd, 0, none⟩ = some (Value.int .i64 lv) := (blk_cell BD9.out 0).trans rfl
      have yc1 : W9.cell? ⟨gd, 1, none⟩ = some (Value.int .u64 nu) := (blk_cell BD9.out 1).trans rfl
      obtain ⟨A3, c3, e3⟩ := Kd.R_slice DS9.out.r3
      subst e3
      go_upto_region 12 with (first
        | ((with_reducible refine gate_builtin (b := .append) (xs := #[.tmp 37, .tmp 39]) rfl ?_); at_builtin; refine Kd.R_append k40 (w0 := w) w.heap.size rfl (.tmp 37) (.tmp 39) 24 40 (.agg #[(.int .i64 0), (.int .u64 0)]) 16 rfl Try.underlying24 infoG rfl (by decide) (by decide) (.slice A3 acc.length c3) acc (⟨lv, nu⟩ : S40) [.int .i64 lv, .int .u64 nu] (fun k => k ≠ gx ∧ k ≠ ge ∧ k ≠ gr ∧ some k ≠ (Value.slice none 0 0).ownBlock) (fun _ => False) rfl rfl ?aP (fun _ hk => hk.elim) ?aF ?aO ?aB ?aS ?aL ?_
           (case aP => exact k40_mkM _ _ _ (⟨lv, nu⟩ : S40))
           (case aB => exact DS9.out.rd.bel)
           (case aF => exact DS9.out.new3)
           (case aO => exact DS9.out.r3)
           (case aS => exact below_size DS9.out.rd.bel)
           (case aL => have := HI.out.2; have := HCC.out; omega)
           intro v3' W10 ho hb hg hat
           obtain ⟨A3', n3', c3', e3'⟩ := slice3 ho
           subst e3'
           have DS10 := Aside0.mk (DS9.out.gone hg hb ho hat)
           have xd3 : W10.cell? ⟨gx, 3, none⟩ = some (.slice A3 acc.length c3) := (blk_cell (blk_grown DS9.out.bx hg (fun e => (DS9.out.r3.1 gx e.symm).1 rfl)) 3).trans rfl
           have xe3 := blk_frozen (blk_grown DS9.out.bx hg (fun e => (DS9.out.r3.1 gx e.symm).1 rfl)) 3
           clear ho hb hg hat))
      clear xc3 yc0 yc1 xd3 xe3
      go_wp2
      go_roundg g1_
      case measure => omega
      case rel => exact ⟨m, i + 1, D6, acc ++ [⟨lv, nu⟩], _, by rw [HW.out], ⟨by have := HI.out.1; omega, by have := HI.out.2.1; omega, by rw [List.length_append, HI.out.2.2]; rfl⟩, HH, DS10⟩
    | zero =>
      have hH := HH.out
      simp only [gones_g] at hH
      have HH := Aside0.mk hH
      clear hH
      have d1 : decide ((i : Int) < (c : Int)) = false := decide_eq_false (by have := HI.out.2.1; omega)
      have d2 : decide (i < c) = false := decide_eq_false (by have := HI.out.2.1; omega)
      go_upto_region 13 with fail
      clear d1 d2
      obtain ⟨q_, hq_, H_⟩ := nm_out HH.out
      have HQ_ := Aside0.mk hq_
      clear HH hq_
      rcases H_ with ⟨rfl, rfl⟩ | ⟨⟨nc2, D7⟩, rfl, H_⟩
      · go_wp2_with (first
          | (go_at_call 29; (with_reducible refine (num_calls k gr D 100 none w _ DS.out.rd HQ_.out).mono ?_); (rintro e W_ ⟨rfl, hb, hst⟩)
             have DS0_ := DS
             have ST_ : Stays gr _ W_ := hst
             have HBX_ := Aside0.mk (DS0_.out.bad ST_).1
             have HBE_ := Aside0.mk (DS0_.out.bad ST_).2
             have HBW_ := Aside0.mk hb
             clear hb hst ST_))
        refine leaves_cons (f := 28) (args := #[.pointer (some ⟨gx, 0, none⟩), .pointer (some ⟨ge, 0, none⟩)]) (by simp) (by simp [go_sem]) ?_
        refine (catch_bad gx ge _ _ _ _ _ _ HBX_.out HBE_.out DS0_.out.nxe).mono ?_
        rintro e u' wz ⟨rfl, rfl, hk, hx, he⟩
        exact bad_out rfl rfl hx he (hk w HBW_.out DS0_.out.gex DS0_.out.gee)
      have HH := Aside0.mk H_
      clear H_
      go_upto_region 14 with (first
        | (go_at_call 29; (with_reducible refine (num_calls k gr D 100 (some (nc2, D7)) w _ DS.out.rd HQ_.out).mono ?_); (rintro e W11 ⟨rfl, hrd, hst⟩)
           have DS11 := Aside0.mk (DS.out.num hrd hst)
           clear hrd hst))
      have hnc := num_g_le HQ_.out
      obtain ⟨c2, rfl⟩ := Int.eq_ofNat_of_zero_le hnc.1
      have HC2 : Aside0 (c2 ≤ 100) := ⟨by have := hnc.2; dsimp only at this; omega⟩
      rw [Int.toNat_natCast] at HH
      clear hnc HQ_ DS HI
      go_loopg [45] (c2 + 1) (fun gf v45 wx => ∃ (m i : Nat) (D : List Int) (fs : List S44) (v4 : Value), v45 = .int .u64 (i : Int) ∧ Aside0 (gf + i = c2 + 1 ∧ i + m = c2 ∧ fs.length = i) ∧ Aside0 (files_g k m D fs (fun _ fs => fin_g k b ⟨x0, x1, x2, acc, fs⟩) = some R) ∧ Aside0 (DSt w gx ge gr x0 x1 x2 v3 acc v4 fs D wx))
      case atStart => exact ⟨c2, 0, D7, [], .slice none 0 0, rfl, ⟨by omega, by omega, rfl⟩, HH, DS11⟩
      case round =>
        clear HH DS11
        obtain ⟨m, i, D, fs, v4, rfl, HI, HH, DS⟩ := hrel
        cases gk with
        | zero => exact absurd HI.out.1 (by have := HI.out.2.1; omega)
        | succ g2_ =>
        cases m with
        | succ m =>
          have hH := HH.out
          simp only [files_g] at hH
          have HH := Aside0.mk hH
          clear hH
          have d1 : decide ((i : Int) < (c2 : Int)) = true := decide_eq_true (by have := HI.out.2.1; omega)
          have d2 : decide (i < c2) = true := decide_eq_true (by have := HI.out.2.1; omega)
          have HW : Aside0 (IntKind.u64.wrap ((i : Int) + 1) = ((i + 1 : Nat) : Int)) := ⟨dec_w1 i (by have := HI.out.2.1; have := HC2.out; omega)⟩
          obtain ⟨q_, hq_, H_⟩ := nm_out HH.out
          have HQ_ := Aside0.mk hq_
          clear HH hq_
          rcases H_ with ⟨rfl, rfl⟩ | ⟨⟨lv, D8⟩, rfl, H_⟩
          · go_wp2_with (first
              | (go_at_call 29; (with_reducible refine (num_calls k gr D 4 none w _ DS.out.rd HQ_.out).mono ?_); (rintro e W_ ⟨rfl, hb, hst⟩)
                 have DS0_ := DS
                 have ST_ : Stays gr _ W_ := hst
                 have HBX_ := Aside0.mk (DS0_.out.bad ST_).1
                 have HBE_ := Aside0.mk (DS0_.out.bad ST_).2
                 have HBW_ := Aside0.mk hb
                 clear hb hst ST_))
            refine leaves_cons (f := 28) (args := #[.pointer (some ⟨gx, 0, none⟩), .pointer (some ⟨ge, 0, none⟩)]) (by simp) (by simp [go_sem]) ?_
            refine (catch_bad gx ge _ _ _ _ _ _ HBX_.out HBE_.out DS0_.out.nxe).mono ?_
            rintro e u' wz ⟨rfl, rfl, hk, hx, he⟩
            exact bad_out rfl rfl hx he (hk w HBW_.out DS0_.out.gex DS0_.out.gee)
          have HH := Aside0.mk H_
          clear H_
          go_upto_region 16 with (first
            | (go_at_call 29; (with_reducible refine (num_calls k gr D 4 (some (lv, D8)) w _ DS.out.rd HQ_.out).mono ?_); (rintro e W5 ⟨rfl, hrd, hst⟩)
               have RD5 := Aside0.mk hrd
               have ST5 := Aside0.mk hst
               have hlw := dec_w2 lv ⟨(num_g_le HQ_.out).1, Int.le_trans (num_g_le HQ_.out).2 (by decide)⟩
               have hlw2 : IntKind.i64.wrap lv = lv := (i64_w lv).trans hlw
               clear hrd hst)
            | ((with_reducible refine gate_dst (N := 7) rfl ?_); refine box_event ?hg (N := 7) ?hd (cs := #[Value.int .i64 0, .int .u64 0, .int .i64 0, .string (⟨#[]⟩ : ByteArray), .int .u64 0, .int .i64 0, .string (⟨#[]⟩ : ByteArray), .int .u64 0, .int .i64 0]) (t := 44) ?hr ?_; (case hd => rfl); (case hg => rfl); (case hr => first | (go_simp; done) | (go_simp; rfl)); intro gd hg W6 hbox hb
               have BD6 := Aside0.mk hbox
               have GD : Aside0 (W5.heap.size ≤ gd) := ⟨by rw [hg]; exact Nat.le_refl _⟩
               have HB6 := Aside0.mk hb
               have yc0 : W6.cell? ⟨gd, 0, none⟩ = some (Value.int .i64 0) := (blk_cell hbox 0).trans rfl
               have yc1 : W6.cell? ⟨gd, 1, none⟩ = some (.int .u64 0) := (blk_cell hbox 1).trans rfl
               have yc2 : W6.cell? ⟨gd, 2, none⟩ = some (.int .i64 0) := (blk_cell hbox 2).trans rfl
               have yc3 : W6.cell? ⟨gd, 3, none⟩ = some (.string (⟨#[]⟩ : ByteArray)) := (blk_cell hbox 3).trans rfl
               have yc4 : W6.cell? ⟨gd, 4, none⟩ = some (.int .u64 0) := (blk_cell hbox 4).trans rfl
               have yc5 : W6.cell? ⟨gd, 5, none⟩ = some (.int .i64 0) := (blk_cell hbox 5).trans rfl
               have yc6 : W6.cell? ⟨gd, 6, none⟩ = some (.string (⟨#[]⟩ : ByteArray)) := (blk_cell hbox 6).trans rfl
               have yc7 : W6.cell? ⟨gd, 7, none⟩ = some (.int .u64 0) := (blk_cell hbox 7).trans rfl
               have yc8 : W6.cell? ⟨gd, 8, none⟩ = some (.int .i64 0) := (blk_cell hbox 8).trans rfl
               have yf0 := blk_frozen hbox 0
               have yf1 := blk_frozen hbox 1
               have yf2 := blk_frozen hbox 2
               have yf3 := blk_frozen hbox 3
               have yf4 := blk_frozen hbox 4
               have yf5 := blk_frozen hbox 5
               have yf6 := blk_frozen hbox 6
               have yf7 := blk_frozen hbox 7
               have yf8 := blk_frozen hbox 8
               clear hg hbox hb))
          clear hlw hlw2 HQ_
          obtain ⟨W7, hW7⟩ : ∃ x, (((((((((W6.setCell ⟨gd, 0, none⟩ (Value.int .i64 lv)).setCell ⟨gd, 1, none⟩ (.int .u64 0)).setCell ⟨gd, 2, none⟩ (.int .i64 0)).setCell ⟨gd, 3, none⟩ (.string (⟨#[]⟩ : ByteArray))).setCell ⟨gd, 4, none⟩ (.int .u64 0)).setCell ⟨gd, 5, none⟩ (.int .i64 0)).setCell ⟨gd, 6, none⟩ (.string (⟨#[]⟩ : ByteArray))).setCell ⟨gd, 7, none⟩ (.int .u64 0)).setCell ⟨gd, 8, none⟩ (.int .i64 0)) = x := ⟨_, rfl⟩
          rw [hW7]
          have BD7 : Aside0 (W7.heap[gd]? = some (.cells #[Value.int .i64 lv, .int .u64 0, .int .i64 0, .string (⟨#[]⟩ : ByteArray), .int .u64 0, .int .i64 0, .string (⟨#[]⟩ : ByteArray), .int .u64 0, .int .i64 0] 44 (0, 0))) := ⟨by rw [← hW7]; exact blk_put (cs := #[Value.int .i64 lv, .int .u64 0, .int .i64 0, .string (⟨#[]⟩ : ByteArray), .int .u64 0, .int .i64 0, .string (⟨#[]⟩ : ByteArray), .int .u64 0, .int .i64 0]) (blk_put (cs := #[Value.int .i64 lv, .int .u64 0, .int .i64 0, .string (⟨#[]⟩ : ByteArray), .int .u64 0, .int .i64 0, .string (⟨#[]⟩ : ByteArray), .int .u64 0, .int .i64 0]) (blk_put (cs := #[Value.int .i64 lv, .int .u64 0, .int .i64 0, .string (⟨#[]⟩ : ByteArray), .int .u64 0, .int .i64 0, .string (⟨#[]⟩ : ByteArray), .int .u64 0, .int .i64 0]) (blk_put (cs := #[Value.int .i64 lv, .int .u64 0, .int .i64 0, .string (⟨#[]⟩ : ByteArray), .int .u64 0, .int .i64 0, .string (⟨#[]⟩ : ByteArray), .int .u64 0, .int .i64 0]) (blk_put (cs := #[Value.int .i64 lv, .int .u64 0, .int .i64 0, .string (⟨#[]⟩ : ByteArray), .int .u64 0, .int .i64 0, .string (⟨#[]⟩ : ByteArray), .int .u64 0, .int .i64 0]) (blk_put (cs := #[Value.int .i64 lv, .int .u64 0, .int .i64 0, .string (⟨#[]⟩ : ByteArray), .int .u64 0, .int .i64 0, .string (⟨#[]⟩ : ByteArray), .int .u64 0, .int .i64 0]) (blk_put (cs := #[Value.int .i64 lv, .int .u64 0, .int .i64 0, .string (⟨#[]⟩ : ByteArray), .int .u64 0, .int .i64 0, .string (⟨#[]⟩ : ByteArray), .int .u64 0, .int .i64 0]) (blk_put (cs := #[Value.int .i64 lv, .int .u64 0, .int .i64 0, .string (⟨#[]⟩ : ByteArray), .int .u64 0, .int .i64 0, .string (⟨#[]⟩ : ByteArray), .int .u64 0, .int .i64 0]) (blk_put (cs := #[Value.int .i64 0, .int .u64 0, .int .i64 0, .string (⟨#[]⟩ : ByteArray), .int .u64 0, .int .i64 0, .string (⟨#[]⟩ : ByteArray), .int .u64 0, .int .i64 0]) (BD6.out) 0 _ rfl) 1 _ rfl) 2 _ rfl) 3 _ rfl) 4 _ rfl) 5 _ rfl) 6 _ rfl) 7 _ rfl) 8 _ rfl⟩
          have HB7 : Below W5.heap.size W5 W7 := by rw [← hW7]; exact below_set (below_set (below_set (below_set (below_set (below_set (below_set (below_set (below_set (HB6.out) GD.out) GD.out) GD.out) GD.out) GD.out) GD.out) GD.out) GD.out) GD.out
          have RD7 := Aside0.mk (RD5.out.below HB7)
          have ST7 := Aside0.mk (ST5.out.below HB7)
          have GD7 : Aside0 (wr.heap.size ≤ gd ∧ gd ≠ gr) := ⟨by obtain ⟨A, cc, h1, h2⟩ := RD5.out.blk; have := blk_lt h1; have := GD.out; have := ST5.out.1; exact ⟨by omega, by omega⟩⟩
          have GDW : Aside0 (w.heap.size ≤ gd) := ⟨by have := DS.out.rd.bel.size; have := GD7.out.1; omega⟩
          clear hW7 HB7 yc0 yf0 yc1 yf1 yc2 yf2 yc3 yf3 yc4 yf4 yc5 yf5 yc6 yf6 yc7 yf7 yc8 yf8 HB6 BD6 RD5 ST5
          obtain ⟨q_, hq_, H_⟩ := nm_out HH.out
          have HQ_ := Aside0.mk hq_
          clear HH hq_
          rcases H_ with ⟨rfl, rfl⟩ | ⟨⟨nu, D9⟩, rfl, H_⟩
          · go_wp2_with (first
              | (go_at_call 29; (with_reducible refine (num_calls k gr D8 1099511627776 none w _ RD7.out HQ_.out).mono ?_); (rintro e W_ ⟨rfl, hb, hst⟩)
                 have DS0_ := DS
                 have ST_ : Stays gr _ W_ := ST7.out.trans hst
                 have HBX_ := Aside0.mk (DS0_.out.bad ST_).1
                 have HBE_ := Aside0.mk (DS0_.out.bad ST_).2
                 have HBW_ := Aside0.mk hb
                 clear hb hst ST_))
            refine leaves_cons (f := 28) (args := #[.pointer (some ⟨gx, 0, none⟩), .pointer (some ⟨ge, 0, none⟩)]) (by simp) (by simp [go_sem]) ?_
            refine (catch_bad gx ge _ _ _ _ _ _ HBX_.out HBE_.out DS0_.out.nxe).mono ?_
            rintro e u' wz ⟨rfl, rfl, hk, hx, he⟩
            exact bad_out rfl rfl hx he (hk w HBW_.out DS0_.out.gex DS0_.out.gee)
          have HH := Aside0.mk H_
          clear H_
          go_upto_region 17 with (first
            | (go_at_call 29; (with_reducible refine (num_calls k gr D8 1099511627776 (some (nu, D9)) w _ RD7.out HQ_.out).mono ?_); (rintro e Wa ⟨rfl, hrd, hst⟩)
               have RDa := Aside0.mk hrd
               have STa := Aside0.mk (ST7.out.trans hst)
               have BDa := Aside0.mk (hst.blk BD7.out GD7.out.2)
               have yc1 : Wa.cell? ⟨gd, 1, none⟩ = some (.int .u64 0) := (blk_cell BDa.out 1).trans rfl
               have yf1 := blk_frozen BDa.out 1
               clear hrd hst))
          have BDp : Aside0 ((Wa.setCell ⟨gd, 1, none⟩ (.int .u64 nu)).heap[gd]? = some (.cells #[Value.int .i64 lv, .int .u64 nu, .int .i64 0, .string (⟨#[]⟩ : ByteArray), .int .u64 0, .int .i64 0, .string (⟨#[]⟩ : ByteArray), .int .u64 0, .int .i64 0] 44 (0, 0))) := ⟨blk_put (cs := #[Value.int .i64 lv, .int .u64 0, .int .i64 0, .string (⟨#[]⟩ : ByteArray), .int .u64 0, .int .i64 0, .string (⟨#[]⟩ : ByteArray), .int .u64 0, .int .i64 0]) (BDa.out) 1 (.int .u64 nu) rfl⟩
          have RDp := Aside0.mk ((RDa.out).other (j := 1) (Ne.symm GD7.out.2) GDW.out (.int .u64 nu))
          have STp := Aside0.mk ((STa.out).fresh (j := 1) GD7.out.1 (.int .u64 nu))
          generalize (Wa.setCell ⟨gd, 1, none⟩ (.int .u64 nu)) = Wp at BDp RDp STp ⊢
          clear BDa RDa STa HQ_ RD7 ST7 BD7 yc1 yf1
          obtain ⟨q_, hq_, H_⟩ := nm_out HH.out
          have HQ_ := Aside0.mk hq_
          clear HH hq_
          rcases H_ with ⟨rfl, rfl⟩ | ⟨⟨sz, D10⟩, rfl, H_⟩
          · go_wp2_with (first
              | (go_at_call 29; (with_reducible refine (num_calls k gr D9 2147483648 none w _ RDp.out HQ_.out).mono ?_); (rintro e W_ ⟨rfl, hb, hst⟩)
                 have DS0_ := DS
                 have ST_ : Stays gr _ W_ := STp.out.trans hst
                 have HBX_ := Aside0.mk (DS0_.out.bad ST_).1
                 have HBE_ := Aside0.mk (DS0_.out.bad ST_).2
                 have HBW_ := Aside0.mk hb
                 clear hb hst ST_))
            refine leaves_cons (f := 28) (args := #[.pointer (some ⟨gx, 0, none⟩), .pointer (some ⟨ge, 0, none⟩)]) (by simp) (by simp [go_sem]) ?_
            refine (catch_bad gx ge _ _ _ _ _ _ HBX_.out HBE_.out DS0_.out.nxe).mono ?_
            rintro e u' wz ⟨rfl, rfl, hk, hx, he⟩
            exact bad_out rfl rfl hx he (hk w HBW_.out DS0_.out.gex DS0_.out.gee)
          have HH := Aside0.mk H_
          clear H_
          go_upto_region 18 with (first
            | (go_at_call 29; (with_reducible refine (num_calls k gr D9 2147483648 (some (sz, D10)) w _ RDp.out HQ_.out).mono ?_); (rintro e Wb ⟨rfl, hrd, hst⟩)
               have RDa := Aside0.mk hrd
               have STa := Aside0.mk (STp.out.trans hst)
               have BDa := Aside0.mk (hst.blk BDp.out GD7.out.2)
               have hlw := dec_w2 sz (num_g_le HQ_.out)
               have hlw2 : IntKind.i64.wrap sz = sz := (i64_w sz).trans hlw
               have yc2 : Wb.cell? ⟨gd, 2, none⟩ = some (.int .i64 0) := (blk_cell BDa.out 2).trans rfl
               have yf2 := blk_frozen BDa.out 2
               clear hrd hst))
          have BDq : Aside0 ((Wb.setCell ⟨gd, 2, none⟩ (.int .i64 sz)).heap[gd]? = some (.cells #[Value.int .i64 lv, .int .u64 nu, .int .i64 sz, .string (⟨#[]⟩ : ByteArray), .int .u64 0, .int .i64 0, .string (⟨#[]⟩ : ByteArray), .int .u64 0, .int .i64 0] 44 (0, 0))) := ⟨blk_put (cs := #[Value.int .i64 lv, .int .u64 nu, .int .i64 0, .string (⟨#[]⟩ : ByteArray), .int .u64 0, .int .i64 0, .string (⟨#[]⟩ : ByteArray), .int .u64 0, .int .i64 0]) (BDa.out) 2 (.int .i64 sz) rfl⟩
          have RDq := Aside0.mk ((RDa.out).other (j := 2) (Ne.symm GD7.out.2) GDW.out (.int .i64 sz))
          have STq := Aside0.mk ((STa.out).fresh (j := 2) GD7.out.1 (.int .i64 sz))
          clear hlw hlw2
          generalize (Wb.setCell ⟨gd, 2, none⟩ (.int .i64 sz)) = Wq at BDq RDq STq ⊢
          clear BDa RDa STa HQ_ RDp STp BDp yc2 yf2
          obtain ⟨q_, hq_, H_⟩ := ky_out HH.out
          have HQ_ := Aside0.mk hq_
          clear HH hq_
          rcases H_ with ⟨rfl, rfl⟩ | ⟨⟨sm, D11⟩, rfl, H_⟩
          · go_wp2_with (first
              | (go_at_call 30; (with_reducible refine (key_calls k gr D10 none w _ RDq.out HQ_.out).mono ?_); (rintro e W_ ⟨rfl, hb, hst⟩)
                 have DS0_ := DS
                 have ST_ : Stays gr _ W_ := STq.out.trans hst
                 have HBX_ := Aside0.mk (DS0_.out.bad ST_).1
                 have HBE_ := Aside0.mk (DS0_.out.bad ST_).2
                 have HBW_ := Aside0.mk hb
                 clear hb hst ST_))
            refine leaves_cons (f := 28) (args := #[.pointer (some ⟨gx, 0, none⟩), .pointer (some ⟨ge, 0, none⟩)]) (by simp) (by simp [go_sem]) ?_
            refine (catch_bad gx ge _ _ _ _ _ _ HBX_.out HBE_.out DS0_.out.nxe).mono ?_
            rintro e u' wz ⟨rfl, rfl, hk, hx, he⟩
            exact bad_out rfl rfl hx he (hk w HBW_.out DS0_.out.gex DS0_.out.gee)
          have HH := Aside0.mk H_
          clear H_
          go_upto_region 19 with (first
            | (go_at_call 30; (with_reducible refine (key_calls k gr D10 (some (sm, D11)) w _ RDq.out HQ_.out).mono ?_); (rintro e Wc ⟨rfl, hrd, hst⟩)
               have RDa := Aside0.mk hrd
               have STa := Aside0.mk (STq.out.trans hst)
               have BDa := Aside0.mk (hst.blk BDq.out GD7.out.2)
               have yc3 : Wc.cell? ⟨gd, 3, none⟩ = some (.string (⟨#[]⟩ : ByteArray)) := (blk_cell BDa.out 3).trans rfl
               have yf3 := blk_frozen BDa.out 3
               have yc4 : Wc.cell? ⟨gd, 4, none⟩ = some (.int .u64 0) := (blk_cell BDa.out 4).trans rfl
               have yf4 := blk_frozen BDa.out 4
               have yc5 : Wc.cell? ⟨gd, 5, none⟩ = some (.int .i64 0) := (blk_cell BDa.out 5).trans rfl
               have yf5 := blk_frozen BDa.out 5
               clear hrd hst))
          have BDr : Aside0 ((((Wc.setCell ⟨gd, 3, none⟩ (.string sm.f0)).setCell ⟨gd, 4, none⟩ (.int .u64 sm.f1)).setCell ⟨gd, 5, none⟩ (.int .i64 sm.f2)).heap[gd]? = some (.cells #[Value.int .i64 lv, .int .u64 nu, .int .i64 sz, .string sm.f0, .int .u64 sm.f1, .int .i64 sm.f2, .string (⟨#[]⟩ : ByteArray), .int .u64 0, .int .i64 0] 44 (0, 0))) := ⟨blk_put (cs := #[Value.int .i64 lv, .int .u64 nu, .int .i64 sz, .string sm.f0, .int .u64 sm.f1, .int .i64 0, .string (⟨#[]⟩ : ByteArray), .int .u64 0, .int .i64 0]) (blk_put (cs := #[Value.int .i64 lv, .int .u64 nu, .int .i64 sz, .string sm.f0, .int .u64 0, .int .i64 0, .string (⟨#[]⟩ : ByteArray), .int .u64 0, .int .i64 0]) (blk_put (cs := #[Value.int .i64 lv, .int .u64 nu, .int .i64 sz, .string (⟨#[]⟩ : ByteArray), .int .u64 0, .int .i64 0, .string (⟨#[]⟩ : ByteArray), .int .u64 0, .int .i64 0]) (BDa.out) 3 (.string sm.f0) rfl) 4 (.int .u64 sm.f1) rfl) 5 (.int .i64 sm.f2) rfl⟩
          have RDr := Aside0.mk ((((RDa.out).other (j := 3) (Ne.symm GD7.out.2) GDW.out (.string sm.f0)).other (j := 4) (Ne.symm GD7.out.2) GDW.out (.int .u64 sm.f1)).other (j := 5) (Ne.symm GD7.out.2) GDW.out (.int .i64 sm.f2))
          have STr := Aside0.mk ((((STa.out).fresh (j := 3) GD7.out.1 (.string sm.f0)).fresh (j := 4) GD7.out.1 (.int .u64 sm.f1)).fresh (j := 5) GD7.out.1 (.int .i64 sm.f2))
          generalize (((Wc.setCell ⟨gd, 3, none⟩ (.string sm.f0)).setCell ⟨gd, 4, none⟩ (.int .u64 sm.f1)).setCell ⟨gd, 5, none⟩ (.int .i64 sm.f2)) = Wr_ at BDr RDr STr ⊢
          clear BDa RDa STa HQ_ RDq STq BDq yc3 yf3 yc4 yf4 yc5 yf5
          obtain ⟨q_, hq_, H_⟩ := ky_out HH.out
          have HQ_ := Aside0.mk hq_
          clear HH hq_
          rcases H_ with ⟨rfl, rfl⟩ | ⟨⟨lg, D12⟩, rfl, H_⟩
          · go_wp2_with (first
              | (go_at_call 30; (with_reducible refine (key_calls k gr D11 none w _ RDr.out HQ_.out).mono ?_); (rintro e W_ ⟨rfl, hb, hst⟩)
                 have DS0_ := DS
                 have ST_ : Stays gr _ W_ := STr.out.trans hst
                 have HBX_ := Aside0.mk (DS0_.out.bad ST_).1
                 have HBE_ := Aside0.mk (DS0_.out.bad ST_).2
                 have HBW_ := Aside0.mk hb
                 clear hb hst ST_))
            refine leaves_cons (f := 28) (args := #[.pointer (some ⟨gx, 0, none⟩), .pointer (some ⟨ge, 0, none⟩)]) (by simp) (by simp [go_sem]) ?_
            refine (catch_bad gx ge _ _ _ _ _ _ HBX_.out HBE_.out DS0_.out.nxe).mono ?_
            rintro e u' wz ⟨rfl, rfl, hk, hx, he⟩
            exact bad_out rfl rfl hx he (hk w HBW_.out DS0_.out.gex DS0_.out.gee)
          have HH := Aside0.mk H_
          clear H_
          go_upto_region 20 with (first
            | (go_at_call 30; (with_reducible refine (key_calls k gr D11 (some (lg, D12)) w _ RDr.out HQ_.out).mono ?_); (rintro e Wd ⟨rfl, hrd, hst⟩)
               have RDa := Aside0.mk hrd
               have STa := Aside0.mk (STr.out.trans hst)
               have BDa := Aside0.mk (hst.blk BDr.out GD7.out.2)
               have yc6 : Wd.cell? ⟨gd, 6, none⟩ = some (.string (⟨#[]⟩ : ByteArray)) := (blk_cell BDa.out 6).trans rfl
               have yf6 := blk_frozen BDa.out 6
               have yc7 : Wd.cell? ⟨gd, 7, none⟩ = some (.int .u64 0) := (blk_cell BDa.out 7).trans rfl
               have yf7 := blk_frozen BDa.out 7
               have yc8 : Wd.cell? ⟨gd, 8, none⟩ = some (.int .i64 0) := (blk_cell BDa.out 8).trans rfl
               have yf8 := blk_frozen BDa.out 8
               clear hrd hst))
          have BDs : Aside0 ((((Wd.setCell ⟨gd, 6, none⟩ (.string lg.f0)).setCell ⟨gd, 7, none⟩ (.int .u64 lg.f1)).setCell ⟨gd, 8, none⟩ (.int .i64 lg.f2)).heap[gd]? = some (.cells #[Value.int .i64 lv, .int .u64 nu, .int .i64 sz, .string sm.f0, .int .u64 sm.f1, .int .i64 sm.f2, .string lg.f0, .int .u64 lg.f1, .int .i64 lg.f2] 44 (0, 0))) := ⟨blk_put (cs := #[Value.int .i64 lv, .int .u64 nu, .int .i64 sz, .string sm.f0, .int .u64 sm.f1, .int .i64 sm.f2, .string lg.f0, .int .u64 lg.f1, .int .i64 0]) (blk_put (cs := #[Value.int .i64 lv, .int .u64 nu, .int .i64 sz, .string sm.f0, .int .u64 sm.f1, .int .i64 sm.f2, .string lg.f0, .int .u64 0, .int .i64 0]) (blk_put (cs := #[Value.int .i64 lv, .int .u64 nu, .int .i64 sz, .string sm.f0, .int .u64 sm.f1, .int .i64 sm.f2, .string (⟨#[]⟩ : ByteArray), .int .u64 0, .int .i64 0]) (BDa.out) 6 (.string lg.f0) rfl) 7 (.int .u64 lg.f1) rfl) 8 (.int .i64 lg.f2) rfl⟩
          have RDs := Aside0.mk ((((RDa.out).other (j := 6) (Ne.symm GD7.out.2) GDW.out (.string lg.f0)).other (j := 7) (Ne.symm GD7.out.2) GDW.out (.int .u64 lg.f1)).other (j := 8) (Ne.symm GD7.out.2) GDW.out (.int .i64 lg.f2))
          have STs := Aside0.mk ((((STa.out).fresh (j := 6) GD7.out.1 (.string lg.f0)).fresh (j := 7) GD7.out.1 (.int .u64 lg.f1)).fresh (j := 8) GD7.out.1 (.int .i64 lg.f2))
          generalize (((Wd.setCell ⟨gd, 6, none⟩ (.string lg.f0)).setCell ⟨gd, 7, none⟩ (.int .u64 lg.f1)).setCell ⟨gd, 8, none⟩ (.int .i64 lg.f2)) = W9 at BDs RDs STs ⊢
          clear BDa RDa STa HQ_ RDr STr BDr yc6 yf6 yc7 yf7 yc8 yf8
          have DS9 := Aside0.mk (DS.out.num RDs.out STs.out)
          clear RDs STs
          have xc4 : W9.cell? ⟨gx, 4, none⟩ = some v4 := (blk_cell DS9.out.bx 4).trans rfl
          have yc0 : W9.cell? ⟨gd, 0, none⟩ = some (Value.int .i64 lv) := (blk_cell BDs.out 0).trans rfl
          have yc1 : W9.cell? ⟨gd, 1, none⟩ = some (.int .u64 nu) := (blk_cell BDs.out 1).trans rfl
          have yc2 : W9.cell? ⟨gd, 2, none⟩ = some (.int .i64 sz) := (blk_cell BDs.out 2).trans rfl
          have yc3 : W9.cell? ⟨gd, 3, none⟩ = some (.string sm.f0) := (blk_cell BDs.out 3).trans rfl
          have yc4 : W9.cell? ⟨gd, 4, none⟩ = some (.int .u64 sm.f1) := (blk_cell BDs.out 4).trans rfl
          have yc5 : W9.cell? ⟨gd, 5, none⟩ = some (.int .i64 sm.f2) := (blk_cell BDs.out 5).trans rfl
          have yc6 : W9.cell? ⟨gd, 6, none⟩ = some (.string lg.f0) := (blk_cell BDs.out 6).trans rfl
          have yc7 : W9.cell? ⟨gd, 7, none⟩ = some (.int .u64 lg.f1) := (blk_cell BDs.out 7).trans rfl
          have yc8 : W9.cell? ⟨gd, 8, none⟩ = some (.int .i64 lg.f2) := (blk_cell BDs.out 8).trans rfl
          obtain ⟨A4, c4, e4⟩ := Kd.R_slice DS9.out.r4
          subst e4
          go_upto_region 21 with (first
            | ((with_reducible refine gate_builtin (b := .append) (xs := #[.tmp 65, .tmp 67]) rfl ?_); at_builtin; refine Kd.R_append k44 (w0 := w) w.heap.size rfl (.tmp 65) (.tmp 67) 25 44 (.agg #[(.int .i64 0), (.int .u64 0), (.int .i64 0), (.string ⟨#[]⟩), (.int .u64 0), (.int .i64 0), (.string ⟨#[]⟩), (.int .u64 0), (.int .i64 0)]) 88 rfl Try.underlying25 infoF rfl (by decide) (by decide) (.slice A4 fs.length c4) fs (⟨lv, nu, sz, sm, lg⟩ : S44) [Value.int .i64 lv, .int .u64 nu, .int .i64 sz, .string sm.f0, .int .u64 sm.f1, .int .i64 sm.f2, .string lg.f0, .int .u64 lg.f1, .int .i64 lg.f2] (fun k => k ≠ gx ∧ k ≠ ge ∧ k ≠ gr ∧ some k ≠ v3.ownBlock) (fun _ => False) rfl rfl ?aP (fun _ hk => hk.elim) ?aF ?aO ?aB ?aS ?aL ?_
               (case aP => exact k44_mkM _ _ _ (⟨lv, nu, sz, sm, lg⟩ : S44))
               (case aB => exact DS9.out.rd.bel)
               (case aF => exact DS9.out.new4)
               (case aO => exact DS9.out.r4)
               (case aS => exact below_size DS9.out.rd.bel)
               (case aL => have := HI.out.2; have := HC2.out; omega)
               intro v4' W10 ho hb hg hat
               obtain ⟨A4', n4', c4', e4'⟩ := slice3 ho
               subst e4'
               have DS10 := Aside0.mk (DS9.out.file hg hb ho hat)
               have xd4 : W10.cell? ⟨gx, 4, none⟩ = some (.slice A4 fs.length c4) := (blk_cell (blk_grown DS9.out.bx hg (fun e => (DS9.out.r4.1 gx e.symm).1 rfl)) 4).trans rfl
               have xe4 := blk_frozen (blk_grown DS9.out.bx hg (fun e => (DS9.out.r4.1 gx e.symm).1 rfl)) 4
               clear ho hb hg hat))
          clear xc4 yc0 yc1 yc2 yc3 yc4 yc5 yc6 yc7 yc8 xd4 xe4
          go_wp2
          go_roundg g2_
          case measure => omega
          case rel => exact ⟨m, i + 1, D12, fs ++ [(⟨lv, nu, sz, sm, lg⟩ : S44)], _, by rw [HW.out], ⟨by have := HI.out.1; omega, by have := HI.out.2.1; omega, by rw [List.length_append, HI.out.2.2]; rfl⟩, HH, DS10⟩
        | zero =>
          have hH := HH.out
          simp only [files_g] at hH
          unfold fin_g at hH
          dsimp only at hH
          obtain ⟨⟨yb, ye⟩, hy, hH⟩ := Option.bind_eq_some_iff.mp hH
          dsimp only at hH
          have HY := Aside0.mk hy
          have HH := Aside0.mk hH
          clear hH hy
          have d1 : decide ((i : Int) < (c2 : Int)) = false := decide_eq_false (by have := HI.out.2.1; omega)
          have d2 : decide (i < c2) = false := decide_eq_false (by have := HI.out.2.1; omega)
          obtain ⟨A3, c3, e3⟩ := Kd.R_slice DS.out.r3
          subst e3
          obtain ⟨A4, c4, e4⟩ := Kd.R_slice DS.out.r4
          subst e4
          have xc0 : wr.cell? ⟨gx, 0, none⟩ = some (.int .u64 x0) := (blk_cell DS.out.bx 0).trans rfl
          have xc1 : wr.cell? ⟨gx, 1, none⟩ = some (.int .u64 x1) := (blk_cell DS.out.bx 1).trans rfl
          have xc2 : wr.cell? ⟨gx, 2, none⟩ = some (.int .u64 x2) := (blk_cell DS.out.bx 2).trans rfl
          have xc3 : wr.cell? ⟨gx, 3, none⟩ = some (.slice A3 acc.length c3) := (blk_cell DS.out.bx 3).trans rfl
          have xc4 : wr.cell? ⟨gx, 4, none⟩ = some (.slice A4 fs.length c4) := (blk_cell DS.out.bx 4).trans rfl
          go_upto_region 23 with (first
            | (go_at_call 9; (with_reducible refine (enc_calls k x0 x1 x2 A3 c3 acc A4 c4 fs yb ye _ (Kd.R_reads' DS.out.r3).2.2 (Kd.R_reads' DS.out.r3).2.1 (Kd.R_reads' DS.out.r4).2.2 (Kd.R_reads' DS.out.r4).2.1 HY.out).mono ?_); (rintro e W12 ⟨vb, rfl, hob, hb⟩)
               have DS12 := Aside0.mk (DS.out.num (DS.out.rd.below hb) ((Stays.refl gr _).below hb))
               have HO := Aside0.mk hob
               obtain ⟨Ab, cb, eb⟩ := Kd.R_slice hob
               subst eb
               clear hob hb))
          clear xc0 xc1 xc2 xc3 xc4 d1 d2
          by_cases h2 : ye = 0
          · subst h2
            have F := HH.out
            rw [if_pos rfl] at F
            obtain ⟨q, hq, F⟩ := Option.bind_eq_some_iff.mp F
            have HQ := Aside0.mk hq
            cases hqq : q
            · subst hqq
              rw [if_neg (by decide)] at F
              obtain rfl := Option.some.inj F
              clear HH F hq
              go_upto_region 24 with (first
                | (go_at_call 31; (with_reducible refine (bytes_Equal.calls Ab cb yb A0 c0 b false _ (Kd.R_reads' HO.out).2.2 (Kd.R_reads' HO.out).2.1 (Kd.C_below HR0.out DS12.out.rd.bel) HC0.out HQ.out).mono ?_); (rintro e w7 ⟨rfl, ⟨nd, rfl⟩⟩)
                   have DS13 := Aside0.mk (DS12.out.num (DS12.out.rd.below (pw_below_drewN (Below.refl _ _) nd)) ((Stays.refl gr _).below (pw_below_drewN (Below.refl _ _) nd)))))
              generalize W12.drewN nd = W13 at DS13 ⊢
              have xc0 : W13.cell? ⟨gx, 0, none⟩ = some (Value.int .u64 x0) := (blk_cell DS13.out.bx 0).trans rfl
              have xf0 := blk_frozen DS13.out.bx 0
              have xc1 : W13.cell? ⟨gx, 1, none⟩ = some (.int .u64 x1) := (blk_cell DS13.out.bx 1).trans rfl
              have xf1 := blk_frozen DS13.out.bx 1
              have xc2 : W13.cell? ⟨gx, 2, none⟩ = some (.int .u64 x2) := (blk_cell DS13.out.bx 2).trans rfl
              have xf2 := blk_frozen DS13.out.bx 2
              have xc3 : W13.cell? ⟨gx, 3, none⟩ = some (.slice A3 acc.length c3) := (blk_cell DS13.out.bx 3).trans rfl
              have xf3 := blk_frozen DS13.out.bx 3
              have xc4 : W13.cell? ⟨gx, 4, none⟩ = some (.slice A4 fs.length c4) := (blk_cell DS13.out.bx 4).trans rfl
              have xf4 := blk_frozen DS13.out.bx 4
              have xc5 : W13.cell? ⟨ge, 0, none⟩ = some (.int .i64 0) := (blk_cell DS13.out.be 0).trans rfl
              have xf5 := blk_frozen DS13.out.be 0
              have hne := DS13.out.nxe
              have hne' := Ne.symm DS13.out.nxe
              go_wp2
              obtain ⟨W20, hW20⟩ : ∃ x, (((((W13.setCell ⟨gx, 0, none⟩ (Value.int .u64 0)).setCell ⟨gx, 1, none⟩ (.int .u64 0)).setCell ⟨gx, 2, none⟩ (.int .u64 0)).setCell ⟨gx, 3, none⟩ (.slice none 0 0)).setCell ⟨gx, 4, none⟩ (.slice none 0 0)) = x := ⟨_, rfl⟩
              rw [hW20]
              have hmv : ∀ j, j ≠ gx → W20.heap[j]? = W13.heap[j]? := fun j hj => by rw [← hW20]; exact (Below.heap_setCell _ _ _ j hj).trans ((Below.heap_setCell _ _ _ j hj).trans ((Below.heap_setCell _ _ _ j hj).trans ((Below.heap_setCell _ _ _ j hj).trans ((Below.heap_setCell _ _ _ j hj)))))
              have BX20 : W20.heap[gx]? = some (.cells #[Value.int .u64 0, .int .u64 0, .int .u64 0, .slice none 0 0, .slice none 0 0] 27 (0, 0)) := by rw [← hW20]; exact blk_put (cs := #[Value.int .u64 0, .int .u64 0, .int .u64 0, .slice none 0 0, .slice A4 fs.length c4]) (blk_put (cs := #[Value.int .u64 0, .int .u64 0, .int .u64 0, .slice A3 acc.length c3, .slice A4 fs.length c4]) (blk_put (cs := #[Value.int .u64 0, .int .u64 0, .int .u64 x2, .slice A3 acc.length c3, .slice A4 fs.length c4]) (blk_put (cs := #[Value.int .u64 0, .int .u64 x1, .int .u64 x2, .slice A3 acc.length c3, .slice A4 fs.length c4]) (blk_put (cs := #[Value.int .u64 x0, .int .u64 x1, .int .u64 x2, .slice A3 acc.length c3, .slice A4 fs.length c4]) (DS13.out.bx) 0 _ rfl) 1 _ rfl) 2 _ rfl) 3 _ rfl) 4 _ rfl
              have BE20 : W20.heap[ge]? = some (.cells #[.int .i64 0] 29 (0, 0)) := (hmv ge hne').trans DS13.out.be
              have HB20 : Below w.heap.size w W20 := by rw [← hW20]; exact below_set (below_set (below_set (below_set (below_set (DS13.out.rd.bel) DS13.out.gex) DS13.out.gex) DS13.out.gex) DS13.out.gex) DS13.out.gex
              have BX21 := (Below.heap_setCell W20 ⟨ge, 0, none⟩ (.int .i64 133) gx hne).trans BX20
              have BE21 := blk_put (cs := #[.int .i64 0]) (cs' := #[.int .i64 133]) BE20 0 (.int .i64 133) rfl
              have HB21 : Below w.heap.size w (W20.setCell ⟨ge, 0, none⟩ (.int .i64 133)) := below_set HB20 DS13.out.gee
              refine leaves_cons (f := 28) (args := #[.pointer (some ⟨gx, 0, none⟩), .pointer (some ⟨ge, 0, none⟩)]) (by simp) (by simp [go_sem]) ?_
              refine (catch_idle ⟨gx, 0, none⟩ ⟨ge, 0, none⟩ _).mono ?_
              rintro e u' wz ⟨rfl, rfl, hbz⟩
              exact bad_out rfl rfl (blk_below BX21 hbz) (blk_below BE21 hbz) (below_step HB21 hbz)
            · subst hqq
              rw [if_pos rfl] at F
              obtain rfl := Option.some.inj F
              clear HH F hq
              go_upto_region 25 with (first
                | (go_at_call 31; (with_reducible refine (bytes_Equal.calls Ab cb yb A0 c0 b true _ (Kd.R_reads' HO.out).2.2 (Kd.R_reads' HO.out).2.1 (Kd.C_below HR0.out DS12.out.rd.bel) HC0.out HQ.out).mono ?_); (rintro e w7 ⟨rfl, ⟨nd, rfl⟩⟩)
                   have DS13 := Aside0.mk (DS12.out.num (DS12.out.rd.below (pw_below_drewN (Below.refl _ _) nd)) ((Stays.refl gr _).below (pw_below_drewN (Below.refl _ _) nd)))))
              generalize W12.drewN nd = W13 at DS13 ⊢
              have xc0 : W13.cell? ⟨gx, 0, none⟩ = some (Value.int .u64 x0) := (blk_cell DS13.out.bx 0).trans rfl
              have xf0 := blk_frozen DS13.out.bx 0
              have xc1 : W13.cell? ⟨gx, 1, none⟩ = some (.int .u64 x1) := (blk_cell DS13.out.bx 1).trans rfl
              have xf1 := blk_frozen DS13.out.bx 1
              have xc2 : W13.cell? ⟨gx, 2, none⟩ = some (.int .u64 x2) := (blk_cell DS13.out.bx 2).trans rfl
              have xf2 := blk_frozen DS13.out.bx 2
              have xc3 : W13.cell? ⟨gx, 3, none⟩ = some (.slice A3 acc.length c3) := (blk_cell DS13.out.bx 3).trans rfl
              have xf3 := blk_frozen DS13.out.bx 3
              have xc4 : W13.cell? ⟨gx, 4, none⟩ = some (.slice A4 fs.length c4) := (blk_cell DS13.out.bx 4).trans rfl
              have xf4 := blk_frozen DS13.out.bx 4
              have xc5 : W13.cell? ⟨ge, 0, none⟩ = some (.int .i64 0) := (blk_cell DS13.out.be 0).trans rfl
              have xf5 := blk_frozen DS13.out.be 0
              have hne := DS13.out.nxe
              have hne' := Ne.symm DS13.out.nxe
              go_wp2
              obtain ⟨W20, hW20⟩ : ∃ x, (((((W13.setCell ⟨gx, 0, none⟩ (Value.int .u64 x0)).setCell ⟨gx, 1, none⟩ (.int .u64 x1)).setCell ⟨gx, 2, none⟩ (.int .u64 x2)).setCell ⟨gx, 3, none⟩ (.slice A3 acc.length c3)).setCell ⟨gx, 4, none⟩ (.slice A4 fs.length c4)) = x := ⟨_, rfl⟩
              rw [hW20]
              have hmv : ∀ j, j ≠ gx → W20.heap[j]? = W13.heap[j]? := fun j hj => by rw [← hW20]; exact (Below.heap_setCell _ _ _ j hj).trans ((Below.heap_setCell _ _ _ j hj).trans ((Below.heap_setCell _ _ _ j hj).trans ((Below.heap_setCell _ _ _ j hj).trans ((Below.heap_setCell _ _ _ j hj)))))
              have BX20 : W20.heap[gx]? = some (.cells #[Value.int .u64 x0, .int .u64 x1, .int .u64 x2, .slice A3 acc.length c3, .slice A4 fs.length c4] 27 (0, 0)) := by rw [← hW20]; exact blk_put (cs := #[Value.int .u64 x0, .int .u64 x1, .int .u64 x2, .slice A3 acc.length c3, .slice A4 fs.length c4]) (blk_put (cs := #[Value.int .u64 x0, .int .u64 x1, .int .u64 x2, .slice A3 acc.length c3, .slice A4 fs.length c4]) (blk_put (cs := #[Value.int .u64 x0, .int .u64 x1, .int .u64 x2, .slice A3 acc.length c3, .slice A4 fs.length c4]) (blk_put (cs := #[Value.int .u64 x0, .int .u64 x1, .int .u64 x2, .slice A3 acc.length c3, .slice A4 fs.length c4]) (blk_put (cs := #[Value.int .u64 x0, .int .u64 x1, .int .u64 x2, .slice A3 acc.length c3, .slice A4 fs.length c4]) (DS13.out.bx) 0 _ rfl) 1 _ rfl) 2 _ rfl) 3 _ rfl) 4 _ rfl
              have BE20 : W20.heap[ge]? = some (.cells #[.int .i64 0] 29 (0, 0)) := (hmv ge hne').trans DS13.out.be
              have HB20 : Below w.heap.size w W20 := by rw [← hW20]; exact below_set (below_set (below_set (below_set (below_set (DS13.out.rd.bel) DS13.out.gex) DS13.out.gex) DS13.out.gex) DS13.out.gex) DS13.out.gex
              have BX21 := (Below.heap_setCell W20 ⟨ge, 0, none⟩ (.int .i64 0) gx hne).trans BX20
              have BE21 := blk_put (cs := #[.int .i64 0]) (cs' := #[.int .i64 0]) BE20 0 (.int .i64 0) rfl
              have HB21 : Below w.heap.size w (W20.setCell ⟨ge, 0, none⟩ (.int .i64 0)) := below_set HB20 DS13.out.gee
              have R3 := Kd.R_move (w1 := W20.setCell ⟨ge, 0, none⟩ (.int .i64 0)) DS13.out.r3 (fun j hj => (Below.heap_setCell _ _ _ j hj.2.1).trans (hmv j hj.1))
              have R4 := Kd.R_move (w1 := W20.setCell ⟨ge, 0, none⟩ (.int .i64 0)) DS13.out.r4 (fun j hj => (Below.heap_setCell _ _ _ j hj.2.1).trans (hmv j hj.1))
              refine leaves_cons (f := 28) (args := #[.pointer (some ⟨gx, 0, none⟩), .pointer (some ⟨ge, 0, none⟩)]) (by simp) (by simp [go_sem]) ?_
              refine (catch_idle ⟨gx, 0, none⟩ ⟨ge, 0, none⟩ _).mono ?_
              rintro e u' wz ⟨rfl, rfl, hbz⟩
              exact out_of (r := some ⟨x0, x1, x2, acc, fs⟩) rfl rfl (blk_below BX21 hbz) (blk_below BE21 hbz) (below_step HB21 hbz) (Kd.R_mono (Kd.R_below R3 hbz) (fun _ _ => trivial)) (Kd.R_mono (Kd.R_below R4 hbz) (fun _ hk => hk.2.2.2))
          · have F := HH.out
            rw [if_neg h2] at F
            obtain rfl := Option.some.inj F
            have h2b : (ye == 0) = false := beq_eq_false_iff_ne.mpr h2
            have h2c : (ye != 0) = true := bne_iff_ne.mpr h2
            clear HH F
            go_upto_region 24 with fail
            have xc0 : W12.cell? ⟨gx, 0, none⟩ = some (Value.int .u64 x0) := (blk_cell DS12.out.bx 0).trans rfl
            have xf0 := blk_frozen DS12.out.bx 0
            have xc1 : W12.cell? ⟨gx, 1, none⟩ = some (.int .u64 x1) := (blk_cell DS12.out.bx 1).trans rfl
            have xf1 := blk_frozen DS12.out.bx 1
            have xc2 : W12.cell? ⟨gx, 2, none⟩ = some (.int .u64 x2) := (blk_cell DS12.out.bx 2).trans rfl
            have xf2 := blk_frozen DS12.out.bx 2
            have xc3 : W12.cell? ⟨gx, 3, none⟩ = some (.slice A3 acc.length c3) := (blk_cell DS12.out.bx 3).trans rfl
            have xf3 := blk_frozen DS12.out.bx 3
            have xc4 : W12.cell? ⟨gx, 4, none⟩ = some (.slice A4 fs.length c4) := (blk_cell DS12.out.bx 4).trans rfl
            have xf4 := blk_frozen DS12.out.bx 4
            have xc5 : W12.cell? ⟨ge, 0, none⟩ = some (.int .i64 0) := (blk_cell DS12.out.be 0).trans rfl
            have xf5 := blk_frozen DS12.out.be 0
            have hne := DS12.out.nxe
            have hne' := Ne.symm DS12.out.nxe
            go_wp2
            obtain ⟨W20, hW20⟩ : ∃ x, (((((W12.setCell ⟨gx, 0, none⟩ (Value.int .u64 0)).setCell ⟨gx, 1, none⟩ (.int .u64 0)).setCell ⟨gx, 2, none⟩ (.int .u64 0)).setCell ⟨gx, 3, none⟩ (.slice none 0 0)).setCell ⟨gx, 4, none⟩ (.slice none 0 0)) = x := ⟨_, rfl⟩
            rw [hW20]
            have hmv : ∀ j, j ≠ gx → W20.heap[j]? = W12.heap[j]? := fun j hj => by rw [← hW20]; exact (Below.heap_setCell _ _ _ j hj).trans ((Below.heap_setCell _ _ _ j hj).trans ((Below.heap_setCell _ _ _ j hj).trans ((Below.heap_setCell _ _ _ j hj).trans ((Below.heap_setCell _ _ _ j hj)))))
            have BX20 : W20.heap[gx]? = some (.cells #[Value.int .u64 0, .int .u64 0, .int .u64 0, .slice none 0 0, .slice none 0 0] 27 (0, 0)) := by rw [← hW20]; exact blk_put (cs := #[Value.int .u64 0, .int .u64 0, .int .u64 0, .slice none 0 0, .slice A4 fs.length c4]) (blk_put (cs := #[Value.int .u64 0, .int .u64 0, .int .u64 0, .slice A3 acc.length c3, .slice A4 fs.length c4]) (blk_put (cs := #[Value.int .u64 0, .int .u64 0, .int .u64 x2, .slice A3 acc.length c3, .slice A4 fs.length c4]) (blk_put (cs := #[Value.int .u64 0, .int .u64 x1, .int .u64 x2, .slice A3 acc.length c3, .slice A4 fs.length c4]) (blk_put (cs := #[Value.int .u64 x0, .int .u64 x1, .int .u64 x2, .slice A3 acc.length c3, .slice A4 fs.length c4]) (DS12.out.bx) 0 _ rfl) 1 _ rfl) 2 _ rfl) 3 _ rfl) 4 _ rfl
            have BE20 : W20.heap[ge]? = some (.cells #[.int .i64 0] 29 (0, 0)) := (hmv ge hne').trans DS12.out.be
            have HB20 : Below w.heap.size w W20 := by rw [← hW20]; exact below_set (below_set (below_set (below_set (below_set (DS12.out.rd.bel) DS12.out.gex) DS12.out.gex) DS12.out.gex) DS12.out.gex) DS12.out.gex
            have BX21 := (Below.heap_setCell W20 ⟨ge, 0, none⟩ (.int .i64 133) gx hne).trans BX20
            have BE21 := blk_put (cs := #[.int .i64 0]) (cs' := #[.int .i64 133]) BE20 0 (.int .i64 133) rfl
            have HB21 : Below w.heap.size w (W20.setCell ⟨ge, 0, none⟩ (.int .i64 133)) := below_set HB20 DS12.out.gee
            refine leaves_cons (f := 28) (args := #[.pointer (some ⟨gx, 0, none⟩), .pointer (some ⟨ge, 0, none⟩)]) (by simp) (by simp [go_sem]) ?_
            refine (catch_idle ⟨gx, 0, none⟩ ⟨ge, 0, none⟩ _).mono ?_
            rintro e u' wz ⟨rfl, rfl, hbz⟩
            exact bad_out rfl rfl (blk_below BX21 hbz) (blk_below BE21 hbz) (below_step HB21 hbz)
end Go.Proofs.Ythkkbgehmiobaaa.E
namespace Go.Proofs.Ythkkbgehmiobaaa.E
open Go.RowKit Go.Proofs.YthkkbgehmiobaaaW.PrintWords Go.Proofs.YthkkbgehmiobaaaW.PrintLast Go.Proofs.YthkkbgehmiobaaaW.PrintMore Go.Proofs.Ythkkbgehmiobaaa.P
set_option linter.unusedVariables false
set_option linter.unusedSimpArgs false
def awD : List S40 := [⟨1, 300⟩]
def awF : List S44 := []
def awG : List S44 := [⟨4, 0, 0, ⟨(⟨#[]⟩ : ByteArray), 0, 0⟩, ⟨(⟨#[]⟩ : ByteArray), 0, 0⟩⟩]
def awB : List Int := [3, 0, 0, 1, 1, 172, 2, 0]
set_option maxRecDepth 100000 in
theorem aw_enc : enc_f 24 3 0 0 awD [] = some (awB, 0) := by kernel_rfl
set_option maxRecDepth 100000 in
theorem aw_dec : dec_g 24 awB = some (some ⟨3, 0, 0, awD, awF⟩) := by kernel_rfl
set_option maxRecDepth 100000 in
theorem aw_same : staddleref13_Same.f 24 3 0 0 awD [] 3 0 0 awD awF = some true := by kernel_rfl
set_option maxRecDepth 100000 in
theorem aw_check : edit_Check.f 24 0 0 0 [] awG = some 130 := by kernel_rfl
theorem enc_aw (A : Option Addr) (c : Nat) (w : World) (h : Kd.C k40 w A awD.length awD) (hc : awD.length ≤ c) : Calls Try.prog 9 #[.agg #[.int .u64 3, .int .u64 0, .int .u64 0, .slice A awD.length c, .slice none 0 0]] w fun e w' => ∃ v0_ : Value, e = .returned (.tuple #[v0_, .int .i64 0]) ∧ Kd.R (Kd.int .u8) 5 w' w.heap.size (fun _ => True) v0_ awB ∧ Below w.heap.size w w' :=
  enc_calls 24 3 0 0 A c awD none 0 [] awB 0 w h hc (Kd.C_nil _ _) (Nat.le_refl _) aw_enc
theorem same_aw (A A' A4 : Option Addr) (c c' c4 : Nat) (w : World) (h : Kd.C k40 w A awD.length awD) (hc : awD.length ≤ c) (h' : Kd.C k40 w A' awD.length awD) (hc' : awD.length ≤ c') (h4 : Kd.C k44 w A4 awF.length awF) (hc4 : awF.length ≤ c4) :
    Calls Try.prog 11 #[.agg #[.int .u64 3, .int .u64 0, .int .u64 0, .slice A awD.length c, .slice none 0 0], .agg #[.int .u64 3, .int .u64 0, .int .u64 0, .slice A' awD.length c', .slice A4 awF.length c4]] w fun e w' => e = .returned (.bool true) ∧ Below w.heap.size w w' :=
  staddleref13_Same.calls 24 3 0 0 A c awD none 0 [] 3 0 0 A' c' awD A4 c4 awF true w h hc (Kd.C_nil _ _) (Nat.le_refl _) h' hc' h4 hc4 aw_same
theorem check_aw (A4 : Option Addr) (c4 : Nat) (w : World) (h4 : Kd.C k44 w A4 awG.length awG) (hc4 : awG.length ≤ c4) :
    Calls Try.prog 12 #[.agg #[.int .u64 0, .int .u64 0, .int .u64 0, .slice none 0 0, .slice A4 awG.length c4]] w fun e w' => e = .returned (.int .i64 130) ∧ Below w.heap.size w w' :=
  edit_Check.calls 24 0 0 0 none 0 [] A4 c4 awG 130 w (Kd.C_nil _ _) (Nat.le_refl _) h4 hc4 aw_check
theorem aw_lit (w : World) : Kd.R k44 44 (w.alloc (.cells #[.int .i64 4, .int .u64 0, .int .i64 0, .string (⟨#[]⟩ : ByteArray), .int .u64 0, .int .i64 0, .string (⟨#[]⟩ : ByteArray), .int .u64 0, .int .i64 0] 44)) w.heap.size (fun _ => True) (.slice (some ⟨w.heap.size, 0, none⟩) 1 1) awG :=
  ⟨fun _ _ => trivial, [.int .i64 4, .int .u64 0, .int .i64 0, .string (⟨#[]⟩ : ByteArray), .int .u64 0, .int .i64 0, .string (⟨#[]⟩ : ByteArray), .int .u64 0, .int .i64 0], World.ownsRow_lit (base := w.heap.size) (e := 44) (size := k44.sz) w #[.int .i64 4, .int .u64 0, .int .i64 0, .string (⟨#[]⟩ : ByteArray), .int .u64 0, .int .i64 0, .string (⟨#[]⟩ : ByteArray), .int .u64 0, .int .i64 0] 1 (Nat.le_refl _) (by decide) (by rfl), Reps.c9 (k44_mkM _ _ _ ⟨4, 0, 0, ⟨(⟨#[]⟩ : ByteArray), 0, 0⟩, ⟨(⟨#[]⟩ : ByteArray), 0, 0⟩⟩) (Reps.none _ _)⟩
theorem check_aw2 (w : World) :
    Calls Try.prog 12 #[.agg #[.int .u64 0, .int .u64 0, .int .u64 0, .slice none 0 0, .slice (some ⟨w.heap.size, 0, none⟩) 1 1]] (w.alloc (.cells #[.int .i64 4, .int .u64 0, .int .i64 0, .string (⟨#[]⟩ : ByteArray), .int .u64 0, .int .i64 0, .string (⟨#[]⟩ : ByteArray), .int .u64 0, .int .i64 0] 44)) fun e w' => e = .returned (.int .i64 130) ∧ Below (w.alloc (.cells #[.int .i64 4, .int .u64 0, .int .i64 0, .string (⟨#[]⟩ : ByteArray), .int .u64 0, .int .i64 0, .string (⟨#[]⟩ : ByteArray), .int .u64 0, .int .i64 0] 44)).heap.size (w.alloc (.cells #[.int .i64 4, .int .u64 0, .int .i64 0, .string (⟨#[]⟩ : ByteArray), .int .u64 0, .int .i64 0, .string (⟨#[]⟩ : ByteArray), .int .u64 0, .int .i64 0] 44)) w' :=
  check_aw _ _ _ (Kd.R_reads' (aw_lit w)).2.2 (Kd.R_reads' (aw_lit w)).2.1
set_option maxHeartbeats 2000000 in
set_option maxRecDepth 100000 in
theorem awake_calls (w : World) : Calls Try.prog 8 #[] w fun e w' => e = .returned (.bool true) ∧ Below w.heap.size w w' := by
  have HB := Aside0.mk (Below.refl w.heap.size w)
  go_enter Try.func8, Try.ntmps8
  go_upto_region 2 with (first
    | ((with_reducible refine gate_dst (N := 8) rfl ?_); refine Kd.R_lit k40 _ 40 ?hg (N := 8) ?hd (xs := awD) (inner := [.int .i64 1, .int .u64 300]) (ok := fun _ => True) (okp := fun _ => True) ?hr ?hp (fun _ hk => hk) trivial (Below.refl _ _) (Nat.le_refl _) (by decide) ?_; (case hd => rfl); (case hg => rfl); (case hr => first | (go_simp; done) | (go_simp; rfl)); (case hp => exact Reps.c2 (k40_mkM _ _ _ ⟨1, 300⟩) (Reps.none _ _))
       intro vl w2 hol hb hg_ hnew_
       clear hg_ hnew_
       have HL := Aside0.mk hol
       have HB1 := Aside0.mk (below_step HB.out hb)
       obtain ⟨Al, cl, el⟩ := Kd.R_slice hol
       subst el
       clear hol hb)
    | ((with_reducible refine gate_dst (N := 1) rfl ?_); refine box_event ?hg (N := 1) ?hd (cs := #[Value.int .u64 0, .int .u64 0, .int .u64 0, .slice none 0 0, .slice none 0 0]) (t := 27) ?hr ?_; (case hd => rfl); (case hg => rfl); (case hr => first | (go_simp; done) | (go_simp; rfl)); intro g1 hg w3 hbox hb
       have BX3 := Aside0.mk hbox
       have GX : Aside0 (w.heap.size ≤ g1) := ⟨by rw [hg]; exact below_size HB1.out⟩
       have HL3 : Aside0 (Kd.R k40 40 w3 _ (fun k => k ≠ g1) (.slice Al awD.length cl) awD) := ⟨Kd.R_below (Kd.R_mono (Kd.R_bound HL.out) (fun k hk => by have := hk.2.2.1; omega)) hb⟩
       have HB3 := Aside0.mk (below_step HB1.out hb)
       have zc0 : w3.cell? ⟨g1, 0, none⟩ = some (Value.int .u64 0) := (blk_cell hbox 0).trans rfl
       have zf0 := blk_frozen hbox 0
       have zc1 : w3.cell? ⟨g1, 1, none⟩ = some (.int .u64 0) := (blk_cell hbox 1).trans rfl
       have zf1 := blk_frozen hbox 1
       have zc2 : w3.cell? ⟨g1, 2, none⟩ = some (.int .u64 0) := (blk_cell hbox 2).trans rfl
       have zf2 := blk_frozen hbox 2
       have zc3 : w3.cell? ⟨g1, 3, none⟩ = some (.slice none 0 0) := (blk_cell hbox 3).trans rfl
       have zf3 := blk_frozen hbox 3
       have zc4 : w3.cell? ⟨g1, 4, none⟩ = some (.slice none 0 0) := (blk_cell hbox 4).trans rfl
       have zf4 := blk_frozen hbox 4
       clear hg hbox hb HL HB1))
  obtain ⟨W4, hW4⟩ : ∃ x, (((((w3.setCell ⟨g1, 0, none⟩ (Value.int .u64 3)).setCell ⟨g1, 1, none⟩ (.int .u64 0)).setCell ⟨g1, 2, none⟩ (.int .u64 0)).setCell ⟨g1, 3, none⟩ (.slice Al awD.length cl)).setCell ⟨g1, 4, none⟩ (.slice none 0 0)) = x := ⟨_, rfl⟩
  rw [hW4]
  have BX4 : Aside0 (W4.heap[g1]? = some (.cells #[Value.int .u64 3, .int .u64 0, .int .u64 0, .slice Al awD.length cl, .slice none 0 0] 27 (0, 0))) := ⟨by rw [← hW4]; exact blk_put (cs := #[Value.int .u64 3, .int .u64 0, .int .u64 0, .slice Al awD.length cl, .slice none 0 0]) (blk_put (cs := #[Value.int .u64 3, .int .u64 0, .int .u64 0, .slice none 0 0, .slice none 0 0]) (blk_put (cs := #[Value.int .u64 3, .int .u64 0, .int .u64 0, .slice none 0 0, .slice none 0 0]) (blk_put (cs := #[Value.int .u64 3, .int .u64 0, .int .u64 0, .slice none 0 0, .slice none 0 0]) (blk_put (cs := #[Value.int .u64 0, .int .u64 0, .int .u64 0, .slice none 0 0, .slice none 0 0]) (BX3.out) 0 _ rfl) 1 _ rfl) 2 _ rfl) 3 _ rfl) 4 _ rfl⟩
  have HB4 : Aside0 (Below w.heap.size w W4) := ⟨by rw [← hW4]; exact below_set (below_set (below_set (below_set (below_set HB3.out GX.out) GX.out) GX.out) GX.out) GX.out⟩
  have HL4 : Aside0 (Kd.R k40 40 W4 _ (fun k => k ≠ g1) (.slice Al awD.length cl) awD) := ⟨Kd.R_move HL3.out (fun j hj => by rw [← hW4]; exact (Below.heap_setCell _ _ _ j hj).trans ((Below.heap_setCell _ _ _ j hj).trans ((Below.heap_setCell _ _ _ j hj).trans ((Below.heap_setCell _ _ _ j hj).trans ((Below.heap_setCell _ _ _ j hj))))))⟩
  clear hW4 BX3 HL3 HB3 zc0 zf0 zc1 zf1 zc2 zf2 zc3 zf3 zc4 zf4
  have xc0 : W4.cell? ⟨g1, 0, none⟩ = some (Value.int .u64 3) := (blk_cell BX4.out 0).trans rfl
  have xc1 : W4.cell? ⟨g1, 1, none⟩ = some (.int .u64 0) := (blk_cell BX4.out 1).trans rfl
  have xc2 : W4.cell? ⟨g1, 2, none⟩ = some (.int .u64 0) := (blk_cell BX4.out 2).trans rfl
  have xc3 : W4.cell? ⟨g1, 3, none⟩ = some (.slice Al awD.length cl) := (blk_cell BX4.out 3).trans rfl
  have xc4 : W4.cell? ⟨g1, 4, none⟩ = some (.slice none 0 0) := (blk_cell BX4.out 4).trans rfl
  go_upto_region 4 with (first
    | (go_at_call 9; (with_reducible refine (enc_aw Al cl _ (Kd.R_reads' HL4.out).2.2 (Kd.R_reads' HL4.out).2.1).mono ?_); (rintro e w5 ⟨vb, rfl, hob, hb⟩)
       have HO5 := Aside0.mk hob
       have BX5 := Aside0.mk (blk_below BX4.out hb)
       have HL5 := Aside0.mk (Kd.R_below HL4.out hb)
       have HB5 := Aside0.mk (below_step HB4.out hb)
       obtain ⟨Ab, cb, eb⟩ := Kd.R_slice hob
       subst eb
       clear hob hb)
    | (go_at_call 14; (with_reducible refine (dec_calls 24 Ab cb awB _ _ (Kd.R_reads' HO5.out).2.2 (Kd.R_reads' HO5.out).2.1 aw_dec).mono ?_); (rintro e w6 ⟨hb, v3, v4, he, hr3, hr4⟩)
       have he2 : e = .returned (.tuple #[.agg #[.int .u64 3, .int .u64 0, .int .u64 0, v3, v4], .int .i64 0]) := he
       subst he2
       replace hr3 : Kd.R k40 40 w6 _ (fun _ => True) v3 awD := hr3
       replace hr4 : Kd.R k44 44 w6 _ _ v4 awF := hr4
       obtain ⟨A3, c3, e3⟩ := Kd.R_slice hr3
       subst e3
       obtain ⟨A4, c4, e4⟩ := Kd.R_slice hr4
       subst e4
       have R36 : Aside0 (Kd.R k40 40 w6 _ (fun _ => True) (.slice A3 awD.length c3) awD) := ⟨hr3⟩
       have R46 : Aside0 (Kd.R k44 44 w6 _ _ (.slice A4 awF.length c4) awF) := ⟨hr4⟩
       have BX6 := Aside0.mk (blk_below BX5.out hb)
       have HO6 := Aside0.mk (Kd.R_below HO5.out hb)
       have HL6 := Aside0.mk (Kd.R_below HL5.out hb)
       have HB6 := Aside0.mk (below_step HB5.out hb)
       clear he hb hr3 hr4)
    | ((with_reducible refine gate_dst (N := 4) rfl ?_); refine box_event ?hg (N := 4) ?hd (cs := #[Value.int .u64 0, .int .u64 0, .int .u64 0, .slice none 0 0, .slice none 0 0]) (t := 27) ?hr ?_; (case hd => rfl); (case hg => rfl); (case hr => first | (go_simp; done) | (go_simp; rfl)); intro g4 hg w7 hbox hb
       have BY7 := Aside0.mk hbox
       have GY : Aside0 (w.heap.size ≤ g4) := ⟨by rw [hg]; exact below_size HB6.out⟩
       have GN : Aside0 (g1 ≠ g4) := ⟨by have := blk_lt BX6.out; omega⟩
       have BX7 := Aside0.mk (blk_below BX6.out hb)
       have HO7 : Aside0 (Kd.R (Kd.int .u8) 5 w7 _ (fun k => k ≠ g4) (.slice Ab awB.length cb) awB) := ⟨Kd.R_below (Kd.R_mono (Kd.R_bound HO6.out) (fun k hk => by have := hk.2.2.1; omega)) hb⟩
       have HL7 : Aside0 (Kd.R k40 40 w7 _ (fun k => k ≠ g4) (.slice Al awD.length cl) awD) := ⟨Kd.R_below (Kd.R_mono (Kd.R_bound HL6.out) (fun k hk => by have := hk.2.2.1; omega)) hb⟩
       have R37 : Aside0 (Kd.R k40 40 w7 _ (fun k => k ≠ g4) (.slice A3 awD.length c3) awD) := ⟨Kd.R_below (Kd.R_mono (Kd.R_bound R36.out) (fun k hk => by have := hk.2.2.1; omega)) hb⟩
       have R47 : Aside0 (Kd.R k44 44 w7 _ (fun k => k ≠ g4) (.slice A4 awF.length c4) awF) := ⟨Kd.R_below (Kd.R_mono (Kd.R_bound R46.out) (fun k hk => by have := hk.2.2.1; omega)) hb⟩
       have HB7 := Aside0.mk (below_step HB6.out hb)
       have zc0 : w7.cell? ⟨g4, 0, none⟩ = some (Value.int .u64 0) := (blk_cell hbox 0).trans rfl
       have zf0 := blk_frozen hbox 0
       have zc1 : w7.cell? ⟨g4, 1, none⟩ = some (.int .u64 0) := (blk_cell hbox 1).trans rfl
       have zf1 := blk_frozen hbox 1
       have zc2 : w7.cell? ⟨g4, 2, none⟩ = some (.int .u64 0) := (blk_cell hbox 2).trans rfl
       have zf2 := blk_frozen hbox 2
       have zc3 : w7.cell? ⟨g4, 3, none⟩ = some (.slice none 0 0) := (blk_cell hbox 3).trans rfl
       have zf3 := blk_frozen hbox 3
       have zc4 : w7.cell? ⟨g4, 4, none⟩ = some (.slice none 0 0) := (blk_cell hbox 4).trans rfl
       have zf4 := blk_frozen hbox 4
       clear hg hbox hb))
  clear HB HB4 HB5 HB6 HO5 HO6 HL4 HL5 HL6 BX4 BX5 BX6 R36 R46 xc0 xc1 xc2 xc3 xc4
  obtain ⟨W8, hW8⟩ : ∃ x, (((((w7.setCell ⟨g4, 0, none⟩ (Value.int .u64 3)).setCell ⟨g4, 1, none⟩ (.int .u64 0)).setCell ⟨g4, 2, none⟩ (.int .u64 0)).setCell ⟨g4, 3, none⟩ (.slice A3 awD.length c3)).setCell ⟨g4, 4, none⟩ (.slice A4 awF.length c4)) = x := ⟨_, rfl⟩
  rw [hW8]
  have hmv : ∀ j, j ≠ g4 → W8.heap[j]? = w7.heap[j]? := fun j hj => by rw [← hW8]; exact (Below.heap_setCell _ _ _ j hj).trans ((Below.heap_setCell _ _ _ j hj).trans ((Below.heap_setCell _ _ _ j hj).trans ((Below.heap_setCell _ _ _ j hj).trans ((Below.heap_setCell _ _ _ j hj)))))
  have BY8 : Aside0 (W8.heap[g4]? = some (.cells #[Value.int .u64 3, .int .u64 0, .int .u64 0, .slice A3 awD.length c3, .slice A4 awF.length c4] 27 (0, 0))) := ⟨by rw [← hW8]; exact blk_put (cs := #[Value.int .u64 3, .int .u64 0, .int .u64 0, .slice A3 awD.length c3, .slice none 0 0]) (blk_put (cs := #[Value.int .u64 3, .int .u64 0, .int .u64 0, .slice none 0 0, .slice none 0 0]) (blk_put (cs := #[Value.int .u64 3, .int .u64 0, .int .u64 0, .slice none 0 0, .slice none 0 0]) (blk_put (cs := #[Value.int .u64 3, .int .u64 0, .int .u64 0, .slice none 0 0, .slice none 0 0]) (blk_put (cs := #[Value.int .u64 0, .int .u64 0, .int .u64 0, .slice none 0 0, .slice none 0 0]) (BY7.out) 0 _ rfl) 1 _ rfl) 2 _ rfl) 3 _ rfl) 4 _ rfl⟩
  have BX8 : Aside0 (W8.heap[g1]? = some (.cells #[Value.int .u64 3, .int .u64 0, .int .u64 0, .slice Al awD.length cl, .slice none 0 0] 27 (0, 0))) := ⟨(hmv g1 GN.out).trans BX7.out⟩
  have HB8 : Aside0 (Below w.heap.size w W8) := ⟨by rw [← hW8]; exact below_set (below_set (below_set (below_set (below_set HB7.out GY.out) GY.out) GY.out) GY.out) GY.out⟩
  have HO8 := Aside0.mk (Kd.R_move HO7.out hmv)
  have HL8 := Aside0.mk (Kd.R_move HL7.out hmv)
  have R38 := Aside0.mk (Kd.R_move R37.out hmv)
  have R48 := Aside0.mk (Kd.R_move R47.out hmv)
  clear hW8 hmv BX7 BY7 HO7 HL7 R37 R47 HB7 zc0 zf0 zc1 zf1 zc2 zf2 zc3 zf3 zc4 zf4
  have xc0 : W8.cell? ⟨g1, 0, none⟩ = some (Value.int .u64 3) := (blk_cell BX8.out 0).trans rfl
  have xc1 : W8.cell? ⟨g1, 1, none⟩ = some (.int .u64 0) := (blk_cell BX8.out 1).trans rfl
  have xc2 : W8.cell? ⟨g1, 2, none⟩ = some (.int .u64 0) := (blk_cell BX8.out 2).trans rfl
  have xc3 : W8.cell? ⟨g1, 3, none⟩ = some (.slice Al awD.length cl) := (blk_cell BX8.out 3).trans rfl
  have xc4 : W8.cell? ⟨g1, 4, none⟩ = some (.slice none 0 0) := (blk_cell BX8.out 4).trans rfl
  have yc0 : W8.cell? ⟨g4, 0, none⟩ = some (Value.int .u64 3) := (blk_cell BY8.out 0).trans rfl
  have yc1 : W8.cell? ⟨g4, 1, none⟩ = some (.int .u64 0) := (blk_cell BY8.out 1).trans rfl
  have yc2 : W8.cell? ⟨g4, 2, none⟩ = some (.int .u64 0) := (blk_cell BY8.out 2).trans rfl
  have yc3 : W8.cell? ⟨g4, 3, none⟩ = some (.slice A3 awD.length c3) := (blk_cell BY8.out 3).trans rfl
  have yc4 : W8.cell? ⟨g4, 4, none⟩ = some (.slice A4 awF.length c4) := (blk_cell BY8.out 4).trans rfl
  go_upto_region 5 with (first
    | (go_at_call 11; (with_reducible refine (same_aw Al A3 A4 cl c3 c4 _ (Kd.R_reads' HL8.out).2.2 (Kd.R_reads' HL8.out).2.1 (Kd.R_reads' R38.out).2.2 (Kd.R_reads' R38.out).2.1 (Kd.R_reads' R48.out).2.2 (Kd.R_reads' R48.out).2.1).mono ?_); (rintro e w9 ⟨rfl, hb⟩)
       have HO9 := Aside0.mk (Kd.R_below HO8.out hb)
       have HB9 := Aside0.mk (below_step HB8.out hb)
       clear hb))
  clear xc0 yc0 xc1 yc1 xc2 yc2 xc3 yc3 xc4 yc4
  obtain ⟨ab, eab, hc0⟩ := Kd.at_int (Kd.R_reads' HO9.out).2.2 0 (by decide) (by decide)
  subst eab
  obtain ⟨ab1, eab1, hc1⟩ := Kd.at_int (Kd.R_reads' HO9.out).2.2 5 (by decide) (by decide)
  cases eab1
  rw [show rd awB 0 = 3 from rfl] at hc0
  rw [show rd awB 5 = 172 from rfl] at hc1
  have hc0' : w9.cell? ab = some (.int .u8 3) := by simpa [Addr.add] using hc0
  have hc1' : w9.cell? ⟨ab.block, ab.off + 5, none⟩ = some (.int .u8 172) := hc1
  have hL : awB.length = 8 := rfl
  clear hc0 hc1
  go_wp2_with (first
    | (go_at_call 12; (with_reducible refine (check_aw2 w9).mono ?_); (rintro e w11 ⟨rfl, hb⟩)
       have HB11 := Aside0.mk (below_step (below_alloc HB9.out _) hb)
       clear hb))
  go_ret
  exact ⟨by first | rfl | simp, HB11.out⟩
end Go.Proofs.Ythkkbgehmiobaaa.E
