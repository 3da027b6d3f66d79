/- The document's Reader: what num, level and key come to. The document's Decode of an edit. The walk of EditReads. -/
import Derived.Test.YthkkbgehmiobaaaEA
import Derived.Test.YthkkbgehmiobaaaP23
import Derived.Test.YthkkbgehmiobaaaP24
import Derived.Test.YthkkbgehmiobaaaP21
import Derived.Deep.CutRange
import Derived.Test.YthkkbgehmiobaaaBX
namespace Go.Proofs.Ythkkbgehmiobaaa.E
open Go.RowKit Go.Proofs.YthkkbgehmiobaaaW.PrintWords Go.Proofs.YthkkbgehmiobaaaW.PrintLast Go.Proofs.YthkkbgehmiobaaaW.PrintMore Go.Proofs.Ythkkbgehmiobaaa.P
set_option linter.unusedVariables false
set_option linter.unusedSimpArgs false
theorem Stays.putj {gr j : Nat} {a b : World} (h : Stays gr a b) (u : Value) : Stays gr a (b.setCell ⟨gr, j, none⟩ u) :=
  h.trans ⟨(Below.setCell (p := ⟨gr, j, none⟩) (Below.refl 0 b) (Nat.zero_le _) u).size, fun k h3 h4 => Below.heap_setCell b ⟨gr, j, none⟩ u k h4⟩
structure RRd (w0 : World) (gr : Nat) (D : List Int) (bad : Bool) (wx : World) : Prop where
  blk : ∃ A c, wx.heap[gr]? = some (.cells #[.slice A D.length c, .bool bad] 65 (0, 0)) ∧ Kd.C (Kd.int .u8) w0 A D.length D ∧ D.length ≤ c
  ge : w0.heap.size ≤ gr
  bel : Below w0.heap.size w0 wx
theorem RRd.below {w0 a c : World} {gr : Nat} {D : List Int} {bad : Bool} (h : RRd w0 gr D bad a) (hb : Below a.heap.size a c) : RRd w0 gr D bad c := by
  obtain ⟨A, cc, h1, h2, h3⟩ := h.blk
  exact ⟨⟨A, cc, blk_below h1 hb, h2, h3⟩, h.ge, below_step h.bel hb⟩
theorem RRd.other {w0 a : World} {gr g j : Nat} {D : List Int} {bad : Bool} (h : RRd w0 gr D bad a) (hne : gr ≠ g) (hg : w0.heap.size ≤ g) (u : Value) : RRd w0 gr D bad (a.setCell ⟨g, j, none⟩ u) := by
  obtain ⟨A, c, h1, h2, h3⟩ := h.blk
  exact ⟨⟨A, c, (Below.heap_setCell a ⟨g, j, none⟩ u gr hne).trans h1, h2, h3⟩, h.ge, below_set h.bel hg⟩
theorem RRd.bad1 {w0 a : World} {gr : Nat} {D : List Int} {bad : Bool} (h : RRd w0 gr D bad a) : RRd w0 gr D true (a.setCell ⟨gr, 1, none⟩ (.bool true)) := by
  obtain ⟨A, c, h1, h2, h3⟩ := h.blk
  exact ⟨⟨A, c, blk_put (cs := #[.slice A D.length c, .bool bad]) h1 1 _ rfl, h2, h3⟩, h.ge, below_set h.bel h.ge⟩
def rnum_g (k : Nat) (D : List Int) (bad : Bool) : Option (Int × List Int × Bool) := (staddleref01_Uvarint.f k D).bind fun u => if u.2.2 ≠ 0 ∨ bad = true then some (0, D, true) else if 0 ≤ u.2.1 ∧ u.2.1 ≤ (D.length : Int) then some (u.1, D.drop u.2.1.toNat, false) else none
def rlev_g (k : Nat) (D : List Int) (bad : Bool) : Option (Int × List Int × Bool) := (rnum_g k D bad).bind fun r => if 4 < r.1 then some (0, r.2.1, true) else if 0 ≤ r.1 then some r else none
def rkey_g (k : Nat) (D : List Int) (bad : Bool) : Option (S42 × List Int × Bool) := (staddleref01_Text.f k D).bind fun u => if u.2.2 ≠ 0 ∨ bad = true then some (⟨(⟨#[]⟩ : ByteArray), 0, 0⟩, D, true) else if u.1.size ≤ 9223372036854775807 ∧ 0 ≤ u.2.1 ∧ u.2.1 ≤ (D.length : Int) then (staddleref02_Decode.f k (bytesOf u.1)).bind fun y => some (⟨y.1, y.2.1, y.2.2.1⟩, D.drop u.2.1.toNat, decide (y.2.2.2 ≠ 0)) else none
set_option maxHeartbeats 2000000 in
set_option maxRecDepth 100000 in
theorem rnum_calls (k : Nat) (gr : Nat) (D : List Int) (bad : Bool) (r : Int × List Int × Bool) (w0 w : World) (hs : RRd w0 gr D bad w) (hq : rnum_g k D bad = some r) :
    Calls Try.prog 32 #[.pointer (some ⟨gr, 0, none⟩)] w fun e w' => e = .returned (.int .u64 r.1) ∧ RRd w0 gr r.2.1 r.2.2 w' ∧ Stays gr w w' := by
  obtain ⟨A, c, hblk, hC, hc⟩ := hs.blk
  unfold rnum_g at hq
  obtain ⟨⟨n, kk, er⟩, hu, hq⟩ := Option.bind_eq_some_iff.mp hq
  dsimp only at hq
  have HS := Aside0.mk hs
  have BK := Aside0.mk hblk
  have hg : w.cell? ⟨gr, 0, none⟩ = some (.slice A D.length c) := (blk_cell hblk 0).trans rfl
  have hg1 : w.cell? ⟨gr, 1, none⟩ = some (.bool bad) := (blk_cell hblk 1).trans rfl
  have hf := blk_frozen hblk 0
  have hf1 := blk_frozen hblk 1
  have HR0 := Aside0.mk hC
  have HC0 := Aside0.mk hc
  have HQ := Aside0.mk hu
  clear hs hblk hC hc hu
  by_cases h0 : er = 0
  case neg =>
    rw [if_pos (Or.inl h0)] at hq
    injection hq with hq
    subst hq
    have h0b : (er == 0) = false := beq_eq_false_iff_ne.mpr h0
    have h0c : (er != 0) = true := bne_iff_ne.mpr h0
    clear h0
    go_enter Try.func32, Try.ntmps32
    go_wp2_with (first
      | (go_at_call 45; with_reducible refine (staddleref01_Uvarint.calls k A _ D n kk er _ (Kd.C_below HR0.out HS.out.bel) HC0.out HQ.out).mono ?_; rintro ex w2 ⟨rfl, ⟨nd, rfl⟩⟩))
    go_ret
    exact ⟨by first | rfl | simp, (HS.out.below (pw_below_drewN (Below.refl _ _) nd)).bad1, ((Stays.refl gr w).below (pw_below_drewN (Below.refl _ _) nd)).putj _⟩
  subst h0
  cases bad with
  | true =>
    rw [if_pos (Or.inr rfl)] at hq
    injection hq with hq
    subst hq
    go_enter Try.func32, Try.ntmps32
    go_wp2_with (first
      | (go_at_call 45; with_reducible refine (staddleref01_Uvarint.calls k A _ D n kk 0 _ (Kd.C_below HR0.out HS.out.bel) HC0.out HQ.out).mono ?_; rintro ex w2 ⟨rfl, ⟨nd, rfl⟩⟩))
    go_ret
    exact ⟨by first | rfl | simp, (HS.out.below (pw_below_drewN (Below.refl _ _) nd)).bad1, ((Stays.refl gr w).below (pw_below_drewN (Below.refl _ _) nd)).putj _⟩
  | false =>
    rw [if_neg (by simp)] at hq
    split at hq
    case isFalse => cases hq
    rename_i hk
    injection hq with hq
    subst hq
    obtain ⟨i5, hi5, _, hs5, _⟩ := info_parts info5
    obtain ⟨A2, hcut, hrd, hcp⟩ := print_drop_of (P := Try.prog) (Value.int .u8) (0 : Int) 28 5 .i64 Try.underlying28 hi5 hs5 A c D kk hk.1 hk.2 HC0.out
    have HR2 := Aside0.mk (show ∀ W : World, Kd.C (Kd.int .u8) W A D.length D → Kd.C (Kd.int .u8) W A2 (D.drop kk.toNat).length (D.drop kk.toNat) from fun W hW => Kd.C_of_reads (h1 := fun _ => rfl) (hrd W (Kd.reads_of_C hW)))
    have HC2 := Aside0.mk hcp
    dsimp only
    obtain ⟨E, hE⟩ : ∃ x, D.drop kk.toNat = x := ⟨_, rfl⟩
    rw [hE] at HR2 HC2 hcut ⊢
    clear hrd hcp hE hk
    go_enter Try.func32, Try.ntmps32
    go_wp2_with (first
      | (go_at_call 45; with_reducible refine (staddleref01_Uvarint.calls k A _ D n kk 0 _ (Kd.C_below HR0.out HS.out.bel) HC0.out HQ.out).mono ?_; rintro ex w2 ⟨rfl, ⟨nd, rfl⟩⟩))
    go_ret
    have B2 := blk_put (cs := #[.slice A D.length c, .bool false]) (blk_drewN BK.out nd) 0 (.slice A2 E.length (c - kk.toNat)) rfl
    exact ⟨by first | rfl | simp, ⟨⟨A2, _, B2, HR2.out _ HR0.out, HC2.out⟩, HS.out.ge, below_set (pw_below_drewN HS.out.bel nd) HS.out.ge⟩, ((Stays.refl gr w).below (pw_below_drewN (Below.refl _ _) nd)).putj _⟩
set_option maxHeartbeats 2000000 in
set_option maxRecDepth 100000 in
theorem rlev_calls (k : Nat) (gr : Nat) (D : List Int) (bad : Bool) (r : Int × List Int × Bool) (w0 w : World) (hs : RRd w0 gr D bad w) (hq : rlev_g k D bad = some r) :
    Calls Try.prog 33 #[.pointer (some ⟨gr, 0, none⟩)] w fun e w' => e = .returned (.int .i64 r.1) ∧ RRd w0 gr r.2.1 r.2.2 w' ∧ Stays gr w w' := by
  unfold rlev_g at hq
  obtain ⟨⟨n, D1, b1⟩, hu, hq⟩ := Option.bind_eq_some_iff.mp hq
  dsimp only at hq
  have HS := Aside0.mk hs
  have HQ := Aside0.mk hu
  clear hs hu
  by_cases h4 : 4 < n
  · rw [if_pos h4] at hq
    injection hq with hq
    subst hq
    have d1 : decide (4 < n) = true := decide_eq_true h4
    clear h4
    go_enter Try.func33, Try.ntmps33
    go_wp2_with (first
      | (go_at_call 32; (with_reducible refine (rnum_calls k gr D bad (n, D1, b1) w0 _ HS.out HQ.out).mono ?_); (rintro ex w1 ⟨rfl, hr1, hs1⟩)
         have HR1 := Aside0.mk hr1
         have HS1 := Aside0.mk hs1
         obtain ⟨A, c, hblk, _⟩ := hr1.blk
         have hg1 : w1.cell? ⟨gr, 1, none⟩ = some (.bool b1) := (blk_cell hblk 1).trans rfl
         have hf1 := blk_frozen hblk 1
         clear hr1 hs1 hblk))
    go_ret
    exact ⟨by first | rfl | simp, HR1.out.bad1, HS1.out.putj _⟩
  · rw [if_neg h4] at hq
    split at hq
    case isFalse => cases hq
    rename_i h0
    injection hq with hq
    subst hq
    have d1 : decide (4 < n) = false := decide_eq_false h4
    have hlw := dec_w2 n ⟨h0, by omega⟩
    have hlw2 : IntKind.i64.wrap n = n := (i64_w n).trans hlw
    clear h4 h0
    go_enter Try.func33, Try.ntmps33
    go_wp2_with (first
      | (go_at_call 32; (with_reducible refine (rnum_calls k gr D bad (n, D1, b1) w0 _ HS.out HQ.out).mono ?_); (rintro ex w1 ⟨rfl, hr1, hs1⟩)
         have HR1 := Aside0.mk hr1
         have HS1 := Aside0.mk hs1
         clear hr1 hs1))
    go_ret
    exact ⟨by first | rfl | (simp [hlw]), HR1.out, HS1.out⟩
set_option maxHeartbeats 8000000 in
set_option maxRecDepth 100000 in
theorem rkey_calls (k : Nat) (gr : Nat) (D : List Int) (bad : Bool) (r : S42 × List Int × Bool) (w0 w : World) (hs : RRd w0 gr D bad w) (hq : rkey_g k D bad = some r) :
    Calls Try.prog 34 #[.pointer (some ⟨gr, 0, none⟩)] w fun e w' => e = .returned (.agg #[.string r.1.f0, .int .u64 r.1.f1, .int .i64 r.1.f2]) ∧ RRd w0 gr r.2.1 r.2.2 w' ∧ Stays gr w w' := by
  unfold rkey_g at hq
  have hq0 := Option.bind_eq_some_iff.mp hq
  clear hq
  obtain ⟨⟨s, kk, er⟩, hu, hq⟩ := hq0
  dsimp only at hq
  have HS := Aside0.mk hs
  have HQ := Aside0.mk hu
  clear hs hu
  by_cases hbad : er ≠ 0 ∨ bad = true
  · rw [if_pos hbad] at hq
    injection hq with hq
    subst hq
    dsimp only
    by_cases h0 : er = 0
    · subst h0
      obtain rfl : bad = true := hbad.resolve_left (by simp)
      clear hbad
      go_enter Try.func34, Try.ntmps34
      go_upto_region 1 with (first
        | ((with_reducible refine gate_dst (N := 2) rfl ?_); refine box_event ?hg (N := 2) ?hd (cs := #[Value.string (⟨#[]⟩ : ByteArray), .int .u64 0, .int .i64 0]) (t := 42) ?hr ?_; (case hd => rfl); (case hg => rfl); (case hr => first | (go_simp; done) | (go_simp; rfl)); intro g2 hg w1 hbox hb
           have HS1 := Aside0.mk (HS.out.below hb)
           have ST1 : Aside0 (Stays gr w w1) := ⟨(Stays.refl gr w).below hb⟩
           have BG1 := Aside0.mk hbox
           have GE1 : Aside0 (w.heap.size ≤ g2) := ⟨by rw [hg]; exact Nat.le_refl _⟩
           have GL1 : Aside0 (gr < g2) := ⟨by obtain ⟨A_, c_, h_, _⟩ := HS.out.blk; rw [hg]; exact blk_lt h_⟩
           clear hg hbox hb))
      obtain ⟨A, c, hblk, hC, hc⟩ := HS1.out.blk
      have rc0 : w1.cell? ⟨gr, 0, none⟩ = some (Value.slice A D.length c) := (blk_cell hblk 0).trans rfl
      have rcf0 := blk_frozen hblk 0
      have rc1 : w1.cell? ⟨gr, 1, none⟩ = some (.bool true) := (blk_cell hblk 1).trans rfl
      have rcf1 := blk_frozen hblk 1
      have HR0 := Aside0.mk hC
      have HC0 := Aside0.mk hc
      clear hblk hC hc
      go_upto_region 4 with (first
        | (go_at_call 46; with_reducible refine (staddleref01_Text.calls k A _ D s kk 0 _ (Kd.C_below HR0.out HS1.out.bel) HC0.out HQ.out).mono ?_; rintro ex w2 ⟨rfl, ⟨nd, rfl⟩⟩))
      have HS3 : Aside0 (RRd w0 gr D true ((w1.drewN nd).setCell ⟨gr, 1, none⟩ (.bool true))) := ⟨(HS1.out.below (pw_below_drewN (Below.refl _ _) nd)).bad1⟩
      have ST3 : Aside0 (Stays gr w ((w1.drewN nd).setCell ⟨gr, 1, none⟩ (.bool true))) := ⟨(ST1.out.below (pw_below_drewN (Below.refl _ _) nd)).putj _⟩
      have BG3 : Aside0 (((w1.drewN nd).setCell ⟨gr, 1, none⟩ (.bool true)).heap[g2]? = some (.cells #[Value.string (⟨#[]⟩ : ByteArray), .int .u64 0, .int .i64 0] 42 (0, 0))) := ⟨(Below.heap_setCell _ _ _ g2 (by have := GL1.out; show g2 ≠ gr; omega)).trans (blk_drewN BG1.out nd)⟩
      generalize (w1.drewN nd).setCell ⟨gr, 1, none⟩ (.bool true) = W3 at HS3 ST3 BG3 ⊢
      clear rc0 rcf0 rc1 rcf1 HS1 ST1 BG1
      have xc0 : W3.cell? ⟨g2, 0, none⟩ = some (Value.string (⟨#[]⟩ : ByteArray)) := (blk_cell BG3.out 0).trans rfl
      have xcf0 := blk_frozen BG3.out 0
      have xc1 : W3.cell? ⟨g2, 1, none⟩ = some (.int .u64 0) := (blk_cell BG3.out 1).trans rfl
      have xcf1 := blk_frozen BG3.out 1
      have xc2 : W3.cell? ⟨g2, 2, none⟩ = some (.int .i64 0) := (blk_cell BG3.out 2).trans rfl
      have xcf2 := blk_frozen BG3.out 2
      obtain ⟨A3, c3, hblk3, hC3, hc3⟩ := HS3.out.blk
      have BR3 := Aside0.mk hblk3
      have HC3 := Aside0.mk (And.intro hC3 hc3)
      clear hblk3 hC3 hc3
      go_wp2
      obtain ⟨W8, hW8⟩ : ∃ x, (((W3.setCell ⟨g2, 0, none⟩ (Value.string (⟨#[]⟩ : ByteArray))).setCell ⟨g2, 1, none⟩ (.int .u64 0)).setCell ⟨g2, 2, none⟩ (.int .i64 0)) = x := ⟨_, rfl⟩
      rw [hW8]
      have hmv : ∀ j, j ≠ g2 → W8.heap[j]? = W3.heap[j]? := fun j hj => by rw [← hW8]; exact (Below.heap_setCell _ _ _ j hj).trans ((Below.heap_setCell _ _ _ j hj).trans (Below.heap_setCell _ _ _ j hj))
      have hge : w0.heap.size ≤ g2 := by have := GE1.out; have := HS.out.bel.size; omega
      have hsz : W3.heap.size ≤ W8.heap.size := by rw [← hW8]; exact (Below.setCell (p := ⟨g2, 2, none⟩) (Below.setCell (p := ⟨g2, 1, none⟩) (Below.setCell (p := ⟨g2, 0, none⟩) (Below.refl 0 W3) (Nat.zero_le _) _) (Nat.zero_le _) _) (Nat.zero_le _) _).size
      have BG8 : W8.heap[g2]? = some (.cells #[Value.string (⟨#[]⟩ : ByteArray), .int .u64 0, .int .i64 0] 42 (0, 0)) := by rw [← hW8]; exact blk_put (cs := #[Value.string (⟨#[]⟩ : ByteArray), .int .u64 0, .int .i64 0]) (blk_put (cs := #[Value.string (⟨#[]⟩ : ByteArray), .int .u64 0, .int .i64 0]) (blk_put (cs := #[Value.string (⟨#[]⟩ : ByteArray), .int .u64 0, .int .i64 0]) (BG3.out) 0 _ rfl) 1 _ rfl) 2 _ rfl
      have HB8 : Below w0.heap.size w0 W8 := by rw [← hW8]; exact below_set (below_set (below_set (HS3.out.bel) hge) hge) hge
      have z0 : W8.cell? ⟨g2, 0, none⟩ = some (Value.string (⟨#[]⟩ : ByteArray)) := (blk_cell BG8 0).trans rfl
      have z1 : W8.cell? ⟨g2, 1, none⟩ = some (.int .u64 0) := (blk_cell BG8 1).trans rfl
      have z2 : W8.cell? ⟨g2, 2, none⟩ = some (.int .i64 0) := (blk_cell BG8 2).trans rfl
      refine bodyPost_ret (v := .agg #[Value.string (⟨#[]⟩ : ByteArray), .int .u64 0, .int .i64 0]) ?_ rfl ⟨rfl, ⟨⟨A3, c3, (hmv gr (by have := GL1.out; omega)).trans BR3.out, HC3.out.1, HC3.out.2⟩, HS.out.ge, HB8⟩, ⟨Nat.le_trans ST3.out.1 hsz, fun j hj hj2 => (hmv j (by have := GE1.out; omega)).trans (ST3.out.2 j hj hj2)⟩⟩
      simp [results, Try.results34, go_sem, z0, z1, z2]
    · have h0b : (er == 0) = false := beq_eq_false_iff_ne.mpr h0
      have h0c : (er != 0) = true := bne_iff_ne.mpr h0
      clear hbad h0
      go_enter Try.func34, Try.ntmps34
      go_upto_region 1 with (first
        | ((with_reducible refine gate_dst (N := 2) rfl ?_); refine box_event ?hg (N := 2) ?hd (cs := #[Value.string (⟨#[]⟩ : ByteArray), .int .u64 0, .int .i64 0]) (t := 42) ?hr ?_; (case hd => rfl); (case hg => rfl); (case hr => first | (go_simp; done) | (go_simp; rfl)); intro g2 hg w1 hbox hb
           have HS1 := Aside0.mk (HS.out.below hb)
           have ST1 : Aside0 (Stays gr w w1) := ⟨(Stays.refl gr w).below hb⟩
           have BG1 := Aside0.mk hbox
           have GE1 : Aside0 (w.heap.size ≤ g2) := ⟨by rw [hg]; exact Nat.le_refl _⟩
           have GL1 : Aside0 (gr < g2) := ⟨by obtain ⟨A_, c_, h_, _⟩ := HS.out.blk; rw [hg]; exact blk_lt h_⟩
           clear hg hbox hb))
      obtain ⟨A, c, hblk, hC, hc⟩ := HS1.out.blk
      have rc0 : w1.cell? ⟨gr, 0, none⟩ = some (Value.slice A D.length c) := (blk_cell hblk 0).trans rfl
      have rcf0 := blk_frozen hblk 0
      have rc1 : w1.cell? ⟨gr, 1, none⟩ = some (.bool bad) := (blk_cell hblk 1).trans rfl
      have rcf1 := blk_frozen hblk 1
      have HR0 := Aside0.mk hC
      have HC0 := Aside0.mk hc
      clear hblk hC hc
      go_upto_region 4 with (first
        | (go_at_call 46; with_reducible refine (staddleref01_Text.calls k A _ D s kk er _ (Kd.C_below HR0.out HS1.out.bel) HC0.out HQ.out).mono ?_; rintro ex w2 ⟨rfl, ⟨nd, rfl⟩⟩))
      have HS3 : Aside0 (RRd w0 gr D true ((w1.drewN nd).setCell ⟨gr, 1, none⟩ (.bool true))) := ⟨(HS1.out.below (pw_below_drewN (Below.refl _ _) nd)).bad1⟩
      have ST3 : Aside0 (Stays gr w ((w1.drewN nd).setCell ⟨gr, 1, none⟩ (.bool true))) := ⟨(ST1.out.below (pw_below_drewN (Below.refl _ _) nd)).putj _⟩
      have BG3 : Aside0 (((w1.drewN nd).setCell ⟨gr, 1, none⟩ (.bool true)).heap[g2]? = some (.cells #[Value.string (⟨#[]⟩ : ByteArray), .int .u64 0, .int .i64 0] 42 (0, 0))) := ⟨(Below.heap_setCell _ _ _ g2 (by have := GL1.out; show g2 ≠ gr; omega)).trans (blk_drewN BG1.out nd)⟩
      generalize (w1.drewN nd).setCell ⟨gr, 1, none⟩ (.bool true) = W3 at HS3 ST3 BG3 ⊢
      clear rc0 rcf0 rc1 rcf1 HS1 ST1 BG1
      have xc0 : W3.cell? ⟨g2, 0, none⟩ = some (Value.string (⟨#[]⟩ : ByteArray)) := (blk_cell BG3.out 0).trans rfl
      have xcf0 := blk_frozen BG3.out 0
      have xc1 : W3.cell? ⟨g2, 1, none⟩ = some (.int .u64 0) := (blk_cell BG3.out 1).trans rfl
      have xcf1 := blk_frozen BG3.out 1
      have xc2 : W3.cell? ⟨g2, 2, none⟩ = some (.int .i64 0) := (blk_cell BG3.out 2).trans rfl
      have xcf2 := blk_frozen BG3.out 2
      obtain ⟨A3, c3, hblk3, hC3, hc3⟩ := HS3.out.blk
      have BR3 := Aside0.mk hblk3
      have HC3 := Aside0.mk (And.intro hC3 hc3)
      clear hblk3 hC3 hc3
      go_wp2
      obtain ⟨W8, hW8⟩ : ∃ x, (((W3.setCell ⟨g2, 0, none⟩ (Value.string (⟨#[]⟩ : ByteArray))).setCell ⟨g2, 1, none⟩ (.int .u64 0)).setCell ⟨g2, 2, none⟩ (.int .i64 0)) = x := ⟨_, rfl⟩
      rw [hW8]
      have hmv : ∀ j, j ≠ g2 → W8.heap[j]? = W3.heap[j]? := fun j hj => by rw [← hW8]; exact (Below.heap_setCell _ _ _ j hj).trans ((Below.heap_setCell _ _ _ j hj).trans (Below.heap_setCell _ _ _ j hj))
      have hge : w0.heap.size ≤ g2 := by have := GE1.out; have := HS.out.bel.size; omega
      have hsz : W3.heap.size ≤ W8.heap.size := by rw [← hW8]; exact (Below.setCell (p := ⟨g2, 2, none⟩) (Below.setCell (p := ⟨g2, 1, none⟩) (Below.setCell (p := ⟨g2, 0, none⟩) (Below.refl 0 W3) (Nat.zero_le _) _) (Nat.zero_le _) _) (Nat.zero_le _) _).size
      have BG8 : W8.heap[g2]? = some (.cells #[Value.string (⟨#[]⟩ : ByteArray), .int .u64 0, .int .i64 0] 42 (0, 0)) := by rw [← hW8]; exact blk_put (cs := #[Value.string (⟨#[]⟩ : ByteArray), .int .u64 0, .int .i64 0]) (blk_put (cs := #[Value.string (⟨#[]⟩ : ByteArray), .int .u64 0, .int .i64 0]) (blk_put (cs := #[Value.string (⟨#[]⟩ : ByteArray), .int .u64 0, .int .i64 0]) (BG3.out) 0 _ rfl) 1 _ rfl) 2 _ rfl
      have HB8 : Below w0.heap.size w0 W8 := by rw [← hW8]; exact below_set (below_set (below_set (HS3.out.bel) hge) hge) hge
      have z0 : W8.cell? ⟨g2, 0, none⟩ = some (Value.string (⟨#[]⟩ : ByteArray)) := (blk_cell BG8 0).trans rfl
      have z1 : W8.cell? ⟨g2, 1, none⟩ = some (.int .u64 0) := (blk_cell BG8 1).trans rfl
      have z2 : W8.cell? ⟨g2, 2, none⟩ = some (.int .i64 0) := (blk_cell BG8 2).trans rfl
      refine bodyPost_ret (v := .agg #[Value.string (⟨#[]⟩ : ByteArray), .int .u64 0, .int .i64 0]) ?_ rfl ⟨rfl, ⟨⟨A3, c3, (hmv gr (by have := GL1.out; omega)).trans BR3.out, HC3.out.1, HC3.out.2⟩, HS.out.ge, HB8⟩, ⟨Nat.le_trans ST3.out.1 hsz, fun j hj hj2 => (hmv j (by have := GE1.out; omega)).trans (ST3.out.2 j hj hj2)⟩⟩
      simp [results, Try.results34, go_sem, z0, z1, z2]
  rw [if_neg hbad] at hq
  obtain rfl : er = 0 := Decidable.byContradiction fun h => hbad (Or.inl h)
  obtain rfl : bad = false := by cases bad with | false => rfl | true => exact absurd (Or.inr rfl) hbad
  clear hbad
  split at hq
  case isFalse => cases hq
  rename_i hcond
  obtain ⟨hsz, hk⟩ := hcond
  have hq1 := Option.bind_eq_some_iff.mp hq
  clear hq
  obtain ⟨⟨y1, y2, y3, y4⟩, hy, hq⟩ := hq1
  dsimp only at hq
  obtain ⟨E, hE⟩ : ∃ x, D.drop kk.toNat = x := ⟨_, rfl⟩
  rw [hE] at hq
  obtain ⟨bb, hbb⟩ : ∃ b : Bool, decide (y4 ≠ 0) = b := ⟨_, rfl⟩
  rw [hbb] at hq
  injection hq with hq
  subst hq
  dsimp only
  have HBB := Aside0.mk hbb
  have HE := Aside0.mk hE
  have HY := Aside0.mk hy
  have HSZ := Aside0.mk hsz
  have HK := Aside0.mk hk
  clear hy hsz hk hE hbb
  go_enter Try.func34, Try.ntmps34
  go_upto_region 1 with (first
    | ((with_reducible refine gate_dst (N := 2) rfl ?_); refine box_event ?hg (N := 2) ?hd (cs := #[Value.string (⟨#[]⟩ : ByteArray), .int .u64 0, .int .i64 0]) (t := 42) ?hr ?_; (case hd => rfl); (case hg => rfl); (case hr => first | (go_simp; done) | (go_simp; rfl)); intro g2 hg w1 hbox hb
       have HS1 := Aside0.mk (HS.out.below hb)
       have ST1 : Aside0 (Stays gr w w1) := ⟨(Stays.refl gr w).below hb⟩
       have BG1 := Aside0.mk hbox
       have GE1 : Aside0 (w.heap.size ≤ g2) := ⟨by rw [hg]; exact Nat.le_refl _⟩
       have GL1 : Aside0 (gr < g2) := ⟨by obtain ⟨A_, c_, h_, _⟩ := HS.out.blk; rw [hg]; exact blk_lt h_⟩
       clear hg hbox hb))
  obtain ⟨A, c, hblk, hC, hc⟩ := HS1.out.blk
  have rc0 : w1.cell? ⟨gr, 0, none⟩ = some (Value.slice A D.length c) := (blk_cell hblk 0).trans rfl
  have rcf0 := blk_frozen hblk 0
  have rc1 : w1.cell? ⟨gr, 1, none⟩ = some (.bool false) := (blk_cell hblk 1).trans rfl
  have rcf1 := blk_frozen hblk 1
  have HR0 := Aside0.mk hC
  have HC0 := Aside0.mk hc
  have BR1 := Aside0.mk hblk
  clear hblk hC hc
  go_upto_region 5 with (first
    | (go_at_call 46; with_reducible refine (staddleref01_Text.calls k A _ D s kk 0 _ (Kd.C_below HR0.out HS1.out.bel) HC0.out HQ.out).mono ?_; rintro ex w2 ⟨rfl, ⟨nd, rfl⟩⟩))
  have HS2 : Aside0 (RRd w0 gr D false (w1.drewN nd)) := ⟨HS1.out.below (pw_below_drewN (Below.refl _ _) nd)⟩
  have ST2 : Aside0 (Stays gr w (w1.drewN nd)) := ⟨ST1.out.below (pw_below_drewN (Below.refl _ _) nd)⟩
  have BG2 : Aside0 ((w1.drewN nd).heap[g2]? = some (.cells #[Value.string (⟨#[]⟩ : ByteArray), .int .u64 0, .int .i64 0] 42 (0, 0))) := ⟨blk_drewN BG1.out nd⟩
  have BR2 : Aside0 ((w1.drewN nd).heap[gr]? = some (.cells #[.slice A D.length c, .bool false] 65 (0, 0))) := ⟨blk_drewN BR1.out nd⟩
  generalize w1.drewN nd = w2 at HS2 ST2 BG2 BR2 ⊢
  clear rc0 rcf0 rc1 rcf1 HS1 ST1 BG1 BR1
  have rc0 : w2.cell? ⟨gr, 0, none⟩ = some (Value.slice A D.length c) := (blk_cell BR2.out 0).trans rfl
  have rcf0 := blk_frozen BR2.out 0
  have rc1 : w2.cell? ⟨gr, 1, none⟩ = some (.bool false) := (blk_cell BR2.out 1).trans rfl
  have rcf1 := blk_frozen BR2.out 1
  obtain ⟨i5, hi5, _, hs5, _⟩ := info_parts info5
  obtain ⟨A2, hcut, hrd, hcp⟩ := print_drop_of (P := Try.prog) (Value.int .u8) (0 : Int) 28 5 .i64 Try.underlying28 hi5 hs5 A c D kk HK.out.1 HK.out.2 HC0.out
  have HR2 := Aside0.mk (show ∀ W : World, Kd.C (Kd.int .u8) W A D.length D → Kd.C (Kd.int .u8) W A2 (D.drop kk.toNat).length (D.drop kk.toNat) from fun W hW => Kd.C_of_reads (h1 := fun _ => rfl) (hrd W (Kd.reads_of_C hW)))
  have HC2 := Aside0.mk hcp
  rw [HE.out] at HR2 HC2 hcut
  clear hrd hcp
  go_upto_region 6 with fail
  obtain ⟨W3, hW3⟩ : ∃ x, w2.setCell ⟨gr, 0, none⟩ (.slice A2 E.length (c - kk.toNat)) = x := ⟨_, rfl⟩
  rw [hW3]
  have BR3 : Aside0 (W3.heap[gr]? = some (.cells #[.slice A2 E.length (c - kk.toNat), .bool false] 65 (0, 0))) := ⟨by rw [← hW3]; exact blk_put (cs := #[.slice A D.length c, .bool false]) BR2.out 0 _ rfl⟩
  have BG3 : Aside0 (W3.heap[g2]? = some (.cells #[Value.string (⟨#[]⟩ : ByteArray), .int .u64 0, .int .i64 0] 42 (0, 0))) := ⟨by rw [← hW3]; exact (Below.heap_setCell _ _ _ g2 (by have := GL1.out; show g2 ≠ gr; omega)).trans BG2.out⟩
  have ST3 : Aside0 (Stays gr w W3) := ⟨by rw [← hW3]; exact ST2.out.putj _⟩
  have HB3 : Aside0 (Below w0.heap.size w0 W3) := ⟨by rw [← hW3]; exact below_set HS2.out.bel HS.out.ge⟩
  clear hW3 hcut rc0 rcf0 rc1 rcf1 HS2 ST2 BG2 BR2
  go_upto_region 7 with (first
    | ((with_reducible refine gate_dst (N := 40) rfl ?_); refine kd_V_conv rfl (N := 40) rfl 9 28 5 _ rfl s rfl Try.underlying9 Try.underlying28 Try.underlying5 HSZ.out ?_; intro vb w4 hV hb _ _
       obtain ⟨Ab, cb, eb⟩ := Kd.V_slice hV
       subst eb
       have HV := Aside0.mk (Kd.V_reads' hV).2
       have ST4 := Aside0.mk (ST3.out.below hb)
       have BG4 := Aside0.mk (blk_below BG3.out hb)
       have BR4 := Aside0.mk (blk_below BR3.out hb)
       have HB4 := Aside0.mk (below_step HB3.out hb)
       clear hV hb)
    | (go_at_call 47; (with_reducible refine (staddleref02_Decode.calls k Ab cb (bytesOf s) y1 y2 y3 y4 _ HV.out.2 HV.out.1 HY.out).mono ?_); (rintro ex w5 ⟨rfl, hb⟩)
       have ST5 := Aside0.mk (ST4.out.below hb)
       have BG5 := Aside0.mk (blk_below BG4.out hb)
       have BR5 := Aside0.mk (blk_below BR4.out hb)
       have HB5 := Aside0.mk (below_step HB4.out hb)
       clear hb)
    | ((with_reducible refine gate_dst (N := 6) rfl ?_); refine box_event ?hg (N := 6) ?hd (cs := #[Value.string (⟨#[]⟩ : ByteArray), .int .u64 0, .int .i64 0]) (t := 42) ?hr ?_; (case hd => rfl); (case hg => rfl); (case hr => first | (go_simp; done) | (go_simp; rfl)); intro g6 hg w6 hbox hb
       have ST6 := Aside0.mk (ST5.out.below hb)
       have BG6 := Aside0.mk (blk_below BG5.out hb)
       have BR6 := Aside0.mk (blk_below BR5.out hb)
       have BY6 := Aside0.mk hbox
       have HB6 := Aside0.mk (below_step HB5.out hb)
       have GE6 : Aside0 (g2 < g6 ∧ gr < g6 ∧ w.heap.size ≤ g6 ∧ w0.heap.size ≤ g6) := ⟨by have h1 := blk_lt BG5.out; have h2 := blk_lt BR5.out; have h3 := ST5.out.1; have h4 := HS.out.bel.size; rw [hg]; omega⟩
       have yc0 : w6.cell? ⟨g6, 0, none⟩ = some (Value.string (⟨#[]⟩ : ByteArray)) := (blk_cell hbox 0).trans rfl
       have ycf0 := blk_frozen hbox 0
       have yc1 : w6.cell? ⟨g6, 1, none⟩ = some (.int .u64 0) := (blk_cell hbox 1).trans rfl
       have ycf1 := blk_frozen hbox 1
       have yc2 : w6.cell? ⟨g6, 2, none⟩ = some (.int .i64 0) := (blk_cell hbox 2).trans rfl
       have ycf2 := blk_frozen hbox 2
       clear hg hbox hb))
  obtain ⟨W7, hW7⟩ : ∃ x, (((w6.setCell ⟨g6, 0, none⟩ (Value.string y1)).setCell ⟨g6, 1, none⟩ (.int .u64 y2)).setCell ⟨g6, 2, none⟩ (.int .i64 y3)) = x := ⟨_, rfl⟩
  rw [hW7]
  have hmv7 : ∀ j, j ≠ g6 → W7.heap[j]? = w6.heap[j]? := fun j hj => by rw [← hW7]; exact (Below.heap_setCell _ _ _ j hj).trans ((Below.heap_setCell _ _ _ j hj).trans (Below.heap_setCell _ _ _ j hj))
  have hsz7 : w6.heap.size ≤ W7.heap.size := by rw [← hW7]; exact (Below.setCell (p := ⟨g6, 2, none⟩) (Below.setCell (p := ⟨g6, 1, none⟩) (Below.setCell (p := ⟨g6, 0, none⟩) (Below.refl 0 w6) (Nat.zero_le _) _) (Nat.zero_le _) _) (Nat.zero_le _) _).size
  have BY7 : Aside0 (W7.heap[g6]? = some (.cells #[Value.string y1, .int .u64 y2, .int .i64 y3] 42 (0, 0))) := ⟨by rw [← hW7]; exact blk_put (cs := #[Value.string y1, .int .u64 y2, .int .i64 0]) (blk_put (cs := #[Value.string y1, .int .u64 0, .int .i64 0]) (blk_put (cs := #[Value.string (⟨#[]⟩ : ByteArray), .int .u64 0, .int .i64 0]) (BY6.out) 0 _ rfl) 1 _ rfl) 2 _ rfl⟩
  have BG7 : Aside0 (W7.heap[g2]? = some (.cells #[Value.string (⟨#[]⟩ : ByteArray), .int .u64 0, .int .i64 0] 42 (0, 0))) := ⟨(hmv7 g2 (by have := GE6.out; omega)).trans BG6.out⟩
  have BR7 : Aside0 (W7.heap[gr]? = some (.cells #[.slice A2 E.length (c - kk.toNat), .bool false] 65 (0, 0))) := ⟨(hmv7 gr (by have := GE6.out; omega)).trans BR6.out⟩
  have ST7 : Aside0 (Stays gr w W7) := ⟨⟨Nat.le_trans ST6.out.1 hsz7, fun j hj hj2 => (hmv7 j (by have := GE6.out; omega)).trans (ST6.out.2 j hj hj2)⟩⟩
  have HB7 : Aside0 (Below w0.heap.size w0 W7) := ⟨by rw [← hW7]; exact below_set (below_set (below_set (HB6.out) GE6.out.2.2.2) GE6.out.2.2.2) GE6.out.2.2.2⟩
  clear hW7 hmv7 hsz7 yc0 ycf0 yc1 ycf1 yc2 ycf2 ST3 ST4 ST5 ST6 BG3 BG4 BG5 BG6 BR3 BR4 BR5 BR6 BY6 HB3 HB4 HB5 HB6 HV
  by_cases h4 : y4 = 0
  · subst h4
    obtain rfl : bb = false := by rw [← HBB.out]; decide
    have yc0 : W7.cell? ⟨g6, 0, none⟩ = some (Value.string y1) := (blk_cell BY7.out 0).trans rfl
    have ycf0 := blk_frozen BY7.out 0
    have yc1 : W7.cell? ⟨g6, 1, none⟩ = some (.int .u64 y2) := (blk_cell BY7.out 1).trans rfl
    have ycf1 := blk_frozen BY7.out 1
    have yc2 : W7.cell? ⟨g6, 2, none⟩ = some (.int .i64 y3) := (blk_cell BY7.out 2).trans rfl
    have ycf2 := blk_frozen BY7.out 2
    have xc0 : W7.cell? ⟨g2, 0, none⟩ = some (Value.string (⟨#[]⟩ : ByteArray)) := (blk_cell BG7.out 0).trans rfl
    have xcf0 := blk_frozen BG7.out 0
    have xc1 : W7.cell? ⟨g2, 1, none⟩ = some (.int .u64 0) := (blk_cell BG7.out 1).trans rfl
    have xcf1 := blk_frozen BG7.out 1
    have xc2 : W7.cell? ⟨g2, 2, none⟩ = some (.int .i64 0) := (blk_cell BG7.out 2).trans rfl
    have xcf2 := blk_frozen BG7.out 2
    go_wp2
    obtain ⟨W8, hW8⟩ : ∃ x, (((W7.setCell ⟨g2, 0, none⟩ (Value.string y1)).setCell ⟨g2, 1, none⟩ (.int .u64 y2)).setCell ⟨g2, 2, none⟩ (.int .i64 y3)) = x := ⟨_, rfl⟩
    rw [hW8]
    have hmv : ∀ j, j ≠ g2 → W8.heap[j]? = W7.heap[j]? := fun j hj => by rw [← hW8]; exact (Below.heap_setCell _ _ _ j hj).trans ((Below.heap_setCell _ _ _ j hj).trans (Below.heap_setCell _ _ _ j hj))
    have hge : w0.heap.size ≤ g2 := by have := GE1.out; have := HS.out.bel.size; omega
    have hsz : W7.heap.size ≤ W8.heap.size := by rw [← hW8]; exact (Below.setCell (p := ⟨g2, 2, none⟩) (Below.setCell (p := ⟨g2, 1, none⟩) (Below.setCell (p := ⟨g2, 0, none⟩) (Below.refl 0 W7) (Nat.zero_le _) _) (Nat.zero_le _) _) (Nat.zero_le _) _).size
    have BG8 : W8.heap[g2]? = some (.cells #[Value.string y1, .int .u64 y2, .int .i64 y3] 42 (0, 0)) := by rw [← hW8]; exact blk_put (cs := #[Value.string y1, .int .u64 y2, .int .i64 0]) (blk_put (cs := #[Value.string y1, .int .u64 0, .int .i64 0]) (blk_put (cs := #[Value.string (⟨#[]⟩ : ByteArray), .int .u64 0, .int .i64 0]) (BG7.out) 0 _ rfl) 1 _ rfl) 2 _ rfl
    have HB8 : Below w0.heap.size w0 W8 := by rw [← hW8]; exact below_set (below_set (below_set (HB7.out) hge) hge) hge
    have z0 : W8.cell? ⟨g2, 0, none⟩ = some (Value.string y1) := (blk_cell BG8 0).trans rfl
    have z1 : W8.cell? ⟨g2, 1, none⟩ = some (.int .u64 y2) := (blk_cell BG8 1).trans rfl
    have z2 : W8.cell? ⟨g2, 2, none⟩ = some (.int .i64 y3) := (blk_cell BG8 2).trans rfl
    refine bodyPost_ret (v := .agg #[Value.string y1, .int .u64 y2, .int .i64 y3]) ?_ rfl ⟨rfl, ⟨⟨A2, _, (hmv gr (by have := GL1.out; omega)).trans BR7.out, HR2.out _ HR0.out, HC2.out⟩, HS.out.ge, HB8⟩, ⟨Nat.le_trans ST7.out.1 hsz, fun j hj hj2 => (hmv j (by have := GE1.out; omega)).trans (ST7.out.2 j hj hj2)⟩⟩
    simp [results, Try.results34, go_sem, z0, z1, z2]
  · have h4b : (y4 == 0) = false := beq_eq_false_iff_ne.mpr h4
    have h4c : (y4 != 0) = true := bne_iff_ne.mpr h4
    obtain rfl : bb = true := by rw [← HBB.out]; exact decide_eq_true h4
    clear h4
    have rc0 : W7.cell? ⟨gr, 0, none⟩ = some (Value.slice A2 E.length (c - kk.toNat)) := (blk_cell BR7.out 0).trans rfl
    have rcf0 := blk_frozen BR7.out 0
    have rc1 : W7.cell? ⟨gr, 1, none⟩ = some (.bool false) := (blk_cell BR7.out 1).trans rfl
    have rcf1 := blk_frozen BR7.out 1
    go_upto_region 9 with fail
    have BR8 : Aside0 ((W7.setCell ⟨gr, 1, none⟩ (.bool true)).heap[gr]? = some (.cells #[.slice A2 E.length (c - kk.toNat), .bool true] 65 (0, 0))) := ⟨blk_put (cs := #[.slice A2 E.length (c - kk.toNat), .bool false]) BR7.out 1 _ rfl⟩
    have BG8_ : Aside0 ((W7.setCell ⟨gr, 1, none⟩ (.bool true)).heap[g2]? = some (.cells #[Value.string (⟨#[]⟩ : ByteArray), .int .u64 0, .int .i64 0] 42 (0, 0))) := ⟨(Below.heap_setCell _ _ _ g2 (by have := GL1.out; show g2 ≠ gr; omega)).trans BG7.out⟩
    have BY8 : Aside0 ((W7.setCell ⟨gr, 1, none⟩ (.bool true)).heap[g6]? = some (.cells #[Value.string y1, .int .u64 y2, .int .i64 y3] 42 (0, 0))) := ⟨(Below.heap_setCell _ _ _ g6 (by have := GE6.out; show g6 ≠ gr; omega)).trans BY7.out⟩
    have ST8 : Aside0 (Stays gr w (W7.setCell ⟨gr, 1, none⟩ (.bool true))) := ⟨ST7.out.putj _⟩
    have HB8_ : Aside0 (Below w0.heap.size w0 (W7.setCell ⟨gr, 1, none⟩ (.bool true))) := ⟨below_set HB7.out HS.out.ge⟩
    generalize W7.setCell ⟨gr, 1, none⟩ (.bool true) = W9 at BR8 BG8_ BY8 ST8 HB8_ ⊢
    clear rc0 rcf0 rc1 rcf1 BR7 BG7 BY7 ST7 HB7
    have yc0 : W9.cell? ⟨g6, 0, none⟩ = some (Value.string y1) := (blk_cell BY8.out 0).trans rfl
    have ycf0 := blk_frozen BY8.out 0
    have yc1 : W9.cell? ⟨g6, 1, none⟩ = some (.int .u64 y2) := (blk_cell BY8.out 1).trans rfl
    have ycf1 := blk_frozen BY8.out 1
    have yc2 : W9.cell? ⟨g6, 2, none⟩ = some (.int .i64 y3) := (blk_cell BY8.out 2).trans rfl
    have ycf2 := blk_frozen BY8.out 2
    have xc0 : W9.cell? ⟨g2, 0, none⟩ = some (Value.string (⟨#[]⟩ : ByteArray)) := (blk_cell BG8_.out 0).trans rfl
    have xcf0 := blk_frozen BG8_.out 0
    have xc1 : W9.cell? ⟨g2, 1, none⟩ = some (.int .u64 0) := (blk_cell BG8_.out 1).trans rfl
    have xcf1 := blk_frozen BG8_.out 1
    have xc2 : W9.cell? ⟨g2, 2, none⟩ = some (.int .i64 0) := (blk_cell BG8_.out 2).trans rfl
    have xcf2 := blk_frozen BG8_.out 2
    go_wp2
    obtain ⟨W8, hW8⟩ : ∃ x, (((W9.setCell ⟨g2, 0, none⟩ (Value.string y1)).setCell ⟨g2, 1, none⟩ (.int .u64 y2)).setCell ⟨g2, 2, none⟩ (.int .i64 y3)) = x := ⟨_, rfl⟩
    rw [hW8]
    have hmv : ∀ j, j ≠ g2 → W8.heap[j]? = W9.heap[j]? := fun j hj => by rw [← hW8]; exact (Below.heap_setCell _ _ _ j hj).trans ((Below.heap_setCell _ _ _ j hj).trans (Below.heap_setCell _ _ _ j hj))
    have hge : w0.heap.size ≤ g2 := by have := GE1.out; have := HS.out.bel.size; omega
    have hsz : W9.heap.size ≤ W8.heap.size := by rw [← hW8]; exact (Below.setCell (p := ⟨g2, 2, none⟩) (Below.setCell (p := ⟨g2, 1, none⟩) (Below.setCell (p := ⟨g2, 0, none⟩) (Below.refl 0 W9) (Nat.zero_le _) _) (Nat.zero_le _) _) (Nat.zero_le _) _).size
    have BG8 : W8.heap[g2]? = some (.cells #[Value.string y1, .int .u64 y2, .int .i64 y3] 42 (0, 0)) := by rw [← hW8]; exact blk_put (cs := #[Value.string y1, .int .u64 y2, .int .i64 0]) (blk_put (cs := #[Value.string y1, .int .u64 0, .int .i64 0]) (blk_put (cs := #[Value.string (⟨#[]⟩ : ByteArray), .int .u64 0, .int .i64 0]) (BG8_.out) 0 _ rfl) 1 _ rfl) 2 _ rfl
    have HB8 : Below w0.heap.size w0 W8 := by rw [← hW8]; exact below_set (below_set (below_set (HB8_.out) hge) hge) hge
    have z0 : W8.cell? ⟨g2, 0, none⟩ = some (Value.string y1) := (blk_cell BG8 0).trans rfl
    have z1 : W8.cell? ⟨g2, 1, none⟩ = some (.int .u64 y2) := (blk_cell BG8 1).trans rfl
    have z2 : W8.cell? ⟨g2, 2, none⟩ = some (.int .i64 y3) := (blk_cell BG8 2).trans rfl
    refine bodyPost_ret (v := .agg #[Value.string y1, .int .u64 y2, .int .i64 y3]) ?_ rfl ⟨rfl, ⟨⟨A2, _, (hmv gr (by have := GL1.out; omega)).trans BR8.out, HR2.out _ HR0.out, HC2.out⟩, HS.out.ge, HB8⟩, ⟨Nat.le_trans ST8.out.1 hsz, fun j hj hj2 => (hmv j (by have := GE1.out; omega)).trans (ST8.out.2 j hj hj2)⟩⟩
    simp [results, Try.results34, go_sem, z0, z1, z2]
end Go.Proofs.Ythkkbgehmiobaaa.E
namespace Go.Proofs.Ythkkbgehmiobaaa.E
open Go.RowKit Go.Proofs.YthkkbgehmiobaaaW.PrintWords Go.Proofs.YthkkbgehmiobaaaW.PrintLast Go.Proofs.YthkkbgehmiobaaaW.PrintMore Go.Proofs.Ythkkbgehmiobaaa.P
set_option linter.unusedVariables false
set_option linter.unusedSimpArgs false
/-! ### what stands while the document's Decode runs -/
structure RSt (w : World) (gx ge gr : Nat) (l0 l1 l2 : Int) (v3 : Value) (ds : List S40) (v4 : Value) (fs : List S44) (D : List Int) (bad : Bool) (wx : World) : Prop where
  bx : wx.heap[gx]? = some (.cells #[.int .u64 l0, .int .u64 l1, .int .u64 l2, v3, v4] 27 (0, 0))
  be : wx.heap[ge]? = some (.cells #[Value.int .u64 0, .int .u64 0, .int .u64 0, .slice none 0 0, .slice none 0 0] 27 (0, 0))
  rd : RRd w gr D bad wx
  gex : w.heap.size ≤ gx
  gee : w.heap.size ≤ ge
  nxe : gx ≠ ge
  nxr : gx ≠ gr
  ner : ge ≠ gr
  r3 : Kd.R k40 40 wx w.heap.size (fun k => k ≠ gx ∧ k ≠ ge ∧ k ≠ gr ∧ some k ≠ v4.ownBlock) v3 ds
  r4 : Kd.R k44 44 wx w.heap.size (fun k => k ≠ gx ∧ k ≠ ge ∧ k ≠ gr ∧ some k ≠ v3.ownBlock) v4 fs
section
variable {w wx wy : World} {gx ge gr : Nat} {l0 l1 l2 : Int} {v3 v4 : Value} {ds : List S40} {fs : List S44} {D D' : List Int} {bad bad' : Bool}
theorem RSt.num (h : RSt w gx ge gr l0 l1 l2 v3 ds v4 fs D bad wx) (hrd : RRd w gr D' bad' wy) (hst : Stays gr wx wy) : RSt w gx ge gr l0 l1 l2 v3 ds v4 fs D' bad' wy :=
  ⟨hst.blk h.bx h.nxr, hst.blk h.be h.ner, hrd, h.gex, h.gee, h.nxe, h.nxr, h.ner, Kd.R_mono (Kd.R_move (Kd.R_bound h.r3) (fun k hk => hst.2 k hk.2.2.1 hk.1.2.2.1)) (fun k hk => hk.1), Kd.R_mono (Kd.R_move (Kd.R_bound h.r4) (fun k hk => hst.2 k hk.2.2.1 hk.1.2.2.1)) (fun k hk => hk.1)⟩
theorem RSt.put0 (h : RSt w gx ge gr l0 l1 l2 v3 ds v4 fs D bad wx) (n : Int) : RSt w gx ge gr n l1 l2 v3 ds v4 fs D bad (wx.setCell ⟨gx, 0, none⟩ (.int .u64 n)) :=
  ⟨blk_put (cs := #[.int .u64 l0, .int .u64 l1, .int .u64 l2, v3, v4]) h.bx 0 _ rfl, (Below.heap_setCell _ _ _ ge (Ne.symm h.nxe)).trans h.be, h.rd.other (Ne.symm h.nxr) h.gex _, h.gex, h.gee, h.nxe, h.nxr, h.ner, Kd.R_move h.r3 (fun k hk => Below.heap_setCell _ _ _ k hk.1), Kd.R_move h.r4 (fun k hk => Below.heap_setCell _ _ _ k hk.1)⟩
theorem RSt.put1 (h : RSt w gx ge gr l0 l1 l2 v3 ds v4 fs D bad wx) (n : Int) : RSt w gx ge gr l0 n l2 v3 ds v4 fs D bad (wx.setCell ⟨gx, 1, none⟩ (.int .u64 n)) :=
  ⟨blk_put (cs := #[.int .u64 l0, .int .u64 l1, .int .u64 l2, v3, v4]) h.bx 1 _ rfl, (Below.heap_setCell _ _ _ ge (Ne.symm h.nxe)).trans h.be, h.rd.other (Ne.symm h.nxr) h.gex _, h.gex, h.gee, h.nxe, h.nxr, h.ner, Kd.R_move h.r3 (fun k hk => Below.heap_setCell _ _ _ k hk.1), Kd.R_move h.r4 (fun k hk => Below.heap_setCell _ _ _ k hk.1)⟩
theorem RSt.put2 (h : RSt w gx ge gr l0 l1 l2 v3 ds v4 fs D bad wx) (n : Int) : RSt w gx ge gr l0 l1 n v3 ds v4 fs D bad (wx.setCell ⟨gx, 2, none⟩ (.int .u64 n)) :=
  ⟨blk_put (cs := #[.int .u64 l0, .int .u64 l1, .int .u64 l2, v3, v4]) h.bx 2 _ rfl, (Below.heap_setCell _ _ _ ge (Ne.symm h.nxe)).trans h.be, h.rd.other (Ne.symm h.nxr) h.gex _, h.gex, h.gee, h.nxe, h.nxr, h.ner, Kd.R_move h.r3 (fun k hk => Below.heap_setCell _ _ _ k hk.1), Kd.R_move h.r4 (fun k hk => Below.heap_setCell _ _ _ k hk.1)⟩
/-- a file that is taken away is put behind the others -/
theorem RSt.gone {v3' : Value} {ds' : List S40} (h : RSt w gx ge gr l0 l1 l2 v3 ds v4 fs D bad wx) (hg : wx.grownBy wy v3.ownBlock) (hb : Below w.heap.size w wy) (hr : Kd.R k40 40 wy w.heap.size (fun k => k ≠ gx ∧ k ≠ ge ∧ k ≠ gr ∧ some k ≠ v4.ownBlock) v3' ds') (hat : v3'.ownBlock = v3.ownBlock ∨ ∃ b, v3'.ownBlock = some b ∧ wx.heap.size ≤ b) :
    RSt w gx ge gr l0 l1 l2 v3' ds' v4 fs D bad (wy.setCell ⟨gx, 3, none⟩ v3') := by
  have hown : ∀ k, v3.ownBlock = some k → k ≠ gx ∧ k ≠ ge ∧ k ≠ gr ∧ some k ≠ v4.ownBlock := h.r3.1
  obtain ⟨A, c, h1, h2, h3⟩ := h.rd.blk
  have hkeep : ∀ k, k < wx.heap.size → (∀ j, v3.ownBlock = some j → k ≠ j) → wy.heap[k]? = wx.heap[k]? := fun k hk hne => hg.block k hk (fun e => hne k e.symm rfl)
  have hx : wy.heap[gx]? = _ := (hkeep gx (blk_lt h.bx) (fun j hj e => (hown j hj).1 e.symm)).trans h.bx
  have hE : wy.heap[ge]? = _ := (hkeep ge (blk_lt h.be) (fun j hj e => (hown j hj).2.1 e.symm)).trans h.be
  have hR : wy.heap[gr]? = _ := (hkeep gr (blk_lt h1) (fun j hj e => (hown j hj).2.2.1 e.symm)).trans h1
  have hr4 := Kd.R_bound h.r4
  refine ⟨blk_put (cs := #[.int .u64 l0, .int .u64 l1, .int .u64 l2, v3, v4]) hx 3 _ rfl, (Below.heap_setCell _ _ _ ge (Ne.symm h.nxe)).trans hE, ?_, h.gex, h.gee, h.nxe, h.nxr, h.ner, Kd.R_move hr (fun k hk => Below.heap_setCell _ _ _ k hk.1), ?_⟩
  · exact RRd.other ⟨⟨A, c, hR, h2, h3⟩, h.rd.ge, hb⟩ (Ne.symm h.nxr) h.gex _
  · refine Kd.R_mono (Kd.R_move hr4 (fun k hk => (Below.heap_setCell _ _ _ k hk.1.1).trans (hkeep k hk.2.2.1 (fun j hj e => hk.1.2.2.2 (by rw [hj, e]))))) (fun k hk => ⟨hk.1.1, hk.1.2.1, hk.1.2.2.1, ?_⟩)
    rcases hat with hat | ⟨b, hb2, hle⟩
    · rw [hat]; exact hk.1.2.2.2
    · rw [hb2]; intro e; injection e with e; have := hk.2.2.1; omega
/-- a file that is added is put behind the others -/
theorem RSt.file {v4' : Value} {fs' : List S44} (h : RSt w gx ge gr l0 l1 l2 v3 ds v4 fs D bad wx) (hg : wx.grownBy wy v4.ownBlock) (hb : Below w.heap.size w wy) (hr : Kd.R k44 44 wy w.heap.size (fun k => k ≠ gx ∧ k ≠ ge ∧ k ≠ gr ∧ some k ≠ v3.ownBlock) v4' fs') (hat : v4'.ownBlock = v4.ownBlock ∨ ∃ b, v4'.ownBlock = some b ∧ wx.heap.size ≤ b) :
    RSt w gx ge gr l0 l1 l2 v3 ds v4' fs' D bad (wy.setCell ⟨gx, 4, none⟩ v4') := by
  have hown : ∀ k, v4.ownBlock = some k → k ≠ gx ∧ k ≠ ge ∧ k ≠ gr ∧ some k ≠ v3.ownBlock := h.r4.1
  obtain ⟨A, c, h1, h2, h3⟩ := h.rd.blk
  have hkeep : ∀ k, k < wx.heap.size → (∀ j, v4.ownBlock = some j → k ≠ j) → wy.heap[k]? = wx.heap[k]? := fun k hk hne => hg.block k hk (fun e => hne k e.symm rfl)
  have hx : wy.heap[gx]? = _ := (hkeep gx (blk_lt h.bx) (fun j hj e => (hown j hj).1 e.symm)).trans h.bx
  have hE : wy.heap[ge]? = _ := (hkeep ge (blk_lt h.be) (fun j hj e => (hown j hj).2.1 e.symm)).trans h.be
  have hR : wy.heap[gr]? = _ := (hkeep gr (blk_lt h1) (fun j hj e => (hown j hj).2.2.1 e.symm)).trans h1
  have hr3 := Kd.R_bound h.r3
  refine ⟨blk_put (cs := #[.int .u64 l0, .int .u64 l1, .int .u64 l2, v3, v4]) hx 4 _ rfl, (Below.heap_setCell _ _ _ ge (Ne.symm h.nxe)).trans hE, ?_, h.gex, h.gee, h.nxe, h.nxr, h.ner, ?_, Kd.R_move hr (fun k hk => Below.heap_setCell _ _ _ k hk.1)⟩
  · exact RRd.other ⟨⟨A, c, hR, h2, h3⟩, h.rd.ge, hb⟩ (Ne.symm h.nxr) h.gex _
  · refine Kd.R_mono (Kd.R_move hr3 (fun k hk => (Below.heap_setCell _ _ _ k hk.1.1).trans (hkeep k hk.2.2.1 (fun j hj e => hk.1.2.2.2 (by rw [hj, e]))))) (fun k hk => ⟨hk.1.1, hk.1.2.1, hk.1.2.2.1, ?_⟩)
    rcases hat with hat | ⟨b, hb2, hle⟩
    · rw [hat]; exact hk.1.2.2.2
    · rw [hb2]; intro e; injection e with e; have := hk.2.2.1; omega
/-- new rows' blocks are far from all that stands -/
theorem RSt.new3 (h : RSt w gx ge gr l0 l1 l2 v3 ds v4 fs D bad wx) (k : Nat) (hk : wx.heap.size ≤ k) : k ≠ gx ∧ k ≠ ge ∧ k ≠ gr ∧ some k ≠ v4.ownBlock := by
  obtain ⟨A, c, h1, h2, h3⟩ := h.rd.blk
  refine ⟨by have := blk_lt h.bx; omega, by have := blk_lt h.be; omega, by have := blk_lt h1; omega, fun e => ?_⟩
  have := ((Kd.R_bound h.r4).1 k e.symm).2.2.1
  omega
theorem RSt.new4 (h : RSt w gx ge gr l0 l1 l2 v3 ds v4 fs D bad wx) (k : Nat) (hk : wx.heap.size ≤ k) : k ≠ gx ∧ k ≠ ge ∧ k ≠ gr ∧ some k ≠ v3.ownBlock := by
  obtain ⟨A, c, h1, h2, h3⟩ := h.rd.blk
  refine ⟨by have := blk_lt h.bx; omega, by have := blk_lt h.be; omega, by have := blk_lt h1; omega, fun e => ?_⟩
  have := ((Kd.R_bound h.r3).1 k e.symm).2.2.1
  omega
end

def badz (z : Int) (b : Bool) : Bool := if 2147483648 < z then true else b
def rdels_g {α : Type} (k : Nat) (n : Int) : Nat → Nat → List Int → Bool → List S40 → (List Int → Bool → List S40 → Option α) → Option α
  | 0, _, _, _, _, _ => none
  | g + 1, i, D, bad, acc, f => if (i : Int) < n ∧ bad = false ∧ i ≤ 20000 then (rlev_g k D bad).bind fun l => (rnum_g k l.2.1 l.2.2).bind fun v => rdels_g k n g (i + 1) v.2.1 v.2.2 (acc ++ [⟨l.1, v.1⟩]) f else f D bad acc
def rfiles_g {α : Type} (k : Nat) (n : Int) : Nat → Nat → List Int → Bool → List S44 → (List Int → Bool → List S44 → Option α) → Option α
  | 0, _, _, _, _, _ => none
  | g + 1, i, D, bad, acc, f => if (i : Int) < n ∧ bad = false ∧ i ≤ 100 then (rlev_g k D bad).bind fun l => (rnum_g k l.2.1 l.2.2).bind fun v => (rnum_g k v.2.1 v.2.2).bind fun z => (rkey_g k z.2.1 (badz z.1 z.2.2)).bind fun s => (rkey_g k s.2.1 s.2.2).bind fun t => rfiles_g k n g (i + 1) t.2.1 t.2.2 (acc ++ [⟨l.1, v.1, wrap64 z.1, s.1, t.1⟩]) f else f D bad acc
def rfin_g (k : Nat) (b : List Int) (x : Ed) (bad : Bool) : Option (Option Ed) := if bad = true then some none else (staddleref13_Encode.f k x.l0 x.l1 x.l2 x.ds x.fs).bind fun y => if y.2 = 0 then if (strOfNums y.1).toList = (strOfNums b).toList then some (some x) else some none else some none
def rdec_g (k : Nat) (b : List Int) : Option (Option Ed) := (rnum_g k b false).bind fun a0 => (rnum_g k a0.2.1 a0.2.2).bind fun a1 => (rnum_g k a1.2.1 a1.2.2).bind fun a2 => (rnum_g k a2.2.1 a2.2.2).bind fun n => rdels_g k n.1 20003 0 n.2.1 n.2.2 [] fun D bad ds => (rnum_g k D bad).bind fun m => rfiles_g k m.1 103 0 m.2.1 m.2.2 [] fun _ bad fs => rfin_g k b ⟨a0.1, a1.1, a2.1, ds, fs⟩ bad
theorem rout_of {w wz : World} {g2 : Nat} {r : Option Ed} {v3 v4 : Value} {tmps : Array Value} (h2 : tmps.getD 2 undef = .pointer (some ⟨g2, 0, none⟩)) (h3 : tmps.getD 3 undef = .int .i64 (evOf r)) (hx : wz.heap[g2]? = some (.cells #[.int .u64 (edOf r).l0, .int .u64 (edOf r).l1, .int .u64 (edOf r).l2, v3, v4] 27 (0, 0))) (hb : Below w.heap.size w wz)
    (hr3 : Kd.R k40 40 wz w.heap.size (fun _ => True) v3 (edOf r).ds) (hr4 : Kd.R k44 44 wz w.heap.size (fun k => some k ≠ v3.ownBlock) v4 (edOf r).fs) :
    ∃ v, (results Try.f15 tmps).run Try.prog wz = .ok v wz ∧ DecEnd w r (.returned v) wz := by
  have z0 : wz.cell? ⟨g2, 0, none⟩ = some (.int .u64 (edOf r).l0) := (blk_cell hx 0).trans rfl
  have z1 : wz.cell? ⟨g2, 1, none⟩ = some (.int .u64 (edOf r).l1) := (blk_cell hx 1).trans rfl
  have z2 : wz.cell? ⟨g2, 2, none⟩ = some (.int .u64 (edOf r).l2) := (blk_cell hx 2).trans rfl
  have z3 : wz.cell? ⟨g2, 3, none⟩ = some v3 := (blk_cell hx 3).trans rfl
  have z4 : wz.cell? ⟨g2, 4, none⟩ = some v4 := (blk_cell hx 4).trans rfl
  have h2' : tmps[2]?.getD undef = .pointer (some ⟨g2, 0, none⟩) := by simpa using h2
  have h3' : tmps[3]?.getD undef = .int .i64 (evOf r) := by simpa using h3
  refine ⟨_, ?_, hb, v3, v4, rfl, hr3, hr4⟩
  simp [results, Try.results15, go_sem, h2', h3', z0, z1, z2, z3, z4]
set_option maxHeartbeats 16000000 in
set_option maxRecDepth 100000 in
theorem rdec_calls (k : Nat) (A0 : Option Addr) (c0 : Nat) (b : List Int) (R : Option Ed) (w : World) (hr0 : Kd.C (Kd.int .u8) w A0 b.length b) (hc0 : b.length ≤ c0) (hf : rdec_g k b = some R) :
    Calls Try.prog 15 #[.slice A0 b.length c0] w fun e w' => DecEnd w R e w' := by
  unfold rdec_g at hf
  have HR0 := Aside0.mk hr0
  have HC0 := Aside0.mk hc0
  have HH := Aside0.mk hf
  have HB := Aside0.mk (Below.refl w.heap.size w)
  clear hr0 hc0 hf
  go_enter Try.func15, Try.ntmps15
  go_upto_region 3 with (first
    | ((with_reducible refine gate_dst (N := 2) rfl ?_); refine box_event ?hg (N := 2) ?hd (cs := #[Value.int .u64 0, .int .u64 0, .int .u64 0, .slice none 0 0, .slice none 0 0]) (t := 27) ?hr ?_; (case hd => rfl); (case hg => rfl); (case hr => first | (go_simp; done) | (go_simp; rfl)); intro ge hg w1 hbox hb
       have BE1 := Aside0.mk hbox
       have GE : Aside0 (w.heap.size ≤ ge) := ⟨by rw [hg]; exact Nat.le_refl _⟩
       have HB1 := Aside0.mk (below_step HB.out hb)
       clear hg hbox hb)
    | ((with_reducible refine gate_dst (N := 17) rfl ?_); refine box_event ?hg (N := 17) ?hd (cs := #[Value.slice A0 b.length c0, .bool false]) (t := 65) ?hr ?_; (case hd => rfl); (case hg => rfl); (case hr => first | (go_simp; done) | (go_simp; rfl)); intro gr hg w2 hbox hb
       have BR2 := Aside0.mk hbox
       have GR : Aside0 (ge < gr) := ⟨by rw [hg]; exact blk_lt BE1.out⟩
       have BE2 := Aside0.mk (blk_below BE1.out hb)
       have HB2 := Aside0.mk (below_step HB1.out hb)
       clear hg hbox hb)
    | ((with_reducible refine gate_dst (N := 5) rfl ?_); refine box_event ?hg (N := 5) ?hd (cs := #[Value.int .u64 0, .int .u64 0, .int .u64 0, .slice none 0 0, .slice none 0 0]) (t := 27) ?hr ?_; (case hd => rfl); (case hg => rfl); (case hr => first | (go_simp; done) | (go_simp; rfl)); intro gx hg w3 hbox hb
       have BX3 := Aside0.mk hbox
       have GX : Aside0 (gr < gx) := ⟨by rw [hg]; exact blk_lt BR2.out⟩
       have BR3 := Aside0.mk (blk_below BR2.out hb)
       have BE3 := Aside0.mk (blk_below BE2.out hb)
       have HB3 := Aside0.mk (below_step HB2.out hb)
       clear hg hbox hb))
  have DS3 : Aside0 (RSt w gx ge gr 0 0 0 (.slice none 0 0) [] (.slice none 0 0) [] b false w3) := ⟨⟨BX3.out, BE3.out, ⟨⟨A0, c0, BR3.out, HR0.out, HC0.out⟩, by have := GE.out; have := GR.out; omega, HB3.out⟩, by have := GX.out; have := GE.out; have := GR.out; omega, GE.out, by have := GX.out; have := GR.out; omega, by have := GX.out; omega, by have := GR.out; omega, Kd.R_nil _ _ _ _ _, Kd.R_nil _ _ _ _ _⟩⟩
  clear BX3 BE1 BE2 BE3 BR2 BR3 HB HB1 HB2 HB3
  obtain ⟨⟨x0, D1, b1⟩, hq_, H_⟩ := Option.bind_eq_some_iff.mp HH.out
  try dsimp only at H_
  have HQ_ := Aside0.mk hq_
  clear HH hq_
  have HH := Aside0.mk H_
  clear H_
  go_upto_region 4 with (first
    | (go_at_call 32; (with_reducible refine (rnum_calls k gr b false (x0, D1, b1) w _ DS3.out.rd HQ_.out).mono ?_); (rintro e W1 ⟨rfl, hrd, hst⟩)
       have DN0 := Aside0.mk (DS3.out.num hrd hst)
       have xc0 : W1.cell? ⟨gx, 0, none⟩ = some (.int .u64 0) := (blk_cell DN0.out.bx 0).trans rfl
       have xf0 := blk_frozen DN0.out.bx 0
       clear hrd hst))
  have DP0 := Aside0.mk (DN0.out.put0 x0)
  generalize W1.setCell ⟨gx, 0, none⟩ (.int .u64 x0) = V0 at DP0 ⊢
  clear xc0 xf0 DN0 HQ_ DS3
  obtain ⟨⟨x1, D2, b2⟩, hq_, H_⟩ := Option.bind_eq_some_iff.mp HH.out
  try dsimp only at H_
  have HQ_ := Aside0.mk hq_
  clear HH hq_
  have HH := Aside0.mk H_
  clear H_
  go_upto_region 5 with (first
    | (go_at_call 32; (with_reducible refine (rnum_calls k gr D1 b1 (x1, D2, b2) w _ DP0.out.rd HQ_.out).mono ?_); (rintro e W2 ⟨rfl, hrd, hst⟩)
       have DN1 := Aside0.mk (DP0.out.num hrd hst)
       have xc1 : W2.cell? ⟨gx, 1, none⟩ = some (.int .u64 0) := (blk_cell DN1.out.bx 1).trans rfl
       have xf1 := blk_frozen DN1.out.bx 1
       clear hrd hst))
  have DP1 := Aside0.mk (DN1.out.put1 x1)
  generalize W2.setCell ⟨gx, 1, none⟩ (.int .u64 x1) = V1 at DP1 ⊢
  clear xc1 xf1 DN1 HQ_ DP0
  obtain ⟨⟨x2, D3, b3⟩, hq_, H_⟩ := Option.bind_eq_some_iff.mp HH.out
  try dsimp only at H_
  have HQ_ := Aside0.mk hq_
  clear HH hq_
  have HH := Aside0.mk H_
  clear H_
  go_upto_region 6 with (first
    | (go_at_call 32; (with_reducible refine (rnum_calls k gr D2 b2 (x2, D3, b3) w _ DP1.out.rd HQ_.out).mono ?_); (rintro e W3 ⟨rfl, hrd, hst⟩)
       have DN2 := Aside0.mk (DP1.out.num hrd hst)
       have xc2 : W3.cell? ⟨gx, 2, none⟩ = some (.int .u64 0) := (blk_cell DN2.out.bx 2).trans rfl
       have xf2 := blk_frozen DN2.out.bx 2
       clear hrd hst))
  have DP2 := Aside0.mk (DN2.out.put2 x2)
  generalize W3.setCell ⟨gx, 2, none⟩ (.int .u64 x2) = V2 at DP2 ⊢
  clear xc2 xf2 DN2 HQ_ DP1
  obtain ⟨⟨nc, D4, b4⟩, hq_, H_⟩ := Option.bind_eq_some_iff.mp HH.out
  try dsimp only at H_
  have HQ_ := Aside0.mk hq_
  clear HH hq_
  have HH := Aside0.mk H_
  clear H_
  go_upto_region 8 with (first
    | (go_at_call 32; (with_reducible refine (rnum_calls k gr D3 b3 (nc, D4, b4) w _ DP2.out.rd HQ_.out).mono ?_); (rintro e W4 ⟨rfl, hrd, hst⟩)
       have DS4 := Aside0.mk (DP2.out.num hrd hst)
       clear hrd hst))
  clear HQ_ DP2
  go_loopg [7] 20003 (fun gf v7 wx => ∃ (i : Nat) (D : List Int) (bad : Bool) (acc : List S40) (v3 : Value), v7 = .int .u64 (i : Int) ∧ Aside0 (gf + i = 20003 ∧ i ≤ 20001 ∧ acc.length = i) ∧ Aside0 (rdels_g k nc gf i D bad acc (fun D bad ds => (rnum_g k D bad).bind fun m => rfiles_g k m.1 103 0 m.2.1 m.2.2 [] fun _ bad fs => rfin_g k b ⟨x0, x1, x2, ds, fs⟩ bad) = some R) ∧ Aside0 (RSt w gx ge gr x0 x1 x2 v3 acc (.slice none 0 0) [] D bad wx))
  case atStart => exact ⟨0, D4, b4, [], .slice none 0 0, rfl, ⟨by omega, by omega, rfl⟩, HH, DS4⟩
  case round =>
    clear HH DS4
    obtain ⟨i, D, bad, acc, v3, rfl, HI, HH, DS⟩ := hrel
    cases gk with
    | zero => exact absurd HI.out.1 (by have := HI.out.2.1; omega)
    | succ g1_ =>
    have hH := HH.out
    simp only [rdels_g] at hH
    have HH := Aside0.mk hH
    clear hH
    have HW : Aside0 (IntKind.u64.wrap ((i : Int) + 1) = ((i + 1 : Nat) : Int)) := ⟨dec_w1 i (by have := HI.out.2.1; omega)⟩
    obtain ⟨q, hq⟩ : ∃ q : Bool, decide ((i : Int) < nc ∧ bad = false ∧ i ≤ 20000) = q := ⟨_, rfl⟩
    have HQQ := Aside0.mk hq
    clear hq
    obtain ⟨A_, c_, hblk_, _⟩ := DS.out.rd.blk
    have rc1 : wr.cell? ⟨gr, 1, none⟩ = some (.bool bad) := (blk_cell hblk_ 1).trans rfl
    clear hblk_
    go_upto_region 8 with fail
    go_cut [42] from 29 to 42 (fun v_ wc => v_ = .bool q ∧ wr = wc)
    case first =>
      by_cases h1 : (i : Int) < nc
      · have d1 : decide ((i : Int) < nc) = true := decide_eq_true h1
        cases hbad : bad with
        | true =>
          subst hbad
          obtain rfl : q = false := by rw [← HQQ.out]; simp
          clear h1
          go_wp2
          go_meet
          case rel => exact ⟨by first | rfl | simp, rfl⟩
        | false =>
          subst hbad
          by_cases h2 : i ≤ 20000
          · have d2 : decide ((i : Int) ≤ 20000) = true := decide_eq_true (by omega)
            have d3 : decide (i ≤ 20000) = true := decide_eq_true h2
            obtain rfl : q = true := by rw [← HQQ.out]; exact decide_eq_true ⟨h1, rfl, h2⟩
            clear h1 h2
            go_wp2
            go_meet
            case rel => exact ⟨by first | rfl | simp, rfl⟩
          · have d2 : decide ((i : Int) ≤ 20000) = false := decide_eq_false (by omega)
            have d3 : decide (i ≤ 20000) = false := decide_eq_false h2
            obtain rfl : q = false := by rw [← HQQ.out]; exact decide_eq_false (fun h => h2 h.2.2)
            clear h1 h2
            go_wp2
            go_meet
            case rel => exact ⟨by first | rfl | simp, rfl⟩
      · have d1 : decide ((i : Int) < nc) = false := decide_eq_false h1
        obtain rfl : q = false := by rw [← HQQ.out]; exact decide_eq_false (fun h => h1 h.1)
        clear h1
        go_wp2
        go_meet
        case rel => exact ⟨by first | rfl | simp, rfl⟩
    case rest =>
      clear rc1
      obtain ⟨rfl, rfl⟩ := hcut
      cases q with
      | true =>
        have hc := of_decide_eq_true HQQ.out
        have HIL := Aside0.mk hc.2.2
        have hH := HH.out
        rw [if_pos hc] at hH
        have HH := Aside0.mk hH
        clear hH hc HQQ
        obtain ⟨⟨lv, D5, b5⟩, hq_, H_⟩ := Option.bind_eq_some_iff.mp HH.out
        try dsimp only at H_
        have HQ_ := Aside0.mk hq_
        clear HH hq_
        have HH := Aside0.mk H_
        clear H_
        go_upto_region 11 with (first
          | (go_at_call 33; (with_reducible refine (rlev_calls k gr D bad (lv, D5, b5) w _ DS.out.rd HQ_.out).mono ?_); (rintro e W5 ⟨rfl, hrd, hst⟩)
             have DS5 := Aside0.mk (DS.out.num hrd hst)
             clear hrd hst))
        clear HQ_
        obtain ⟨⟨nu, D6, b6⟩, hq_, H_⟩ := Option.bind_eq_some_iff.mp HH.out
        try dsimp only at H_
        have HQ_ := Aside0.mk hq_
        clear HH hq_
        have HH := Aside0.mk H_
        clear H_
        go_upto_region 12 with (first
          | (go_at_call 32; (with_reducible refine (rnum_calls k gr D5 b5 (nu, D6, b6) w _ DS5.out.rd HQ_.out).mono ?_); (rintro e W6 ⟨rfl, hrd, hst⟩)
             have DS9 := Aside0.mk (DS5.out.num hrd hst)
             clear hrd hst))
        clear HQ_ DS DS5
        have xc3 : W6.cell? ⟨gx, 3, none⟩ = some v3 := (blk_cell DS9.out.bx 3).trans rfl
        obtain ⟨A3, c3, e3⟩ := Kd.R_slice DS9.out.r3
        subst e3
        go_upto_region 9 with (first
          | ((with_reducible refine gate_builtin (b := .append) (xs := #[.tmp 50, .tmp 54]) rfl ?_); at_builtin; refine Kd.R_append k40 (w0 := w) w.heap.size rfl (.tmp 50) (.tmp 54) 24 40 (.agg #[(.int .i64 0), (.int .u64 0)]) 16 rfl Try.underlying24 infoG rfl (by decide) (by decide) (.slice A3 acc.length c3) acc (⟨lv, nu⟩ : S40) [.int .i64 lv, .int .u64 nu] (fun k => k ≠ gx ∧ k ≠ ge ∧ k ≠ gr ∧ some k ≠ (Value.slice none 0 0).ownBlock) (fun _ => False) rfl rfl ?aP (fun _ hk => hk.elim) ?aF ?aO ?aB ?aS ?aL ?_
             (case aP => exact k40_mkM _ _ _ (⟨lv, nu⟩ : S40))
             (case aB => exact DS9.out.rd.bel)
             (case aF => exact DS9.out.new3)
             (case aO => exact DS9.out.r3)
             (case aS => exact below_size DS9.out.rd.bel)
             (case aL => have := HI.out.2; omega)
             intro v3' W10 ho hb hg hat
             obtain ⟨A3', n3', c3', e3'⟩ := slice3 ho
             subst e3'
             have DS10 := Aside0.mk (DS9.out.gone hg hb ho hat)
             have xd3 : W10.cell? ⟨gx, 3, none⟩ = some (.slice A3 acc.length c3) := (blk_cell (blk_grown DS9.out.bx hg (fun e => (DS9.out.r3.1 gx e.symm).1 rfl)) 3).trans rfl
             have xe3 := blk_frozen (blk_grown DS9.out.bx hg (fun e => (DS9.out.r3.1 gx e.symm).1 rfl)) 3
             clear ho hb hg hat))
        clear xc3 xd3 xe3
        go_wp2
        go_roundg g1_
        case measure => omega
        case rel => exact ⟨i + 1, D6, b6, acc ++ [⟨lv, nu⟩], _, by rw [HW.out], ⟨by have := HI.out.1; omega, by have := HIL.out; omega, by rw [List.length_append, HI.out.2.2]; rfl⟩, HH, DS10⟩
      | false =>
        have hc := of_decide_eq_false HQQ.out
        have hH := HH.out
        rw [if_neg hc] at hH
        have HH := Aside0.mk hH
        clear hH hc HQQ HW
        obtain ⟨⟨nc2, D7, b7⟩, hq_, H_⟩ := Option.bind_eq_some_iff.mp HH.out
        try dsimp only at H_
        have HQ_ := Aside0.mk hq_
        clear HH hq_
        have HH := Aside0.mk H_
        clear H_
        go_upto_region 15 with (first
          | (go_at_call 32; (with_reducible refine (rnum_calls k gr D bad (nc2, D7, b7) w _ DS.out.rd HQ_.out).mono ?_); (rintro e W11 ⟨rfl, hrd, hst⟩)
             have DS11 := Aside0.mk (DS.out.num hrd hst)
             clear hrd hst))
        clear HQ_ DS HI
        go_loopg [10] 103 (fun gf v10 wx => ∃ (i : Nat) (D : List Int) (bad : Bool) (fs : List S44) (v4 : Value), v10 = .int .u64 (i : Int) ∧ Aside0 (gf + i = 103 ∧ i ≤ 101 ∧ fs.length = i) ∧ Aside0 (rfiles_g k nc2 gf i D bad fs (fun _ bad fs => rfin_g k b ⟨x0, x1, x2, acc, fs⟩ bad) = some R) ∧ Aside0 (RSt w gx ge gr x0 x1 x2 v3 acc v4 fs D bad wx))
        case atStart => exact ⟨0, D7, b7, [], .slice none 0 0, rfl, ⟨by omega, by omega, rfl⟩, HH, DS11⟩
        case round =>
          clear HH DS11
          obtain ⟨i, D, bad, fs, v4, rfl, HI, HH, DS⟩ := hrel
          cases gk with
          | zero => exact absurd HI.out.1 (by have := HI.out.2.1; omega)
          | succ g2_ =>
          have hH := HH.out
          simp only [rfiles_g] at hH
          have HH := Aside0.mk hH
          clear hH
          have HW : Aside0 (IntKind.u64.wrap ((i : Int) + 1) = ((i + 1 : Nat) : Int)) := ⟨dec_w1 i (by have := HI.out.2.1; omega)⟩
          obtain ⟨q, hq⟩ : ∃ q : Bool, decide ((i : Int) < nc2 ∧ bad = false ∧ i ≤ 100) = q := ⟨_, rfl⟩
          have HQQ := Aside0.mk hq
          clear hq
          obtain ⟨A_, c_, hblk_, _⟩ := DS.out.rd.blk
          have rc1 : wr.cell? ⟨gr, 1, none⟩ = some (.bool bad) := (blk_cell hblk_ 1).trans rfl
          clear hblk_
          go_upto_region 15 with fail
          go_cut [72] from 59 to 72 (fun v_ wc => v_ = .bool q ∧ wr = wc)
          case first =>
            by_cases h1 : (i : Int) < nc2
            · have d1 : decide ((i : Int) < nc2) = true := decide_eq_true h1
              cases hbad : bad with
              | true =>
                subst hbad
                obtain rfl : q = false := by rw [← HQQ.out]; simp
                clear h1
                go_wp2
                go_meet
                case rel => exact ⟨by first | rfl | simp, rfl⟩
              | false =>
                subst hbad
                by_cases h2 : i ≤ 100
                · have d2 : decide ((i : Int) ≤ 100) = true := decide_eq_true (by omega)
                  have d3 : decide (i ≤ 100) = true := decide_eq_true h2
                  obtain rfl : q = true := by rw [← HQQ.out]; exact decide_eq_true ⟨h1, rfl, h2⟩
                  clear h1 h2
                  go_wp2
                  go_meet
                  case rel => exact ⟨by first | rfl | simp, rfl⟩
                · have d2 : decide ((i : Int) ≤ 100) = false := decide_eq_false (by omega)
                  have d3 : decide (i ≤ 100) = false := decide_eq_false h2
                  obtain rfl : q = false := by rw [← HQQ.out]; exact decide_eq_false (fun h => h2 h.2.2)
                  clear h1 h2
                  go_wp2
                  go_meet
                  case rel => exact ⟨by first | rfl | simp, rfl⟩
            · have d1 : decide ((i : Int) < nc2) = false := decide_eq_false h1
              obtain rfl : q = false := by rw [← HQQ.out]; exact decide_eq_false (fun h => h1 h.1)
              clear h1
              go_wp2
              go_meet
              case rel => exact ⟨by first | rfl | simp, rfl⟩
          case rest =>
            clear rc1
            obtain ⟨rfl, rfl⟩ := hcut
            cases q with
            | true =>
              have hc := of_decide_eq_true HQQ.out
              have HIL := Aside0.mk hc.2.2
              have hH := HH.out
              rw [if_pos hc] at hH
              have HH := Aside0.mk hH
              clear hH hc HQQ
              go_upto_region 18 with (first
                | ((with_reducible refine gate_dst (N := 11) rfl ?_); refine box_event ?hg (N := 11) ?hd (cs := #[Value.int .i64 0, .int .u64 0, .int .i64 0, .string (⟨#[]⟩ : ByteArray), .int .u64 0, .int .i64 0, .string (⟨#[]⟩ : ByteArray), .int .u64 0, .int .i64 0]) (t := 44) ?hr ?_; (case hd => rfl); (case hg => rfl); (case hr => first | (go_simp; done) | (go_simp; rfl)); intro gd hg W6 hbox hb
                   have BD6 := Aside0.mk hbox
                   have GD : Aside0 (wr.heap.size ≤ gd) := ⟨by rw [hg]; exact Nat.le_refl _⟩
                   have RD6 := Aside0.mk (DS.out.rd.below hb)
                   have ST6 : Aside0 (Stays gr wr W6) := ⟨(Stays.refl gr wr).below hb⟩
                   clear hg hbox hb))
              have GD7 : Aside0 (wr.heap.size ≤ gd ∧ gd ≠ gr) := ⟨by obtain ⟨A_, c_, h_, _⟩ := DS.out.rd.blk; have := blk_lt h_; have := GD.out; exact ⟨by omega, by omega⟩⟩
              have GDW : Aside0 (w.heap.size ≤ gd) := ⟨by have := DS.out.rd.bel.size; have := GD7.out.1; omega⟩
              obtain ⟨⟨lv, D8, b8⟩, hq_, H_⟩ := Option.bind_eq_some_iff.mp HH.out
              try dsimp only at H_
              have HQ_ := Aside0.mk hq_
              clear HH hq_
              have HH := Aside0.mk H_
              clear H_
              go_upto_region 19 with (first
                | (go_at_call 33; (with_reducible refine (rlev_calls k gr D bad (lv, D8, b8) w _ RD6.out HQ_.out).mono ?_); (rintro e Wa ⟨rfl, hrd, hst⟩)
                   have RDa := Aside0.mk hrd
                   have STa := Aside0.mk (ST6.out.trans hst)
                   have BDa := Aside0.mk (hst.blk BD6.out GD7.out.2)
                   have yc0 : Wa.cell? ⟨gd, 0, none⟩ = some (Value.int .i64 0) := (blk_cell BDa.out 0).trans rfl
                   have yf0 := blk_frozen BDa.out 0
                   clear hrd hst))
              have BDo : Aside0 ((Wa.setCell ⟨gd, 0, none⟩ (.int .i64 lv)).heap[gd]? = some (.cells #[.int .i64 lv, .int .u64 0, .int .i64 0, .string (⟨#[]⟩ : ByteArray), .int .u64 0, .int .i64 0, .string (⟨#[]⟩ : ByteArray), .int .u64 0, .int .i64 0] 44 (0, 0))) := ⟨blk_put (cs := #[Value.int .i64 0, .int .u64 0, .int .i64 0, .string (⟨#[]⟩ : ByteArray), .int .u64 0, .int .i64 0, .string (⟨#[]⟩ : ByteArray), .int .u64 0, .int .i64 0]) (BDa.out) 0 (.int .i64 lv) rfl⟩
              have RDo := Aside0.mk ((RDa.out).other (j := 0) (Ne.symm GD7.out.2) GDW.out (.int .i64 lv))
              have STo := Aside0.mk ((STa.out).fresh (j := 0) GD7.out.1 (.int .i64 lv))
              generalize (Wa.setCell ⟨gd, 0, none⟩ (.int .i64 lv)) = Wo at BDo RDo STo ⊢
              clear BDa RDa STa HQ_ RD6 ST6 BD6 yc0 yf0
              obtain ⟨⟨nu, D9, b9⟩, hq_, H_⟩ := Option.bind_eq_some_iff.mp HH.out
              try dsimp only at H_
              have HQ_ := Aside0.mk hq_
              clear HH hq_
              have HH := Aside0.mk H_
              clear H_
              go_upto_region 20 with (first
                | (go_at_call 32; (with_reducible refine (rnum_calls k gr D8 b8 (nu, D9, b9) w _ RDo.out HQ_.out).mono ?_); (rintro e Wb ⟨rfl, hrd, hst⟩)
                   have RDa := Aside0.mk hrd
                   have STa := Aside0.mk (STo.out.trans hst)
                   have BDa := Aside0.mk (hst.blk BDo.out GD7.out.2)
                   have yc1 : Wb.cell? ⟨gd, 1, none⟩ = some (.int .u64 0) := (blk_cell BDa.out 1).trans rfl
                   have yf1 := blk_frozen BDa.out 1
                   clear hrd hst))
              have BDp : Aside0 ((Wb.setCell ⟨gd, 1, none⟩ (.int .u64 nu)).heap[gd]? = some (.cells #[.int .i64 lv, .int .u64 nu, .int .i64 0, .string (⟨#[]⟩ : ByteArray), .int .u64 0, .int .i64 0, .string (⟨#[]⟩ : ByteArray), .int .u64 0, .int .i64 0] 44 (0, 0))) := ⟨blk_put (cs := #[.int .i64 lv, .int .u64 0, .int .i64 0, .string (⟨#[]⟩ : ByteArray), .int .u64 0, .int .i64 0, .string (⟨#[]⟩ : ByteArray), .int .u64 0, .int .i64 0]) (BDa.out) 1 (.int .u64 nu) rfl⟩
              have RDp := Aside0.mk ((RDa.out).other (j := 1) (Ne.symm GD7.out.2) GDW.out (.int .u64 nu))
              have STp := Aside0.mk ((STa.out).fresh (j := 1) GD7.out.1 (.int .u64 nu))
              generalize (Wb.setCell ⟨gd, 1, none⟩ (.int .u64 nu)) = Wp at BDp RDp STp ⊢
              clear BDa RDa STa HQ_ RDo STo BDo yc1 yf1
              obtain ⟨⟨sz, D10, b10⟩, hq_, H_⟩ := Option.bind_eq_some_iff.mp HH.out
              try dsimp only at H_
              have HQ_ := Aside0.mk hq_
              clear HH hq_
              have HH := Aside0.mk H_
              clear H_
              go_upto_if 84 with (first
                | (go_at_call 32; (with_reducible refine (rnum_calls k gr D9 b9 (sz, D10, b10) w _ RDp.out HQ_.out).mono ?_); (rintro e Wc ⟨rfl, hrd, hst⟩)
                   have RDc := Aside0.mk hrd
                   have STc := Aside0.mk (STp.out.trans hst)
                   have BDc := Aside0.mk (hst.blk BDp.out GD7.out.2)
                   obtain ⟨A_, c_, hblk_, _⟩ := hrd.blk
                   have rc1 : Wc.cell? ⟨gr, 1, none⟩ = some (.bool b10) := (blk_cell hblk_ 1).trans rfl
                   have rf1 := blk_frozen hblk_ 1
                   clear hblk_
                   clear hrd hst))
              clear HQ_ RDp STp BDp
              go_cut [12] from 83 to 87 (fun v12 wc => v12 = .int .u64 sz ∧ Aside0 (RRd w gr D10 (badz sz b10) wc) ∧ Aside0 (Stays gr wr wc) ∧ Aside0 (wc.heap[gd]? = some (.cells #[.int .i64 lv, .int .u64 nu, .int .i64 0, .string (⟨#[]⟩ : ByteArray), .int .u64 0, .int .i64 0, .string (⟨#[]⟩ : ByteArray), .int .u64 0, .int .i64 0] 44 (0, 0))))
              case first =>
                by_cases h1 : 2147483648 < sz
                · have d1 : decide (2147483648 < sz) = true := decide_eq_true h1
                  have hz : badz sz b10 = true := by unfold badz; rw [if_pos h1]
                  have HZ := Aside0.mk hz
                  clear h1 hz
                  (first | rw [d1] | skip)
                  go_wp2
                  go_meet
                  case rel => exact ⟨rfl, ⟨by rw [HZ.out]; exact RDc.out.bad1⟩, ⟨STc.out.putj _⟩, ⟨(Below.heap_setCell _ _ _ gd GD7.out.2).trans BDc.out⟩⟩
                · have d1 : decide (2147483648 < sz) = false := decide_eq_false h1
                  have hz : badz sz b10 = b10 := by unfold badz; rw [if_neg h1]
                  have HZ := Aside0.mk hz
                  clear h1 hz
                  (first | rw [d1] | skip)
                  go_wp2
                  go_meet
                  case rel => exact ⟨rfl, ⟨by rw [HZ.out]; exact RDc.out⟩, STc, BDc⟩
              case rest =>
                clear rc1 rf1 RDc STc BDc
                obtain ⟨rfl, RDd, STd, BDd⟩ := hcut
                have hwz : IntKind.i64.wrap sz = wrap64 sz := i64_w sz
                have yc2 : wc.cell? ⟨gd, 2, none⟩ = some (.int .i64 0) := (blk_cell BDd.out 2).trans rfl
                have yf2 := blk_frozen BDd.out 2
                go_upto_region 24 with fail
                have BDe : Aside0 ((wc.setCell ⟨gd, 2, none⟩ (.int .i64 (wrap64 sz))).heap[gd]? = some (.cells #[.int .i64 lv, .int .u64 nu, .int .i64 (wrap64 sz), .string (⟨#[]⟩ : ByteArray), .int .u64 0, .int .i64 0, .string (⟨#[]⟩ : ByteArray), .int .u64 0, .int .i64 0] 44 (0, 0))) := ⟨blk_put (cs := #[.int .i64 lv, .int .u64 nu, .int .i64 0, .string (⟨#[]⟩ : ByteArray), .int .u64 0, .int .i64 0, .string (⟨#[]⟩ : ByteArray), .int .u64 0, .int .i64 0]) BDd.out 2 (.int .i64 (wrap64 sz)) rfl⟩
                have RDe := Aside0.mk (RDd.out.other (j := 2) (Ne.symm GD7.out.2) GDW.out (.int .i64 (wrap64 sz)))
                have STe := Aside0.mk (STd.out.fresh (j := 2) GD7.out.1 (.int .i64 (wrap64 sz)))
                clear hwz yc2 yf2 RDd STd BDd
                generalize wc.setCell ⟨gd, 2, none⟩ (.int .i64 (wrap64 sz)) = We at BDe RDe STe ⊢
                obtain ⟨⟨sm, D11, b11⟩, hq_, H_⟩ := Option.bind_eq_some_iff.mp HH.out
                try dsimp only at H_
                have HQ_ := Aside0.mk hq_
                clear HH hq_
                have HH := Aside0.mk H_
                clear H_
                go_upto_region 25 with (first
                  | (go_at_call 34; (with_reducible refine (rkey_calls k gr D10 (badz sz b10) (sm, D11, b11) w _ RDe.out HQ_.out).mono ?_); (rintro e Wf ⟨rfl, hrd, hst⟩)
                     have RDa := Aside0.mk hrd
                     have STa := Aside0.mk (STe.out.trans hst)
                     have BDa := Aside0.mk (hst.blk BDe.out GD7.out.2)
                     have yc3 : Wf.cell? ⟨gd, 3, none⟩ = some (.string (⟨#[]⟩ : ByteArray)) := (blk_cell BDa.out 3).trans rfl
                     have yf3 := blk_frozen BDa.out 3
                     have yc4 : Wf.cell? ⟨gd, 4, none⟩ = some (.int .u64 0) := (blk_cell BDa.out 4).trans rfl
                     have yf4 := blk_frozen BDa.out 4
                     have yc5 : Wf.cell? ⟨gd, 5, none⟩ = some (.int .i64 0) := (blk_cell BDa.out 5).trans rfl
                     have yf5 := blk_frozen BDa.out 5
                     clear hrd hst))
                have BDr : Aside0 ((((Wf.setCell ⟨gd, 3, none⟩ (.string sm.f0)).setCell ⟨gd, 4, none⟩ (.int .u64 sm.f1)).setCell ⟨gd, 5, none⟩ (.int .i64 sm.f2)).heap[gd]? = some (.cells #[.int .i64 lv, .int .u64 nu, .int .i64 (wrap64 sz), .string sm.f0, .int .u64 sm.f1, .int .i64 sm.f2, .string (⟨#[]⟩ : ByteArray), .int .u64 0, .int .i64 0] 44 (0, 0))) := ⟨blk_put (cs := #[.int .i64 lv, .int .u64 nu, .int .i64 (wrap64 sz), .string sm.f0, .int .u64 sm.f1, .int .i64 0, .string (⟨#[]⟩ : ByteArray), .int .u64 0, .int .i64 0]) (blk_put (cs := #[.int .i64 lv, .int .u64 nu, .int .i64 (wrap64 sz), .string sm.f0, .int .u64 0, .int .i64 0, .string (⟨#[]⟩ : ByteArray), .int .u64 0, .int .i64 0]) (blk_put (cs := #[.int .i64 lv, .int .u64 nu, .int .i64 (wrap64 sz), .string (⟨#[]⟩ : ByteArray), .int .u64 0, .int .i64 0, .string (⟨#[]⟩ : ByteArray), .int .u64 0, .int .i64 0]) (BDa.out) 3 (.string sm.f0) rfl) 4 (.int .u64 sm.f1) rfl) 5 (.int .i64 sm.f2) rfl⟩
                have RDr := Aside0.mk ((((RDa.out).other (j := 3) (Ne.symm GD7.out.2) GDW.out (.string sm.f0)).other (j := 4) (Ne.symm GD7.out.2) GDW.out (.int .u64 sm.f1)).other (j := 5) (Ne.symm GD7.out.2) GDW.out (.int .i64 sm.f2))
                have STr := Aside0.mk ((((STa.out).fresh (j := 3) GD7.out.1 (.string sm.f0)).fresh (j := 4) GD7.out.1 (.int .u64 sm.f1)).fresh (j := 5) GD7.out.1 (.int .i64 sm.f2))
                generalize (((Wf.setCell ⟨gd, 3, none⟩ (.string sm.f0)).setCell ⟨gd, 4, none⟩ (.int .u64 sm.f1)).setCell ⟨gd, 5, none⟩ (.int .i64 sm.f2)) = Wr_ at BDr RDr STr ⊢
                clear BDa RDa STa HQ_ RDe STe BDe yc3 yf3 yc4 yf4 yc5 yf5
                obtain ⟨⟨lg, D12, b12⟩, hq_, H_⟩ := Option.bind_eq_some_iff.mp HH.out
                try dsimp only at H_
                have HQ_ := Aside0.mk hq_
                clear HH hq_
                have HH := Aside0.mk H_
                clear H_
                go_upto_region 26 with (first
                  | (go_at_call 34; (with_reducible refine (rkey_calls k gr D11 b11 (lg, D12, b12) w _ RDr.out HQ_.out).mono ?_); (rintro e Wg ⟨rfl, hrd, hst⟩)
                     have RDa := Aside0.mk hrd
                     have STa := Aside0.mk (STr.out.trans hst)
                     have BDa := Aside0.mk (hst.blk BDr.out GD7.out.2)
                     have yc6 : Wg.cell? ⟨gd, 6, none⟩ = some (.string (⟨#[]⟩ : ByteArray)) := (blk_cell BDa.out 6).trans rfl
                     have yf6 := blk_frozen BDa.out 6
                     have yc7 : Wg.cell? ⟨gd, 7, none⟩ = some (.int .u64 0) := (blk_cell BDa.out 7).trans rfl
                     have yf7 := blk_frozen BDa.out 7
                     have yc8 : Wg.cell? ⟨gd, 8, none⟩ = some (.int .i64 0) := (blk_cell BDa.out 8).trans rfl
                     have yf8 := blk_frozen BDa.out 8
                     clear hrd hst))
                have BDs : Aside0 ((((Wg.setCell ⟨gd, 6, none⟩ (.string lg.f0)).setCell ⟨gd, 7, none⟩ (.int .u64 lg.f1)).setCell ⟨gd, 8, none⟩ (.int .i64 lg.f2)).heap[gd]? = some (.cells #[.int .i64 lv, .int .u64 nu, .int .i64 (wrap64 sz), .string sm.f0, .int .u64 sm.f1, .int .i64 sm.f2, .string lg.f0, .int .u64 lg.f1, .int .i64 lg.f2] 44 (0, 0))) := ⟨blk_put (cs := #[.int .i64 lv, .int .u64 nu, .int .i64 (wrap64 sz), .string sm.f0, .int .u64 sm.f1, .int .i64 sm.f2, .string lg.f0, .int .u64 lg.f1, .int .i64 0]) (blk_put (cs := #[.int .i64 lv, .int .u64 nu, .int .i64 (wrap64 sz), .string sm.f0, .int .u64 sm.f1, .int .i64 sm.f2, .string lg.f0, .int .u64 0, .int .i64 0]) (blk_put (cs := #[.int .i64 lv, .int .u64 nu, .int .i64 (wrap64 sz), .string sm.f0, .int .u64 sm.f1, .int .i64 sm.f2, .string (⟨#[]⟩ : ByteArray), .int .u64 0, .int .i64 0]) (BDa.out) 6 (.string lg.f0) rfl) 7 (.int .u64 lg.f1) rfl) 8 (.int .i64 lg.f2) rfl⟩
                have RDs := Aside0.mk ((((RDa.out).other (j := 6) (Ne.symm GD7.out.2) GDW.out (.string lg.f0)).other (j := 7) (Ne.symm GD7.out.2) GDW.out (.int .u64 lg.f1)).other (j := 8) (Ne.symm GD7.out.2) GDW.out (.int .i64 lg.f2))
                have STs := Aside0.mk ((((STa.out).fresh (j := 6) GD7.out.1 (.string lg.f0)).fresh (j := 7) GD7.out.1 (.int .u64 lg.f1)).fresh (j := 8) GD7.out.1 (.int .i64 lg.f2))
                generalize (((Wg.setCell ⟨gd, 6, none⟩ (.string lg.f0)).setCell ⟨gd, 7, none⟩ (.int .u64 lg.f1)).setCell ⟨gd, 8, none⟩ (.int .i64 lg.f2)) = W9 at BDs RDs STs ⊢
                clear BDa RDa STa HQ_ RDr STr BDr yc6 yf6 yc7 yf7 yc8 yf8
                have DS9 := Aside0.mk (DS.out.num RDs.out STs.out)
                clear RDs STs
                have xc4 : W9.cell? ⟨gx, 4, none⟩ = some v4 := (blk_cell DS9.out.bx 4).trans rfl
                have yc0 : W9.cell? ⟨gd, 0, none⟩ = some (.int .i64 lv) := (blk_cell BDs.out 0).trans rfl
                have yc1 : W9.cell? ⟨gd, 1, none⟩ = some (.int .u64 nu) := (blk_cell BDs.out 1).trans rfl
                have yc2 : W9.cell? ⟨gd, 2, none⟩ = some (.int .i64 (wrap64 sz)) := (blk_cell BDs.out 2).trans rfl
                have yc3 : W9.cell? ⟨gd, 3, none⟩ = some (.string sm.f0) := (blk_cell BDs.out 3).trans rfl
                have yc4 : W9.cell? ⟨gd, 4, none⟩ = some (.int .u64 sm.f1) := (blk_cell BDs.out 4).trans rfl
                have yc5 : W9.cell? ⟨gd, 5, none⟩ = some (.int .i64 sm.f2) := (blk_cell BDs.out 5).trans rfl
                have yc6 : W9.cell? ⟨gd, 6, none⟩ = some (.string lg.f0) := (blk_cell BDs.out 6).trans rfl
                have yc7 : W9.cell? ⟨gd, 7, none⟩ = some (.int .u64 lg.f1) := (blk_cell BDs.out 7).trans rfl
                have yc8 : W9.cell? ⟨gd, 8, none⟩ = some (.int .i64 lg.f2) := (blk_cell BDs.out 8).trans rfl
                obtain ⟨A4, c4, e4⟩ := Kd.R_slice DS9.out.r4
                subst e4
                go_upto_region 16 with (first
                  | ((with_reducible refine gate_builtin (b := .append) (xs := #[.tmp 98, .tmp 100]) rfl ?_); at_builtin; refine Kd.R_append k44 (w0 := w) w.heap.size rfl (.tmp 98) (.tmp 100) 25 44 (.agg #[(.int .i64 0), (.int .u64 0), (.int .i64 0), (.string ⟨#[]⟩), (.int .u64 0), (.int .i64 0), (.string ⟨#[]⟩), (.int .u64 0), (.int .i64 0)]) 88 rfl Try.underlying25 infoF rfl (by decide) (by decide) (.slice A4 fs.length c4) fs (⟨lv, nu, wrap64 sz, sm, lg⟩ : S44) [.int .i64 lv, .int .u64 nu, .int .i64 (wrap64 sz), .string sm.f0, .int .u64 sm.f1, .int .i64 sm.f2, .string lg.f0, .int .u64 lg.f1, .int .i64 lg.f2] (fun k => k ≠ gx ∧ k ≠ ge ∧ k ≠ gr ∧ some k ≠ v3.ownBlock) (fun _ => False) rfl rfl ?aP (fun _ hk => hk.elim) ?aF ?aO ?aB ?aS ?aL ?_
                     (case aP => exact k44_mkM _ _ _ (⟨lv, nu, wrap64 sz, sm, lg⟩ : S44))
                     (case aB => exact DS9.out.rd.bel)
                     (case aF => exact DS9.out.new4)
                     (case aO => exact DS9.out.r4)
                     (case aS => exact below_size DS9.out.rd.bel)
                     (case aL => have := HI.out.2; clear yc2; omega)
                     intro v4' W10 ho hb hg hat
                     obtain ⟨A4', n4', c4', e4'⟩ := slice3 ho
                     subst e4'
                     have DS10 := Aside0.mk (DS9.out.file hg hb ho hat)
                     have xd4 : W10.cell? ⟨gx, 4, none⟩ = some (.slice A4 fs.length c4) := (blk_cell (blk_grown DS9.out.bx hg (fun e => (DS9.out.r4.1 gx e.symm).1 rfl)) 4).trans rfl
                     have xe4 := blk_frozen (blk_grown DS9.out.bx hg (fun e => (DS9.out.r4.1 gx e.symm).1 rfl)) 4
                     clear ho hb hg hat))
                clear xc4 yc0 yc1 yc2 yc3 yc4 yc5 yc6 yc7 yc8 xd4 xe4
                go_wp2
                go_roundg g2_
                case measure => omega
                case rel => exact ⟨i + 1, D12, b12, fs ++ [(⟨lv, nu, wrap64 sz, sm, lg⟩ : S44)], _, by rw [HW.out], ⟨by have := HI.out.1; omega, by have := HIL.out; omega, by rw [List.length_append, HI.out.2.2]; rfl⟩, HH, DS10⟩
            | false =>
              have hc := of_decide_eq_false HQQ.out
              have hH := HH.out
              rw [if_neg hc] at hH
              clear hc HQQ HW HI
              unfold rfin_g at hH
              dsimp only at hH
              obtain ⟨A_, c_, hblk_, _⟩ := DS.out.rd.blk
              have rc1 : wr.cell? ⟨gr, 1, none⟩ = some (.bool bad) := (blk_cell hblk_ 1).trans rfl
              clear hblk_ HH
              cases hbad : bad with
              | true =>
                subst hbad
                rw [if_pos rfl] at hH
                obtain rfl := Option.some.inj hH
                clear hH
                have zc0 : wr.cell? ⟨ge, 0, none⟩ = some (Value.int .u64 0) := (blk_cell DS.out.be 0).trans rfl
                have zf0 := blk_frozen DS.out.be 0
                have zc1 : wr.cell? ⟨ge, 1, none⟩ = some (.int .u64 0) := (blk_cell DS.out.be 1).trans rfl
                have zf1 := blk_frozen DS.out.be 1
                have zc2 : wr.cell? ⟨ge, 2, none⟩ = some (.int .u64 0) := (blk_cell DS.out.be 2).trans rfl
                have zf2 := blk_frozen DS.out.be 2
                have zc3 : wr.cell? ⟨ge, 3, none⟩ = some (.slice none 0 0) := (blk_cell DS.out.be 3).trans rfl
                have zf3 := blk_frozen DS.out.be 3
                have zc4 : wr.cell? ⟨ge, 4, none⟩ = some (.slice none 0 0) := (blk_cell DS.out.be 4).trans rfl
                have zf4 := blk_frozen DS.out.be 4
                go_wp2
                obtain ⟨W20, hW20⟩ : ∃ x, (((((wr.setCell ⟨ge, 0, none⟩ (Value.int .u64 0)).setCell ⟨ge, 1, none⟩ (.int .u64 0)).setCell ⟨ge, 2, none⟩ (.int .u64 0)).setCell ⟨ge, 3, none⟩ (.slice none 0 0)).setCell ⟨ge, 4, none⟩ (.slice none 0 0)) = x := ⟨_, rfl⟩
                rw [hW20]
                have BE20 : W20.heap[ge]? = some (.cells #[Value.int .u64 0, .int .u64 0, .int .u64 0, .slice none 0 0, .slice none 0 0] 27 (0, 0)) := by rw [← hW20]; exact blk_put (cs := #[Value.int .u64 0, .int .u64 0, .int .u64 0, .slice none 0 0, .slice none 0 0]) (blk_put (cs := #[Value.int .u64 0, .int .u64 0, .int .u64 0, .slice none 0 0, .slice none 0 0]) (blk_put (cs := #[Value.int .u64 0, .int .u64 0, .int .u64 0, .slice none 0 0, .slice none 0 0]) (blk_put (cs := #[Value.int .u64 0, .int .u64 0, .int .u64 0, .slice none 0 0, .slice none 0 0]) (blk_put (cs := #[Value.int .u64 0, .int .u64 0, .int .u64 0, .slice none 0 0, .slice none 0 0]) (DS.out.be) 0 _ rfl) 1 _ rfl) 2 _ rfl) 3 _ rfl) 4 _ rfl
                have HB20 : Below w.heap.size w W20 := by rw [← hW20]; exact below_set (below_set (below_set (below_set (below_set (DS.out.rd.bel) DS.out.gee) DS.out.gee) DS.out.gee) DS.out.gee) DS.out.gee
                exact ⟨rfl, rout_of (w := w) (r := none) (v3 := .slice none 0 0) (v4 := .slice none 0 0) rfl rfl BE20 HB20 (Kd.R_nil _ _ _ _ _) (Kd.R_nil _ _ _ _ _)⟩
              | false =>
                subst hbad
                rw [if_neg (by decide)] at hH
                obtain ⟨⟨yb, ye⟩, hy, hH⟩ := Option.bind_eq_some_iff.mp hH
                dsimp only at hH
                have HY := Aside0.mk hy
                have HH := Aside0.mk hH
                clear hH hy
                obtain ⟨A3, c3, e3⟩ := Kd.R_slice DS.out.r3
                subst e3
                obtain ⟨A4, c4, e4⟩ := Kd.R_slice DS.out.r4
                subst e4
                have xc0 : wr.cell? ⟨gx, 0, none⟩ = some (Value.int .u64 x0) := (blk_cell DS.out.bx 0).trans rfl
                have xc1 : wr.cell? ⟨gx, 1, none⟩ = some (.int .u64 x1) := (blk_cell DS.out.bx 1).trans rfl
                have xc2 : wr.cell? ⟨gx, 2, none⟩ = some (.int .u64 x2) := (blk_cell DS.out.bx 2).trans rfl
                have xc3 : wr.cell? ⟨gx, 3, none⟩ = some (.slice A3 acc.length c3) := (blk_cell DS.out.bx 3).trans rfl
                have xc4 : wr.cell? ⟨gx, 4, none⟩ = some (.slice A4 fs.length c4) := (blk_cell DS.out.bx 4).trans rfl
                go_upto_region 30 with (first
                  | (go_at_call 10; (with_reducible refine (staddleref13_Encode.calls k x0 x1 x2 A3 c3 acc A4 c4 fs yb ye _ (Kd.R_reads' DS.out.r3).2.2 (Kd.R_reads' DS.out.r3).2.1 (Kd.R_reads' DS.out.r4).2.2 (Kd.R_reads' DS.out.r4).2.1 HY.out).mono ?_); (rintro e W12 ⟨vb, rfl, hob, hb⟩)
                     have DS12 := Aside0.mk (DS.out.num (DS.out.rd.below hb) ((Stays.refl gr _).below hb))
                     have HO := Aside0.mk hob
                     obtain ⟨Ab, cb, eb⟩ := Kd.R_slice hob
                     subst eb
                     clear hob hb))
                clear rc1 xc0 xc1 xc2 xc3 xc4 DS HY
                have hcv1 := Kd.C_string (P := Try.prog) (A := Ab) (c := cb) Try.underlying28 Try.underlying5 Try.underlying9 (Kd.R_reads' HO.out).2.2
                have hcv2 := Kd.C_string (P := Try.prog) (A := A0) (c := c0) Try.underlying28 Try.underlying5 Try.underlying9 (Kd.C_below HR0.out DS12.out.rd.bel)
                have F := HH.out
                clear HH
                by_cases h2 : ye = 0
                · subst h2
                  rw [if_pos rfl] at F
                  by_cases hst : (strOfNums yb).toList = (strOfNums b).toList
                  · rw [if_pos hst] at F
                    obtain rfl := Option.some.inj F
                    have d1 : ((strOfNums yb).toList == (strOfNums b).toList) = true := beq_iff_eq.mpr hst
                    have d2 : ((strOfNums yb).toList != (strOfNums b).toList) = false := bne_eq_false_iff_eq.mpr hst
                    clear F hst
                    have xc0 : W12.cell? ⟨gx, 0, none⟩ = some (Value.int .u64 x0) := (blk_cell DS12.out.bx 0).trans rfl
                    have xc1 : W12.cell? ⟨gx, 1, none⟩ = some (.int .u64 x1) := (blk_cell DS12.out.bx 1).trans rfl
                    have xc2 : W12.cell? ⟨gx, 2, none⟩ = some (.int .u64 x2) := (blk_cell DS12.out.bx 2).trans rfl
                    have xc3 : W12.cell? ⟨gx, 3, none⟩ = some (.slice A3 acc.length c3) := (blk_cell DS12.out.bx 3).trans rfl
                    have xc4 : W12.cell? ⟨gx, 4, none⟩ = some (.slice A4 fs.length c4) := (blk_cell DS12.out.bx 4).trans rfl
                    have zc0 : W12.cell? ⟨ge, 0, none⟩ = some (Value.int .u64 0) := (blk_cell DS12.out.be 0).trans rfl
                    have zf0 := blk_frozen DS12.out.be 0
                    have zc1 : W12.cell? ⟨ge, 1, none⟩ = some (.int .u64 0) := (blk_cell DS12.out.be 1).trans rfl
                    have zf1 := blk_frozen DS12.out.be 1
                    have zc2 : W12.cell? ⟨ge, 2, none⟩ = some (.int .u64 0) := (blk_cell DS12.out.be 2).trans rfl
                    have zf2 := blk_frozen DS12.out.be 2
                    have zc3 : W12.cell? ⟨ge, 3, none⟩ = some (.slice none 0 0) := (blk_cell DS12.out.be 3).trans rfl
                    have zf3 := blk_frozen DS12.out.be 3
                    have zc4 : W12.cell? ⟨ge, 4, none⟩ = some (.slice none 0 0) := (blk_cell DS12.out.be 4).trans rfl
                    have zf4 := blk_frozen DS12.out.be 4
                    go_wp2
                    obtain ⟨W20, hW20⟩ : ∃ x, (((((W12.setCell ⟨ge, 0, none⟩ (Value.int .u64 x0)).setCell ⟨ge, 1, none⟩ (.int .u64 x1)).setCell ⟨ge, 2, none⟩ (.int .u64 x2)).setCell ⟨ge, 3, none⟩ (.slice A3 acc.length c3)).setCell ⟨ge, 4, none⟩ (.slice A4 fs.length c4)) = x := ⟨_, rfl⟩
                    rw [hW20]
                    have hmv : ∀ j, j ≠ ge → W20.heap[j]? = W12.heap[j]? := fun j hj => by rw [← hW20]; exact (Below.heap_setCell _ _ _ j hj).trans ((Below.heap_setCell _ _ _ j hj).trans ((Below.heap_setCell _ _ _ j hj).trans ((Below.heap_setCell _ _ _ j hj).trans ((Below.heap_setCell _ _ _ j hj)))))
                    have BE20 : W20.heap[ge]? = some (.cells #[Value.int .u64 x0, .int .u64 x1, .int .u64 x2, .slice A3 acc.length c3, .slice A4 fs.length c4] 27 (0, 0)) := by rw [← hW20]; exact blk_put (cs := #[Value.int .u64 x0, .int .u64 x1, .int .u64 x2, .slice A3 acc.length c3, .slice none 0 0]) (blk_put (cs := #[Value.int .u64 x0, .int .u64 x1, .int .u64 x2, .slice none 0 0, .slice none 0 0]) (blk_put (cs := #[Value.int .u64 x0, .int .u64 x1, .int .u64 0, .slice none 0 0, .slice none 0 0]) (blk_put (cs := #[Value.int .u64 x0, .int .u64 0, .int .u64 0, .slice none 0 0, .slice none 0 0]) (blk_put (cs := #[Value.int .u64 0, .int .u64 0, .int .u64 0, .slice none 0 0, .slice none 0 0]) (DS12.out.be) 0 _ rfl) 1 _ rfl) 2 _ rfl) 3 _ rfl) 4 _ rfl
                    have HB20 : Below w.heap.size w W20 := by rw [← hW20]; exact below_set (below_set (below_set (below_set (below_set (DS12.out.rd.bel) DS12.out.gee) DS12.out.gee) DS12.out.gee) DS12.out.gee) DS12.out.gee
                    have R3 := Kd.R_move (w1 := W20) DS12.out.r3 (fun j hj => hmv j hj.2.1)
                    have R4 := Kd.R_move (w1 := W20) DS12.out.r4 (fun j hj => hmv j hj.2.1)
                    exact ⟨rfl, rout_of (w := w) (r := some ⟨x0, x1, x2, acc, fs⟩) (v3 := .slice A3 acc.length c3) (v4 := .slice A4 fs.length c4) rfl rfl BE20 HB20 (Kd.R_mono R3 (fun _ _ => trivial)) (Kd.R_mono R4 (fun _ hk => hk.2.2.2))⟩
                  · rw [if_neg hst] at F
                    obtain rfl := Option.some.inj F
                    have d1 : ((strOfNums yb).toList == (strOfNums b).toList) = false := beq_eq_false_iff_ne.mpr hst
                    have d2 : ((strOfNums yb).toList != (strOfNums b).toList) = true := bne_iff_ne.mpr hst
                    clear F hst
                    have zc0 : W12.cell? ⟨ge, 0, none⟩ = some (Value.int .u64 0) := (blk_cell DS12.out.be 0).trans rfl
                    have zf0 := blk_frozen DS12.out.be 0
                    have zc1 : W12.cell? ⟨ge, 1, none⟩ = some (.int .u64 0) := (blk_cell DS12.out.be 1).trans rfl
                    have zf1 := blk_frozen DS12.out.be 1
                    have zc2 : W12.cell? ⟨ge, 2, none⟩ = some (.int .u64 0) := (blk_cell DS12.out.be 2).trans rfl
                    have zf2 := blk_frozen DS12.out.be 2
                    have zc3 : W12.cell? ⟨ge, 3, none⟩ = some (.slice none 0 0) := (blk_cell DS12.out.be 3).trans rfl
                    have zf3 := blk_frozen DS12.out.be 3
                    have zc4 : W12.cell? ⟨ge, 4, none⟩ = some (.slice none 0 0) := (blk_cell DS12.out.be 4).trans rfl
                    have zf4 := blk_frozen DS12.out.be 4
                    go_wp2
                    obtain ⟨W20, hW20⟩ : ∃ x, (((((W12.setCell ⟨ge, 0, none⟩ (Value.int .u64 0)).setCell ⟨ge, 1, none⟩ (.int .u64 0)).setCell ⟨ge, 2, none⟩ (.int .u64 0)).setCell ⟨ge, 3, none⟩ (.slice none 0 0)).setCell ⟨ge, 4, none⟩ (.slice none 0 0)) = x := ⟨_, rfl⟩
                    rw [hW20]
                    have BE20 : W20.heap[ge]? = some (.cells #[Value.int .u64 0, .int .u64 0, .int .u64 0, .slice none 0 0, .slice none 0 0] 27 (0, 0)) := by rw [← hW20]; exact blk_put (cs := #[Value.int .u64 0, .int .u64 0, .int .u64 0, .slice none 0 0, .slice none 0 0]) (blk_put (cs := #[Value.int .u64 0, .int .u64 0, .int .u64 0, .slice none 0 0, .slice none 0 0]) (blk_put (cs := #[Value.int .u64 0, .int .u64 0, .int .u64 0, .slice none 0 0, .slice none 0 0]) (blk_put (cs := #[Value.int .u64 0, .int .u64 0, .int .u64 0, .slice none 0 0, .slice none 0 0]) (blk_put (cs := #[Value.int .u64 0, .int .u64 0, .int .u64 0, .slice none 0 0, .slice none 0 0]) (DS12.out.be) 0 _ rfl) 1 _ rfl) 2 _ rfl) 3 _ rfl) 4 _ rfl
                    have HB20 : Below w.heap.size w W20 := by rw [← hW20]; exact below_set (below_set (below_set (below_set (below_set (DS12.out.rd.bel) DS12.out.gee) DS12.out.gee) DS12.out.gee) DS12.out.gee) DS12.out.gee
                    exact ⟨rfl, rout_of (w := w) (r := none) (v3 := .slice none 0 0) (v4 := .slice none 0 0) rfl rfl BE20 HB20 (Kd.R_nil _ _ _ _ _) (Kd.R_nil _ _ _ _ _)⟩
                · rw [if_neg h2] at F
                  obtain rfl := Option.some.inj F
                  have h2b : (ye == 0) = false := beq_eq_false_iff_ne.mpr h2
                  have h2c : (ye != 0) = true := bne_iff_ne.mpr h2
                  clear F h2
                  have zc0 : W12.cell? ⟨ge, 0, none⟩ = some (Value.int .u64 0) := (blk_cell DS12.out.be 0).trans rfl
                  have zf0 := blk_frozen DS12.out.be 0
                  have zc1 : W12.cell? ⟨ge, 1, none⟩ = some (.int .u64 0) := (blk_cell DS12.out.be 1).trans rfl
                  have zf1 := blk_frozen DS12.out.be 1
                  have zc2 : W12.cell? ⟨ge, 2, none⟩ = some (.int .u64 0) := (blk_cell DS12.out.be 2).trans rfl
                  have zf2 := blk_frozen DS12.out.be 2
                  have zc3 : W12.cell? ⟨ge, 3, none⟩ = some (.slice none 0 0) := (blk_cell DS12.out.be 3).trans rfl
                  have zf3 := blk_frozen DS12.out.be 3
                  have zc4 : W12.cell? ⟨ge, 4, none⟩ = some (.slice none 0 0) := (blk_cell DS12.out.be 4).trans rfl
                  have zf4 := blk_frozen DS12.out.be 4
                  go_wp2
                  obtain ⟨W20, hW20⟩ : ∃ x, (((((W12.setCell ⟨ge, 0, none⟩ (Value.int .u64 0)).setCell ⟨ge, 1, none⟩ (.int .u64 0)).setCell ⟨ge, 2, none⟩ (.int .u64 0)).setCell ⟨ge, 3, none⟩ (.slice none 0 0)).setCell ⟨ge, 4, none⟩ (.slice none 0 0)) = x := ⟨_, rfl⟩
                  rw [hW20]
                  have BE20 : W20.heap[ge]? = some (.cells #[Value.int .u64 0, .int .u64 0, .int .u64 0, .slice none 0 0, .slice none 0 0] 27 (0, 0)) := by rw [← hW20]; exact blk_put (cs := #[Value.int .u64 0, .int .u64 0, .int .u64 0, .slice none 0 0, .slice none 0 0]) (blk_put (cs := #[Value.int .u64 0, .int .u64 0, .int .u64 0, .slice none 0 0, .slice none 0 0]) (blk_put (cs := #[Value.int .u64 0, .int .u64 0, .int .u64 0, .slice none 0 0, .slice none 0 0]) (blk_put (cs := #[Value.int .u64 0, .int .u64 0, .int .u64 0, .slice none 0 0, .slice none 0 0]) (blk_put (cs := #[Value.int .u64 0, .int .u64 0, .int .u64 0, .slice none 0 0, .slice none 0 0]) (DS12.out.be) 0 _ rfl) 1 _ rfl) 2 _ rfl) 3 _ rfl) 4 _ rfl
                  have HB20 : Below w.heap.size w W20 := by rw [← hW20]; exact below_set (below_set (below_set (below_set (below_set (DS12.out.rd.bel) DS12.out.gee) DS12.out.gee) DS12.out.gee) DS12.out.gee) DS12.out.gee
                  exact ⟨rfl, rout_of (w := w) (r := none) (v3 := .slice none 0 0) (v4 := .slice none 0 0) rfl rfl BE20 HB20 (Kd.R_nil _ _ _ _ _) (Kd.R_nil _ _ _ _ _)⟩
end Go.Proofs.Ythkkbgehmiobaaa.E
namespace Go.Proofs.Ythkkbgehmiobaaa.E
open Go.RowKit Go.Proofs.YthkkbgehmiobaaaW.PrintWords Go.Proofs.YthkkbgehmiobaaaW.PrintLast Go.Proofs.YthkkbgehmiobaaaW.PrintMore Go.Proofs.Ythkkbgehmiobaaa.P
set_option linter.unusedVariables false
set_option linter.unusedSimpArgs false
theorem er_w (n : Nat) (h : n < 140737488355328) : wrap64 ((n : Int) + 1) = ((n + 1 : Nat) : Int) := by unfold wrap64; omega
/-- what the statement comes to -/
def Reads (k : Nat) (b : List Int) : Prop := b.length < 140737488355328 ∧ ∃ r, dec_g k b = some r ∧ rdec_g k b = some r ∧ staddleref13_Same.f k (edOf r).l0 (edOf r).l1 (edOf r).l2 (edOf r).ds (edOf r).fs (edOf r).l0 (edOf r).l1 (edOf r).l2 (edOf r).ds (edOf r).fs = some true
set_option maxHeartbeats 8000000 in
set_option maxRecDepth 100000 in
theorem reads_calls (k : Nat) (A0 : Option Addr) (c0 : Nat) (b : List Int) (w : World) (hr0 : Kd.C (Kd.int .u8) w A0 b.length b) (hc0 : b.length ≤ c0) (hf : Reads k b) :
    Calls Try.prog 5 #[.slice A0 b.length c0] w fun e w' => e = .returned (.bool true) ∧ Below w.heap.size w w' := by
  obtain ⟨hlen, r, hd, hrd, hs⟩ := hf
  have HR0 := Aside0.mk hr0
  have HC0 := Aside0.mk hc0
  have HD := Aside0.mk hd
  have HRD := Aside0.mk hrd
  have HS := Aside0.mk hs
  have HLEN := Aside0.mk hlen
  have HB := Aside0.mk (Below.refl w.heap.size w)
  clear hr0 hc0 hd hrd hs hlen
  go_enter Try.func5, Try.ntmps5
  go_upto_region 3 with (first
    | (go_at_call 8; with_reducible refine (awake_calls _).mono ?_; rintro e w4 ⟨rfl, hb⟩
       have HB2 := Aside0.mk (below_step HB.out hb)
       clear hb)
    | ((with_reducible refine gate_dst (N := 12) rfl ?_); refine Kd.R_lit (Kd.int .u8) _ 5 ?hg (N := 12) ?hd (xs := ([] : List Int)) (inner := []) (ok := fun _ => True) (okp := fun _ => True) ?hr ?hp (fun _ hk => hk) trivial (Below.refl _ _) (Nat.le_refl _) (by simp) ?_; (case hd => rfl); (case hg => rfl); (case hr => first | (go_simp; done) | (go_simp; rfl)); (case hp => exact (Reps.none _ _)); intro v12 w5 ho5 hb hg_ hnew_
       clear hg_ hnew_
       have HO5 := Aside0.mk (Kd.R_bound ho5)
       have HB3 := Aside0.mk (below_step HB2.out hb)
       have HB45 := Aside0.mk hb
       clear hb ho5)
    | ((with_reducible refine gate_builtin (b := .append) (xs := #[.tmp 12, .tmp 13]) rfl ?_); at_builtin; refine Kd.R_append_rows (Kd.int .u8) (w0 := w4) w4.heap.size rfl (.tmp 12) (.tmp 13) 28 5 (.int .u8 0) 1 rfl Try.underlying28 info5 rfl (by decide) (by omega) v12 ([] : List Int) b _ _ _ (fun k => w4.heap.size ≤ k) (fun _ => False) rfl rfl ?aO ?aR (fun _ _ h => h) (fun _ h => h.elim) ?aF ?aB ?aS ?aL ?_
       (case aR => exact Kd.C_below HR0.out HB3.out)
       (case aB => exact HB45.out)
       (case aF => exact (fun _ hk => Nat.le_trans (below_size HB45.out) hk))
       (case aO => exact Kd.R_mono HO5.out (fun k hk => hk.2.1))
       (case aS => exact below_size HB45.out)
       (case aL => have := HLEN.out; simp only [List.length_nil]; omega)
       intro v14 w6 ho6 hb6 hg6 hat6
       rw [List.nil_append] at ho6
       have HO6 := Aside0.mk ho6
       have HB4 := Aside0.mk (below_step HB2.out hb6)
       obtain ⟨Ao, co, eo⟩ := Kd.R_slice ho6
       subst eo
       clear ho6 hb6 hg6 hat6))
  have HLT : Aside0 (∀ g', Ao = some ⟨g', 0, none⟩ → g' < w6.heap.size) := ⟨fun g' e => Kd.R_lt HO6.out g' (by rw [e]; rfl)⟩
  have HNG : Aside0 (∀ g', Ao = some ⟨g', 0, none⟩ → w.heap.size ≤ g') := ⟨fun g' e => by
    have h : w4.heap.size ≤ g' := HO6.out.1 g' (by rw [e]; rfl)
    have h2 := below_size HB2.out
    omega⟩
  obtain ⟨z, hz⟩ : ∃ y, edOf r = y := ⟨_, rfl⟩
  have HZ := Aside0.mk hz
  obtain ⟨ev, hev⟩ : ∃ y, evOf r = y := ⟨_, rfl⟩
  have HEV := Aside0.mk hev
  rw [hz] at HS
  clear hz hev
  go_upto_region 4 with (first
    | (go_at_call 14; (with_reducible refine (dec_calls k Ao co b _ _ (Kd.R_reads' HO6.out).2.2 (Kd.R_reads' HO6.out).2.1 HD.out).mono ?_); (rintro ed w7 ⟨hb, v3, v4, hee, hr3, hr4⟩)
       rw [HZ.out, HEV.out] at hee
       rw [HZ.out] at hr3 hr4
       subst hee
       obtain ⟨B3, d3, e3⟩ := Kd.R_slice hr3
       subst e3
       obtain ⟨B4, d4, e4⟩ := Kd.R_slice hr4
       subst e4
       have R37 := Aside0.mk hr3
       have R47 := Aside0.mk hr4
       have HO7 := Aside0.mk (Kd.R_lower (Kd.R_mono (Kd.R_below HO6.out hb) (fun _ _ => trivial)) (below_size HB2.out))
       have HB67 := Aside0.mk hb
       have HB7 := Aside0.mk (below_step HB4.out hb)
       clear hb hr3 hr4)
    | ((with_reducible refine gate_dst (N := 5) rfl ?_); refine box_event ?hg (N := 5) ?hd (cs := #[Value.int .u64 0, .int .u64 0, .int .u64 0, .slice none 0 0, .slice none 0 0]) (t := 27) ?hr ?_; (case hd => rfl); (case hg => rfl); (case hr => first | (go_simp; done) | (go_simp; rfl)); intro g5 hg w8 hbox hb
       have BY8 := Aside0.mk hbox
       have GY : Aside0 (w6.heap.size ≤ g5) := ⟨by rw [hg]; exact below_size HB67.out⟩
       have GW : Aside0 (w.heap.size ≤ g5) := ⟨by rw [hg]; exact below_size HB7.out⟩
       have HO8 : Aside0 (Kd.R (Kd.int .u8) 5 w8 _ (fun k => k ≠ g5) (.slice Ao b.length co) b) := ⟨Kd.R_below (Kd.R_mono (Kd.R_bound HO7.out) (fun k hk => by have := hk.2.2.1; omega)) hb⟩
       have R38 : Aside0 (Kd.R k40 40 w8 _ (fun k => k ≠ g5) (.slice B3 z.ds.length d3) z.ds) := ⟨Kd.R_below (Kd.R_mono (Kd.R_bound R37.out) (fun k hk => by have := hk.2.2.1; omega)) hb⟩
       have R48 : Aside0 (Kd.R k44 44 w8 _ (fun k => k ≠ g5) (.slice B4 z.fs.length d4) z.fs) := ⟨Kd.R_below (Kd.R_mono (Kd.R_bound R47.out) (fun k hk => by have := hk.2.2.1; omega)) hb⟩
       have HB8 := Aside0.mk (below_step HB7.out hb)
       have zc0 : w8.cell? ⟨g5, 0, none⟩ = some (Value.int .u64 0) := (blk_cell hbox 0).trans rfl
       have zf0 := blk_frozen hbox 0
       have zc1 : w8.cell? ⟨g5, 1, none⟩ = some (.int .u64 0) := (blk_cell hbox 1).trans rfl
       have zf1 := blk_frozen hbox 1
       have zc2 : w8.cell? ⟨g5, 2, none⟩ = some (.int .u64 0) := (blk_cell hbox 2).trans rfl
       have zf2 := blk_frozen hbox 2
       have zc3 : w8.cell? ⟨g5, 3, none⟩ = some (.slice none 0 0) := (blk_cell hbox 3).trans rfl
       have zf3 := blk_frozen hbox 3
       have zc4 : w8.cell? ⟨g5, 4, none⟩ = some (.slice none 0 0) := (blk_cell hbox 4).trans rfl
       have zf4 := blk_frozen hbox 4
       clear hg hbox hb))
  obtain ⟨W9, hW9⟩ : ∃ y, (((((w8.setCell ⟨g5, 0, none⟩ (Value.int .u64 z.l0)).setCell ⟨g5, 1, none⟩ (.int .u64 z.l1)).setCell ⟨g5, 2, none⟩ (.int .u64 z.l2)).setCell ⟨g5, 3, none⟩ (.slice B3 z.ds.length d3)).setCell ⟨g5, 4, none⟩ (.slice B4 z.fs.length d4)) = y := ⟨_, rfl⟩
  rw [hW9]
  have hmv : ∀ j, j ≠ g5 → W9.heap[j]? = w8.heap[j]? := fun j hj => by rw [← hW9]; exact (Below.heap_setCell _ _ _ j hj).trans ((Below.heap_setCell _ _ _ j hj).trans ((Below.heap_setCell _ _ _ j hj).trans ((Below.heap_setCell _ _ _ j hj).trans ((Below.heap_setCell _ _ _ j hj)))))
  have BY9 : Aside0 (W9.heap[g5]? = some (.cells #[Value.int .u64 z.l0, .int .u64 z.l1, .int .u64 z.l2, .slice B3 z.ds.length d3, .slice B4 z.fs.length d4] 27 (0, 0))) := ⟨by rw [← hW9]; exact blk_put (cs := #[Value.int .u64 z.l0, .int .u64 z.l1, .int .u64 z.l2, .slice B3 z.ds.length d3, .slice none 0 0]) (blk_put (cs := #[Value.int .u64 z.l0, .int .u64 z.l1, .int .u64 z.l2, .slice none 0 0, .slice none 0 0]) (blk_put (cs := #[Value.int .u64 z.l0, .int .u64 z.l1, .int .u64 0, .slice none 0 0, .slice none 0 0]) (blk_put (cs := #[Value.int .u64 z.l0, .int .u64 0, .int .u64 0, .slice none 0 0, .slice none 0 0]) (blk_put (cs := #[Value.int .u64 0, .int .u64 0, .int .u64 0, .slice none 0 0, .slice none 0 0]) (BY8.out) 0 _ rfl) 1 _ rfl) 2 _ rfl) 3 _ rfl) 4 _ rfl⟩
  have HB9 : Aside0 (Below w.heap.size w W9) := ⟨by rw [← hW9]; exact below_set (below_set (below_set (below_set (below_set (HB8.out) GW.out) GW.out) GW.out) GW.out) GW.out⟩
  have HO9 : Aside0 (Kd.R (Kd.int .u8) 5 W9 w.heap.size (fun _ => True) (.slice Ao b.length co) b) := ⟨Kd.R_mono (Kd.R_move HO8.out hmv) (fun _ _ => trivial)⟩
  have R39 : Aside0 (Kd.R k40 40 W9 w6.heap.size (fun _ => True) (.slice B3 z.ds.length d3) z.ds) := ⟨Kd.R_mono (Kd.R_move R38.out hmv) (fun _ _ => trivial)⟩
  have R49 : Aside0 (Kd.R k44 44 W9 w6.heap.size (fun _ => True) (.slice B4 z.fs.length d4) z.fs) := ⟨Kd.R_mono (Kd.R_move R48.out hmv) (fun _ _ => trivial)⟩
  clear hW9 hmv zc0 zf0 zc1 zf1 zc2 zf2 zc3 zf3 zc4 zf4 HB HB2 HB3 HB4 HB45 HB67 HB7 HB8 HO5 HO6 HO7 HO8 R37 R38 R47 R48 BY8 HD
  go_upto_region 5 with fail
  go_loopg [7] (b.length + 1) (fun gf v7 wx => ∃ (i : Nat) (xs : List Int), v7 = .int .i64 (i : Int) ∧ Aside0 (gf + i = b.length + 1 ∧ i ≤ b.length) ∧ Aside0 (xs.length = b.length) ∧ Aside0 (Kd.R (Kd.int .u8) 5 wx w.heap.size (fun _ => True) (.slice Ao b.length co) xs) ∧ Aside0 (Kd.R k40 40 wx w6.heap.size (fun _ => True) (.slice B3 z.ds.length d3) z.ds) ∧ Aside0 (Kd.R k44 44 wx w6.heap.size (fun _ => True) (.slice B4 z.fs.length d4) z.fs) ∧ Aside0 (wx.heap[g5]? = some (.cells #[Value.int .u64 z.l0, .int .u64 z.l1, .int .u64 z.l2, .slice B3 z.ds.length d3, .slice B4 z.fs.length d4] 27 (0, 0))) ∧ Aside0 (Below w.heap.size w wx))
  case atStart => exact ⟨0, b, rfl, ⟨by omega, by omega⟩, ⟨rfl⟩, HO9, R39, R49, BY9, HB9⟩
  case round =>
    clear HO9 R39 R49 BY9 HB9
    obtain ⟨i, xs, rfl, HI, HXL, HO, R3, R4, BY, HB⟩ := hrel
    cases gk with
    | zero => exact absurd HI.out.1 (by have := HI.out.2; omega)
    | succ g1 =>
      by_cases c : i < b.length
      · have c1b : decide ((i : Int) < (b.length : Int)) = true := decide_eq_true (by omega)
        have c1c : decide (i < b.length) = true := decide_eq_true c
        have c1d := eq_true (show (i : Int) < (b.length : Int) by omega)
        have c1f := eq_true (show 0 ≤ (i : Int) by omega)
        have c1e : decide (0 ≤ (i : Int)) = true := decide_eq_true (by omega)
        have HIB := Aside0.mk c
        have HW : Aside0 (wrap64 ((i : Int) + 1) = ((i + 1 : Nat) : Int)) := ⟨er_w i (by have := HLEN.out; omega)⟩
        obtain ⟨go13, co13, eo13, gb13, gl13, cl13, HG13⟩ := Kd.R_form HO.out (by rw [HXL.out]; omega)
        injection eo13 with ea_ en_ ec_
        subst ea_
        have GB13 := Aside0.mk gb13
        have GL13 := Aside0.mk (HLT.out go13 rfl)
        have GN13 := Aside0.mk (HNG.out go13 rfl)
        clear gb13 gl13 HG13 cl13 c en_ ec_
        obtain ⟨hx13_0, hf13_0⟩ := Kd.R_celln 0 HO.out (i : Int) (Int.natCast_nonneg _) (by have := HIB.out; omega)
        have HP14 := Kd.R_putg HO.out (i : Int) 99
        rw [Int.toNat_natCast] at hx13_0 hf13_0 HP14
        go_wp2_with (first
          | ((with_reducible refine gate_store (t := 5) (p := 28) rfl ?_); refine store_event (t := 5) (p := 28) (v := ?vo) (w1 := (wr.setCell ⟨go13, i, none⟩ (.int .u8 99))) ?hg ?ho ?hn ?hr ?_; (case ho => rfl); (case hg => rfl); (case hn => rfl); (case hr => first | (go_simp; done) | (go_simp; rfl)); intro w15 hw
             have hp_ : Kd.R (Kd.int .u8) 5 w15 w.heap.size (fun _ => True) (.slice (some ⟨go13, 0, none⟩) b.length co) (xs.set i 99) := (by rw [hw]; exact HP14.1)
             have hmv_ : ∀ k, w6.heap.size ≤ k → w15.heap[k]? = wr.heap[k]? := (fun k hk => by rw [hw]; exact Below.heap_setCell _ _ _ k (by show k ≠ go13; have := GL13.out; omega))
             have HO2 := Aside0.mk hp_
             have R32 : Aside0 (Kd.R k40 40 w15 w6.heap.size (fun _ => True) (.slice B3 z.ds.length d3) z.ds) := ⟨Kd.R_mono (Kd.R_move (Kd.R_bound R3.out) (fun k hk => hmv_ k hk.2.1)) (fun _ _ => trivial)⟩
             have R42 : Aside0 (Kd.R k44 44 w15 w6.heap.size (fun _ => True) (.slice B4 z.fs.length d4) z.fs) := ⟨Kd.R_mono (Kd.R_move (Kd.R_bound R4.out) (fun k hk => hmv_ k hk.2.1)) (fun _ _ => trivial)⟩
             have BY2 : Aside0 (w15.heap[g5]? = some (.cells #[Value.int .u64 z.l0, .int .u64 z.l1, .int .u64 z.l2, .slice B3 z.ds.length d3, .slice B4 z.fs.length d4] 27 (0, 0))) := ⟨(hmv_ g5 GY.out).trans BY.out⟩
             have HB2 : Aside0 (Below w.heap.size w w15) := ⟨by rw [hw]; exact below_set HB.out GN13.out⟩
             clear hw hp_ hmv_ HP14 hx13_0 hf13_0))
        go_roundg g1
        case measure => omega
        case rel => exact ⟨i + 1, xs.set i 99, by rw [HW.out], ⟨by have := HI.out.1; omega, HIB.out⟩, ⟨by rw [List.length_set]; exact HXL.out⟩, HO2, R32, R42, BY2, HB2⟩
      · have c1b : decide ((i : Int) < (b.length : Int)) = false := decide_eq_false (by omega)
        have c1c : decide (i < b.length) = false := decide_eq_false c
        clear c HI HXL HO HLT HNG
        go_upto_region 9 with (first
          | (go_at_call 15; (with_reducible refine (rdec_calls k A0 c0 b _ _ (Kd.C_below HR0.out HB.out) HC0.out HRD.out).mono ?_); (rintro ed w16 ⟨hb, v3, v4, hee, hr3, hr4⟩)
             rw [HZ.out, HEV.out] at hee
             rw [HZ.out] at hr3 hr4
             subst hee
             obtain ⟨C3, e3, ea3⟩ := Kd.R_slice hr3
             subst ea3
             obtain ⟨C4, e4, ea4⟩ := Kd.R_slice hr4
             subst ea4
             have Q37 := Aside0.mk hr3
             have Q47 := Aside0.mk hr4
             have R37 := Aside0.mk (Kd.R_below R3.out hb)
             have R47 := Aside0.mk (Kd.R_below R4.out hb)
             have BX16 := Aside0.mk (blk_below BY.out hb)
             have HB16 := Aside0.mk (below_step HB.out hb)
             clear hb hr3 hr4)
          | ((with_reducible refine gate_dst (N := 8) rfl ?_); refine box_event ?hg (N := 8) ?hd (cs := #[Value.int .u64 0, .int .u64 0, .int .u64 0, .slice none 0 0, .slice none 0 0]) (t := 27) ?hr ?_; (case hd => rfl); (case hg => rfl); (case hr => first | (go_simp; done) | (go_simp; rfl)); intro g8 hg w17 hbox hb
             have BY17 := Aside0.mk hbox
             have GY8 : Aside0 (w.heap.size ≤ g8) := ⟨by rw [hg]; exact below_size HB16.out⟩
             have GN8 : Aside0 (g5 ≠ g8) := ⟨by have := blk_lt BX16.out; omega⟩
             have BX17 := Aside0.mk (blk_below BX16.out hb)
             have R38 : Aside0 (Kd.R k40 40 w17 _ (fun k => k ≠ g8) (.slice B3 z.ds.length d3) z.ds) := ⟨Kd.R_below (Kd.R_mono (Kd.R_bound R37.out) (fun k hk => by have := hk.2.2.1; omega)) hb⟩
             have R48 : Aside0 (Kd.R k44 44 w17 _ (fun k => k ≠ g8) (.slice B4 z.fs.length d4) z.fs) := ⟨Kd.R_below (Kd.R_mono (Kd.R_bound R47.out) (fun k hk => by have := hk.2.2.1; omega)) hb⟩
             have Q38 : Aside0 (Kd.R k40 40 w17 _ (fun k => k ≠ g8) (.slice C3 z.ds.length e3) z.ds) := ⟨Kd.R_below (Kd.R_mono (Kd.R_bound Q37.out) (fun k hk => by have := hk.2.2.1; omega)) hb⟩
             have Q48 : Aside0 (Kd.R k44 44 w17 _ (fun k => k ≠ g8) (.slice C4 z.fs.length e4) z.fs) := ⟨Kd.R_below (Kd.R_mono (Kd.R_bound Q47.out) (fun k hk => by have := hk.2.2.1; omega)) hb⟩
             have HB17 := Aside0.mk (below_step HB16.out hb)
             have zc0 : w17.cell? ⟨g8, 0, none⟩ = some (Value.int .u64 0) := (blk_cell hbox 0).trans rfl
             have zf0 := blk_frozen hbox 0
             have zc1 : w17.cell? ⟨g8, 1, none⟩ = some (.int .u64 0) := (blk_cell hbox 1).trans rfl
             have zf1 := blk_frozen hbox 1
             have zc2 : w17.cell? ⟨g8, 2, none⟩ = some (.int .u64 0) := (blk_cell hbox 2).trans rfl
             have zf2 := blk_frozen hbox 2
             have zc3 : w17.cell? ⟨g8, 3, none⟩ = some (.slice none 0 0) := (blk_cell hbox 3).trans rfl
             have zf3 := blk_frozen hbox 3
             have zc4 : w17.cell? ⟨g8, 4, none⟩ = some (.slice none 0 0) := (blk_cell hbox 4).trans rfl
             have zf4 := blk_frozen hbox 4
             clear hg hbox hb))
        obtain ⟨W18, hW18⟩ : ∃ y, (((((w17.setCell ⟨g8, 0, none⟩ (Value.int .u64 z.l0)).setCell ⟨g8, 1, none⟩ (.int .u64 z.l1)).setCell ⟨g8, 2, none⟩ (.int .u64 z.l2)).setCell ⟨g8, 3, none⟩ (.slice C3 z.ds.length e3)).setCell ⟨g8, 4, none⟩ (.slice C4 z.fs.length e4)) = y := ⟨_, rfl⟩
        rw [hW18]
        have hmv : ∀ j, j ≠ g8 → W18.heap[j]? = w17.heap[j]? := fun j hj => by rw [← hW18]; exact (Below.heap_setCell _ _ _ j hj).trans ((Below.heap_setCell _ _ _ j hj).trans ((Below.heap_setCell _ _ _ j hj).trans ((Below.heap_setCell _ _ _ j hj).trans ((Below.heap_setCell _ _ _ j hj)))))
        have BY18 : W18.heap[g8]? = some (.cells #[Value.int .u64 z.l0, .int .u64 z.l1, .int .u64 z.l2, .slice C3 z.ds.length e3, .slice C4 z.fs.length e4] 27 (0, 0)) := by rw [← hW18]; exact blk_put (cs := #[Value.int .u64 z.l0, .int .u64 z.l1, .int .u64 z.l2, .slice C3 z.ds.length e3, .slice none 0 0]) (blk_put (cs := #[Value.int .u64 z.l0, .int .u64 z.l1, .int .u64 z.l2, .slice none 0 0, .slice none 0 0]) (blk_put (cs := #[Value.int .u64 z.l0, .int .u64 z.l1, .int .u64 0, .slice none 0 0, .slice none 0 0]) (blk_put (cs := #[Value.int .u64 z.l0, .int .u64 0, .int .u64 0, .slice none 0 0, .slice none 0 0]) (blk_put (cs := #[Value.int .u64 0, .int .u64 0, .int .u64 0, .slice none 0 0, .slice none 0 0]) (BY17.out) 0 _ rfl) 1 _ rfl) 2 _ rfl) 3 _ rfl) 4 _ rfl
        have BX18 : W18.heap[g5]? = some (.cells #[Value.int .u64 z.l0, .int .u64 z.l1, .int .u64 z.l2, .slice B3 z.ds.length d3, .slice B4 z.fs.length d4] 27 (0, 0)) := (hmv g5 GN8.out).trans BX17.out
        have HB18 : Aside0 (Below w.heap.size w W18) := ⟨by rw [← hW18]; exact below_set (below_set (below_set (below_set (below_set (HB17.out) GY8.out) GY8.out) GY8.out) GY8.out) GY8.out⟩
        have R39 := Aside0.mk (Kd.R_move R38.out hmv)
        have R49 := Aside0.mk (Kd.R_move R48.out hmv)
        have Q39 := Aside0.mk (Kd.R_move Q38.out hmv)
        have Q49 := Aside0.mk (Kd.R_move Q48.out hmv)
        clear hW18 hmv zc0 zf0 zc1 zf1 zc2 zf2 zc3 zf3 zc4 zf4 HB16 HB17 R37 R38 R47 R48 Q37 Q38 Q47 Q48 BX16 BX17 BY17
        have xc0 : W18.cell? ⟨g5, 0, none⟩ = some (Value.int .u64 z.l0) := (blk_cell BX18 0).trans rfl
        have xc1 : W18.cell? ⟨g5, 1, none⟩ = some (.int .u64 z.l1) := (blk_cell BX18 1).trans rfl
        have xc2 : W18.cell? ⟨g5, 2, none⟩ = some (.int .u64 z.l2) := (blk_cell BX18 2).trans rfl
        have xc3 : W18.cell? ⟨g5, 3, none⟩ = some (.slice B3 z.ds.length d3) := (blk_cell BX18 3).trans rfl
        have xc4 : W18.cell? ⟨g5, 4, none⟩ = some (.slice B4 z.fs.length d4) := (blk_cell BX18 4).trans rfl
        have yc0 : W18.cell? ⟨g8, 0, none⟩ = some (Value.int .u64 z.l0) := (blk_cell BY18 0).trans rfl
        have yc1 : W18.cell? ⟨g8, 1, none⟩ = some (.int .u64 z.l1) := (blk_cell BY18 1).trans rfl
        have yc2 : W18.cell? ⟨g8, 2, none⟩ = some (.int .u64 z.l2) := (blk_cell BY18 2).trans rfl
        have yc3 : W18.cell? ⟨g8, 3, none⟩ = some (.slice C3 z.ds.length e3) := (blk_cell BY18 3).trans rfl
        have yc4 : W18.cell? ⟨g8, 4, none⟩ = some (.slice C4 z.fs.length e4) := (blk_cell BY18 4).trans rfl
        clear BX18 BY18
        go_wp2_with (first
          | (go_at_call 11; (with_reducible refine (staddleref13_Same.calls k z.l0 z.l1 z.l2 B3 d3 z.ds B4 d4 z.fs z.l0 z.l1 z.l2 C3 e3 z.ds C4 e4 z.fs true _ (Kd.R_reads' R39.out).2.2 (Kd.R_reads' R39.out).2.1 (Kd.R_reads' R49.out).2.2 (Kd.R_reads' R49.out).2.1 (Kd.R_reads' Q39.out).2.2 (Kd.R_reads' Q39.out).2.1 (Kd.R_reads' Q49.out).2.2 (Kd.R_reads' Q49.out).2.1 HS.out).mono ?_); (rintro es w19 ⟨rfl, hb⟩)
             have HB19 := Aside0.mk (below_step HB18.out hb)
             clear hb))
        go_ret
        exact ⟨by first | rfl | simp, HB19.out⟩
end Go.Proofs.Ythkkbgehmiobaaa.E
namespace Go.Proofs.Ythkkbgehmiobaaa.P
open Go.RowKit Go.Proofs.YthkkbgehmiobaaaW.PrintWords
theorem staddlelaw13_EditReads.calls (k : Nat) (A0 : Option Addr) (c0 : Nat) (b : List Int) (r : Bool) (w : World) (hr0 : Kd.C (Kd.int .u8) w A0 b.length b) (hc0 : b.length ≤ c0) (hf : E.Reads k b ∧ true = r) :
    Calls Try.prog 5 #[.slice A0 b.length c0] w fun e w' => e = .returned (.bool r) ∧ Below w.heap.size w w' := by
  obtain ⟨hf, rfl⟩ := hf
  exact E.reads_calls k A0 c0 b w hr0 hc0 hf
end Go.Proofs.Ythkkbgehmiobaaa.P
