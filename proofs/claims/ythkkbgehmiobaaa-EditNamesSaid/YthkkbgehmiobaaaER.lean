/- edit's reader: what num and key come to, with all endings. -/
import Derived.Test.YthkkbgehmiobaaaEE
import Derived.Test.YthkkbgehmiobaaaP11
import Derived.Test.YthkkbgehmiobaaaP12
import Derived.Recover
import Derived.Defers
namespace Go.Proofs.Ythkkbgehmiobaaa.E
open Go.RowKit Go.Proofs.YthkkbgehmiobaaaW.PrintWords Go.Proofs.YthkkbgehmiobaaaW.PrintLast Go.Proofs.YthkkbgehmiobaaaW.PrintMore Go.Proofs.Ythkkbgehmiobaaa.P
set_option linter.unusedVariables false
set_option linter.unusedSimpArgs false
/-! ### what stays: all but the reader's cell -/
def Stays (gr : Nat) (a c : World) : Prop := a.heap.size ≤ c.heap.size ∧ ∀ k, k < a.heap.size → k ≠ gr → c.heap[k]? = a.heap[k]?
theorem Stays.refl (gr : Nat) (a : World) : Stays gr a a := ⟨Nat.le_refl _, fun _ _ _ => rfl⟩
theorem Stays.trans {gr : Nat} {a b c : World} (h : Stays gr a b) (h2 : Stays gr b c) : Stays gr a c := ⟨Nat.le_trans h.1 h2.1, fun k h3 h4 => (h2.2 k (Nat.lt_of_lt_of_le h3 h.1) h4).trans (h.2 k h3 h4)⟩
theorem Stays.below {gr : Nat} {a b c : World} (h : Stays gr a b) (hb : Below b.heap.size b c) : Stays gr a c :=
  h.trans ⟨hb.size, fun k h3 _ => hb.block k h3⟩
theorem Stays.put {gr : Nat} {a b : World} (h : Stays gr a b) (u : Value) : Stays gr a (b.setCell ⟨gr, 0, none⟩ u) :=
  h.trans ⟨(Below.setCell (p := ⟨gr, 0, none⟩) (Below.refl 0 b) (Nat.zero_le _) u).size, fun k h3 h4 => Below.heap_setCell b ⟨gr, 0, none⟩ u k h4⟩
structure Rd (w0 : World) (gr : Nat) (D : List Int) (wx : World) : Prop where
  blk : ∃ A c, wx.heap[gr]? = some (.cells #[.slice A D.length c] 59 (0, 0)) ∧ Kd.C (Kd.int .u8) w0 A D.length D ∧ D.length ≤ c
  ge : w0.heap.size ≤ gr
  bel : Below w0.heap.size w0 wx
theorem Rd.below {w0 a c : World} {gr : Nat} {D : List Int} (h : Rd w0 gr D a) (hb : Below a.heap.size a c) : Rd w0 gr D c := by
  obtain ⟨A, cc, h1, h2, h3⟩ := h.blk
  exact ⟨⟨A, cc, blk_below h1 hb, h2, h3⟩, h.ge, below_step h.bel hb⟩
def num_g (k : Nat) (D : List Int) (most : Int) : Option (Option (Int × List Int)) := (codec_Uvarint.f k D).bind fun u => if u.2.2 = 0 ∧ 0 ≤ u.1 ∧ u.1 ≤ most ∧ 0 ≤ u.2.1 ∧ u.2.1 ≤ (D.length : Int) then some (some (u.1, D.drop u.2.1.toNat)) else if u.2.2 ≠ 0 ∨ most < u.1 then some none else none
def key_g (k : Nat) (D : List Int) : Option (Option (S42 × List Int)) := (codec_Text.f k D).bind fun u => if u.2.2 = 0 then if u.1.size ≤ 9223372036854775807 ∧ 0 ≤ u.2.1 ∧ u.2.1 ≤ (D.length : Int) then (ikey_Decode.f k (bytesOf u.1)).bind fun y => if y.2.2.2 = 0 then some (some (⟨y.1, y.2.1, y.2.2.1⟩, D.drop u.2.1.toNat)) else some none else none else some none
def NumEnd (w0 : World) (gr : Nat) (w : World) (r : Option (Int × List Int)) (e : Ending) (w' : World) : Prop := match r with
  | some x => e = .returned (.int .u64 x.1) ∧ Rd w0 gr x.2 w' ∧ Stays gr w w'
  | none => e = .panicked [{ v := .iface 55 (.agg #[]), recovered := false }] ∧ Below w0.heap.size w0 w' ∧ Stays gr w w'
def KeyEnd (w0 : World) (gr : Nat) (w : World) (r : Option (S42 × List Int)) (e : Ending) (w' : World) : Prop := match r with
  | some x => e = .returned (.agg #[.string x.1.f0, .int .u64 x.1.f1, .int .i64 x.1.f2]) ∧ Rd w0 gr x.2 w' ∧ Stays gr w w'
  | none => e = .panicked [{ v := .iface 55 (.agg #[]), recovered := false }] ∧ Below w0.heap.size w0 w' ∧ Stays gr w w'
set_option maxHeartbeats 2000000 in
set_option maxRecDepth 100000 in
theorem num_calls (k : Nat) (gr : Nat) (D : List Int) (most : Int) (r : Option (Int × List Int)) (w0 w : World) (hs : Rd w0 gr D w) (hq : num_g k D most = some r) :
    Calls Try.prog 29 #[.pointer (some ⟨gr, 0, none⟩), .int .u64 most] w fun e w' => NumEnd w0 gr w r e w' := by
  obtain ⟨A, c, hblk, hC, hc⟩ := hs.blk
  unfold num_g at hq
  obtain ⟨⟨n, kk, er⟩, hu, hq⟩ := Option.bind_eq_some_iff.mp hq
  dsimp only at hq
  have HS := Aside0.mk hs
  have BK := Aside0.mk hblk
  have hg : w.cell? ⟨gr, 0, none⟩ = some (.slice A D.length c) := (blk_cell hblk 0).trans rfl
  have hf := blk_frozen hblk 0
  have HR0 := Aside0.mk hC
  have HC0 := Aside0.mk hc
  have HQ := Aside0.mk hu
  clear hs hblk hC hc hu
  split at hq
  · rename_i hcond
    obtain ⟨rfl, hn0, hn, hk⟩ := hcond
    injection hq with hq
    subst hq
    obtain ⟨i5, hi5, _, hs5, _⟩ := info_parts info5
    obtain ⟨A2, hcut, hrd, hcp⟩ := print_drop_of (P := Try.prog) (Value.int .u8) (0 : Int) 28 5 .i64 Try.underlying28 hi5 hs5 A c D kk hk.1 hk.2 HC0.out
    have HR2 := Aside0.mk (show ∀ W : World, Kd.C (Kd.int .u8) W A D.length D → Kd.C (Kd.int .u8) W A2 (D.drop kk.toNat).length (D.drop kk.toNat) from fun W hW => Kd.C_of_reads (h1 := fun _ => rfl) (hrd W (Kd.reads_of_C hW)))
    have HC2 := Aside0.mk hcp
    obtain ⟨E, hE⟩ : ∃ x, D.drop kk.toNat = x := ⟨_, rfl⟩
    rw [hE] at HR2 HC2 hcut ⊢
    have hnm : decide (most < n) = false := decide_eq_false (by omega)
    clear hrd hcp hE hk hn hn0
    go_enter Try.func29, Try.ntmps29
    go_wp2_with (first
      | (go_at_call 42; with_reducible refine (codec_Uvarint.calls k A _ D n kk 0 _ (Kd.C_below HR0.out HS.out.bel) HC0.out HQ.out).mono ?_; rintro ex w2 ⟨rfl, ⟨nd, rfl⟩⟩))
    go_ret
    have B2 := blk_put (cs := #[.slice A D.length c]) (blk_drewN BK.out nd) 0 (.slice A2 E.length (c - kk.toNat)) rfl
    exact ⟨by first | rfl | simp, ⟨⟨A2, _, B2, HR2.out _ HR0.out, HC2.out⟩, HS.out.ge, below_set (pw_below_drewN HS.out.bel nd) HS.out.ge⟩, ((Stays.refl gr w).below (pw_below_drewN (Below.refl _ _) nd)).put _⟩
  · split at hq
    case isFalse => cases hq
    rename_i hb
    injection hq with hq
    subst hq
    go_enter Try.func29, Try.ntmps29
    by_cases h0 : er = 0
    · subst h0
      have h1 : most < n := hb.resolve_left (by simp)
      have hnm : decide (most < n) = true := decide_eq_true h1
      clear hb h1
      go_wp2_with (first
        | (go_at_call 42; with_reducible refine (codec_Uvarint.calls k A _ D n kk 0 _ (Kd.C_below HR0.out HS.out.bel) HC0.out HQ.out).mono ?_; rintro ex w2 ⟨rfl, ⟨nd, rfl⟩⟩))
      exact ⟨rfl, rfl, pw_below_drewN HS.out.bel nd, (Stays.refl gr w).below (pw_below_drewN (Below.refl _ _) nd)⟩
    · have h0b : (er == 0) = false := beq_eq_false_iff_ne.mpr h0
      have h0c : (er != 0) = true := bne_iff_ne.mpr h0
      clear hb
      go_wp2_with (first
        | (go_at_call 42; with_reducible refine (codec_Uvarint.calls k A _ D n kk er _ (Kd.C_below HR0.out HS.out.bel) HC0.out HQ.out).mono ?_; rintro ex w2 ⟨rfl, ⟨nd, rfl⟩⟩))
      exact ⟨rfl, rfl, pw_below_drewN HS.out.bel nd, (Stays.refl gr w).below (pw_below_drewN (Below.refl _ _) nd)⟩
end Go.Proofs.Ythkkbgehmiobaaa.E
