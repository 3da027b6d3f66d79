/- What SstableTurns wants. Plain Lean. -/
import Derived.Test.YthdemdjobgbpdaaQP
import Derived.Test.YthdemdjobgbpdaaTT
namespace Go.Proofs.Ythdemdjobgbpdaa.Q
open Go.RowKit Go.Proofs.YthdemdjobgbpdaaW.PrintWords Go.Proofs.YthdemdjobgbpdaaW.PrintLast Go.Proofs.YthdemdjobgbpdaaW.PrintMore Go.Proofs.Ythdemdjobgbpdaa.P Go.Proofs.Ythdemdjobgbpdaa.M Go.Proofs.Ythdemdjobgbpdaa.B Go.Proofs.Ythdemdjobgbpdaa.T
set_option linter.unusedVariables false
theorem xor_tab : ((List.range 256).all fun a => (List.range 8).all fun i => decide (0 ≤ Go.bits .xor .u8 ((a : Nat) : Int) (2 ^ i % 256)) && decide (Go.bits .xor .u8 ((a : Nat) : Int) (2 ^ i % 256) < 256) && decide (Go.bits .xor .u8 ((a : Nat) : Int) (2 ^ i % 256) ≠ ((a : Nat) : Int))) = true := by kernel_rfl
theorem xor_of (a : Int) (i : Nat) (h0 : 0 ≤ a) (h1 : a < 256) (hi : i < 8) : 0 ≤ Go.bits .xor .u8 a (2 ^ i % 256) ∧ Go.bits .xor .u8 a (2 ^ i % 256) < 256 ∧ Go.bits .xor .u8 a (2 ^ i % 256) ≠ a := by
  obtain ⟨n, rfl⟩ := Int.eq_ofNat_of_zero_le h0
  have h := List.all_eq_true.mp xor_tab n (List.mem_range.mpr (by omega))
  have h2 := List.all_eq_true.mp h i (List.mem_range.mpr hi)
  rw [Bool.and_eq_true, Bool.and_eq_true] at h2
  exact ⟨of_decide_eq_true h2.1.1, of_decide_eq_true h2.1.2, of_decide_eq_true h2.2⟩
theorem rd_pre (A B : List Int) (i : Nat) : rd (A ++ B) ((A.length + i : Nat) : Int) = rd B (i : Int) := by
  simp only [rd, Int.toNat_natCast, List.getD_eq_getElem?_getD]
  rw [List.getElem?_append_right (by omega), Nat.add_sub_cancel_left]
theorem fx4 (o : Nat) (R : List Int) : fx 4 o ++ R = ((o % 256 : Nat) : Int) :: ((o / 256 % 256 : Nat) : Int) :: ((o / 256 / 256 % 256 : Nat) : Int) :: ((o / 256 / 256 / 256 % 256 : Nat) : Int) :: R := by
  rw [fx_succ, fx_succ, fx_succ, fx_succ]
  rfl
theorem foot_at {l : List S47} {iv : Nat} {ss : List (List S47)} {fl : List Int} (h : TabOf l iv ss fl) : FootAt (tabB iv ss fl l.length) (endB iv ss fl) (outB iv ss).length ((outB iv ss).length % 256) ((outB iv ss).length / 256 % 256) ((outB iv ss).length / 256 / 256 % 256) ((outB iv ss).length / 256 / 256 / 256 % 256) := by
  obtain ⟨A, hA, hAl⟩ := tab_split iv ss fl l.length
  have hol := h.out_len
  have hil := h.ix_len
  have hfl := h.fil.len
  have ho : 1 ≤ (outB iv ss).length := by
    cases hss : ss with
    | nil => exact absurd (by rw [← h.seg.fl, hss]; rfl) h.ne
    | cons s t => rw [outB_cons]; simp only [List.length_append, sm_length]; omega
  have e0 : footB (outB iv ss).length fl.length (ixB iv ss).length l.length = ((((outB iv ss).length % 256 : Nat) : Int) :: (((outB iv ss).length / 256 % 256 : Nat) : Int) :: (((outB iv ss).length / 256 / 256 % 256 : Nat) : Int) :: (((outB iv ss).length / 256 / 256 / 256 % 256 : Nat) : Int) :: _) := fx4 _ _
  have r : ∀ i : Nat, rd (tabB iv ss fl l.length) ((endB iv ss fl + i : Nat) : Int) = rd (footB (outB iv ss).length fl.length (ixB iv ss).length l.length) (i : Int) := fun i => by rw [hA, ← hAl]; exact rd_pre _ _ i
  refine ⟨by rw [hA, List.length_append, footB_len, hAl], ho, by unfold endB; omega, by unfold endB; omega, ?_, ?_, ?_, ?_, by omega, by omega, by omega, by omega, by omega⟩
  · have := r 0
    rw [e0] at this
    exact this
  · rw [r 1, e0]; rfl
  · rw [r 2, e0]; rfl
  · rw [r 3, e0]; rfl
theorem turn_lt (at_ : Int) (o : Nat) (h : 1 ≤ o) : turnAt at_ o < 8 * o := by
  unfold turnAt
  have h1 := Int.emod_lt_of_pos (if at_ < 0 then -(at_ + 1) else at_) (show 0 < 8 * (o : Int) by omega)
  have h2 := Int.emod_nonneg (if at_ < 0 then -(at_ + 1) else at_) (show 8 * (o : Int) ≠ 0 by omega)
  omega
theorem turns_ev (l : List S47) (blk iv : Int) (fb : Nat) (at_ : Int) (user : ByteArray) (seq : Int) (hw : ∀ e ∈ l, 0 ≤ e.f0.f1) (hs : ∀ e ∈ l, e.f0.f0.size ≤ 9223372036854775807) (hu : user.size ≤ 9223372036854775807) (hat : -9223372036854775808 ≤ at_ ∧ at_ < 9223372036854775808) : ∃ k, Turns k l blk iv fb at_ user seq := by
  have hl := cut3h_len l
  have hq : ∀ e ∈ cut3h l, 0 ≤ e.f0.f1 := fun e he => hw e (cut3h_mem he)
  have hz : ∀ e ∈ cut3h l, e.f0.f0.size ≤ 9223372036854775807 := fun e he => hs e (cut3h_mem he)
  obtain ⟨r, ⟨K0, h0⟩, hr⟩ := tab_ev (cut3h l) blk iv fb hl hq hz
  rcases hr with hr | ⟨n, ss, fl, _, T, rfl⟩
  · exact ⟨K0, r, h0 _ (Nat.le_refl _), hat, .inl hr⟩
  · have F := foot_at T
    have hm := turn_lt at_ (outB n ss).length F.o1
    obtain ⟨m, hmm⟩ : ∃ m, turnAt at_ (outB n ss).length = m := ⟨_, rfl⟩
    rw [hmm] at hm
    have hp : m / 8 < (outB n ss).length := by omega
    have hrd : rd (tabB n ss fl (cut3h l).length) ((m / 8 : Nat) : Int) = (outB n ss)[m / 8] := by
      simp only [rd, Int.toNat_natCast, List.getD_eq_getElem?_getD, tabB]
      rw [List.getElem?_append_left hp, List.getElem?_eq_getElem hp, Option.getD_some]
    have hin := T.out_IsB (outB n ss)[m / 8] (List.getElem_mem _)
    obtain ⟨c0, c1, c2⟩ := xor_of (outB n ss)[m / 8] (m % 8) hin.1 hin.2 (by omega)
    obtain ⟨c, hc⟩ : ∃ c, Go.bits .xor .u8 (outB n ss)[m / 8] (2 ^ (m % 8) % 256) = c := ⟨_, rfl⟩
    rw [hc] at c0 c1 c2
    have hT : turnB (tabB n ss fl (cut3h l).length) m = tabO ((outB n ss).set (m / 8) c) n ss fl (cut3h l).length := by
      unfold turnB
      rw [hrd, hc]
      unfold tabB tabO
      rw [List.set_append_left _ _ hp, List.length_set]
    obtain ⟨ok, R1, R2⟩ := turn_reads T (m / 8) hp c c0 c1 c2
    obtain ⟨K1, h1⟩ := open_tabO T ((outB n ss).set (m / 8) c) (set_IsB T.out_IsB _ c0 c1) (List.length_set ..)
    obtain ⟨K2, h2⟩ := alltO_ev T R1 R2 ((cut3h l).length : Int)
    obtain ⟨v, ⟨K3, h3⟩, hv⟩ := getO_ev T R1 user seq hu
    obtain ⟨K4, h4⟩ := refGet_ev user seq (cut3h l) (by omega) T.ck0
    refine ⟨K0 + K1 + K2 + K3 + K4, _, h0 _ (by omega), hat, .inr ⟨rfl, _, _, _, _, _, _, F, ⟨fl, plsOf 0 (ss.map (cutOf n)), ?_⟩, h4 _ (by omega)⟩⟩
    rw [hmm, hT]
    exact ⟨⟨_, _, _, _, _, _, _, _, _, h1 _ (by omega), rfl⟩, h2 _ (by omega), v, h3 _ (by omega), hv⟩
end Go.Proofs.Ythdemdjobgbpdaa.Q
namespace Go.Proofs.Ythdemdjobgbpdaa.P
open Go.RowKit Go.Proofs.YthdemdjobgbpdaaW.PrintWords
theorem staddlelaw12_SstableTurns.calls (k : Nat) (A0 : Option Addr) (c0 : Nat) (l0 : List S47) (a1_0 a1_1 : Int) (a1_2 : Nat) (a2 : Int) (a3 : ByteArray) (a4 : Int) (r : Bool) (w : World) (hr0 : Kd.C k47 w A0 l0.length l0) (hc0 : l0.length ≤ c0) (hf : T.Turns k l0 a1_0 a1_1 a1_2 a2 a3 a4 ∧ true = r) :
    Calls Try.prog 6 #[.slice A0 l0.length c0, .agg #[.int .i64 a1_0, .int .i64 a1_1, .float .f64 a1_2], .int .i64 a2, .string a3, .int .u64 a4] w fun e w' => e = .returned (.bool r) ∧ Below w.heap.size w w' := by
  obtain ⟨hf, rfl⟩ := hf
  exact T.turns_calls k A0 c0 l0 a1_0 a1_1 a1_2 a2 a3 a4 w hr0 hc0 hf
end Go.Proofs.Ythdemdjobgbpdaa.P
