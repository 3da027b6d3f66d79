/- sstable's part: a part's bytes, and whether its sum is its own. -/
import Derived.Test.YthdemdjobgbpdaaP2
import Derived.Test.YthdemdjobgbpdaaP10
import Derived.Test.YthdemdjobgbpdaaP9
import Derived.Test.YthdemdjobgbpdaaP11
import Derived.Test.YthdemdjobgbpdaaBQ
import Derived.Test.YthdemdjobgbpdaaTB
namespace Go.Proofs.Ythdemdjobgbpdaa.T
open Go.RowKit Go.Shelf Go.Proofs.YthdemdjobgbpdaaW.PrintWords Go.Proofs.YthdemdjobgbpdaaW.PrintLast Go.Proofs.YthdemdjobgbpdaaW.PrintMore Go.Proofs.Ythdemdjobgbpdaa.P
set_option linter.unusedVariables false
theorem cut3 (A : Option Addr) (c : Nat) (l : List Int) (lo hi : Nat) (h1 : lo ≤ hi) (h2 : hi ≤ l.length) (hc : l.length ≤ c) :
    ∃ A' : Option Addr, (∀ W : World, (Instr.slice 27 (.slice A l.length c) (some (.int .i64 (lo : Int))) (some (.int .i64 (hi : Int))) (some (.int .i64 (hi : Int)))).run Try.prog W = .ok (.slice A' ((l.take hi).drop lo).length ((l.take hi).drop lo).length) W) ∧
      (∀ W : World, Kd.C (Kd.int .u8) W A l.length l → Kd.C (Kd.int .u8) W A' ((l.take hi).drop lo).length ((l.take hi).drop lo)) := by
  obtain ⟨i5, hi5, _, hs5, _⟩ := info_parts info5
  have hel : Try.prog.elem 27 = 5 := by simp [Program.elem, Try.underlying27]
  have hu : Try.prog.underlying 27 = some (.slice (Try.prog.elem 27)) := by rw [hel]; exact Try.underlying27
  have hl : ((l.take hi).drop lo).length = hi - lo := by simp; omega
  refine ⟨if hi = lo then A else A.map (·.add lo), fun W => ?_, fun W hC => ?_⟩
  · rw [run_slice_lhm W 27 A l.length c hu .i64 .i64 .i64 (lo : Int) (hi : Int) (hi : Int) (by omega) (by omega) (by omega) (by omega), hel, hl]
    simp [sizeOf, typeInfo, hi5, hs5, sliced, Result.andThen]
  · by_cases he : hi = lo
    · rw [if_pos he]
      have e0 : (l.take hi).drop lo = l.take 0 := by rw [he]; simp
      rw [e0]
      exact Kd.C_take hC (by omega)
    · rw [if_neg he]
      have := Kd.C_mid hC h1 h2 hc (c := c)
      have hcl : c ≠ lo := by omega
      rw [if_neg hcl] at this
      simpa [Kd.int, Kd.scalar] using this
def part_f (k : Nat) (l : List Int) (a s : Nat) : Option (List Int × Bool) :=
  if a + s ≤ l.length ∧ l.length < 1000000000000 then (codec_Fixed.f k (l.drop (a + s)) 4).bind fun x => (codec_Crc.f ((l.take (a + s)).drop a)).bind fun c => (codec_Mask.f c).bind fun m => some ((l.take (a + s)).drop a, x.1 == IntKind.u64.wrap m) else none
theorem tp_w (a s : Nat) (h : a + s < 1000000000000) : wrap64 ((a : Int) + (s : Int)) = ((a + s : Nat) : Int) := by unfold wrap64; omega
set_option maxRecDepth 100000 in
set_option maxHeartbeats 4000000 in
theorem part_calls (k : Nat) (A : Option Addr) (c : Nat) (l : List Int) (a s : Nat) (r : List Int × Bool) (w : World) (hC : Kd.C (Kd.int .u8) w A l.length l) (hc : l.length ≤ c) (hf : part_f k l a s = some r) :
    Calls Try.prog 32 #[.slice A l.length c, .int .i64 (a : Int), .int .i64 (s : Int)] w fun e w' => ∃ A', e = .returned (.tuple #[.slice A' r.1.length r.1.length, .bool r.2]) ∧ (∀ W : World, Kd.C (Kd.int .u8) W A l.length l → Kd.C (Kd.int .u8) W A' r.1.length r.1) ∧ Below w.heap.size w w' := by
  unfold part_f at hf
  split at hf
  case isFalse => cases hf
  rename_i hb
  obtain ⟨z, hz⟩ : ∃ z, a + s = z := ⟨_, rfl⟩
  have hw : wrap64 ((a : Int) + (s : Int)) = (z : Int) := by rw [← hz]; exact tp_w a s (by omega)
  rw [hz] at hb hf
  have hza : a ≤ z := by clear hw; omega
  clear hz
  obtain ⟨⟨x, kx⟩, hx, hf⟩ := Option.bind_eq_some_iff.mp hf
  obtain ⟨cr, hcr, hf⟩ := Option.bind_eq_some_iff.mp hf
  obtain ⟨m, hm, hf⟩ := Option.bind_eq_some_iff.mp hf
  injection hf with hf
  subst hf
  obtain ⟨i5, hi5, _, hs5, _⟩ := info_parts info5
  obtain ⟨A2, hcut, hrd, hcp⟩ := print_drop_of (P := Try.prog) (Value.int .u8) (0 : Int) 27 5 .i64 Try.underlying27 hi5 hs5 A c l (z : Int) (by clear hw; omega) (by clear hw; omega) hc
  obtain ⟨A3, hcut3, hrd3⟩ := cut3 A c l a z hza hb.1 hc
  rw [Int.toNat_natCast] at hcut hrd hcp
  have HR2 := Aside0.mk (show ∀ W : World, Kd.C (Kd.int .u8) W A l.length l → Kd.C (Kd.int .u8) W A2 (l.drop z).length (l.drop z) from fun W hW => Kd.C_of_reads (h1 := fun _ => rfl) (hrd W (Kd.reads_of_C hW)))
  have HR3 := Aside0.mk hrd3
  have HC2 := Aside0.mk hcp
  have HR := Aside0.mk hC
  have HX := Aside0.mk hx
  have HCR := Aside0.mk hcr
  have HM := Aside0.mk hm
  obtain ⟨D, hD⟩ : ∃ x, l.drop z = x := ⟨_, rfl⟩
  obtain ⟨M, hM⟩ : ∃ x, (l.take z).drop a = x := ⟨_, rfl⟩
  rw [hD] at HR2 HC2 hcut HX
  rw [hM] at HR3 hcut3 HCR ⊢
  clear hC hc hrd hrd3 hcp hx hcr hm hb hD hM hza
  go_enter Try.func32, Try.ntmps32
  go_wp2_with (first
    | (go_at_call 31; with_reducible refine (codec_Fixed.calls k A2 _ D 4 x kx _ (HR2.out _ HR.out) HC2.out HX.out).mono ?_; rintro ex w2 ⟨rfl, ⟨nd, rfl⟩⟩; have HB := Aside0.mk (pw_below_drewN (Below.refl w.heap.size w) nd))
    | (go_at_call 48; with_reducible refine (codec_Crc.calls A3 _ M cr _ (HR3.out _ (Kd.C_below HR.out HB.out)) (Nat.le_refl _) HCR.out).mono ?_; rintro ex w3 ⟨rfl, hb⟩; have HB2 := Aside0.mk (below_step HB.out hb); clear hb)
    | (go_at_call 47; with_reducible refine (codec_Mask.calls cr m _ HM.out).mono ?_; rintro ex w4 ⟨rfl, ⟨nd2, rfl⟩⟩; have HB3 := Aside0.mk (pw_below_drewN HB2.out nd2)))
  go_ret2
  refine ⟨A3, ?_, HR3.out, HB3.out⟩
  first | rfl | simp
end Go.Proofs.Ythdemdjobgbpdaa.T
