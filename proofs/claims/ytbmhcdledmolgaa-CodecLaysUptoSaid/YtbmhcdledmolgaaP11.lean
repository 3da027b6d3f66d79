-- By this session's wip/hprint.py: the kit's print.py with functions by hand beside it. Not trusted: Lean checks it.
import Derived.Test.YtbmhcdledmolgaaP0
import Derived.Test.YtbmhcdledmolgaaP9
namespace Go.Proofs.Ytbmhcdledmolgaa.P
open Go.RowKit Go.Proofs.YtbmhcdledmolgaaW.PrintWords Go.Proofs.YtbmhcdledmolgaaW.PrintLast Go.Proofs.YtbmhcdledmolgaaW.PrintMore
attribute [local go_sem] max2_int min2_int max_two min_two max_three min_three max_four min_four   -- for this text's walks alone
set_option linter.unusedVariables false
set_option linter.unusedSimpArgs false

/-! ### staddlelaw01_held: function 22 -/
/-- only told of a row that 'lent' made, at bytes as long -/
def staddlelaw01_held.f (k : Nat) (l0 : List Int) (l1 : List Int) : Option (Bool) := if l0.length = l1.length ∧ 15 ≤ k ∧ l1.length ≤ 1048576 then some ((strOfNums l0).toList == (strOfNums l1).toList) else none
theorem staddlelaw01_held.mono : ∀ a0 a1 k, LeO (staddlelaw01_held.f k a0 a1) (staddlelaw01_held.f (k + 1) a0 a1) := by
  intro a0 a1 k r h
  unfold staddlelaw01_held.f at h ⊢
  split at h
  · rename_i hc
    rw [if_pos ⟨hc.1, by omega, hc.2.2⟩]
    exact h
  · cases h
theorem sevs_rd (l : List Int) (i : Nat) (h : i < 12) : rd (l ++ sevs) ((l.length + i : Nat) : Int) = 77 := by
  unfold rd
  rw [Int.toNat_natCast, List.getD_eq_getElem?_getD, List.getElem?_append_right (by omega), show l.length + i - l.length = i by omega]
  match i, h with
  | 0, _ => rfl
  | 1, _ => rfl
  | 2, _ => rfl
  | 3, _ => rfl
  | 4, _ => rfl
  | 5, _ => rfl
  | 6, _ => rfl
  | 7, _ => rfl
  | 8, _ => rfl
  | 9, _ => rfl
  | 10, _ => rfl
  | 11, _ => rfl
set_option maxHeartbeats 8000000 in
set_option maxRecDepth 100000 in
theorem staddlelaw01_held.calls (k : Nat) (A0 : Option Addr) (c0 : Nat) (l0 : List Int) (A1 : Option Addr) (c1 : Nat) (l1 : List Int) (r : Bool) (w : World) (hx0 : lentX w (.slice A0 l0.length c0) l0) (hc0 : l0.length ≤ c0) (hr1 : Kd.C (Kd.int .u8) w A1 l1.length l1) (hc1 : l1.length ≤ c1) (h : staddlelaw01_held.f k l0 l1 = some r) :
    Calls Try.prog 22 #[.slice A0 l0.length c0, .slice A1 l1.length c1] w fun e w' => e = .returned (.bool r) ∧ Drawn0 w w' := by
  unfold staddlelaw01_held.f at h
  split at h
  case isFalse => cases h
  rename_i hlk
  obtain ⟨hl, hk15, hsm⟩ := hlk
  obtain ⟨A, c, b, ok, he, hcap, hR⟩ := hx0
  simp only [Value.slice.injEq] at he
  obtain ⟨rfl, _, rfl⟩ := he
  obtain rfl := Option.some.inj h
  clear h
  have hC := (Kd.R_reads' hR).2.2
  have hC0 : Kd.C (Kd.int .u8) w A0 l0.length l0 := by
    have := Kd.C_take hC (m := l0.length) (by rw [List.length_append]; omega)
    rwa [List.take_left' rfl] at this
  obtain ⟨L, hL⟩ : ∃ L, L = l0 ++ sevs := ⟨_, rfl⟩
  have hlen : L.length = l0.length + 12 := by rw [hL, List.length_append]; rfl
  have hrd : ∀ i : Nat, i < 12 → rd L ((l1.length + i : Nat) : Int) = 77 := fun i hi => by rw [hL, ← hl]; exact sevs_rd l0 i hi
  rw [← hL] at hC
  have w1 : wrap64 ((l1.length : Int) + 12) = (L.length : Int) := by rw [hlen, hl]; unfold wrap64; omega
  have w1' : IntKind.i64.wrap ((l1.length : Int) + 12) = (L.length : Int) := (i64_w _).trans w1
  have b1 : ((L.length : Int) ≤ (c0 : Int)) = True := eq_true (by rw [hlen]; omega)
  have b0 : (0 ≤ (L.length : Int)) = True := eq_true (by omega)
  have b2 : decide ((L.length : Int) ≤ (c0 : Int)) = true := decide_eq_true (by rw [hlen]; omega)
  have hlc : L.length ≤ c0 := by omega
  have HC := Aside0.mk hC
  have HR0 := Aside0.mk hC0
  have HR1 := Aside0.mk hr1
  have HC1 := Aside0.mk hc1
  have HL := Aside0.mk (And.intro hl (And.intro hlen hsm))
  have HD := Aside0.mk hrd
  clear hR hC hC0 hr1 hc1 hlen hl hsm hL hrd hk15
  go_enter Try.func22, Try.ntmps22
  go_wp2
  go_loopg [6] 12 (fun kq v6 w' => ∃ i : Nat, v6 = .int .i64 (i : Int) ∧ Aside0 (i + kq = 12) ∧ Drawn0 w w')
  case atStart => exact ⟨0, rfl, ⟨rfl⟩, Drawn0.refl _⟩
  case round =>
    obtain ⟨i, rfl, HI, ⟨m1, rfl⟩⟩ := hrel
    cases gk with
    | zero =>
      obtain ⟨hi⟩ := HI
      have c7b0 : decide ((i : Int) < 12) = false := decide_eq_false (by omega)
      clear hi
      have hcv12 := Kd.C_string (P := Try.prog) (A := A0) (c := c0) Try.underlying23 Try.underlying5 Try.underlying9 HR0.out
      have hcd12 := fun (n_ : Nat) => Kd.C_string (P := Try.prog) (A := A0) (c := c0) Try.underlying23 Try.underlying5 Try.underlying9 (Kd.C_drewN (HR0.out) n_)
      have hcv13 := Kd.C_string (P := Try.prog) (A := A1) (c := c1) Try.underlying23 Try.underlying5 Try.underlying9 HR1.out
      have hcd13 := fun (n_ : Nat) => Kd.C_string (P := Try.prog) (A := A1) (c := c1) Try.underlying23 Try.underlying5 Try.underlying9 (Kd.C_drewN (HR1.out) n_)
      go_wp2
      go_ret
      exact ⟨by first | rfl | (simp; done) | (simp [*]; done), by repeat (first | exact Drawn0.refl _ | apply Drawn0.step)⟩
    | succ k1 =>
      have c7b0 : decide ((i : Int) < 12) = true := decide_eq_true (by have := HI.out; omega)
      have e9 := HD.out i (by have := HI.out; omega)
      have hw9 : wrap64 ((l1.length : Int) + (i : Int)) = ((l1.length + i : Nat) : Int) := by have := HL.out; have := HI.out; unfold wrap64; omega
      obtain ⟨j, hj⟩ : ∃ j : Int, j = ((l1.length + i : Nat) : Int) := ⟨_, rfl⟩
      rw [← hj] at e9 hw9
      have hw9' : IntKind.i64.wrap ((l1.length : Int) + (i : Int)) = j := (i64_w _).trans hw9
      have p222 : 0 ≤ j := by omega
      have q222 : j < (L.length : Int) := by have := HL.out; have := HI.out; omega
      obtain ⟨ad222, e222, hx222_0⟩ := Kd.at_int HC.out j p222 q222
      cases e222
      rw [e9] at hx222_0
      have p222b := decide_eq_true p222
      have q222b := decide_eq_true q222
      replace p222 := eq_true p222
      replace q222 := eq_true q222
      clear hj
      have e1 : wrap64 ((i : Int) + 1) = ((i + 1 : Nat) : Int) := by have := HI.out; unfold wrap64; omega
      have e1' : IntKind.i64.wrap ((i : Int) + 1) = ((i + 1 : Nat) : Int) := (i64_w _).trans e1
      go_wp2
      go_roundg k1
      case measure => omega
      case rel => exact ⟨i + 1, (by first | rfl | (simp; done) | (simp [*]; done) | (simp; omega)), ⟨by have := HI.out; omega⟩, by repeat (first | exact Drawn0.refl _ | apply Drawn0.step)⟩

end Go.Proofs.Ytbmhcdledmolgaa.P
