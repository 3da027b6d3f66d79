-- By this session's wip/hprint.py: the kit's print.py with functions by hand beside it. Not trusted: Lean checks it.
import Derived.Test.YthdemdjobgbpdaaP0
namespace Go.Proofs.Ythdemdjobgbpdaa.P
open Go.RowKit Go.Proofs.YthdemdjobgbpdaaW.PrintWords Go.Proofs.YthdemdjobgbpdaaW.PrintLast Go.Proofs.YthdemdjobgbpdaaW.PrintMore
attribute [local go_sem] max2_int min2_int max_two min_two max_three min_three max_four min_four   -- for this text's walks alone
set_option linter.unusedVariables false
set_option linter.unusedSimpArgs false

/-! ### codec_Crc: function 48 -/
/-- one step of the table -/
def crcStep (n : Int) : Int := if Go.bits .and .u32 n 1 = 1 then Go.bits .xor .u32 (n / 2) 2197175160 else n / 2
def crcSteps : Nat → Int → Int
  | 0, n => n
  | k + 1, n => crcSteps k (crcStep n)
theorem crcSteps_succ (k : Nat) (n : Int) : crcSteps (k + 1) n = crcStep (crcSteps k n) := by
  induction k generalizing n with
  | zero => rfl
  | succ k ih => rw [crcSteps, ih]; rfl
def crcEntry (i : Nat) : Int := crcSteps 8 (i : Int)
def crcCells (k : Nat) : Array Value := Array.ofFn (n := 256) fun i => .int .u32 (if i.val < k then crcEntry i.val else 0)
theorem crcCells_size (k : Nat) : (crcCells k).size = 256 := by simp [crcCells]
theorem crcCells_zero : crcCells 0 = Array.replicate 256 (.int .u32 0) := by
  apply Array.ext
  · simp [crcCells]
  · intro i h1 h2; simp [crcCells]
theorem crcCells_set (k : Nat) (h : k < 256) : (crcCells k).setIfInBounds k (.int .u32 (crcEntry k)) = crcCells (k + 1) := by
  apply Array.ext
  · simp [crcCells]
  · intro i h1 h2
    simp only [crcCells_size] at h2
    rw [Array.getElem_setIfInBounds (by rw [crcCells_size]; exact h2)]
    · by_cases e : k = i
      · subst e; simp [crcCells]
      · rw [if_neg e]
        simp only [crcCells, Array.getElem_ofFn]
        by_cases hlt : i < k
        · rw [if_pos hlt, if_pos (by omega)]
        · rw [if_neg hlt, if_neg (by omega)]
theorem crcCells_one (k : Nat) : (crcCells k).all (·.oneCell') = true := by
  rw [Array.all_eq_true]; intro i h; simp [crcCells, Value.oneCell']
theorem crcCells_get (i : Nat) (h : i < 256) : (crcCells 256)[i]? = some (.int .u32 (crcEntry i)) := by
  simp [crcCells, h]

theorem crcCells_some (k i : Nat) (h : i < 256) : ∃ v, (crcCells k)[i]? = some v := by
  simp [crcCells, h]
attribute [irreducible] crcCells crcEntry crcSteps crcStep
set_option maxHeartbeats 400000 in
theorem codec_step.calls (a0 : Int) (w : World) :
    Calls Try.prog 77 #[.int .u32 a0] w fun e w' => e = .returned (.int .u32 (crcStep a0)) ∧ w = w' := by
  by_cases h : Go.bits .and .u32 a0 1 = 1
  · have h1 : (Go.bits .and .u32 a0 1 == 1) = true := beq_iff_eq.mpr h
    have Hs : Aside0 (crcStep a0 = Go.bits .xor .u32 (a0 / 2) 2197175160) := ⟨by unfold crcStep; rw [if_pos h]⟩
    clear h
    go_enter Try.func77, Try.ntmps77
    go_wp2
    go_ret
    exact ⟨by rw [Hs.out]; rfl, rfl⟩
  · have h1 : (Go.bits .and .u32 a0 1 == 1) = false := beq_eq_false_iff_ne.mpr h
    have Hs : Aside0 (crcStep a0 = a0 / 2) := ⟨by unfold crcStep; rw [if_neg h]⟩
    clear h
    go_enter Try.func77, Try.ntmps77
    go_wp2
    go_ret
    exact ⟨by rw [Hs.out]; rfl, rfl⟩
theorem crcTab_info : (Try.prog.info? 116).map (fun i => (i.zero, i.size)) = some (some (.agg (crcCells 0)), 256) := by
  rw [crcCells_zero]; kernel_rfl

theorem below_setRow {B : Nat} {a w : World} (h : Below B a w) {g : Nat} (hg : B ≤ g) (cs : Array Value) : Below B a (w.setRow g cs) :=
  ⟨h.os, h.tape, h.output, by rw [size_setRow]; exact h.size, fun k hk => (setRow_other w g k cs (by omega)).trans (h.block k hk)⟩
theorem crcEntry_eq (i : Nat) : crcEntry i = crcSteps 8 (i : Int) := by unfold crcEntry; rfl
set_option maxHeartbeats 1000000 in
set_option maxRecDepth 1000000 in
theorem codec_table.calls (w : World) :
    Calls Try.prog 67 #[] w fun e w' => e = .returned (.agg (crcCells 256)) ∧ Below w.heap.size w w' := by
  obtain ⟨hzv, hsz⟩ := zero_of_info (P := Try.prog) crcTab_info
  have HSZ : Aside0 (∀ i, (Try.prog.info? 116).map (·.size) = some (crcCells i).size) := ⟨fun i => by rw [crcCells_size]; exact hsz⟩
  clear hsz
  go_enter Try.func67, Try.ntmps67
  go_wp2
  clear hzv
  go_loopg [5] 256 (fun g s5 wx => ∃ i : Nat, i + g = 256 ∧ s5 = .int .i64 i ∧ wx = (w.alloc (.cells (crcCells 0) 116)).alloc (.cells (crcCells i) 116))
  case atStart => exact ⟨0, by omega, rfl, rfl⟩
  case round =>
    obtain ⟨i, hig, rfl, rfl⟩ := hrel
    cases gk with
    | zero =>
      have hiz : ¬ ((i : Int) < (256 : Int)) := by omega
      have Hi := Aside0.mk (show i = 256 by omega)
      clear hig
      go_wp2_with (first
        | (with_reducible refine wpList_load_row rfl 116 _ rfl (w.heap.size + 1) rfl 116 (crcCells i) (0, 0) _ (by first | exact heap_alloc2_new _ _ _) Try.underlying116 rfl (HSZ.out i) ?_)
        | (with_reducible refine wpList_store_row rfl 116 _ _ rfl w.heap.size (crcCells i) rfl rfl 116 (crcCells 0) (heap_alloc2_old _ _ _) (HSZ.out i) (by rw [crcCells_size, crcCells_size]) (crcCells_one i) ?_))
      obtain rfl := Hi.out
      refine bodyPost_ret (results_cell_row rfl _ _ w.heap.size 116 (crcCells 256) (0, 0) _ rfl (setRow_heap _ _ _ _ _ _ (heap_alloc2_old _ _ _)) Try.underlying116 rfl (HSZ.out 256)) rfl ⟨rfl, ?_⟩
      exact below_setRow (((Below.refl _ _).alloc (Nat.le_refl _) _).alloc (by simp) _) (Nat.le_refl _) _
    | succ g =>
      have hi : i < 256 := by omega
      have hiz : (i : Int) < (256 : Int) := by omega
      go_wp2
      go_loopg [4, 10] 8 (fun g s4 s10 wx => ∃ j : Nat, j + g = 8 ∧ s4 = .int .u32 (crcSteps j i) ∧ s10 = .int .i64 j ∧ wx = (w.alloc (.cells (crcCells 0) 116)).alloc (.cells (crcCells i) 116))
      case atStart => exact ⟨0, by omega, by unfold crcSteps; rfl, rfl, rfl⟩
      case round =>
        obtain ⟨j, hjg, rfl, rfl, rfl⟩ := hrel
        cases gk with
        | zero =>
          have hjz : ¬ ((j : Int) < (8 : Int)) := by omega
          have Hj := Aside0.mk (show j = 8 by omega)
          have Hg := Aside0.mk hig
          clear hjg hig
          obtain ⟨v, hcell⟩ := crcCells_some i i hi
          go_wp2
          go_roundg g
          case measure => have := Hg.out; omega
          case rel => exact ⟨i + 1, by have := Hg.out; omega, by go_num, by rw [Hj.out, ← crcEntry_eq, crcCells_set i hi]⟩
        | succ g =>
          have hjz : (j : Int) < (8 : Int) := by omega
          have Hjg := Aside0.mk hjg
          have Hg := Aside0.mk hig
          clear hjg hig hi hiz
          go_wp2_with (go_at_call 77; refine (codec_step.calls _ _).mono ?_; rintro e w' ⟨rfl, rfl⟩)
          go_roundg g
          case measure => have := Hjg.out; omega
          case rel => exact ⟨j + 1, by have := Hjg.out; omega, by rw [crcSteps_succ], by go_num, rfl⟩
theorem xor_u8_range (x y : Int) : 0 ≤ Go.bits .xor .u8 x y ∧ Go.bits .xor .u8 x y < 256 := by
  have h := wf_bits .xor .u8 x y
  have := bounds_u8 h
  omega
def crcByte (s c : Int) : Int := Go.bits .xor .u32 (s / 256) (crcEntry (Go.bits .xor .u8 (s % 256) c).toNat)
def codec_Crc.f (l0 : List Int) : Option Int := some (Go.bits .xor .u32 4294967295 (l0.foldl crcByte 4294967295))
set_option maxHeartbeats 1000000 in
set_option maxRecDepth 1000000 in
theorem codec_Crc.calls (A0 : Option Addr) (c0 : Nat) (l0 : List Int) (r : Int) (w : World) (hr0 : Kd.C (Kd.int .u8) w A0 l0.length l0) (hc0 : l0.length ≤ c0) (h : codec_Crc.f l0 = some r) :
    Calls Try.prog 48 #[.slice A0 l0.length c0] w fun e w' => e = .returned (.int .u32 r) ∧ Below w.heap.size w w' := by
  have HR0 := Aside0.mk hr0
  have HF : Aside0 (r = Go.bits .xor .u32 4294967295 (l0.foldl crcByte 4294967295)) := ⟨(Option.some.inj h).symm⟩
  clear hr0 hc0 h
  obtain ⟨hzv, hsz⟩ := zero_of_info (P := Try.prog) crcTab_info
  have HSZ : Aside0 (∀ i, (Try.prog.info? 116).map (·.size) = some (crcCells i).size) := ⟨fun i => by rw [crcCells_size]; exact hsz⟩
  clear hsz
  go_enter Try.func48, Try.ntmps48
  go_wp2_with (first
    | (go_at_call 67; refine (codec_table.calls _).mono ?_; rintro e w1 ⟨rfl, hb1⟩; have HB := Aside0.mk hb1; clear hb1)
    | (with_reducible refine wpList_store_row rfl 116 _ _ rfl _ (crcCells 256) rfl rfl 116 (crcCells 0) (heap_alloc_new _ _) (HSZ.out 256) (by rw [crcCells_size, crcCells_size]) (crcCells_one 256) ?_))
  rw [World.setRow_alloc_new]
  have hcells : Aside0 (∀ i : Int, 0 ≤ i → i < 256 → (w1.alloc (.cells (crcCells 256) 116)).cell? ⟨w1.heap.size, i.toNat, none⟩ = some (.int .u32 (crcEntry i.toNat))) :=
    ⟨fun i h0 h1 => by rw [cell_of_row _ _ _ _ _ (0, 0) (heap_alloc_new _ _)]; exact crcCells_get _ (by omega)⟩
  have hB2 : Below w.heap.size w (w1.alloc (.cells (crcCells 256) 116)) := HB.out.alloc HB.out.size _
  generalize hW : w1.alloc (.cells (crcCells 256) 116) = W at hcells hB2 ⊢
  have HR1 := Aside0.mk (Kd.C_below HR0.out hB2)
  have hlen : l0.length ≤ 9223372036854775807 := HR0.out.2.1
  have HB2 := Aside0.mk hB2
  clear hB2 hW HSZ hzv
  generalize w1.heap.size = g1 at hcells ⊢
  go_loopg [4, 10] l0.length (fun g s4 s10 wx => ∃ i : Nat, i + g = l0.length ∧ s4 = .int .u32 ((l0.take i).foldl crcByte 4294967295) ∧ s10 = .int .i64 i ∧ wx = W)
  case atStart => exact ⟨0, by omega, by simp, rfl, rfl⟩
  case round =>
    obtain ⟨i, hig, rfl, rfl, rfl⟩ := hrel
    cases gk with
    | zero =>
      have hiz : ¬ ((i : Int) < (l0.length : Int)) := by omega
      have Hi := Aside0.mk (show i = l0.length by omega)
      clear hig
      go_wp2
      go_ret
      exact ⟨by rw [HF.out, Hi.out, List.take_length]; rfl, HB2.out⟩
    | succ g =>
      have hiz : (i : Int) < (l0.length : Int) := by omega
      obtain ⟨ad, e1, hx⟩ := Kd.at_int HR1.out i (by omega) hiz
      rw [Int.toNat_natCast] at hx
      cases e1
      obtain ⟨S, hS⟩ : ∃ S, (l0.take i).foldl crcByte 4294967295 = S := ⟨_, rfl⟩
      rw [hS]
      obtain ⟨h0, h1⟩ := xor_u8_range (S % 256) (rd l0 i)
      have hc := hcells.out _ h0 h1
      have HS : Aside0 ((l0.take (i + 1)).foldl crcByte 4294967295 = crcByte S (rd l0 i)) := ⟨by
        rw [List.take_succ_eq_append_getElem (by omega), List.foldl_append, hS]
        simp [rd, List.getD_eq_getElem?_getD, show i < l0.length by omega]⟩
      have Hig := Aside0.mk hig
      clear hS hig
      go_wp2
      go_roundg g
      case measure => have := Hig.out; omega
      case rel => exact ⟨i + 1, by have := Hig.out; omega, by rw [HS.out]; rfl, by go_num, rfl⟩

end Go.Proofs.Ythdemdjobgbpdaa.P
