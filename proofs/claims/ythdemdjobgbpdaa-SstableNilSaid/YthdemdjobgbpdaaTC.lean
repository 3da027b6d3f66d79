/- sstable's cuts: the blocks of a table, one behind the other, with their last keys. -/
import Derived.Test.YthdemdjobgbpdaaTP
import Derived.Shelf.Abstract
import Derived.WalkKit
import Derived.OwnWalkIn
import Derived.TacticsInMore
import Derived.LoopNIn
import Derived.LoopIn
import Derived.Test.YthdemdjobgbpdaaP8
namespace Go.Proofs.Ythdemdjobgbpdaa.T
open Go.RowKit Go.Shelf Go.Proofs.YthdemdjobgbpdaaW.PrintWords Go.Proofs.YthdemdjobgbpdaaW.PrintLast Go.Proofs.YthdemdjobgbpdaaW.PrintMore Go.Proofs.Ythdemdjobgbpdaa.P Go.Proofs.Ythdemdjobgbpdaa.B
attribute [local go_sem] Oper.semAt_some
set_option linter.unusedVariables false
theorem cutK (A : Option Addr) (c : Nat) (l : List S47) (lo hi : Nat) (h1 : lo ≤ hi) (h2 : hi ≤ l.length) (hc : l.length ≤ c) :
    ∃ (A' : Option Addr) (c' : Nat), (∀ W : World, (Instr.slice 23 (.slice A l.length c) (some (.int .i64 (lo : Int))) (some (.int .i64 (hi : Int))) none).run Try.prog W = .ok (.slice A' ((l.take hi).drop lo).length c') W) ∧
      (∀ W : World, Kd.C k47 W A l.length l → Kd.C k47 W A' ((l.take hi).drop lo).length ((l.take hi).drop lo)) ∧ ((l.take hi).drop lo).length ≤ c' := by
  obtain ⟨i5, hi5, _, hs5, _⟩ := info_parts info47
  have hl : ((l.take hi).drop lo).length = hi - lo := by simp; omega
  have hcm := cut_mid 23 47 .i64 .i64 Try.underlying23 hi5 4 hs5 A l.length c (lo : Int) (hi : Int) (by omega) (by omega) (by omega) hc
  simp only [Int.toNat_natCast] at hcm
  refine ⟨_, c - lo, fun W => (hcm W).trans (by rw [hl]; rfl), fun W hC => Kd.C_mid hC h1 h2 hc, by rw [hl]; omega⟩
/-- the blocks, with their last keys -/
def cuts_g (k : Nat) (l : List S47) (blk iv : Int) : Nat → Nat → Nat → Option (List (S45 × List Int))
  | 0, _, _ => none
  | g + 1, lo, hi => if lo < l.length then (if lo < hi ∧ hi ≤ l.length then (block_Build.f k ((l.take hi).drop lo) iv).bind fun b =>
      if (b.1.length : Int) < blk ∧ hi < l.length then cuts_g k l blk iv g lo (hi + 1)
      else (cuts_g k l blk iv g hi (hi + 1)).map fun r => ((rd_T47 l ((hi - 1 : Nat) : Int)).f0, b.1) :: r else none)
    else some []
/-- what is handed over: a key, and a row -/
structure CutEl where
  key : S45
  bs : List Int
  A : Option Addr
  c : Nat
def CutEl.vals (x : CutEl) : Array Value := #[.agg #[.string x.key.f0, .int .u64 x.key.f1, .int .i64 x.key.f2], .slice x.A x.bs.length x.c]
def CutEl.told (x : CutEl) (m : Nat) (W : World) : Prop := Kd.R (Kd.int .u8) 5 W m (fun _ => True) (.slice x.A x.bs.length x.c) x.bs
def CutEl.out (x : CutEl) : S45 × List Int := (x.key, x.bs)
/-- what is known of an element as it is handed over -/
def CutTold (full : List (S45 × List Int)) (pre : List CutEl) (x : CutEl) (m : Nat) (W : World) : Prop := x.told m W ∧ ∃ rest, (pre ++ [x]).map CutEl.out ++ rest = full
/-- what a round keeps -/
def CutKeep (n₀ b1 b2 : Nat) (W W' : World) : Prop := Below n₀ W W' ∧ KeepB b1 W W' ∧ KeepB b2 W W'
theorem CutKeep.trans {n₀ b1 b2 : Nat} {A B C : World} (h : CutKeep n₀ b1 b2 A B) (k : CutKeep n₀ b1 b2 B C) : CutKeep n₀ b1 b2 A C := ⟨h.1.trans k.1, keepB_t h.2.1 k.2.1, keepB_t h.2.2 k.2.2⟩
theorem CutKeep.of_below {n₀ b1 b2 : Nat} {A B : World} (h : Below A.heap.size A B) (hn : n₀ ≤ A.heap.size) (h1 : b1 < A.heap.size) (h2 : b2 < A.heap.size) : CutKeep n₀ b1 b2 A B := ⟨h.mono hn, h.block _ h1, h.block _ h2⟩
theorem cutKeep_b {n₀ b1 b2 : Nat} {w : World} (hn : n₀ ≤ w.heap.size) (h1 : b1 < w.heap.size) (h2 : b2 < w.heap.size) (W : World) (l : Nat) (o o' : Obj) (hl : w.heap.size ≤ l) (h : W.heap[l]? = some o) (hc : o.isCells = false) (hw : o.isWalk = false) : CutKeep n₀ b1 b2 W (W.putObj l o') :=
  ⟨belowK_b hn W l o o' hl h hc hw, keepB_b h1 W l o o' hl h hc hw, keepB_b h2 W l o o' hl h hc hw⟩
set_option maxRecDepth 100000 in
set_option maxHeartbeats 1000000 in
theorem cuts_calls (A : Option Addr) (c n : Nat) (blk iv : Int) (fb : Nat) (w : World) : Calls Try.prog 20 #[.slice A n c, .agg #[.int .i64 blk, .int .i64 iv, .float .f64 fb]] w fun e w' =>
    e = .returned (.func (.func 46) #[] #[.pointer (some ⟨w.heap.size, 0, none⟩), .pointer (some ⟨w.heap.size + 1, 0, none⟩)]) ∧
    w' = (w.alloc (.cells #[.slice A n c] 23)).alloc (.cells #[.int .i64 blk, .int .i64 iv, .float .f64 fb] 26) := by
  go_enter Try.func20, Try.ntmps20
  go_wp2
  go_ret
  exact ⟨rfl, rfl⟩
theorem tc_w1 (n : Nat) (h : n ≤ 1000) : wrap64 ((n : Int) + 1) = ((n + 1 : Nat) : Int) := by unfold wrap64; omega
theorem tc_w2 (n : Nat) (h : n ≤ 1000) (h0 : 0 < n) : wrap64 ((n : Int) - 1) = ((n - 1 : Nat) : Int) := by unfold wrap64; omega
set_option maxRecDepth 100000 in
set_option maxHeartbeats 4000000 in
theorem cuts1_in (k g l n₀ bl bo : Nat) (w0 : World) (A : Option Addr) (c : Nat) (es : List S47) (blk iv : Int) (fb : Nat) (full : List (S45 × List Int)) (hC : Kd.C k47 w0 A es.length es) (hc : es.length ≤ c) (hlen : es.length ≤ 300) (hn₀ : n₀ = w0.heap.size)
    (hf : cuts_g k es blk iv g 0 1 = some full) (J : List CutEl → World → Prop)
    (hY : ∀ pre x W0 W1, J pre W0 → Below W0.heap.size W0 W1 → CutTold full pre x W0.heap.size W1 → YieldAt Fence.wide 1 Try.prog l x.vals W1 fun e W' => e = .returned (.bool true) ∧ J (pre ++ [x]) W' ∧ CutKeep n₀ bl bo W1 W')
    (hJB : ∀ pre W W', J pre W → Below W.heap.size W W' → J pre W')
    (W : World) (hW : Below n₀ w0 W) (hbl : W.cell? ⟨bl, 0, none⟩ = some (.slice A es.length c)) (hbo0 : W.cell? ⟨bo, 0, none⟩ = some (.int .i64 blk)) (hbo1 : W.cell? ⟨bo, 1, none⟩ = some (.int .i64 iv)) (h0 : J [] W) :
    CallsIn Fence.wide 2 Try.prog 46 #[.func (.yield l) #[] #[], .pointer (some ⟨bl, 0, none⟩), .pointer (some ⟨bo, 0, none⟩)] W fun e W' => (∃ v, e = .returned v) ∧ ∃ xs : List CutEl, xs.map CutEl.out = full ∧ J xs W' := by
  refine callsIn_of_wp Try.func46 rfl trivial ?_ rfl
  simp only [Try.ntmps46, List.size_toArray, List.length_cons, List.length_nil, Nat.reduceAdd, Nat.reduceSub, Array.replicate_succ, Array.replicate_zero, List.push_toArray, List.append_toArray, List.nil_append, List.cons_append]
  refine wpIn_wide.2 ?_
  have HC := Aside0.mk hC
  have HC0 := Aside0.mk hc
  have HLE := Aside0.mk hlen
  clear hC hc hlen
  go_wp2
  refine (wpIn_wide (n := 2)).1 ?_
  gi_loopw [4, 5] (fun v4 v5 wr => ∃ (pre : List CutEl) (lo hi gg : Nat) (rest : List (S45 × List Int)), v4 = .int .i64 (lo : Int) ∧ v5 = .int .i64 (hi : Int) ∧ Aside0 (hi ≤ es.length + 1) ∧ Aside0 (cuts_g k es blk iv gg lo hi = some rest) ∧ Aside0 (pre.map CutEl.out ++ rest = full) ∧ J pre wr ∧ CutKeep n₀ bl bo W wr) (fun v4 v5 _ => es.length + 2 - (intOf v5).toNat)
  case atStart => exact ⟨[], 0, 1, g, full, rfl, rfl, ⟨by omega⟩, ⟨hf⟩, ⟨rfl⟩, h0, Below.refl _ _, rfl, rfl⟩
  case round =>
    obtain ⟨pre, lo, hi, gg, rest, rfl, rfl, HI, HG, HF, hJ, hKK⟩ := hrel
    have hbl2 := hKK.2.1.cell.trans hbl
    have hbo2 := hKK.2.2.cell.trans hbo0
    have hbo3 := hKK.2.2.cell.trans hbo1
    have HCr : Aside0 (Kd.C k47 wr A es.length es) := ⟨Kd.C_below HC.out (by rw [← hn₀]; exact hW.trans hKK.1)⟩
    have HG2 := HG.out
    cases gg with
    | zero => exact absurd HG2 (by simp [cuts_g])
    | succ gg =>
    unfold cuts_g at HG2
    refine wpIn_wide.2 ?_
    by_cases c1 : lo < es.length
    case neg =>
      have c1b : decide ((lo : Int) < (es.length : Int)) = false := decide_eq_false (by omega)
      have c1c : decide (lo < es.length) = false := decide_eq_false c1
      rw [if_neg c1] at HG2
      obtain rfl := Option.some.inj HG2
      clear HG2
      go_wp2
      go_end0
      exact ⟨⟨_, rfl⟩, pre, by have := HF.out; rwa [List.append_nil] at this, hJ⟩
    case pos =>
      have c1b : decide ((lo : Int) < (es.length : Int)) = true := decide_eq_true (by omega)
      have c1c : decide (lo < es.length) = true := decide_eq_true c1
      rw [if_pos c1] at HG2
      split at HG2
      case isFalse => cases HG2
      rename_i c2
      obtain ⟨⟨bs, er⟩, hb, HG2⟩ := Option.bind_eq_some_iff.mp HG2
      dsimp only at HG2 hb
      obtain ⟨A2, c2', hcut, hrd, hcp⟩ := cutK A c es lo hi (by omega) c2.2 HC0.out
      have HRD := Aside0.mk hrd
      have HCP := Aside0.mk hcp
      have HBD := Aside0.mk hb
      have HG3 := Aside0.mk HG2
      have HCC := Aside0.mk (And.intro c1 c2)
      obtain ⟨M, hM⟩ : ∃ x, (es.take hi).drop lo = x := ⟨_, rfl⟩
      rw [hM] at HRD HCP HBD hcut
      clear hrd hcp hb HG2 HG c1 c2 hM
      go_upto_region 3 with fail
      go_wp2_with fail
      have HCd := Aside0.mk (Kd.C_drew HCr.out)
      refine start_ (n := 12) (S := fun w' => w'.cell? ⟨bl, 0, none⟩ = some (.slice A es.length c) ∧ w'.cell? ⟨bo, 0, none⟩ = some (.int .i64 blk) ∧ w'.cell? ⟨bo, 1, none⟩ = some (.int .i64 iv)) (ds := []) #[false, false, false, false, false, false, false, false, false, false, false, false] (by kernel_rfl) rfl rfl ⟨(by exact hbl2), (by exact hbo2), (by exact hbo3)⟩ (fun hHeld => ?_)
      refine pure_ (i := 1) (N := some 16) (v := ?_) (a' := ?_) #[false, true, false, false, false, false, false, false, false, false, false, false] rfl rfl (by kernel_rfl) (fun _ _ _ h => h) (Or.inl ⟨by rfl, ?_⟩) ?_ ?_
      rotate_left
      · intro w'
        go_simp
        with_reducible rfl
      rotate_left
      · simp only [Act.put, List.setIfInBounds_toArray, List.set_cons_zero, List.set_cons_succ, i64_w, i32_w]
        rfl
      refine pure_ (i := 2) (N := some 17) (v := ?_) (a' := ?_) #[false, true, true, false, false, false, false, false, false, false, false, false] rfl rfl (by kernel_rfl) (fun _ _ _ h => h) (Or.inl ⟨by rfl, ?_⟩) ?_ ?_
      rotate_left
      · intro w'
        go_simp
        with_reducible rfl
      rotate_left
      · simp only [Act.put, List.setIfInBounds_toArray, List.set_cons_zero, List.set_cons_succ, i64_w, i32_w]
        rfl
      refine pure_ (i := 4) (N := some 19) (v := ?_) (a' := ?_) #[false, true, true, false, true, false, false, false, false, false, false, false] rfl rfl (by kernel_rfl) (fun _ _ _ h => h) (Or.inl ⟨by rfl, ?_⟩) ?_ ?_
      rotate_left
      · intro w'
        go_simp
        with_reducible rfl
      rotate_left
      · simp only [Act.put, List.setIfInBounds_toArray, List.set_cons_zero, List.set_cons_succ, i64_w, i32_w]
        rfl
      refine take_ (i := 0) (N := some 15) (v := ?_) (a' := ?_) #[true, true, true, false, true, false, false, false, false, false, false, false] rfl rfl (by kernel_rfl) (fun _ _ _ h => h) (Or.inl ⟨by rfl, ?_⟩) hHeld ?_ ?_
      rotate_left
      · rintro w' ⟨s0, s1, s2⟩
        go_simp
        with_reducible rfl
      rotate_left
      · simp only [Act.put, List.setIfInBounds_toArray, List.set_cons_zero, List.set_cons_succ, i64_w, i32_w]
        rfl
      refine pure_ (i := 3) (N := some 18) (v := ?_) (a' := ?_) #[true, true, true, true, true, false, false, false, false, false, false, false] rfl rfl (by kernel_rfl) (fun _ _ _ h => h) (Or.inl ⟨by rfl, ?_⟩) ?_ ?_
      rotate_left
      · intro w'
        go_simp
        with_reducible rfl
      rotate_left
      · simp only [Act.put, List.setIfInBounds_toArray, List.set_cons_zero, List.set_cons_succ, i64_w, i32_w]
        rfl
      refine take_ (i := 5) (N := some 20) (v := ?_) (a' := ?_) #[true, true, true, true, true, true, false, false, false, false, false, false] rfl rfl (by kernel_rfl) (fun _ _ _ h => h) (Or.inl ⟨by rfl, ?_⟩) hHeld ?_ ?_
      rotate_left
      · rintro w' ⟨s0, s1, s2⟩
        go_simp
        with_reducible rfl
      rotate_left
      · simp only [Act.put, List.setIfInBounds_toArray, List.set_cons_zero, List.set_cons_succ, i64_w, i32_w]
        rfl
      refine one_ (i := 6) (N := some 21) #[true, true, true, true, true, true, true, false, false, false, false, false] rfl rfl (by kernel_rfl) (by decide) (fun K hK => ?_)
      refine goes_ Try.func19 (by kernel_rfl) rfl #[.slice A2 M.length c2', .int .i64 iv] (by rfl) rfl rfl (by simp only [List.map_toArray, List.map_cons, List.map_nil]; rfl) ?_
      with_reducible refine (block_Build.calls k A2 c2' M iv bs er _ (HRD.out _ HCd.out) HCP.out HBD.out).mono ?_
      rintro ex w2 ⟨vb, rfl, hob, hb2⟩
      refine ⟨_, rfl, ?_⟩
      have HO := Aside0.mk hob
      have HB2 := Aside0.mk (below_step (below_drew1 (Below.refl wr.heap.size wr)) hb2)
      obtain ⟨Ab, cb, eb⟩ := Kd.R_slice hob
      subst eb
      clear hob hb2
      refine hK.out _ _ ⟨(HB2.out.cell (World.block_lt_of_cell? _ _ hHeld.1)).trans hHeld.1, (HB2.out.cell (World.block_lt_of_cell? _ _ hHeld.2.1)).trans hHeld.2.1, (HB2.out.cell (World.block_lt_of_cell? _ _ hHeld.2.2)).trans hHeld.2.2⟩ (fun hHeld => ?_)
      clear hK K
      refine norm_ (a' := ?_) ?_ ?_
      rotate_left
      · show Act.put _ (some 21) _ = _
        simp only [Act.put, List.setIfInBounds_toArray, List.set_cons_zero, List.set_cons_succ, i64_w, i32_w]
        rfl
      refine pure_ (i := 7) (N := some 14) (v := ?_) (a' := ?_) #[true, true, true, true, true, true, true, true, false, false, false, false] rfl rfl (by kernel_rfl) (fun _ _ _ h => h) (Or.inl ⟨by rfl, ?_⟩) ?_ ?_
      rotate_left
      · intro w'
        go_simp
        with_reducible rfl
      rotate_left
      · simp only [Act.put, List.setIfInBounds_toArray, List.set_cons_zero, List.set_cons_succ, i64_w, i32_w]
        rfl
      refine pure_ (i := 8) (N := some 22) (v := ?_) (a' := ?_) #[true, true, true, true, true, true, true, true, true, false, false, false] rfl rfl (by kernel_rfl) (fun _ _ _ h => h) (Or.inl ⟨by rfl, ?_⟩) ?_ ?_
      rotate_left
      · intro w'
        go_simp
        with_reducible rfl
      rotate_left
      · simp only [Act.put, List.setIfInBounds_toArray, List.set_cons_zero, List.set_cons_succ, i64_w, i32_w]
        rfl
      refine pure_ (i := 9) (N := some 23) (v := ?_) (a' := ?_) #[true, true, true, true, true, true, true, true, true, true, false, false] rfl rfl (by kernel_rfl) (fun _ _ _ h => h) (Or.inl ⟨by rfl, ?_⟩) ?_ ?_
      rotate_left
      · intro w'
        go_simp
        with_reducible rfl
      rotate_left
      · simp only [Act.put, List.setIfInBounds_toArray, List.set_cons_zero, List.set_cons_succ, i64_w, i32_w]
        rfl
      refine pure_ (i := 10) (N := some 6) (v := ?_) (a' := ?_) #[true, true, true, true, true, true, true, true, true, true, true, false] rfl rfl (by kernel_rfl) (fun _ _ _ h => h) (Or.inl ⟨by rfl, ?_⟩) ?_ ?_
      rotate_left
      · intro w'
        go_simp
        with_reducible rfl
      rotate_left
      · simp only [Act.put, List.setIfInBounds_toArray, List.set_cons_zero, List.set_cons_succ, i64_w, i32_w]
        rfl
      refine pure_ (i := 11) (N := some 7) (v := ?_) (a' := ?_) #[true, true, true, true, true, true, true, true, true, true, true, true] rfl rfl (by kernel_rfl) (fun _ _ _ h => h) (Or.inl ⟨by rfl, ?_⟩) ?_ ?_
      rotate_left
      · intro w'
        go_simp
        with_reducible rfl
      rotate_left
      · simp only [Act.put, List.setIfInBounds_toArray, List.set_cons_zero, List.set_cons_succ, i64_w, i32_w]
        rfl
      refine done_ (by kernel_rfl) ?_
      have hbl4 := (HB2.out.cell (World.block_lt_of_cell? _ _ hbl2)).trans hbl2
      have hbo4 := (HB2.out.cell (World.block_lt_of_cell? _ _ hbo2)).trans hbo2
      have hbo5 := (HB2.out.cell (World.block_lt_of_cell? _ _ hbo3)).trans hbo3
      have HC2 : Aside0 (Kd.C k47 w2 A es.length es) := ⟨Kd.C_below HCr.out HB2.out⟩
      have HJ2 : Aside0 (J pre w2) := ⟨hJB _ _ _ hJ HB2.out⟩
      have HJr := Aside0.mk hJ
      have HBr := Aside0.mk HB2.out
      have HK2 : Aside0 (CutKeep n₀ bl bo W w2) := ⟨hKK.trans (CutKeep.of_below HB2.out (by have h1 := hW.size; have h2 := hKK.1.size; omega) (World.block_lt_of_cell? _ _ hbl2) (World.block_lt_of_cell? _ _ hbo2))⟩
      clear hbl2 hbo2 hbo3 HCr hJ hKK HB2
      have HCC2 := HCC.out
      have HG2 := HG3.out
      clear HG3 HCC
      by_cases c3 : (bs.length : Int) < blk
      case neg =>
        have c3b : decide ((bs.length : Int) < blk) = false := decide_eq_false c3
        rw [if_neg (by omega)] at HG2
        obtain ⟨ad, eA, k1, k2, k3, k4⟩ := at_T47 HC2.out ((hi - 1 : Nat) : Int) (Int.natCast_nonneg _) (by omega)
        subst eA
        rw [Int.toNat_natCast] at k1 k2 k3 k4
        obtain ⟨hm, hhm⟩ : ∃ x, hi - 1 = x := ⟨_, rfl⟩
        have d1 : decide (hm < es.length) = true := decide_eq_true (by omega)
        have d2 : decide ((hm : Int) < (es.length : Int)) = true := decide_eq_true (by omega)
        have d3 := eq_true (show (hm : Int) < (es.length : Int) by omega)
        have d4 := eq_true (show (0 : Int) ≤ (hm : Int) by omega)
        have hw2 := tc_w2 hi (by have := HLE.out; omega) (by omega)
        rw [hhm] at hw2 k1 k2 k3 k4
        obtain ⟨ky, hky⟩ : ∃ x, rd_T47 es (hm : Int) = x := ⟨_, rfl⟩
        rw [hky] at k1 k2 k3 k4
        obtain ⟨rest2, hr2, hr3⟩ := Option.map_eq_some_iff.1 HG2
        try dsimp only at hr2 hr3
        rw [hhm, hky] at hr3
        obtain ⟨fn, tmps, assign, body, hy, hR⟩ := hY pre ⟨ky.f0, bs, Ab, cb⟩ wr w2 HJr.out HBr.out ⟨HO.out, rest2, by rw [List.map_append, ← HF.out, ← hr3, List.append_assoc]; rfl⟩
        have HR3 := Aside0.mk hr3
        have HR2 := Aside0.mk hr2
        have HHM := Aside0.mk hhm
        dsimp only [CutEl.vals] at hy
        clear hr2 hr3 HG2 c3 hhm hky HCC2
        go_upto_region 5 with fail
        refine (wpIn_wide (n := 2)).1 ?_
        gi_wp2
        refine hR.mono ?_
        rintro e W3 ⟨rfl, hJ3, hK3⟩
        have hw1 := tc_w1 hi (by have := HLE.out; have := HI.out; omega)
        have HW1 := Aside0.mk hw1
        clear hw1
        gi_wp2
        go_wp2
        try simp only [HW1.out]
        go_roundw
        case rel => exact ⟨pre ++ [⟨ky.f0, bs, Ab, cb⟩], hi, hi + 1, gg, rest2, rfl, rfl, ⟨by have := HHM.out; have := of_decide_eq_true d1; omega⟩, HR2, ⟨by rw [List.map_append, ← HF.out, ← HR3.out, List.append_assoc]; rfl⟩, hJ3, HK2.out.trans hK3⟩
        case measure => have := HHM.out; have := of_decide_eq_true d1; simp [intOf]; omega
      case pos =>
        have c3b : decide ((bs.length : Int) < blk) = true := decide_eq_true c3
        by_cases c4 : hi < es.length
        case pos =>
          have c4b : decide ((hi : Int) < (es.length : Int)) = true := decide_eq_true (by omega)
          have c4c : decide (hi < es.length) = true := decide_eq_true c4
          rw [if_pos ⟨c3, c4⟩] at HG2
          have HG4 := Aside0.mk HG2
          have hw1 := tc_w1 hi (by have := HLE.out; omega)
          clear HG2 c3 HCC2
          go_wp2
          simp only [hw1]
          go_roundw
          case rel => exact ⟨pre, lo, hi + 1, gg, rest, rfl, rfl, ⟨by omega⟩, HG4, HF, HJ2.out, HK2.out⟩
          case measure => simp [intOf]; omega
        case neg =>
        have c4b : decide ((hi : Int) < (es.length : Int)) = false := decide_eq_false (by omega)
        have c4c : decide (hi < es.length) = false := decide_eq_false c4
        rw [if_neg (by omega)] at HG2
        obtain ⟨ad, eA, k1, k2, k3, k4⟩ := at_T47 HC2.out ((hi - 1 : Nat) : Int) (Int.natCast_nonneg _) (by omega)
        subst eA
        rw [Int.toNat_natCast] at k1 k2 k3 k4
        obtain ⟨hm, hhm⟩ : ∃ x, hi - 1 = x := ⟨_, rfl⟩
        have d1 : decide (hm < es.length) = true := decide_eq_true (by omega)
        have d2 : decide ((hm : Int) < (es.length : Int)) = true := decide_eq_true (by omega)
        have d3 := eq_true (show (hm : Int) < (es.length : Int) by omega)
        have d4 := eq_true (show (0 : Int) ≤ (hm : Int) by omega)
        have hw2 := tc_w2 hi (by have := HLE.out; omega) (by omega)
        rw [hhm] at hw2 k1 k2 k3 k4
        obtain ⟨ky, hky⟩ : ∃ x, rd_T47 es (hm : Int) = x := ⟨_, rfl⟩
        rw [hky] at k1 k2 k3 k4
        obtain ⟨rest2, hr2, hr3⟩ := Option.map_eq_some_iff.1 HG2
        try dsimp only at hr2 hr3
        rw [hhm, hky] at hr3
        obtain ⟨fn, tmps, assign, body, hy, hR⟩ := hY pre ⟨ky.f0, bs, Ab, cb⟩ wr w2 HJr.out HBr.out ⟨HO.out, rest2, by rw [List.map_append, ← HF.out, ← hr3, List.append_assoc]; rfl⟩
        have HR3 := Aside0.mk hr3
        have HR2 := Aside0.mk hr2
        have HHM := Aside0.mk hhm
        dsimp only [CutEl.vals] at hy
        clear hr2 hr3 HG2 c3 hhm hky HCC2
        go_upto_region 5 with fail
        refine (wpIn_wide (n := 2)).1 ?_
        gi_wp2
        refine hR.mono ?_
        rintro e W3 ⟨rfl, hJ3, hK3⟩
        have hw1 := tc_w1 hi (by have := HLE.out; have := HI.out; omega)
        have HW1 := Aside0.mk hw1
        clear hw1
        gi_wp2
        go_wp2
        try simp only [HW1.out]
        go_roundw
        case rel => exact ⟨pre ++ [⟨ky.f0, bs, Ab, cb⟩], hi, hi + 1, gg, rest2, rfl, rfl, ⟨by have := HHM.out; have := of_decide_eq_true d1; omega⟩, HR2, ⟨by rw [List.map_append, ← HF.out, ← HR3.out, List.append_assoc]; rfl⟩, hJ3, HK2.out.trans hK3⟩
        case measure => have := HHM.out; have := of_decide_eq_true d1; simp [intOf]; omega
theorem cuts_told (k g bl bo : Nat) (w0 : World) (A : Option Addr) (c : Nat) (es : List S47) (blk iv : Int) (full : List (S45 × List Int)) (hC : Kd.C k47 w0 A es.length es) (hc : es.length ≤ c) (hlen : es.length ≤ 300)
    (hf : cuts_g k es blk iv g 0 1 = some full) (w : World) (hw : Below w0.heap.size w0 w) (hbl : w.cell? ⟨bl, 0, none⟩ = some (.slice A es.length c)) (hbo0 : w.cell? ⟨bo, 0, none⟩ = some (.int .i64 blk)) (hbo1 : w.cell? ⟨bo, 1, none⟩ = some (.int .i64 iv)) :
    SeqTold Fence.wide 2 Try.prog 46 #[.pointer (some ⟨bl, 0, none⟩), .pointer (some ⟨bo, 0, none⟩)] CutEl.vals (CutTold full) (CutKeep w0.heap.size bl bo) (fun xs => xs.map CutEl.out = full) w := by
  intro l J W hW hJ hY h0
  have h1 := World.block_lt_of_cell? _ _ hbl
  have h2 := World.block_lt_of_cell? _ _ hbo0
  exact (cuts1_in k g l w0.heap.size bl bo w0 A c es blk iv 0 full hC hc hlen rfl hf J hY
    (fun pre W W' hj hb => hJ pre W W' none hj ⟨hb.os, hb.tape, hb.output, hb.size, fun i hi _ => hb.block i hi⟩ (fun r e => by cases e)) W (below_step hw hW) ((hW.cell h1).trans hbl) ((hW.cell h2).trans hbo0) ((hW.cell (p := ⟨bo, 1, none⟩) h2).trans hbo1) h0).mono fun _ _ h => h
end Go.Proofs.Ythdemdjobgbpdaa.T
