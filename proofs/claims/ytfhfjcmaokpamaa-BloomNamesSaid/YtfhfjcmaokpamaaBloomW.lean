/- The walks of bloom's Build and May at the statement's own calls; the range over the bits by the kit's law of a range over a function. -/
import Derived.RangeFuncNested
import Derived.RangeFuncBound
import Derived.RangeFuncCalls
import Derived.RangeFuncLeaves
import Derived.Shelf.Abstract
import Derived.WalkKit
import Derived.OwnWalkIn
import Derived.TacticsInMore
import Derived.LoopNIn
import Derived.LoopIn
import Derived.Test.YtfhfjcmaokpamaaP1
namespace Go.Proofs.Ytfhfjcmaokpamaa.Bl
open Go.RowKit Go.Shelf Go.Proofs.YtfhfjcmaokpamaaW.PrintWords Go.Proofs.YtfhfjcmaokpamaaW.PrintLast Go.Proofs.YtfhfjcmaokpamaaW.PrintMore Go.Proofs.Ytfhfjcmaokpamaa.P
attribute [local go_sem] Oper.semAt_some
set_option linter.unusedVariables false

set_option maxRecDepth 100000 in
set_option maxHeartbeats 1000000 in
theorem rot_calls (x : Int) (w : World) : Calls Try.prog 11 #[.int .u32 x, .int .i64 15] w fun e w' => (∃ r, e = .returned (.int .u32 r)) ∧ w' = w := by
  have hb : Go.bits .and .u64 15 31 = 15 := by decide +kernel
  go_enter Try.func11, Try.ntmps11
  go_wp2
  go_ret
  exact ⟨⟨_, rfl⟩, rfl⟩
set_option maxRecDepth 100000 in
set_option maxHeartbeats 1000000 in
theorem probed_calls (s : ByteArray) (all probes : Int) (w : World) : Calls Try.prog 8 #[.string s, .int .u64 all, .int .i64 probes] w fun e w' =>
    e = .returned (.func (.func 10) #[] #[.pointer (some ⟨w.heap.size, 0, none⟩), .pointer (some ⟨w.heap.size + 1 + 1, 0, none⟩), .pointer (some ⟨w.heap.size + 1, 0, none⟩)]) ∧
    w' = ((w.alloc (.cells #[.string s] 9)).alloc (.cells #[.int .u64 all] 35)).alloc (.cells #[.int .i64 probes] 3) := by
  go_enter Try.func8, Try.ntmps8
  go_wp2
  go_ret
  exact ⟨rfl, rfl⟩
set_option maxRecDepth 100000 in
set_option maxHeartbeats 2000000 in
/-- The range over a key's bits: whatever the body, its bits are below 'all'; as many as are asked for, unless it is stopped. -/
theorem probed1_in (l n₀ bk bp ba : Nat) (s : ByteArray) (all : Int) (probes : Nat) (hall : 0 < all) (hall2 : all < 18446744073709551616) (hp : probes ≤ 30) (h0r : ∃ k h, bloom_Hash.f k s = some h ∧ 0 ≤ h) (hbk : bk < n₀) (hbp : bp < n₀) (hba : ba < n₀)
    (J Jx : List { x : Int // 0 ≤ x ∧ x < all } → World → Prop)
    (hY : ∀ pre x W, J pre W → pre.length < probes → YieldAt Fence.wide 1 Try.prog l #[.int .u64 x.1] W fun e W' =>
      (e = .returned (.bool true) ∧ J (pre ++ [x]) W' ∧ Below n₀ W W') ∨ (e = .returned (.bool false) ∧ Jx (pre ++ [x]) W'))
    (hJB : ∀ pre W W', J pre W → Below W.heap.size W W' → J pre W')
    (W : World) (hn₀ : n₀ ≤ W.heap.size) (hk : W.cell? ⟨bk, 0, none⟩ = some (.string s)) (hpr : W.cell? ⟨bp, 0, none⟩ = some (.int .i64 (probes : Int))) (ha : W.cell? ⟨ba, 0, none⟩ = some (.int .u64 all)) (h0 : J [] W) :
    CallsIn Fence.wide 2 Try.prog 10 #[.func (.yield l) #[] #[], .pointer (some ⟨bk, 0, none⟩), .pointer (some ⟨bp, 0, none⟩), .pointer (some ⟨ba, 0, none⟩)] W fun e W' => (∃ v, e = .returned v) ∧
      ((∃ ys : List { x : Int // 0 ≤ x ∧ x < all }, ys.length = probes ∧ J ys W') ∨ (∃ pre : List { x : Int // 0 ≤ x ∧ x < all }, pre ≠ [] ∧ Jx pre W')) := by
  obtain ⟨k, h, hh, hh0⟩ := h0r
  refine callsIn_of_wp Try.func10 rfl trivial ?_ rfl
  simp only [Try.ntmps10, List.size_toArray, List.length_cons, List.length_nil, Nat.reduceAdd, Nat.reduceSub, Array.replicate_succ, Array.replicate_zero, List.push_toArray, List.append_toArray, List.nil_append, List.cons_append]
  refine wpIn_wide.2 ?_
  go_wp2_with (first
    | (go_at_call 6; refine (bloom_Hash.calls k s h _ hh).mono ?_; rintro e w2 ⟨rfl, hb2⟩; have hk2 := hb2.cell (World.block_lt_of_cell? _ _ hk); have hp2 := hb2.cell (World.block_lt_of_cell? _ _ hpr); have ha2 := hb2.cell (World.block_lt_of_cell? _ _ ha); rw [hk] at hk2; rw [hpr] at hp2; rw [ha] at ha2)
    | (go_at_call 11; refine (rot_calls h _).mono ?_; rintro e w2 ⟨⟨r, rfl⟩, rfl⟩))
  refine (wpIn_wide (n := 2)).1 ?_
  have hB2 : Below n₀ W w2 := hb2.mono hn₀
  have hJ2 : J [] w2 := hJB _ _ _ h0 hb2
  gi_loopw [5, 12] (fun v5 v12 wr => ∃ (pre : List { x : Int // 0 ≤ x ∧ x < all }) (hv : Int), v5 = .int .u32 hv ∧ v12 = .int .i64 (pre.length : Int) ∧ 0 ≤ hv ∧ pre.length ≤ probes ∧ J pre wr ∧ Below n₀ W wr) (fun v5 v12 _ => probes - (intOf v12).toNat)
  case atStart => exact ⟨[], h, rfl, rfl, hh0, Nat.zero_le _, hJ2, hB2⟩
  case round =>
    obtain ⟨pre, hv, rfl, rfl, hv0, hpl, hJs, hnx⟩ := hrel
    have ha3 : wr.cell? ⟨ba, 0, none⟩ = some (.int .u64 all) := (hnx.cell (p := ⟨ba, 0, none⟩) hba).trans ha
    by_cases hlt : pre.length < probes
    · have hlt' : decide ((pre.length : Int) < (probes : Int)) = true := decide_eq_true (by omega)
      have hw : IntKind.u64.wrap hv = hv % 18446744073709551616 := by simp [IntKind.wrap, IntKind.bits, IntKind.signed]
      have hx : 0 ≤ (IntKind.u64.wrap hv).tmod all ∧ (IntKind.u64.wrap hv).tmod all < all := by
        rw [hw, Int.tmod_eq_emod_of_nonneg (by omega)]
        exact ⟨Int.emod_nonneg _ (by omega), Int.emod_lt_of_pos _ hall⟩
      have hne : (all == 0) = false := by simp; omega
      obtain ⟨fn, tmps, assign, body, hy, hR⟩ := hY pre ⟨_, hx⟩ wr hJs hlt
      dsimp only at hy
      clear hw
      gi_wp2
      refine hR.mono ?_
      rintro e W3 (⟨rfl, hJ3, hk3⟩ | ⟨rfl, hJx3⟩)
      · gi_wp2
        go_roundw
        case rel => exact ⟨pre ++ [⟨_, hx⟩], _, rfl, by simp, Int.emod_nonneg _ (by decide), by simp; omega, hJ3, hnx.trans hk3⟩
        case measure => simp [intOf]; omega
      · gi_wp2
        refine bodyPost_ret (results_none rfl _ _ _) rfl ?_
        exact ⟨⟨_, rfl⟩, .inr ⟨pre ++ [⟨_, hx⟩], by simp, hJx3⟩⟩
    · have hlt' : decide ((pre.length : Int) < (probes : Int)) = false := decide_eq_false (by omega)
      gi_wp2
      go_end0
      exact ⟨⟨_, rfl⟩, .inl ⟨pre, by omega, hJs⟩⟩
theorem probed_stops (n₀ bk bp ba : Nat) (s : ByteArray) (all : Int) (probes : Nat) (hall : 0 < all) (hall2 : all < 18446744073709551616) (hp : probes ≤ 30) (h0r : ∃ k h, bloom_Hash.f k s = some h ∧ 0 ≤ h) (w : World) (hbk : bk < n₀) (hbp : bp < n₀) (hba : ba < n₀) (hn₀ : n₀ ≤ w.heap.size)
    (hk : w.cell? ⟨bk, 0, none⟩ = some (.string s)) (hpr : w.cell? ⟨bp, 0, none⟩ = some (.int .i64 (probes : Int))) (ha : w.cell? ⟨ba, 0, none⟩ = some (.int .u64 all)) :
    SeqStopsK Fence.wide 2 Try.prog 10 #[.pointer (some ⟨bk, 0, none⟩), .pointer (some ⟨bp, 0, none⟩), .pointer (some ⟨ba, 0, none⟩)] (fun x : { x : Int // 0 ≤ x ∧ x < all } => #[.int .u64 x.1]) (Below n₀) (fun ys => ys.length = probes) (fun pre => pre ≠ []) probes w := by
  intro l J Jx W hW hJ hJx hY h0
  refine (probed1_in l n₀ bk bp ba s all probes hall hall2 hp h0r hbk hbp hba J Jx hY (fun pre W W' hj hb => hJ pre W W' none hj ⟨hb.os, hb.tape, hb.output, hb.size, fun i hi _ => hb.block i hi⟩ (fun r e => by cases e)) W (Nat.le_trans hn₀ hW.size) ?_ ?_ ?_ h0).mono fun _ _ h => h
  · exact (hW.cell (p := ⟨bk, 0, none⟩) (by show bk < _; omega)).trans hk
  · exact (hW.cell (p := ⟨bp, 0, none⟩) (by show bp < _; omega)).trans hpr
  · exact (hW.cell (p := ⟨ba, 0, none⟩) (by show ba < _; omega)).trans ha
/-- the filter of awake -/
def fltC : Array Value := #[.int .u8 0, .int .u8 0, .int .u8 0, .int .u8 0, .int .u8 0, .int .u8 0, .int .u8 0, .int .u8 0, .int .u8 6]
set_option maxRecDepth 100000 in
set_option maxHeartbeats 2000000 in
theorem may_nil (s : ByteArray) (w : World) : Calls Try.prog 7 #[.slice none 0 0, .string s] w fun e w' => e = .returned (.bool true) ∧ Below w.heap.size w w' := by
  go_enter Try.func7, Try.ntmps7
  go_wp2
  refine bodyPost_ret (v := .bool true) ?_ rfl ⟨rfl, below_alloc (below_alloc (Below.refl _ _) _) _⟩
  simp [results, Try.f7, go_sem]
set_option maxRecDepth 100000 in
set_option maxHeartbeats 2000000 in
theorem may_flt (g c : Nat) (s : ByteArray) (h0r : ∃ k h, bloom_Hash.f k s = some h ∧ 0 ≤ h) (w : World) (hg : w.heap[g]? = some (.cells fltC 5 (0, 0))) :
    Calls Try.prog 7 #[.slice (some ⟨g, 0, none⟩) 9 c, .string s] w fun e w' => e = .returned (.bool false) ∧ Below w.heap.size w w' := by
  refine (callsIn_wide (n := 3)).1 ?_
  refine callsIn_of_wp_marks Try.func7 rfl trivial ?_ rfl
  simp only [Try.ntmps7, List.size_toArray, List.length_cons, List.length_nil, Nat.reduceAdd, Nat.reduceSub, Array.replicate_succ, Array.replicate_zero, List.push_toArray, List.append_toArray, List.nil_append, List.cons_append]
  refine wpIn_wide.2 ?_
  have hlt := blk_lt hg
  have hg2 := blk_alloc (blk_alloc hg (.cells #[.slice (some ⟨g, 0, none⟩) 9 c] 23)) (.cells #[.bool false] 4)
  have hc8 : w.cell? ⟨g, 8, none⟩ = some (.int .u8 6) := (blk_cell hg 8).trans rfl
  have hc9 : ((w.alloc (.cells #[.slice (some ⟨g, 0, none⟩) 9 c] 23)).alloc (.cells #[.bool false] 4)).cell? ⟨g, 8, none⟩ = some (.int .u8 6) := (blk_cell hg2 8).trans rfl
  go_wp2_with (first
    | (go_at_call 8; refine (probed_calls s 64 6 _).mono ?_; rintro e w2 ⟨rfl, rfl⟩))
  obtain ⟨W1, hW1⟩ : ∃ W1, (w.alloc (.cells #[.slice (some ⟨g, 0, none⟩) 9 c] 23)).alloc (.cells #[.bool false] 4) = W1 := ⟨_, rfl⟩
  have hs1 : W1.heap.size = w.heap.size + 1 + 1 := by rw [← hW1]; simp
  have hF1 : W1.heap[w.heap.size]? = some (.cells #[.slice (some ⟨g, 0, none⟩) 9 c] 23 (0, 0)) := by rw [← hW1]; exact blk_alloc (blk_new w _) _
  have hR1 : W1.heap[w.heap.size + 1]? = some (.cells #[.bool false] 4 (0, 0)) := by
    rw [← hW1]
    have := blk_new (w.alloc (.cells #[.slice (some ⟨g, 0, none⟩) 9 c] 23)) (.cells #[.bool false] 4)
    rwa [World.size_alloc] at this
  have hb1 : Below w.heap.size w W1 := by rw [← hW1]; exact below_alloc (below_alloc (Below.refl _ _) _) _
  rw [hW1] at hg2 ⊢
  obtain ⟨W0, hW0⟩ : ∃ W0, ((W1.alloc (.cells #[.string s] 9)).alloc (.cells #[.int .u64 64] 35)).alloc (.cells #[.int .i64 6] 3) = W0 := ⟨_, rfl⟩
  have hs0 : W0.heap.size = w.heap.size + 1 + 1 + 1 + 1 + 1 := by rw [← hW0]; simp [hs1]
  have hK0 : W0.heap[w.heap.size + 1 + 1]? = some (.cells #[.string s] 9 (0, 0)) := by
    rw [← hW0, ← hs1]
    exact blk_alloc (blk_alloc (blk_new W1 _) _) _
  have hA0 : W0.heap[w.heap.size + 1 + 1 + 1]? = some (.cells #[.int .u64 64] 35 (0, 0)) := by
    rw [← hW0, ← hs1]
    have := blk_new (W1.alloc (.cells #[.string s] 9)) (.cells #[.int .u64 64] 35)
    rw [World.size_alloc] at this
    exact blk_alloc this _
  have hP0 : W0.heap[w.heap.size + 1 + 1 + 1 + 1]? = some (.cells #[.int .i64 6] 3 (0, 0)) := by
    rw [← hW0, ← hs1]
    have := blk_new ((W1.alloc (.cells #[.string s] 9)).alloc (.cells #[.int .u64 64] 35)) (.cells #[.int .i64 6] 3)
    rwa [World.size_alloc, World.size_alloc] at this
  have hF0 : W0.heap[w.heap.size]? = some (.cells #[.slice (some ⟨g, 0, none⟩) 9 c] 23 (0, 0)) := by rw [← hW0]; exact blk_alloc (blk_alloc (blk_alloc hF1 _) _) _
  have hR0 : W0.heap[w.heap.size + 1]? = some (.cells #[.bool false] 4 (0, 0)) := by rw [← hW0]; exact blk_alloc (blk_alloc (blk_alloc hR1 _) _) _
  have hg0 : W0.heap[g]? = some (.cells fltC 5 (0, 0)) := by rw [← hW0]; exact blk_alloc (blk_alloc (blk_alloc hg2 _) _) _
  have hb0 : Below w.heap.size w W0 := by rw [← hW0]; exact below_alloc (below_alloc (below_alloc hb1 _) _) _
  rw [hW0]
  clear hW0 hW1 hs1 hF1 hR1 hb1 hc8 hc9 hg2
  refine (wpIn_wide (n := 3)).1 ?_
  refine wpIn_rangeFunc_ownF rfl (by decide) (gf := 10) (lb := #[.pointer (some ⟨w.heap.size + 1 + 1, 0, none⟩), .pointer (some ⟨w.heap.size + 1 + 1 + 1 + 1, 0, none⟩), .pointer (some ⟨w.heap.size + 1 + 1 + 1, 0, none⟩)]) rfl trivial (enters_of Try.func10 (by kernel_rfl) rfl)
    (probed_stops W0.heap.size _ _ _ s 64 6 (by decide) (by decide) (by decide) h0r W0 (by omega) (by omega) (by omega) (Nat.le_refl _) ((blk_cell hK0 0).trans rfl) ((blk_cell hP0 0).trans rfl) ((blk_cell hA0 0).trans rfl)) belowK_t (belowK_b (Nat.le_refl _)) (Below.refl _ _) (fun _ => rfl)
    (fun pre W => (pre = [] ∧ (∀ j, j < 8 → W.cell? ⟨g, j, none⟩ = some (.int .u8 0)) ∧ W.cell? ⟨w.heap.size, 0, none⟩ = some (.slice (some ⟨g, 0, none⟩) 9 c) ∧ W.cell? ⟨w.heap.size + 1, 0, none⟩ = some (.bool false) ∧ W.frozen? ⟨w.heap.size + 1, 0, none⟩ = false) ∧ Below w.heap.size w W)
    (fun c pre W => (c = .ret ∧ W.cell? ⟨w.heap.size + 1, 0, none⟩ = some (.bool false)) ∧ Below w.heap.size w W)
    (OwnFrom.and (Own.from (fun s A B row hs hg hr => ⟨hs.1, fun j hj => cell_kept (hs.2.1 j hj) hg hr, cell_kept hs.2.2.1 hg hr, cell_kept hs.2.2.2.1 hg hr, (frozen_kept hs.2.2.2.1 hg hr).trans hs.2.2.2.2⟩) _) (ownFrom_below (Nat.le_refl _) (by omega)))
    (fun c => OwnFrom.and (Own.from (fun s A B row hs hg hr => ⟨hs.1, cell_kept hs.2 hg hr⟩) _) (ownFrom_below (Nat.le_refl _) (by omega)))
    ⟨⟨rfl, fun j hj => (blk_cell hg0 j).trans (by match j, hj with
        | 0, _ => rfl
        | 1, _ => rfl
        | 2, _ => rfl
        | 3, _ => rfl
        | 4, _ => rfl
        | 5, _ => rfl
        | 6, _ => rfl
        | 7, _ => rfl), (blk_cell hF0 0).trans rfl, (blk_cell hR0 0).trans rfl, blk_frozen hR0 0⟩, hb0⟩
    (fun x => { tmps := #[.slice (some ⟨g, 0, none⟩) 9 c, .string s, .pointer (some ⟨w.heap.size, 0, none⟩), undef, .pointer (some ⟨w.heap.size + 1, 0, none⟩), .int .i64 8, .int .u64 x.1, .slice (some ⟨g, 0, none⟩) 9 c, .int .i64 9, .int .i64 8, .int .i64 8, .bool false, .bool false, .slice (some ⟨g, 0, none⟩) 9 c,
        .int .i64 8, .pointer (some ⟨g, 8, none⟩), .int .u8 6, .bool false, .bool false, .string s, .int .i64 8, .int .u64 8, .int .u64 64, .slice (some ⟨g, 0, none⟩) 9 c, .int .i64 8, .pointer (some ⟨g, 8, none⟩), .int .u8 6, .int .i64 6,
        .func (.func 10) #[] #[.pointer (some ⟨w.heap.size + 1 + 1, 0, none⟩), .pointer (some ⟨w.heap.size + 1 + 1 + 1 + 1, 0, none⟩), .pointer (some ⟨w.heap.size + 1 + 1 + 1, 0, none⟩)], .int .u64 x.1, undef, undef, undef, undef, undef, undef, undef, undef, undef, undef], defers := [] }) ?assign ?body ?done ?stop
  case assign =>
    intro l x W K hK
    gi_wp2
    exact hK
  case body =>
    rintro l pre x W ⟨⟨hp, hcg, hcw, hcr, hfr⟩, hB⟩ _
    obtain ⟨x, hx0, hx1⟩ := x
    have hcx := hcg (x / 8).toNat (by omega)
    have hx8 : decide (x / 8 < 9) = true := decide_eq_true (by omega)
    have hx9 : (0 ≤ x / 8) = True := eq_true (by omega)
    gi_wp2
    exact ⟨KeepsOthers.setCell _ _ _, ⟨rfl, World.cell?_setCell_same' _ _ _ (by rw [hcr]; rfl)⟩, hB.setCell (p := ⟨w.heap.size + 1, 0, none⟩) (by simp) _⟩
  case done =>
    rintro D xs W hD hxs ⟨⟨hp, _⟩, _⟩ _
    rw [hp] at hxs
    cases hxs
  case stop =>
    rintro D c pre W hD hpre ⟨⟨rfl, hcr⟩, hB⟩ hK
    gi_wp2
    refine ⟨by simp, .inl ⟨_, _, rfl, run_takeDeferred hK, ?_⟩⟩
    have hc5 := cell_kept hcr (grownBy_putObj' _ D (.deferred none)) (fun r e => by cases e; exact ⟨_, hK, rfl⟩)
    refine ⟨.bool false, ?_, rfl, hB.trans (belowK_b (w := w) (Nat.le_refl _) W D _ _ (by omega) hK rfl rfl)⟩
    simp [results, Try.f7, go_sem, hc5]
theorem fl1 (w : World) : Sem.run Try.prog (binOp BinOp.gtr 27 (Value.float FloatKind.f64 0) (Value.float FloatKind.f64 0)) w = .ok (.bool false) w := by first | rfl | kernel_rfl
theorem fl2 (w : World) : Sem.run Try.prog (binOp BinOp.gtr 27 (Value.float FloatKind.f64 4621819117588971520) (Value.float FloatKind.f64 0)) w = .ok (.bool true) w := by first | rfl | kernel_rfl
theorem fl3 (w : World) : Sem.run Try.prog (binOp BinOp.leq 27 (Value.float FloatKind.f64 4621819117588971520) (Value.float FloatKind.f64 4632233691727265792)) w = .ok (.bool true) w := by first | rfl | kernel_rfl
theorem fl4 (w : World) : Sem.run Try.prog (binOp BinOp.mul 27 (Value.float FloatKind.f64 4621819117588971520) (Value.float FloatKind.f64 4604390187031047700)) w = .ok (.float .f64 4619454727784602009) w := by first | rfl | kernel_rfl
theorem fl5 (w : World) : Sem.run Try.prog (convert 27 3 (.float .f64 4619454727784602009)) w = .ok (.int .i64 6) w := by first | rfl | kernel_rfl
theorem fl6 (w : World) : Sem.run Try.prog (convert 3 27 (.int .i64 0)) w = .ok (.float .f64 0) w := by first | rfl | kernel_rfl
theorem fl7 (w : World) : Sem.run Try.prog (binOp BinOp.mul 27 (Value.float FloatKind.f64 4621819117588971520) (Value.float FloatKind.f64 0)) w = .ok (.float .f64 0) w := by first | rfl | kernel_rfl
theorem fl8 (w : World) : Sem.run Try.prog (convert 27 3 (.float .f64 0)) w = .ok (.int .i64 0) w := by first | rfl | kernel_rfl
set_option maxRecDepth 100000 in
set_option maxHeartbeats 2000000 in
theorem build_zero (w : World) : Calls Try.prog 5 #[.slice none 0 0, .float .f64 0] w fun e w' => (∃ v, e = .returned (.tuple #[v, .int .i64 100])) ∧ Below w.heap.size w w' := by
  have h1 := fl1
  go_enter Try.func5, Try.ntmps5
  go_wp2
  go_ret2
  exact ⟨⟨_, rfl⟩, Below.refl _ _⟩
def zerC : Array Value := #[.int .u8 0, .int .u8 0, .int .u8 0, .int .u8 0, .int .u8 0, .int .u8 0, .int .u8 0, .int .u8 0, .int .u8 0]
theorem mk9 (w : World) : Sem.run Try.prog (Instr.makeSlice 23 (.int .i64 8) (.int .i64 9)) w = .ok (.slice (some ⟨w.heap.size, 0, none⟩) 8 9) (w.alloc (.cells zerC 5)) := by
  obtain ⟨i5, hi5, hz5, hs5, hb5⟩ := info_parts info5
  have h := run_makeSlice (P := Try.prog) (w := w) 23 5 i5 _ Try.underlying23 hi5 hz5 .i64 .i64 8 9 (by decide) (by decide) (by rw [hs5]; decide) (by rw [hb5]; decide) (by decide)
  have e : madeCells (Value.int IntKind.u8 0).cells (Int.toNat 9 * 1) = zerC := by first | rfl | kernel_rfl
  rw [hs5, e] at h
  exact h
set_option maxRecDepth 100000 in
set_option maxHeartbeats 2000000 in
theorem build_ten (w : World) : Calls Try.prog 5 #[.slice none 0 0, .float .f64 4621819117588971520] w fun e w' => ∃ g, e = .returned (.tuple #[.slice (some ⟨g, 0, none⟩) 9 9, .int .i64 0]) ∧ w'.heap[g]? = some (.cells fltC 5 (0, 0)) ∧ Below w.heap.size w w' := by
  have h2 := fl2
  have h3 := fl3
  have h4 := fl4
  have h5 := fl5
  have h6 := fl6
  have h7 := fl7
  have h8 := fl8
  have h9 := mk9 w
  go_enter Try.func5, Try.ntmps5
  go_wp2
  obtain ⟨W, hW⟩ : ∃ W, (w.alloc (.cells zerC 5)).alloc (.cells #[.slice (some ⟨w.heap.size, 0, none⟩) 8 9] 23) = W := ⟨_, rfl⟩
  have hZ : W.heap[w.heap.size]? = some (.cells zerC 5 (0, 0)) := by rw [← hW]; exact blk_alloc (blk_new w _) _
  have hS : W.heap[w.heap.size + 1]? = some (.cells #[.slice (some ⟨w.heap.size, 0, none⟩) 8 9] 23 (0, 0)) := by
    rw [← hW]
    have := blk_new (w.alloc (.cells zerC 5)) (.cells #[.slice (some ⟨w.heap.size, 0, none⟩) 8 9] 23)
    rwa [World.size_alloc] at this
  have hB : Below w.heap.size w W := by rw [← hW]; exact below_alloc (below_alloc (Below.refl _ _) _) _
  rw [hW]
  clear hW h2 h3 h4 h5 h6 h7 h8 h9
  go_loopg [38] 0 (fun g v38 wx => v38 = .int .i64 0 ∧ wx = W)
  case atStart => exact ⟨rfl, rfl⟩
  case round =>
    obtain ⟨rfl, rfl⟩ := hrel
    have cS := (blk_cell hS 0).trans rfl
    have c8 : wr.cell? ⟨w.heap.size, 8, none⟩ = some (.int .u8 0) := (blk_cell hZ 8).trans rfl
    have f8 := blk_frozen hZ 8
    have hZ2 := blk_alloc hZ (.cells #[.int .u8 6] 5)
    have c8' : (wr.alloc (.cells #[.int .u8 6] 5)).cell? ⟨w.heap.size, 8, none⟩ = some (.int .u8 0) := (blk_cell hZ2 8).trans rfl
    have f8' := blk_frozen hZ2 8
    go_wp2
    go_ret2
    exact ⟨_, rfl, blk_put hZ2 8 (.int .u8 6) rfl, below_set (below_alloc hB _) (Nat.le_refl _)⟩
theorem hash_nil : bloom_Hash.f 4 (⟨#[]⟩ : ByteArray) = some 3164544308 := by decide +kernel
theorem hash_a : ∃ k h, bloom_Hash.f k (⟨#[97]⟩ : ByteArray) = some h ∧ 0 ≤ h := ⟨6, 678337968, by decide +kernel, by decide⟩
set_option maxRecDepth 100000 in
set_option maxHeartbeats 4000000 in
theorem awake_calls (w : World) : Calls Try.prog 4 #[] w fun e w' => e = .returned (.bool true) ∧ Below w.heap.size w w' := by
  go_enter Try.func4, Try.ntmps4
  go_wp2_with (first
    | (go_at_call 5; with_reducible refine (build_ten _).mono ?_; rintro e w2 ⟨g, rfl, hg2, hb2⟩; have HG := Aside0.mk hg2; have HB := Aside0.mk hb2; clear hg2 hb2)
    | (go_at_call 5; with_reducible refine (build_zero _).mono ?_; rintro e w3 ⟨⟨v3, rfl⟩, hb3⟩; have hg3 := blk_below HG.out hb3; have hB3 := below_step HB.out hb3; clear HG HB; have HG := Aside0.mk hg3; have HB := Aside0.mk hB3; clear hg3 hB3 hb3)
    | (go_at_call 6; with_reducible refine (bloom_Hash.calls 4 _ _ _ hash_nil).mono ?_; rintro e w4 ⟨rfl, hb4⟩; have hg4 := blk_below HG.out hb4; have hB4 := below_step HB.out hb4; clear HG HB; have HG := Aside0.mk hg4; have HB := Aside0.mk hB4; have c8 : w4.cell? ⟨g, 8, none⟩ = some (.int .u8 6) := (blk_cell hg4 8).trans rfl; have c0 : w4.cell? ⟨g, 0, none⟩ = some (.int .u8 0) := (blk_cell hg4 0).trans rfl; clear hg4 hB4 hb4)
    | (go_at_call 7; with_reducible refine (may_flt g 9 _ hash_a _ HG.out).mono ?_; rintro e w5 ⟨rfl, hb5⟩; have hB5 := below_step HB.out hb5; clear HB; have HB := Aside0.mk hB5; clear hB5 hb5)
    | (go_at_call 7; with_reducible refine (may_nil _ _).mono ?_; rintro e w6 ⟨rfl, hb6⟩; have hB6 := below_step HB.out hb6; clear HB; have HB := Aside0.mk hB6; clear hB6 hb6))
  go_ret
  exact ⟨rfl, HB.out⟩
set_option maxRecDepth 100000 in
set_option maxHeartbeats 4000000 in
theorem names_calls (w : World) : Calls Try.prog 3 #[] w fun e w' => e = .returned (.bool true) ∧ Below w.heap.size w w' := by
  go_enter Try.func3, Try.ntmps3
  go_wp2_with (go_at_call 4; with_reducible refine (awake_calls _).mono ?_; rintro e w2 ⟨rfl, hb⟩; have HB := Aside0.mk hb; clear hb)
  go_ret
  exact ⟨rfl, HB.out⟩
end Go.Proofs.Ytfhfjcmaokpamaa.Bl
