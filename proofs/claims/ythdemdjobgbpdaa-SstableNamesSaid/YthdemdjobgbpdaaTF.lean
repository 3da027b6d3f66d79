/- bloom's bits: the range over them, by the kit's law of a range over a function; each bit told. -/
import Derived.RangeFuncNested
import Derived.RangeFuncBound
import Derived.RangeFuncCalls
import Derived.RangeFuncLeaves
import Derived.Shelf.Abstract
import Derived.WalkKit
import Derived.OwnWalkIn
import Derived.TacticsInMore
import Derived.LoopNIn
import Derived.LoopIn
import Derived.Test.YthdemdjobgbpdaaP2
namespace Go.Proofs.Ythdemdjobgbpdaa.T
open Go.RowKit Go.Shelf Go.Proofs.YthdemdjobgbpdaaW.PrintWords Go.Proofs.YthdemdjobgbpdaaW.PrintLast Go.Proofs.YthdemdjobgbpdaaW.PrintMore Go.Proofs.Ythdemdjobgbpdaa.P
attribute [local go_sem] Oper.semAt_some
set_option linter.unusedVariables false
def rot15 (x : Int) : Int := Go.bits .or .u32 (shl .u32 x 15) (shr .u32 x 17)
set_option maxRecDepth 100000 in
set_option maxHeartbeats 1000000 in
theorem rot_calls (x : Int) (w : World) : Calls Try.prog 65 #[.int .u32 x, .int .i64 15] w fun e w' => e = .returned (.int .u32 (rot15 x)) ∧ w' = w := by
  have hb : Go.bits .and .u64 15 31 = 15 := by decide +kernel
  unfold rot15
  go_enter Try.func65, Try.ntmps65
  go_wp2
  go_ret
  exact ⟨rfl, rfl⟩
set_option maxRecDepth 100000 in
set_option maxHeartbeats 1000000 in
theorem probed_calls (s : ByteArray) (all probes : Int) (w : World) : Calls Try.prog 44 #[.string s, .int .u64 all, .int .i64 probes] w fun e w' =>
    e = .returned (.func (.func 63) #[] #[.pointer (some ⟨w.heap.size, 0, none⟩), .pointer (some ⟨w.heap.size + 1 + 1, 0, none⟩), .pointer (some ⟨w.heap.size + 1, 0, none⟩)]) ∧
    w' = ((w.alloc (.cells #[.string s] 9)).alloc (.cells #[.int .u64 all] 33)).alloc (.cells #[.int .i64 probes] 3) := by
  go_enter Try.func44, Try.ntmps44
  go_wp2
  go_ret
  exact ⟨rfl, rfl⟩
/-- the numbers that the bits are made of -/
def hsq (h d : Int) : Nat → Int
  | 0 => h
  | n + 1 => IntKind.u32.wrap (hsq h d n + d)
theorem hsq_nn {h d : Int} (h0 : 0 ≤ h) : ∀ n, 0 ≤ hsq h d n
  | 0 => h0
  | n + 1 => by
    show 0 ≤ IntKind.u32.wrap _
    simp only [IntKind.wrap, IntKind.bits, IntKind.signed]
    exact Int.emod_nonneg _ (by decide)
/-- a key's bits -/
def bitAt (h all : Int) (n : Nat) : Int := (IntKind.u64.wrap (hsq h (rot15 h) n)).tmod all
theorem bitAt_in {h all : Int} (h0 : 0 ≤ h) (ha : 0 < all) (n : Nat) : 0 ≤ bitAt h all n ∧ bitAt h all n < all := by
  have hw : ∀ y : Int, IntKind.u64.wrap y = y % 18446744073709551616 := fun y => by simp [IntKind.wrap, IntKind.bits, IntKind.signed]
  unfold bitAt
  rw [hw, Int.tmod_eq_emod_of_nonneg (by omega)]
  exact ⟨Int.emod_nonneg _ (by omega), Int.emod_lt_of_pos _ ha⟩
/-- a block stays as it is -/
def KeepB (b : Nat) (W W' : World) : Prop := W'.heap[b]? = W.heap[b]?
theorem keepB_t {b : Nat} {A B C : World} (h : KeepB b A B) (k : KeepB b B C) : KeepB b A C := Eq.trans k h
theorem keepB_b {b : Nat} {w : World} (hb : b < w.heap.size) (W : World) (l : Nat) (o o' : Obj) (hl : w.heap.size ≤ l) (_ : W.heap[l]? = some o) (_ : o.isCells = false) (_ : o.isWalk = false) : KeepB b W (W.putObj l o') := World.putObj_heap_other (by omega)
theorem KeepB.cell {b j : Nat} {W W' : World} (h : KeepB b W W') : W'.cell? ⟨b, j, none⟩ = W.cell? ⟨b, j, none⟩ := by unfold KeepB at h; simp [World.cell?, h]
set_option maxRecDepth 100000 in
set_option maxHeartbeats 2000000 in
/-- The range over a key's bits, in their order; as many as are asked for, unless it is stopped. -/
theorem probed1_in (l n₀ bk bp ba : Nat) (s : ByteArray) (all h : Int) (probes : Nat) (hall : 0 < all) (hall2 : all < 18446744073709551616) (hp : probes ≤ 1000) (k : Nat) (hh : bloom_Hash.f k s = some h) (hh0 : 0 ≤ h) (hbk : bk < n₀) (hbp : bp < n₀) (hba : ba < n₀)
    (J Jx : List { i : Nat // i < probes } → World → Prop)
    (hY : ∀ pre x W, J pre W → pre.length < probes → YieldAt Fence.wide 1 Try.prog l #[.int .u64 (bitAt h all x.1)] W fun e W' =>
      (e = .returned (.bool true) ∧ J (pre ++ [x]) W' ∧ KeepB ba W W') ∨ (e = .returned (.bool false) ∧ Jx (pre ++ [x]) W'))
    (hJB : ∀ pre W W', J pre W → Below W.heap.size W W' → J pre W')
    (W : World) (hn₀ : n₀ ≤ W.heap.size) (hk : W.cell? ⟨bk, 0, none⟩ = some (.string s)) (hpr : W.cell? ⟨bp, 0, none⟩ = some (.int .i64 (probes : Int))) (ha : W.cell? ⟨ba, 0, none⟩ = some (.int .u64 all)) (h0 : J [] W) :
    CallsIn Fence.wide 2 Try.prog 63 #[.func (.yield l) #[] #[], .pointer (some ⟨bk, 0, none⟩), .pointer (some ⟨bp, 0, none⟩), .pointer (some ⟨ba, 0, none⟩)] W fun e W' => (∃ v, e = .returned v) ∧
      ((∃ ys : List { i : Nat // i < probes }, (ys.map (·.1) = List.range probes) ∧ J ys W') ∨ (∃ pre : List { i : Nat // i < probes }, pre ≠ [] ∧ Jx pre W')) := by
  refine callsIn_of_wp Try.func63 rfl trivial ?_ rfl
  simp only [Try.ntmps63, List.size_toArray, List.length_cons, List.length_nil, Nat.reduceAdd, Nat.reduceSub, Array.replicate_succ, Array.replicate_zero, List.push_toArray, List.append_toArray, List.nil_append, List.cons_append]
  refine wpIn_wide.2 ?_
  go_wp2_with (first
    | (go_at_call 64; refine (bloom_Hash.calls k s h _ hh).mono ?_; rintro e w2 ⟨rfl, hb2⟩; have hk2 := hb2.cell (World.block_lt_of_cell? _ _ hk); have hp2 := hb2.cell (World.block_lt_of_cell? _ _ hpr); have ha2 := hb2.cell (World.block_lt_of_cell? _ _ ha); rw [hk] at hk2; rw [hpr] at hp2; rw [ha] at ha2)
    | (go_at_call 65; refine (rot_calls h _).mono ?_; rintro e w2 ⟨rfl, rfl⟩))
  refine (wpIn_wide (n := 2)).1 ?_
  have hB2 : KeepB ba W w2 := hb2.block ba (by omega)
  have hJ2 : J [] w2 := hJB _ _ _ h0 hb2
  gi_loopw [5, 12] (fun v5 v12 wr => ∃ (pre : List { i : Nat // i < probes }), v5 = .int .u32 (hsq h (rot15 h) pre.length) ∧ v12 = .int .i64 (pre.length : Int) ∧ pre.map (·.1) = List.range pre.length ∧ pre.length ≤ probes ∧ J pre wr ∧ KeepB ba W wr) (fun v5 v12 _ => probes - (intOf v12).toNat)
  case atStart => exact ⟨[], rfl, rfl, rfl, Nat.zero_le _, hJ2, hB2⟩
  case round =>
    obtain ⟨pre, rfl, rfl, hmp, hpl, hJs, hnx⟩ := hrel
    have ha3 : wr.cell? ⟨ba, 0, none⟩ = some (.int .u64 all) := hnx.cell.trans ha
    by_cases hlt : pre.length < probes
    · have hlt' : decide ((pre.length : Int) < (probes : Int)) = true := decide_eq_true (by omega)
      have hne : (all == 0) = false := by simp; omega
      obtain ⟨fn, tmps, assign, body, hy, hR⟩ := hY pre ⟨pre.length, hlt⟩ wr hJs hlt
      dsimp only [bitAt] at hy
      gi_wp2
      refine hR.mono ?_
      rintro e W3 (⟨rfl, hJ3, hk3⟩ | ⟨rfl, hJx3⟩)
      · gi_wp2
        go_roundw
        case rel => exact ⟨pre ++ [⟨pre.length, hlt⟩], by rw [List.length_append]; rfl, by simp, by rw [List.map_append, hmp, List.length_append]; simp [List.range_succ], by simp; omega, hJ3, keepB_t hnx hk3⟩
        case measure => simp [intOf]; omega
      · gi_wp2
        refine bodyPost_ret (results_none rfl _ _ _) rfl ?_
        exact ⟨⟨_, rfl⟩, .inr ⟨pre ++ [⟨pre.length, hlt⟩], by simp, hJx3⟩⟩
    · have hlt' : decide ((pre.length : Int) < (probes : Int)) = false := decide_eq_false (by omega)
      gi_wp2
      go_end0
      have he : pre.length = probes := by omega
      exact ⟨⟨_, rfl⟩, .inl ⟨pre, by rw [hmp, he], hJs⟩⟩
theorem probed_stopsB (n₀ bk bp ba : Nat) (s : ByteArray) (all h : Int) (probes : Nat) (hall : 0 < all) (hall2 : all < 18446744073709551616) (hp : probes ≤ 1000) (k : Nat) (hh : bloom_Hash.f k s = some h) (hh0 : 0 ≤ h) (w : World) (hbk : bk < n₀) (hbp : bp < n₀) (hba : ba < n₀) (hn₀ : n₀ ≤ w.heap.size)
    (hk : w.cell? ⟨bk, 0, none⟩ = some (.string s)) (hpr : w.cell? ⟨bp, 0, none⟩ = some (.int .i64 (probes : Int))) (ha : w.cell? ⟨ba, 0, none⟩ = some (.int .u64 all)) :
    SeqStopsK Fence.wide 2 Try.prog 63 #[.pointer (some ⟨bk, 0, none⟩), .pointer (some ⟨bp, 0, none⟩), .pointer (some ⟨ba, 0, none⟩)] (fun x : { i : Nat // i < probes } => #[.int .u64 (bitAt h all x.1)]) (KeepB ba) (fun ys => ys.map (·.1) = List.range probes) (fun pre => pre ≠ []) probes w := by
  intro l J Jx W hW hJ hJx hY h0
  refine (probed1_in l n₀ bk bp ba s all h probes hall hall2 hp k hh hh0 hbk hbp hba J Jx hY (fun pre W W' hj hb => hJ pre W W' none hj ⟨hb.os, hb.tape, hb.output, hb.size, fun i hi _ => hb.block i hi⟩ (fun r e => by cases e)) W (Nat.le_trans hn₀ hW.size) ?_ ?_ ?_ h0).mono fun _ _ h => h
  · exact (hW.cell (p := ⟨bk, 0, none⟩) (by show bk < _; omega)).trans hk
  · exact (hW.cell (p := ⟨bp, 0, none⟩) (by show bp < _; omega)).trans hpr
  · exact (hW.cell (p := ⟨ba, 0, none⟩) (by show ba < _; omega)).trans ha
theorem probed_stops (n₀ bk bp ba : Nat) (s : ByteArray) (all h : Int) (probes : Nat) (hall : 0 < all) (hall2 : all < 18446744073709551616) (hp : probes ≤ 1000) (k : Nat) (hh : bloom_Hash.f k s = some h) (hh0 : 0 ≤ h) (w : World) (hbk : bk < n₀) (hbp : bp < n₀) (hba : ba < n₀) (hn₀ : n₀ ≤ w.heap.size)
    (hk : w.cell? ⟨bk, 0, none⟩ = some (.string s)) (hpr : w.cell? ⟨bp, 0, none⟩ = some (.int .i64 (probes : Int))) (ha : w.cell? ⟨ba, 0, none⟩ = some (.int .u64 all)) :
    SeqStopsK Fence.wide 2 Try.prog 63 #[.pointer (some ⟨bk, 0, none⟩), .pointer (some ⟨bp, 0, none⟩), .pointer (some ⟨ba, 0, none⟩)] (fun x : { i : Nat // i < probes } => #[.int .u64 (bitAt h all x.1)]) (Below n₀) (fun ys => ys.map (·.1) = List.range probes) (fun pre => pre ≠ []) probes w := by
  intro l J Jx W hW hJ hJx hY h0
  refine probed_stopsB n₀ bk bp ba s all h probes hall hall2 hp k hh hh0 w hbk hbp hba hn₀ hk hpr ha l J Jx W hW hJ hJx (fun pre x W1 hj hl => (hY pre x W1 hj hl).mono ?_) h0
  rintro e W' (⟨h1, h2, h3⟩ | h)
  · exact .inl ⟨h1, h2, h3.block ba hba⟩
  · exact .inr h
end Go.Proofs.Ythdemdjobgbpdaa.T
