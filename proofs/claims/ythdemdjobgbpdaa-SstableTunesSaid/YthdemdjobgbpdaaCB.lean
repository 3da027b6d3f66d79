/- bloom's bits: the range over them, by the kit's law of a range over a function; each bit told. Floats: what a number of bits, times another, comes to as an integer: it is there, and it is small. Plain: no program. bloom's Build: what it comes to. sstable's part: a part's bytes, and whether its sum is its own. sstable's cuts: the blocks of a table, one behind the other, with their last keys. sstable's Build: what it comes to. -/
import Derived.RangeFuncNested
import Derived.RangeFuncBound
import Derived.RangeFuncCalls
import Derived.RangeFuncLeaves
import Derived.Shelf.Abstract
import Derived.WalkKit
import Derived.OwnWalkIn
import Derived.TacticsInMore
import Derived.LoopNIn
import Derived.LoopIn
import Derived.Test.YthdemdjobgbpdaaP2
import Derived.Laws.FloatArith
import Derived.Test.YthdemdjobgbpdaaP10
import Derived.Test.YthdemdjobgbpdaaP9
import Derived.Test.YthdemdjobgbpdaaP11
import Derived.Test.YthdemdjobgbpdaaCA
import Derived.Test.YthdemdjobgbpdaaP8
import Derived.Test.YthdemdjobgbpdaaP4
set_option linter.unusedVariables false
set_option linter.unusedSimpArgs false
namespace Go.Proofs.Ythdemdjobgbpdaa.T
open Go.RowKit Go.Shelf Go.Proofs.YthdemdjobgbpdaaW.PrintWords Go.Proofs.YthdemdjobgbpdaaW.PrintLast Go.Proofs.YthdemdjobgbpdaaW.PrintMore Go.Proofs.Ythdemdjobgbpdaa.P
attribute [local go_sem] Oper.semAt_some
set_option linter.unusedVariables false
def rot15 (x : Int) : Int := Go.bits .or .u32 (shl .u32 x 15) (shr .u32 x 17)
set_option maxRecDepth 100000 in
set_option maxHeartbeats 1000000 in
theorem rot_calls (x : Int) (w : World) : Calls Try.prog 65 #[.int .u32 x, .int .i64 15] w fun e w' => e = .returned (.int .u32 (rot15 x)) ∧ w' = w := by
  have hb : Go.bits .and .u64 15 31 = 15 := by decide +kernel
  unfold rot15
  go_enter Try.func65, Try.ntmps65
  go_wp2
  go_ret
  exact ⟨rfl, rfl⟩
set_option maxRecDepth 100000 in
set_option maxHeartbeats 1000000 in
theorem probed_calls (s : ByteArray) (all probes : Int) (w : World) : Calls Try.prog 44 #[.string s, .int .u64 all, .int .i64 probes] w fun e w' =>
    e = .returned (.func (.func 63) #[] #[.pointer (some ⟨w.heap.size, 0, none⟩), .pointer (some ⟨w.heap.size + 1 + 1, 0, none⟩), .pointer (some ⟨w.heap.size + 1, 0, none⟩)]) ∧
    w' = ((w.alloc (.cells #[.string s] 9)).alloc (.cells #[.int .u64 all] 33)).alloc (.cells #[.int .i64 probes] 3) := by
  go_enter Try.func44, Try.ntmps44
  go_wp2
  go_ret
  exact ⟨rfl, rfl⟩
/-- the numbers that the bits are made of -/
def hsq (h d : Int) : Nat → Int
  | 0 => h
  | n + 1 => IntKind.u32.wrap (hsq h d n + d)
theorem hsq_nn {h d : Int} (h0 : 0 ≤ h) : ∀ n, 0 ≤ hsq h d n
  | 0 => h0
  | n + 1 => by
    show 0 ≤ IntKind.u32.wrap _
    simp only [IntKind.wrap, IntKind.bits, IntKind.signed]
    exact Int.emod_nonneg _ (by decide)
/-- a key's bits -/
def bitAt (h all : Int) (n : Nat) : Int := (IntKind.u64.wrap (hsq h (rot15 h) n)).tmod all
theorem bitAt_in {h all : Int} (h0 : 0 ≤ h) (ha : 0 < all) (n : Nat) : 0 ≤ bitAt h all n ∧ bitAt h all n < all := by
  have hw : ∀ y : Int, IntKind.u64.wrap y = y % 18446744073709551616 := fun y => by simp [IntKind.wrap, IntKind.bits, IntKind.signed]
  unfold bitAt
  rw [hw, Int.tmod_eq_emod_of_nonneg (by omega)]
  exact ⟨Int.emod_nonneg _ (by omega), Int.emod_lt_of_pos _ ha⟩
/-- a block stays as it is -/
def KeepB (b : Nat) (W W' : World) : Prop := W'.heap[b]? = W.heap[b]?
theorem keepB_t {b : Nat} {A B C : World} (h : KeepB b A B) (k : KeepB b B C) : KeepB b A C := Eq.trans k h
theorem keepB_b {b : Nat} {w : World} (hb : b < w.heap.size) (W : World) (l : Nat) (o o' : Obj) (hl : w.heap.size ≤ l) (_ : W.heap[l]? = some o) (_ : o.isCells = false) (_ : o.isWalk = false) : KeepB b W (W.putObj l o') := World.putObj_heap_other (by omega)
theorem KeepB.cell {b j : Nat} {W W' : World} (h : KeepB b W W') : W'.cell? ⟨b, j, none⟩ = W.cell? ⟨b, j, none⟩ := by unfold KeepB at h; simp [World.cell?, h]
set_option maxRecDepth 100000 in
set_option maxHeartbeats 2000000 in
/-- The range over a key's bits, in their order; as many as are asked for, unless it is stopped. -/
theorem probed1_in (l n₀ bk bp ba : Nat) (s : ByteArray) (all h : Int) (probes : Nat) (hall : 0 < all) (hall2 : all < 18446744073709551616) (hp : probes ≤ 1000) (k : Nat) (hh : bloom_Hash.f k s = some h) (hh0 : 0 ≤ h) (hbk : bk < n₀) (hbp : bp < n₀) (hba : ba < n₀)
    (J Jx : List { i : Nat // i < probes } → World → Prop)
    (hY : ∀ pre x W, J pre W → pre.length < probes → YieldAt Fence.wide 1 Try.prog l #[.int .u64 (bitAt h all x.1)] W fun e W' =>
      (e = .returned (.bool true) ∧ J (pre ++ [x]) W' ∧ KeepB ba W W') ∨ (e = .returned (.bool false) ∧ Jx (pre ++ [x]) W'))
    (hJB : ∀ pre W W', J pre W → Below W.heap.size W W' → J pre W')
    (W : World) (hn₀ : n₀ ≤ W.heap.size) (hk : W.cell? ⟨bk, 0, none⟩ = some (.string s)) (hpr : W.cell? ⟨bp, 0, none⟩ = some (.int .i64 (probes : Int))) (ha : W.cell? ⟨ba, 0, none⟩ = some (.int .u64 all)) (h0 : J [] W) :
    CallsIn Fence.wide 2 Try.prog 63 #[.func (.yield l) #[] #[], .pointer (some ⟨bk, 0, none⟩), .pointer (some ⟨bp, 0, none⟩), .pointer (some ⟨ba, 0, none⟩)] W fun e W' => (∃ v, e = .returned v) ∧
      ((∃ ys : List { i : Nat // i < probes }, (ys.map (·.1) = List.range probes) ∧ J ys W') ∨ (∃ pre : List { i : Nat // i < probes }, pre ≠ [] ∧ Jx pre W')) := by
  refine callsIn_of_wp Try.func63 rfl trivial ?_ rfl
  simp only [Try.ntmps63, List.size_toArray, List.length_cons, List.length_nil, Nat.reduceAdd, Nat.reduceSub, Array.replicate_succ, Array.replicate_zero, List.push_toArray, List.append_toArray, List.nil_append, List.cons_append]
  refine wpIn_wide.2 ?_
  go_wp2_with (first
    | (go_at_call 64; refine (bloom_Hash.calls k s h _ hh).mono ?_; rintro e w2 ⟨rfl, hb2⟩; have hk2 := hb2.cell (World.block_lt_of_cell? _ _ hk); have hp2 := hb2.cell (World.block_lt_of_cell? _ _ hpr); have ha2 := hb2.cell (World.block_lt_of_cell? _ _ ha); rw [hk] at hk2; rw [hpr] at hp2; rw [ha] at ha2)
    | (go_at_call 65; refine (rot_calls h _).mono ?_; rintro e w2 ⟨rfl, rfl⟩))
  refine (wpIn_wide (n := 2)).1 ?_
  have hB2 : KeepB ba W w2 := hb2.block ba (by omega)
  have hJ2 : J [] w2 := hJB _ _ _ h0 hb2
  gi_loopw [5, 12] (fun v5 v12 wr => ∃ (pre : List { i : Nat // i < probes }), v5 = .int .u32 (hsq h (rot15 h) pre.length) ∧ v12 = .int .i64 (pre.length : Int) ∧ pre.map (·.1) = List.range pre.length ∧ pre.length ≤ probes ∧ J pre wr ∧ KeepB ba W wr) (fun v5 v12 _ => probes - (intOf v12).toNat)
  case atStart => exact ⟨[], rfl, rfl, rfl, Nat.zero_le _, hJ2, hB2⟩
  case round =>
    obtain ⟨pre, rfl, rfl, hmp, hpl, hJs, hnx⟩ := hrel
    have ha3 : wr.cell? ⟨ba, 0, none⟩ = some (.int .u64 all) := hnx.cell.trans ha
    by_cases hlt : pre.length < probes
    · have hlt' : decide ((pre.length : Int) < (probes : Int)) = true := decide_eq_true (by omega)
      have hne : (all == 0) = false := by simp; omega
      obtain ⟨fn, tmps, assign, body, hy, hR⟩ := hY pre ⟨pre.length, hlt⟩ wr hJs hlt
      dsimp only [bitAt] at hy
      gi_wp2
      refine hR.mono ?_
      rintro e W3 (⟨rfl, hJ3, hk3⟩ | ⟨rfl, hJx3⟩)
      · gi_wp2
        go_roundw
        case rel => exact ⟨pre ++ [⟨pre.length, hlt⟩], by rw [List.length_append]; rfl, by simp, by rw [List.map_append, hmp, List.length_append]; simp [List.range_succ], by simp; omega, hJ3, keepB_t hnx hk3⟩
        case measure => simp [intOf]; omega
      · gi_wp2
        refine bodyPost_ret (results_none rfl _ _ _) rfl ?_
        exact ⟨⟨_, rfl⟩, .inr ⟨pre ++ [⟨pre.length, hlt⟩], by simp, hJx3⟩⟩
    · have hlt' : decide ((pre.length : Int) < (probes : Int)) = false := decide_eq_false (by omega)
      gi_wp2
      go_end0
      have he : pre.length = probes := by omega
      exact ⟨⟨_, rfl⟩, .inl ⟨pre, by rw [hmp, he], hJs⟩⟩
theorem probed_stopsB (n₀ bk bp ba : Nat) (s : ByteArray) (all h : Int) (probes : Nat) (hall : 0 < all) (hall2 : all < 18446744073709551616) (hp : probes ≤ 1000) (k : Nat) (hh : bloom_Hash.f k s = some h) (hh0 : 0 ≤ h) (w : World) (hbk : bk < n₀) (hbp : bp < n₀) (hba : ba < n₀) (hn₀ : n₀ ≤ w.heap.size)
    (hk : w.cell? ⟨bk, 0, none⟩ = some (.string s)) (hpr : w.cell? ⟨bp, 0, none⟩ = some (.int .i64 (probes : Int))) (ha : w.cell? ⟨ba, 0, none⟩ = some (.int .u64 all)) :
    SeqStopsK Fence.wide 2 Try.prog 63 #[.pointer (some ⟨bk, 0, none⟩), .pointer (some ⟨bp, 0, none⟩), .pointer (some ⟨ba, 0, none⟩)] (fun x : { i : Nat // i < probes } => #[.int .u64 (bitAt h all x.1)]) (KeepB ba) (fun ys => ys.map (·.1) = List.range probes) (fun pre => pre ≠ []) probes w := by
  intro l J Jx W hW hJ hJx hY h0
  refine (probed1_in l n₀ bk bp ba s all h probes hall hall2 hp k hh hh0 hbk hbp hba J Jx hY (fun pre W W' hj hb => hJ pre W W' none hj ⟨hb.os, hb.tape, hb.output, hb.size, fun i hi _ => hb.block i hi⟩ (fun r e => by cases e)) W (Nat.le_trans hn₀ hW.size) ?_ ?_ ?_ h0).mono fun _ _ h => h
  · exact (hW.cell (p := ⟨bk, 0, none⟩) (by show bk < _; omega)).trans hk
  · exact (hW.cell (p := ⟨bp, 0, none⟩) (by show bp < _; omega)).trans hpr
  · exact (hW.cell (p := ⟨ba, 0, none⟩) (by show ba < _; omega)).trans ha
theorem probed_stops (n₀ bk bp ba : Nat) (s : ByteArray) (all h : Int) (probes : Nat) (hall : 0 < all) (hall2 : all < 18446744073709551616) (hp : probes ≤ 1000) (k : Nat) (hh : bloom_Hash.f k s = some h) (hh0 : 0 ≤ h) (w : World) (hbk : bk < n₀) (hbp : bp < n₀) (hba : ba < n₀) (hn₀ : n₀ ≤ w.heap.size)
    (hk : w.cell? ⟨bk, 0, none⟩ = some (.string s)) (hpr : w.cell? ⟨bp, 0, none⟩ = some (.int .i64 (probes : Int))) (ha : w.cell? ⟨ba, 0, none⟩ = some (.int .u64 all)) :
    SeqStopsK Fence.wide 2 Try.prog 63 #[.pointer (some ⟨bk, 0, none⟩), .pointer (some ⟨bp, 0, none⟩), .pointer (some ⟨ba, 0, none⟩)] (fun x : { i : Nat // i < probes } => #[.int .u64 (bitAt h all x.1)]) (Below n₀) (fun ys => ys.map (·.1) = List.range probes) (fun pre => pre ≠ []) probes w := by
  intro l J Jx W hW hJ hJx hY h0
  refine probed_stopsB n₀ bk bp ba s all h probes hall hall2 hp k hh hh0 w hbk hbp hba hn₀ hk hpr ha l J Jx W hW hJ hJx (fun pre x W1 hj hl => (hY pre x W1 hj hl).mono ?_) h0
  rintro e W' (⟨h1, h2, h3⟩ | h)
  · exact .inl ⟨h1, h2, h3.block ba hba⟩
  · exact .inr h
end Go.Proofs.Ythdemdjobgbpdaa.T
namespace Go.Proofs.Ythdemdjobgbpdaa.T
open Go.RowKit Go.Shelf Go.Proofs.YthdemdjobgbpdaaW.PrintWords Go.Proofs.YthdemdjobgbpdaaW.PrintLast Go.Proofs.YthdemdjobgbpdaaW.PrintMore Go.Proofs.Ythdemdjobgbpdaa.P
attribute [local go_sem] Oper.semAt_some
set_option linter.unusedVariables false
/-- a bit of a filter -/
def bset (l : List Int) (x : Int) : Bool := !(Go.bits .and .u8 (rd l (x / 8) / 2 ^ (x % 8).toNat) 1 == 0)
def may_f (k : Nat) (l : List Int) (s : ByteArray) : Option Bool :=
  if l.length < 2 then some true else if 30 < rd l ((l.length - 1 : Nat) : Int) then some true else
    if l.length < 140737488355328 ∧ 0 ≤ rd l ((l.length - 1 : Nat) : Int) then (bloom_Hash.f k s).bind fun h => if 0 ≤ h then some ((List.range (rd l ((l.length - 1 : Nat) : Int)).toNat).all fun i => bset l (bitAt h (8 * ((l.length - 1 : Nat) : Int)) i)) else none else none
theorem tm_w1 (n : Nat) (h : 1 ≤ n) (h2 : n < 140737488355328) : wrap64 ((n : Int) - 1) = ((n - 1 : Nat) : Int) := by unfold wrap64; omega
theorem tm_w0 : wrap64 ((0 : Int) - 1) = -1 := by unfold wrap64; omega
theorem tm_w2 (n : Nat) (h : n < 140737488355328) : IntKind.u64.wrap (8 * IntKind.u64.wrap (n : Int)) = 8 * (n : Int) := by
  have hw : ∀ y : Int, IntKind.u64.wrap y = y % 18446744073709551616 := fun y => by simp [IntKind.wrap, IntKind.bits, IntKind.signed]
  rw [hw, hw]
  omega
theorem tm_w3 (n : Nat) (h : n < 140737488355328) : IntKind.u64.wrap (n : Int) = (n : Int) := by
  have hw : ∀ y : Int, IntKind.u64.wrap y = y % 18446744073709551616 := fun y => by simp [IntKind.wrap, IntKind.bits, IntKind.signed]
  rw [hw]
  omega
theorem tm_w4 (n : Nat) (h : n < 140737488355328) : IntKind.u64.wrap (8 * (n : Int)) = 8 * (n : Int) := by
  have hw : ∀ y : Int, IntKind.u64.wrap y = y % 18446744073709551616 := fun y => by simp [IntKind.wrap, IntKind.bits, IntKind.signed]
  rw [hw]
  omega
set_option maxRecDepth 100000 in
set_option maxHeartbeats 4000000 in
theorem may_calls (k : Nat) (A0 : Option Addr) (c0 : Nat) (l : List Int) (s : ByteArray) (r : Bool) (w : World) (hr0 : Kd.C (Kd.int .u8) w A0 l.length l) (hc0 : l.length ≤ c0) (hf : may_f k l s = some r) :
    Calls Try.prog 40 #[.slice A0 l.length c0, .string s] w fun e w' => e = .returned (.bool r) ∧ Below w.heap.size w w' := by
  have HR0 := Aside0.mk hr0
  have HC0 := Aside0.mk hc0
  clear hr0 hc0
  unfold may_f at hf
  by_cases h2 : l.length < 2
  · rw [if_pos h2] at hf
    injection hf with hf
    subst hf
    go_enter Try.func40, Try.ntmps40
    rcases (show l.length = 0 ∨ l.length = 1 by omega) with h | h
    · have hl : (l.length : Int) = 0 := by omega
      have hw := tm_w0
      rw [h]
      go_wp2
      refine bodyPost_ret (v := .bool true) ?_ rfl ⟨rfl, ?_⟩
      · simp [results, Try.f40, go_sem]
      · exact below_alloc (below_alloc (Below.refl _ _) _) _
    · rw [h]
      go_wp2
      refine bodyPost_ret (v := .bool true) ?_ rfl ⟨rfl, ?_⟩
      · simp [results, Try.f40, go_sem]
      · exact below_alloc (below_alloc (Below.refl _ _) _) _
  rw [if_neg h2] at hf
  obtain ⟨n, hn⟩ : ∃ n, l.length = n + 1 := ⟨l.length - 1, by omega⟩
  have hn1 : l.length - 1 = n := by omega
  rw [hn1] at hf
  have hlen : l.length < 140737488355328 ∨ 30 < rd l (n : Int) := by
    by_cases h30 : 30 < rd l (n : Int)
    · exact .inr h30
    · rw [if_neg h30] at hf
      split at hf
      · rename_i h; exact .inl h.1
      · cases hf
  have hmx := HR0.out.2.1
  obtain ⟨ad, eA, hc⟩ := Kd.at_int HR0.out (n : Int) (Int.natCast_nonneg _) (by omega)
  subst eA
  rw [Int.toNat_natCast] at hc
  obtain ⟨pb, hpb⟩ : ∃ x, rd l (n : Int) = x := ⟨_, rfl⟩
  rw [hpb] at hc hf hlen
  have hw1 : wrap64 ((l.length : Int) - 1) = (n : Int) := by rw [hn]; unfold wrap64; clear hc; omega
  have d1 : decide ((n : Int) < 1) = false := decide_eq_false (by clear hw1; omega)
  have d2 : decide (n < 1) = false := decide_eq_false (by clear hw1; omega)
  have p1 := eq_true (show (n : Int) < (l.length : Int) by clear hw1; omega)
  have p2 := eq_true (show 0 ≤ (n : Int) by clear hw1; omega)
  have HB0 : Aside0 (Below w.heap.size w ((w.alloc (.cells #[.slice (some ad) l.length c0] 27)).alloc (.cells #[.bool false] 4))) := ⟨below_alloc (below_alloc (Below.refl _ _) _) _⟩
  have hc2 : ((w.alloc (.cells #[.slice (some ad) l.length c0] 27)).alloc (.cells #[.bool false] 4)).cell? (ad.add n) = some (.int .u8 pb) := (HB0.out.cell (World.block_lt_of_cell? w _ hc)).trans hc
  have HN := Aside0.mk hn
  have HN1 : Aside0 (0 < 8 * (n : Int)) := ⟨by clear hw1; omega⟩
  clear hn1
  rw [hn] at hc2 HB0
  by_cases h30 : 30 < pb
  · rw [if_pos h30] at hf
    injection hf with hf
    subst hf
    have d3 : decide (30 < pb) = true := decide_eq_true h30
    have hw1b : wrap64 (n : Int) = (n : Int) := by rw [hn] at hw1; simpa using hw1
    clear h30 h2 hmx hlen
    go_enter Try.func40, Try.ntmps40
    go_wp2
    refine bodyPost_ret (R := fun e w' => e = .returned (.bool true) ∧ Below w.heap.size w w') (v := .bool true) ?_ rfl ?_
    · simp [results, Try.f40, go_sem]
    · exact ⟨rfl, below_alloc (below_alloc (Below.refl _ _) _) _⟩
  rw [if_neg h30] at hf
  split at hf
  case isFalse => cases hf
  rename_i hcond
  obtain ⟨hl47, hp0⟩ := hcond
  obtain ⟨h, hh, hf⟩ := Option.bind_eq_some_iff.mp hf
  split at hf
  case isFalse => cases hf
  rename_i hh0
  injection hf with hf
  obtain ⟨pr, rfl⟩ := Int.eq_ofNat_of_zero_le hp0
  rw [Int.toNat_natCast] at hf
  have HF := Aside0.mk hf
  clear hf
  have d3 : decide (30 < (pr : Int)) = false := decide_eq_false h30
  have d4 : decide (30 < pr) = false := decide_eq_false (by omega)
  have hw2 := tm_w3 n (by clear hw1; omega)
  have hw3 := tm_w4 n (by clear hw1 hw2; omega)
  have hpw : wrap64 (pr : Int) = (pr : Int) := by clear hw1 hw2 hw3; unfold wrap64; omega
  have hpw2 : IntKind.i64.wrap (pr : Int) = (pr : Int) := (i64_w _).trans hpw
  refine (callsIn_wide (n := 3)).1 ?_
  refine callsIn_of_wp_marks Try.func40 rfl trivial ?_ rfl
  simp only [Try.ntmps40, List.size_toArray, List.length_cons, List.length_nil, Nat.reduceAdd, Nat.reduceSub, Array.replicate_succ, Array.replicate_zero, List.push_toArray, List.append_toArray, List.nil_append, List.cons_append]
  refine wpIn_wide.2 ?_
  clear hlen hmx h2
  go_wp2_with (first
    | (go_at_call 44; refine (probed_calls s (8 * (n : Int)) (pr : Int) _).mono ?_; rintro e w2 ⟨rfl, rfl⟩))
  obtain ⟨W1, hW1⟩ : ∃ W1, (w.alloc (.cells #[.slice (some ad) (n + 1) c0] 27)).alloc (.cells #[.bool false] 4) = W1 := ⟨_, rfl⟩
  have hs1 : W1.heap.size = w.heap.size + 1 + 1 := by rw [← hW1]; simp
  have hF1 : W1.heap[w.heap.size]? = some (.cells #[.slice (some ad) (n + 1) c0] 27 (0, 0)) := by rw [← hW1]; exact blk_alloc (blk_new w _) _
  have hR1 : W1.heap[w.heap.size + 1]? = some (.cells #[.bool false] 4 (0, 0)) := by
    rw [← hW1]
    have := blk_new (w.alloc (.cells #[.slice (some ad) (n + 1) c0] 27)) (.cells #[.bool false] 4)
    rwa [World.size_alloc] at this
  have hb1 : Below w.heap.size w W1 := by rw [← hW1]; exact below_alloc (below_alloc (Below.refl _ _) _) _
  rw [hW1]
  obtain ⟨W0, hW0⟩ : ∃ W0, ((W1.alloc (.cells #[.string s] 9)).alloc (.cells #[.int .u64 (8 * (n : Int))] 33)).alloc (.cells #[.int .i64 (pr : Int)] 3) = W0 := ⟨_, rfl⟩
  have hs0 : W0.heap.size = w.heap.size + 1 + 1 + 1 + 1 + 1 := by rw [← hW0]; simp [hs1]
  have hK0 : W0.heap[w.heap.size + 1 + 1]? = some (.cells #[.string s] 9 (0, 0)) := by
    rw [← hW0, ← hs1]
    exact blk_alloc (blk_alloc (blk_new W1 _) _) _
  have hA0 : W0.heap[w.heap.size + 1 + 1 + 1]? = some (.cells #[.int .u64 (8 * (n : Int))] 33 (0, 0)) := by
    rw [← hW0, ← hs1]
    have := blk_new (W1.alloc (.cells #[.string s] 9)) (.cells #[.int .u64 (8 * (n : Int))] 33)
    rw [World.size_alloc] at this
    exact blk_alloc this _
  have hP0 : W0.heap[w.heap.size + 1 + 1 + 1 + 1]? = some (.cells #[.int .i64 (pr : Int)] 3 (0, 0)) := by
    rw [← hW0, ← hs1]
    have := blk_new ((W1.alloc (.cells #[.string s] 9)).alloc (.cells #[.int .u64 (8 * (n : Int))] 33)) (.cells #[.int .i64 (pr : Int)] 3)
    rwa [World.size_alloc, World.size_alloc] at this
  have hF0 : W0.heap[w.heap.size]? = some (.cells #[.slice (some ad) (n + 1) c0] 27 (0, 0)) := by rw [← hW0]; exact blk_alloc (blk_alloc (blk_alloc hF1 _) _) _
  have hR0 : W0.heap[w.heap.size + 1]? = some (.cells #[.bool false] 4 (0, 0)) := by rw [← hW0]; exact blk_alloc (blk_alloc (blk_alloc hR1 _) _) _
  have hb0 : Below w.heap.size w W0 := by rw [← hW0]; exact below_alloc (below_alloc (below_alloc hb1 _) _) _
  rw [hW0]
  have h8 : (8 * ((n : Nat) : Int)) < 18446744073709551616 ∧ 0 < 8 * (n : Int) := ⟨by clear hw1 hw2 hw3 hpw hpw2; have := HN.out; omega, by clear hw1 hw2 hw3 hpw hpw2; exact HN1.out⟩
  clear hW0 hW1 hs1 hF1 hR1 hb1 hc2 hw1 hw2 hw3 hpw hpw2 HB0
  refine (wpIn_wide (n := 3)).1 ?_
  refine wpIn_rangeFunc_ownF rfl (by decide) (gf := 63) (lb := #[.pointer (some ⟨w.heap.size + 1 + 1, 0, none⟩), .pointer (some ⟨w.heap.size + 1 + 1 + 1 + 1, 0, none⟩), .pointer (some ⟨w.heap.size + 1 + 1 + 1, 0, none⟩)]) rfl trivial (enters_of Try.func63 (by kernel_rfl) rfl)
    (probed_stops W0.heap.size _ _ _ s (8 * (n : Int)) h pr h8.2 h8.1 (by omega) k hh hh0 W0 (by omega) (by omega) (by omega) (Nat.le_refl _) ((blk_cell hK0 0).trans rfl) ((blk_cell hP0 0).trans rfl) ((blk_cell hA0 0).trans rfl)) belowK_t (belowK_b (Nat.le_refl _)) (Below.refl _ _) (fun _ => rfl)
    (fun pre W => ((∀ x ∈ pre, bset l (bitAt h (8 * (n : Int)) x.1) = true) ∧ W.cell? ⟨w.heap.size, 0, none⟩ = some (.slice (some ad) (n + 1) c0) ∧ W.cell? ⟨w.heap.size + 1, 0, none⟩ = some (.bool false) ∧ W.frozen? ⟨w.heap.size + 1, 0, none⟩ = false) ∧ Below w.heap.size w W)
    (fun c pre W => ((c = .ret ∧ W.cell? ⟨w.heap.size + 1, 0, none⟩ = some (.bool false)) ∧ ∃ x : { i : Nat // i < pr }, bset l (bitAt h (8 * (n : Int)) x.1) = false) ∧ Below w.heap.size w W)
    (OwnFrom.and (Own.from (fun s A B row hs hg hr => ⟨hs.1, cell_kept hs.2.1 hg hr, cell_kept hs.2.2.1 hg hr, (frozen_kept hs.2.2.1 hg hr).trans hs.2.2.2⟩) _) (ownFrom_below (Nat.le_refl _) (by omega)))
    (fun c => OwnFrom.and (Own.from (fun s A B row hs hg hr => ⟨⟨hs.1.1, cell_kept hs.1.2 hg hr⟩, hs.2⟩) _) (ownFrom_below (Nat.le_refl _) (by omega)))
    ⟨⟨(fun x hx => by cases hx), (blk_cell hF0 0).trans rfl, (blk_cell hR0 0).trans rfl, blk_frozen hR0 0⟩, hb0⟩
    (fun x => { tmps := #[.slice (some ad) (n + 1) c0, .string s, .pointer (some ⟨w.heap.size, 0, none⟩), undef, .pointer (some ⟨w.heap.size + 1, 0, none⟩), .int .i64 (n : Int), .int .u64 (bitAt h (8 * (n : Int)) x.1), .slice (some ad) (n + 1) c0, .int .i64 ((n : Int) + 1), .int .i64 (n : Int), .int .i64 (n : Int), .bool false, .bool false, .slice (some ad) (n + 1) c0,
        .int .i64 (n : Int), .pointer (some (ad.add n)), .int .u8 (pr : Int), .bool false, .bool false, .string s, .int .i64 (n : Int), .int .u64 (n : Int), .int .u64 (8 * (n : Int)), .slice (some ad) (n + 1) c0, .int .i64 (n : Int), .pointer (some (ad.add n)), .int .u8 (pr : Int), .int .i64 (pr : Int),
        .func (.func 63) #[] #[.pointer (some ⟨w.heap.size + 1 + 1, 0, none⟩), .pointer (some ⟨w.heap.size + 1 + 1 + 1 + 1, 0, none⟩), .pointer (some ⟨w.heap.size + 1 + 1 + 1, 0, none⟩)], .int .u64 (bitAt h (8 * (n : Int)) x.1), undef, undef, undef, undef, undef, undef, undef, undef, undef, undef], defers := [] }) ?assign ?body ?done ?stop
  case assign =>
    intro l x W K hK
    gi_wp2
    exact hK
  case body =>
    rintro l2 pre x W ⟨⟨hp, hcw, hcr, hfr⟩, hB⟩ _
    obtain ⟨hx0, hx1⟩ := bitAt_in hh0 h8.2 x.1
    obtain ⟨xb, hxb⟩ : ∃ y, bitAt h (8 * (n : Int)) x.1 = y := ⟨_, rfl⟩
    rw [hxb] at hx0 hx1 ⊢
    obtain ⟨ad2, eA2, hcx⟩ := Kd.at_int (Kd.C_below HR0.out hB) (xb / 8) (by omega) (by have := HN.out; omega)
    cases eA2
    have hx8 : decide (xb / 8 < (n : Int) + 1) = true := decide_eq_true (by omega)
    have hx9 : (0 ≤ xb / 8) = True := eq_true (by omega)
    have hx7 : (xb / 8 < (n : Int) + 1) = True := eq_true (by omega)
    by_cases hbs : bset l xb = true
    · have hbs2 : (Go.bits .and .u8 (rd l (xb / 8) / 2 ^ (xb % 8).toNat) 1 == 0) = false := by unfold bset at hbs; simpa using hbs
      gi_wp2
      refine ⟨KeepsOthers.refl _, Below.refl _ _, ⟨fun y hy => ?_, hcw, hcr, hfr⟩, hB⟩
      rcases List.mem_append.1 hy with hy | hy
      · exact hp y hy
      · rw [List.mem_singleton.1 hy, hxb]; exact hbs
    · have hbs2 : (Go.bits .and .u8 (rd l (xb / 8) / 2 ^ (xb % 8).toNat) 1 == 0) = true := by unfold bset at hbs; simpa using hbs
      gi_wp2
      exact ⟨KeepsOthers.setCell _ _ _, ⟨⟨rfl, World.cell?_setCell_same' _ _ _ (by rw [hcr]; rfl)⟩, x, by rw [hxb]; simpa using hbs⟩, hB.setCell (p := ⟨w.heap.size + 1, 0, none⟩) (by simp) _⟩
  case done =>
    rintro D xs W hD hxs ⟨⟨hp, hcw, hcr, hfr⟩, hB⟩ hK
    have hall : ((List.range pr).all fun i => bset l (bitAt h (8 * (n : Int)) i)) = true := by
      rw [List.all_eq_true]
      intro i hi
      rw [← hxs] at hi
      obtain ⟨x, hx, rfl⟩ := List.mem_map.1 hi
      exact hp x hx
    obtain rfl : true = r := hall.symm.trans HF.out
    gi_wp2
    go_wp2
    have hDn : D ≠ w.heap.size + 1 := by omega
    have hK2 := (Below.heap_setCell W ⟨w.heap.size + 1, 0, none⟩ (.bool true) D hDn).trans hK
    have hcr2 : (W.setCell ⟨w.heap.size + 1, 0, none⟩ (.bool true)).cell? ⟨w.heap.size + 1, 0, none⟩ = some (.bool true) := World.cell?_setCell_same' _ _ _ (by rw [hcr]; rfl)
    have hB2 := below_set (j := 0) (v := .bool true) hB (show w.heap.size ≤ w.heap.size + 1 by omega)
    refine ⟨by simp, .inl ⟨_, _, rfl, run_takeDeferred hK2, ?_⟩⟩
    have hc5 := cell_kept hcr2 (grownBy_putObj' _ D (.deferred none)) (fun r e => by cases e; exact ⟨_, hK2, rfl⟩)
    refine ⟨.bool true, ?_, rfl, hB2.trans (belowK_b (w := w) (Nat.le_refl _) _ D _ _ (by omega) hK2 rfl rfl)⟩
    simp [results, Try.f40, go_sem, hc5]
  case stop =>
    rintro D c pre W hD hpre ⟨⟨⟨rfl, hcr⟩, x, hx⟩, hB⟩ hK
    have hall : ((List.range pr).all fun i => bset l (bitAt h (8 * (n : Int)) i)) = false := by
      rw [List.all_eq_false]
      exact ⟨x.1, List.mem_range.2 x.2, by rw [hx]; decide⟩
    obtain rfl : false = r := hall.symm.trans HF.out
    gi_wp2
    refine ⟨by simp, .inl ⟨_, _, rfl, run_takeDeferred hK, ?_⟩⟩
    have hc5 := cell_kept hcr (grownBy_putObj' _ D (.deferred none)) (fun r e => by cases e; exact ⟨_, hK, rfl⟩)
    refine ⟨.bool false, ?_, rfl, hB.trans (belowK_b (w := w) (Nat.le_refl _) W D _ _ (by omega) hK rfl rfl)⟩
    simp [results, Try.f40, go_sem, hc5]
end Go.Proofs.Ythdemdjobgbpdaa.T
namespace Go.Proofs.Ythdemdjobgbpdaa.Q
open Ieee Go
def fIntOf (b c : Nat) : Option Int := (floatBits .mul .f64 b c).bind fun r => floatToIntVal .f64 r .i64
theorem cut_le (way : Toward) (neg : Bool) (n d : Nat) : way.cut neg n d ≤ n / (1 <<< min d (n.log2 + 2)) + 1 := by
  unfold Toward.cut
  dsimp only
  have : ∀ b : Bool, b.toNat ≤ 1 := by decide
  exact Nat.add_le_add_left (this _) _
theorem cut_zero (neg : Bool) (n d : Nat) : Toward.zero.cut neg n d = n / (1 <<< min d (n.log2 + 2)) := by
  unfold Toward.cut
  dsimp only
  simp
theorem log2_lt (n k : Nat) (h : n < 2 ^ (k + 1)) : n.log2 ≤ k := by
  by_cases h0 : n = 0
  · subst h0; exact Nat.zero_le _
  · exact Nat.lt_succ_iff.1 ((Nat.log2_lt h0).2 h)
/-- a number's whole part -/
theorem whole_lt (mag : Nat) (place : Int) (L : Nat) (hm : mag < 2 ^ 53) (hp : place + 53 ≤ L) (hL : L ≤ 60) :
    ∃ n : Nat, (Datum.number false mag place).toInt .zero = some (n : Int) ∧ n < 2 ^ L := by
  refine ⟨Toward.zero.cut false (mag <<< place.toNat) (-place).toNat, ?_, ?_⟩
  · simp [Datum.toInt, Datum.integral, signed]
  rw [cut_zero]
  by_cases h : 0 ≤ place
  · obtain ⟨q, rfl⟩ := Int.eq_ofNat_of_zero_le h
    have e : (-(q : Int)).toNat = 0 := by omega
    rw [e, Nat.zero_min, Int.toNat_natCast, Nat.shiftLeft_eq, Nat.shiftLeft_eq]
    simp only [Nat.pow_zero, Nat.mul_one, Nat.div_one]
    calc mag * 2 ^ q < 2 ^ 53 * 2 ^ q := Nat.mul_lt_mul_of_pos_right hm (Nat.two_pow_pos _)
      _ = 2 ^ (53 + q) := (Nat.pow_add ..).symm
      _ ≤ 2 ^ L := Nat.pow_le_pow_right (by decide) (by omega)
  · have e : place.toNat = 0 := by omega
    rw [e, Nat.shiftLeft_zero, Nat.shiftLeft_eq, Nat.one_mul]
    have hd : (-place).toNat + L ≥ 53 := by omega
    rcases Nat.le_total (-place).toNat (mag.log2 + 2) with h2 | h2
    · rw [Nat.min_eq_left h2]
      refine Nat.div_lt_of_lt_mul ?_
      rw [← Nat.pow_add]
      exact Nat.lt_of_lt_of_le hm (Nat.pow_le_pow_right (by decide) hd)
    · rw [Nat.min_eq_right h2]
      have : mag < 2 ^ (mag.log2 + 2) := Nat.lt_of_lt_of_le Nat.lt_log2_self (Nat.pow_le_pow_right (by decide) (by omega))
      rw [Nat.div_eq_of_lt this]
      exact Nat.two_pow_pos _
theorem read_small (r : Nat) (E : Nat) (hr : r ≤ E * 2 ^ 52 + 2 ^ 53) (hE : E ≤ 1200) :
    ∃ mag place, double.read r = .number false mag place ∧ mag < 2 ^ 53 ∧ place ≤ -1074 + (E : Int) + 1 := by
  have hw : double.signWeight = 9223372036854775808 := by decide
  have hb : double.binade = 4503599627370496 := by decide
  have hi : double.infRung = 9218868437227405312 := by decide
  have hl : double.leastPlace = -1074 := by decide
  have e1 : (2 : Nat) ^ 52 = 4503599627370496 := by decide
  have e2 : (2 : Nat) ^ 53 = 9007199254740992 := by decide
  rw [e1, e2] at hr
  have hlt : r < 9218868437227405312 := by omega
  unfold Format.read
  rw [hw, hb, hi, hl]
  have hn : (r / 9223372036854775808 % 2 == 1) = false := by
    have : r / 9223372036854775808 = 0 := Nat.div_eq_of_lt (by omega)
    rw [this]; decide
  have hm : r % 9223372036854775808 = r := Nat.mod_eq_of_lt (by omega)
  dsimp only
  rw [hn, hm]
  split
  · exact ⟨_, _, rfl, by omega, by omega⟩
  · try rw [if_pos hlt]
    refine ⟨_, _, rfl, by omega, ?_⟩
    have : r / 4503599627370496 ≤ E + 2 := by omega
    omega
/-- what is nearest to a number that is not great has a small whole part -/
theorem near_int (M : Nat) (P : Int) (L : Nat) (hM : 0 < M) (hl : P + M.log2 ≤ L) (hL : L ≤ 50) :
    ∃ n : Nat, (double.read (double.nearest false M P)).toInt .zero = some (n : Int) ∧ n < 2 ^ (L + 2) := by
  have hb : double.binade = 2 ^ 52 := by decide
  have hlp : double.leastPlace = -1074 := by decide
  have hf : (double.fractionBits : Int) = 52 := by decide
  have key : ∃ E : Nat, (E : Int) ≤ L - 52 + 1074 ∧ double.nearest false M P ≤ E * 2 ^ 52 + 2 ^ 53 := by
    unfold Format.nearest
    rw [if_neg (by omega), hb, hlp, hf]
    dsimp only
    obtain ⟨last, hlast⟩ : ∃ x, max (P + (M.log2 : Int) - 52) (-1074) = x := ⟨_, rfl⟩
    rw [hlast]
    have h1 : last ≤ L - 52 := by omega
    have h2 : -1074 ≤ last := by omega
    refine ⟨(last + 1074).toNat, by omega, ?_⟩
    have e : (last - -1074).toNat = (last + 1074).toNat := by omega
    rw [e]
    unfold Format.word
    rw [if_neg (by decide)]
    refine Nat.le_trans (Nat.min_le_left _ _) (Nat.add_le_add_left ?_ _)
    refine Nat.le_trans (cut_le _ _ _ _) ?_
    have hlog : M < 2 ^ (M.log2 + 1) := Nat.lt_log2_self
    suffices h : (M <<< (P - last).toNat) / (1 <<< min (last - P).toNat ((M <<< (P - last).toNat).log2 + 2)) < 2 ^ 53 by omega
    by_cases hc : last ≤ P
    · have e2 : (last - P).toNat = 0 := by omega
      rw [e2, Nat.zero_min, Nat.shiftLeft_zero, Nat.div_one, Nat.shiftLeft_eq]
      calc M * 2 ^ (P - last).toNat < 2 ^ (M.log2 + 1) * 2 ^ (P - last).toNat := Nat.mul_lt_mul_of_pos_right hlog (Nat.two_pow_pos _)
        _ = 2 ^ (M.log2 + 1 + (P - last).toNat) := (Nat.pow_add ..).symm
        _ ≤ 2 ^ 53 := Nat.pow_le_pow_right (by decide) (by omega)
    · have e2 : (P - last).toNat = 0 := by omega
      rw [e2, Nat.shiftLeft_zero, Nat.shiftLeft_eq, Nat.one_mul]
      rcases Nat.le_total (last - P).toNat (M.log2 + 2) with h3 | h3
      · rw [Nat.min_eq_left h3]
        refine Nat.div_lt_of_lt_mul ?_
        rw [← Nat.pow_add]
        exact Nat.lt_of_lt_of_le hlog (Nat.pow_le_pow_right (by decide) (by omega))
      · rw [Nat.min_eq_right h3, Nat.div_eq_of_lt (Nat.lt_of_lt_of_le hlog (Nat.pow_le_pow_right (by decide) (by omega)))]
        exact Nat.two_pow_pos _
  obtain ⟨E, hE, hr⟩ := key
  obtain ⟨mag, place, e, hm, hp⟩ := read_small _ E hr (by omega)
  rw [e]
  exact whole_lt mag place (L + 2) hm (by omega) (by omega)
theorem log2_mul (a b : Nat) (ha : 0 < a) (hb : 0 < b) : (a * b).log2 ≤ a.log2 + b.log2 + 1 := by
  refine log2_lt _ _ ?_
  have h1 : a < 2 ^ (a.log2 + 1) := Nat.lt_log2_self
  have h2 : b < 2 ^ (b.log2 + 1) := Nat.lt_log2_self
  calc a * b < 2 ^ (a.log2 + 1) * 2 ^ (b.log2 + 1) := Nat.mul_lt_mul_of_lt_of_lt h1 h2
    _ = 2 ^ (a.log2 + 1 + (b.log2 + 1)) := (Nat.pow_add ..).symm
    _ ≤ 2 ^ (a.log2 + b.log2 + 1 + 1) := Nat.pow_le_pow_right (by decide) (by omega)
/-- a number of bits that may be -/
def okBits (b : Nat) : Bool := (FloatKind.f64.format.order b 0 == some .gt) && (FloatKind.f64.format.order b 4632233691727265792 == some .lt || FloatKind.f64.format.order b 4632233691727265792 == some .eq)
theorem ok_read (b : Nat) (h : okBits b = true) : ∃ m i, double.read b = .number false m i ∧ 0 < m ∧ i + m.log2 ≤ 5 := by
  have e0 : double.read 0 = .number false 0 (-1074) := by decide
  have e5 : double.read 4632233691727265792 = .number false 7036874417766400 (-47) := by decide
  unfold okBits at h
  rw [Bool.and_eq_true] at h
  obtain ⟨h1, h2⟩ := h
  have hk : FloatKind.f64.format = double := rfl
  rw [hk] at h1 h2
  unfold Format.order at h1 h2
  rw [e0] at h1
  rw [e5] at h2
  match hrd : double.read b with
  | .nan s t => rw [hrd] at h1; simp [Datum.order] at h1
  | .infinity s =>
    rw [hrd] at h1 h2
    cases s
    · simp [Datum.order] at h2
    · simp [Datum.order] at h1
  | .number s m i =>
    rw [hrd] at h1 h2
    have a1 : signed false 0 (-1074 - min i (-1074)).toNat < signed s m (i - min i (-1074)).toNat := by
      simp only [Datum.order, beq_iff_eq, Option.some.injEq] at h1
      exact Int.compare_eq_gt.1 h1
    have a2 : signed s m (i - min i (-47)).toNat ≤ signed false 7036874417766400 (-47 - min i (-47)).toNat := by
      simp only [Datum.order, Bool.or_eq_true, beq_iff_eq, Option.some.injEq] at h2
      rcases h2 with h2 | h2
      · exact Int.le_of_lt (Int.compare_eq_lt.1 h2)
      · exact Int.le_of_eq (Int.compare_eq_eq.1 h2)
    have hs : s = false := by
      cases s
      · rfl
      · exfalso
        have e1 : signed false 0 (-1074 - min i (-1074)).toNat = 0 := by simp [signed]
        have e2 : signed true m (i - min i (-1074)).toNat = -((m <<< (i - min i (-1074)).toNat : Nat) : Int) := by simp only [signed, if_true]
        rw [e1, e2] at a1
        have := Int.natCast_nonneg (m <<< (i - min i (-1074)).toNat)
        exact absurd a1 (by clear e1 e2 a1; revert this; generalize ((m <<< (i - min i (-1074)).toNat : Nat) : Int) = z; intro hz; omega)
    subst hs
    have hm : 0 < m := by
      rcases Nat.eq_zero_or_pos m with rfl | h
      · simp [signed] at a1
      · exact h
    refine ⟨m, i, rfl, hm, ?_⟩
    simp only [signed, Bool.false_eq_true, if_false, Nat.shiftLeft_eq, Int.ofNat_le] at a2
    have hmle : 2 ^ m.log2 ≤ m := Nat.log2_self_le (by omega)
    have a3 : 2 ^ (m.log2 + (i - min i (-47)).toNat) < 2 ^ (53 + (-47 - min i (-47)).toNat) := by
      calc 2 ^ (m.log2 + (i - min i (-47)).toNat) = 2 ^ m.log2 * 2 ^ (i - min i (-47)).toNat := Nat.pow_add ..
        _ ≤ m * 2 ^ (i - min i (-47)).toNat := Nat.mul_le_mul_right _ hmle
        _ ≤ 7036874417766400 * 2 ^ (-47 - min i (-47)).toNat := a2
        _ < 2 ^ 53 * 2 ^ (-47 - min i (-47)).toNat := Nat.mul_lt_mul_of_pos_right (by decide) (Nat.two_pow_pos _)
        _ = 2 ^ (53 + (-47 - min i (-47)).toNat) := (Nat.pow_add ..).symm
    have a4 := (Nat.pow_lt_pow_iff_right (by decide : 1 < 2)).1 a3
    omega
theorem f_int (b c m2 : Nat) (i2 : Int) (K : Nat) (h : okBits b = true) (hc : double.read c = .number false m2 i2) (hk : m2 = 0 ∨ i2 + m2.log2 ≤ K - 6) (hK6 : 6 ≤ K) (hK : K ≤ 50) :
    ∃ r n, floatBits .mul .f64 b c = some r ∧ floatToIntVal .f64 r .i64 = some n ∧ 0 ≤ n ∧ n < 2 ^ (K + 2) := by
  obtain ⟨m, i, hrd, hm, hl⟩ := ok_read b h
  have hb : floatBits .mul .f64 b c = some (double.nearest false (m * m2) (i + i2)) := by
    show double.mul b c = _
    unfold Format.mul
    rw [hrd, hc]
    rfl
  have hmin : IntKind.i64.min = -9223372036854775808 := by decide
  have hmax : IntKind.i64.max = 9223372036854775807 := by decide
  have hp : (2 : Nat) ^ (K + 2) ≤ 2 ^ 52 := Nat.pow_le_pow_right (by decide) (by omega)
  have hp2 : (2 : Nat) ^ 52 = 4503599627370496 := by decide
  have fin : ∀ r n : Nat, (double.read r).toInt .zero = some (n : Int) → n < 2 ^ (K + 2) → floatToIntVal .f64 r .i64 = some (n : Int) := by
    intro r n e hn
    unfold floatToIntVal
    have : FloatKind.f64.decode r = double.read r := rfl
    rw [this, e]
    dsimp only
    rw [if_pos (by rw [hmin, hmax]; omega)]
  have hcast : ∀ n : Nat, n < 2 ^ (K + 2) → ((n : Int) < 2 ^ (K + 2)) := by
    intro n hn
    have := Int.ofNat_lt.2 hn
    simpa using this
  by_cases h0 : m2 = 0
  · subst h0
    have e : (double.read (double.nearest false (m * 0) (i + i2))).toInt .zero = some ((0 : Nat) : Int) := by
      rw [Nat.mul_zero]
      unfold Format.nearest
      rw [if_pos rfl]
      decide
    exact ⟨_, _, hb, fin _ 0 e (Nat.two_pow_pos _), by omega, hcast 0 (Nat.two_pow_pos _)⟩
  · have hk2 := hk.resolve_left h0
    have hl2 := log2_mul m m2 hm (by omega)
    obtain ⟨n, e, hn⟩ := near_int (m * m2) (i + i2) K (Nat.mul_pos hm (by omega)) (by omega) hK
    exact ⟨_, _, hb, fin _ n e hn, by omega, hcast n hn⟩
theorem f_probes (b : Nat) (h : okBits b = true) : ∃ r n, floatBits .mul .f64 b 4604390187031047700 = some r ∧ floatToIntVal .f64 r .i64 = some n ∧ 0 ≤ n ∧ n < 256 := by
  obtain ⟨m2, i2, e, hl⟩ : ∃ m2 i2, double.read 4604390187031047700 = .number false m2 i2 ∧ (m2 = 0 ∨ i2 + (m2.log2 : Int) ≤ 0) := ⟨_, _, rfl, by decide +kernel⟩
  exact f_int b _ m2 i2 6 h e (by omega) (by decide) (by decide)
theorem of_int_small : ∀ N : Nat, N ≤ 300 → (match double.read (floatOfInt .f64 (N : Int)) with | .number false m i => decide (m = 0 ∨ i + (m.log2 : Int) ≤ 8) | _ => false) = true := by
  have : ∀ N : Fin 301, (match double.read (floatOfInt .f64 (N.1 : Int)) with | .number false m i => decide (m = 0 ∨ i + (m.log2 : Int) ≤ 8) | _ => false) = true := by decide +kernel
  exact fun N h => this ⟨N, by omega⟩
theorem f_size (b N : Nat) (hN : N ≤ 300) (h : okBits b = true) : ∃ r n, floatBits .mul .f64 b (floatOfInt .f64 (N : Int)) = some r ∧ floatToIntVal .f64 r .i64 = some n ∧ 0 ≤ n ∧ n < 65536 := by
  have hs := of_int_small N hN
  split at hs
  · rename_i m i e
    exact f_int b _ m i 14 h e (by have := of_decide_eq_true hs; omega) (by decide) (by decide)
  · cases hs
end Go.Proofs.Ythdemdjobgbpdaa.Q
namespace Go.Proofs.Ythdemdjobgbpdaa.T
open Go.RowKit Go.Shelf Go.Proofs.YthdemdjobgbpdaaW.PrintWords Go.Proofs.YthdemdjobgbpdaaW.PrintLast Go.Proofs.YthdemdjobgbpdaaW.PrintMore Go.Proofs.Ythdemdjobgbpdaa.P Go.Proofs.Ythdemdjobgbpdaa.Q
attribute [local go_sem] Oper.semAt_some
set_option linter.unusedVariables false
/-- a bit is set -/
def setBit (L : List Int) (x : Int) : List Int := L.set (x / 8).toNat (Go.bits .or .u8 (rdOf 0 L (x / 8)) (2 ^ (x % 8).toNat % 256))
def setBits (h all : Int) (pre : List Nat) (L : List Int) : List Int := pre.foldl (fun L i => setBit L (bitAt h all i)) L
theorem setBits_len (h all : Int) (pre : List Nat) (L : List Int) : (setBits h all pre L).length = L.length := by
  unfold setBits
  induction pre generalizing L with
  | nil => rfl
  | cons a t ih => rw [List.foldl_cons, ih]; unfold setBit; rw [List.length_set]
def rowsB (k : Nat) (all : Int) (probes : Nat) : List ByteArray → List Int → Option (List Int)
  | [], L => some L
  | s :: t, L => (bloom_Hash.f k s).bind fun h => if 0 ≤ h then rowsB k all probes t (setBits h all (List.range probes) L) else none
def bloomB (k : Nat) (keys : List ByteArray) (b : Nat) : Option (List Int × Int) :=
  if okBits b = true then
    if keys.length ≤ 300 then (fIntOf b 4604390187031047700).bind fun p => (fIntOf b (floatOfInt .f64 (keys.length : Int))).bind fun s =>
      if (0 ≤ p ∧ p < 256) ∧ 0 ≤ s ∧ s < 65536 then
        (rowsB k (8 * ((max 64 s + 7) / 8)) (max 1 p).toNat keys (List.replicate ((max 64 s + 7) / 8).toNat 0)).map fun L => (L ++ [max 1 p], 0)
      else none
    else none
  else some ([], 100)
theorem fIntOf_some {b c : Nat} {n : Int} (h : fIntOf b c = some n) : ∃ r, (∀ (t : TypeId) (w : World), Sem.run Try.prog (binOp .mul t (.float .f64 b) (.float .f64 c)) w = .ok (.float .f64 r) w) ∧ (∀ w : World, Sem.run Try.prog (convert 24 3 (.float .f64 r)) w = .ok (.int .i64 n) w) := by
  unfold fIntOf at h
  obtain ⟨r, h1, h2⟩ := Option.bind_eq_some_iff.mp h
  exact ⟨r, fun t w => run_float_arith w .mul t .f64 b c r h1, fun w => run_convert_float_int w _ _ .f64 .i64 r n (by kernel_rfl) (by kernel_rfl) h2⟩
theorem cv_len (n : Nat) (w : World) : Sem.run Try.prog (convert 3 24 (.int .i64 (n : Int))) w = .ok (.float .f64 (floatOfInt .f64 (n : Int))) w := run_convert_int_float w _ _ .i64 .f64 (n : Int) (by kernel_rfl) (by kernel_rfl)
theorem tb_i (i : Nat) (h : i ≤ 300) : wrap64 ((i : Int) + 1) = (i : Int) + 1 := by unfold wrap64; omega
theorem blk_lt2 {w : World} {g : Nat} {o : Obj} (h : w.heap[g]? = some o) : g < w.heap.size := (Array.getElem?_eq_some_iff.1 h).1
theorem mk_row (w : World) (n : Nat) (h : n < 100000) : Sem.run Try.prog (Instr.makeSlice 27 (.int .i64 (n : Int)) (.int .i64 ((n : Int) + 1))) w = .ok (.slice (some ⟨w.heap.size, 0, none⟩) n (n + 1)) (w.alloc (.cells (madeCells #[.int .u8 0] (n + 1)) 5)) := by
  obtain ⟨i5, hi5, hz5, hs5, hb5⟩ := info_parts info5
  have h := run_makeSlice (P := Try.prog) (w := w) 27 5 i5 _ Try.underlying27 hi5 hz5 .i64 .i64 (n : Int) ((n : Int) + 1) (by omega) (by omega) (by rw [hs5]; omega) (by rw [hb5]; omega) (by omega)
  rw [hs5] at h
  have e1 : ((n : Int) + 1).toNat = n + 1 := by omega
  rw [e1, Int.toNat_natCast, Nat.mul_one] at h
  exact h
theorem made_R (w : World) (n : Nat) (h : n < 100000) : Kd.R (Kd.int .u8) 5 (w.alloc (.cells (madeCells #[.int .u8 0] (n + 1)) 5)) w.heap.size (fun _ => True) (.slice (some ⟨w.heap.size, 0, none⟩) (List.replicate n (0 : Int)).length (n + 1)) (List.replicate n 0) := by
  refine Kd.R_of_own ?_ (fun _ _ => trivial)
  rw [List.length_replicate]
  refine ⟨by simp [encs], .inr ⟨w.heap.size, n + 1, _, rfl, Nat.le_refl _, blk_new w _, by omega, by simp [maxLen]; omega, by simp [size_madeCells], ?_⟩⟩
  simp [madeCells, encs]
  apply List.ext_getElem
  · simp
  · intro i h1 h2
    simp [Nat.mod_one]
theorem sz_w (s : Int) (h0 : 0 ≤ s) (h1 : s < 65536) : ∃ (n : Nat) (m : Int), (max 64 s + 7) / 8 = (n : Int) ∧ n < 100000 ∧ 0 < n ∧ (if 64 < s then s else 64) = m ∧ wrap64 (m + 7) = m + 7 ∧ (m + 7).tdiv 8 = (n : Int) ∧ wrap64 (n : Int) = (n : Int) := by
  refine ⟨((max 64 s + 7) / 8).toNat, max 64 s, by omega, by omega, by omega, by split <;> omega, by unfold wrap64; omega, ?_, by unfold wrap64; omega⟩
  rw [Int.tdiv_eq_ediv_of_nonneg (by omega)]
  omega
/-- the marks that ranges over functions leave -/
def Marks (B : Nat) (w : World) (Ds : List Nat) : Prop := Ds.Nodup ∧ ∀ D ∈ Ds, (B ≤ D ∧ D < w.heap.size) ∧ w.heap[D]? = some (.deferred (some []))
def markOf (D : Nat) : Deferred := { target := .collected D, args := #[] }
theorem Marks.keep {B : Nat} {w w1 : World} {Ds : List Nat} (h : Marks B w Ds) (hs : w.heap.size ≤ w1.heap.size) (hm : ∀ D ∈ Ds, B ≤ D → D < w.heap.size → w1.heap[D]? = w.heap[D]?) : Marks B w1 Ds :=
  ⟨h.1, fun D hD => ⟨⟨(h.2 D hD).1.1, Nat.lt_of_lt_of_le (h.2 D hD).1.2 hs⟩, (hm D hD (h.2 D hD).1.1 (h.2 D hD).1.2).trans (h.2 D hD).2⟩⟩
theorem R_turn {W W' : World} {B e base : Nat} {ok : Nat → Prop} {v : Value} {xs : List Int} {row : Option Nat} (h : Kd.R (Kd.int .u8) e W base ok v xs) (hg : W.grownBy W' row) (hr : ∀ r, row = some r → B ≤ r ∧ ∃ o : Obj, W.heap[r]? = some o ∧ o.isCells = false) : Kd.R (Kd.int .u8) e W' base ok v xs :=
  Kd.R_mono (Kd.R_grown (Kd.R_bound h) hg (fun k hk he => by
    obtain ⟨_, _, _, q, hq, cells, hc⟩ := hk
    obtain ⟨_, o, ho, hi⟩ := hr k he.symm
    rw [hc] at ho
    injection ho with ho
    subst ho
    cases hi)) (fun _ hk => hk.1)
theorem leaves_marks {F : Fence} {n : Nat} {P : Program} {fn : Func} {tmps : Array Value} {R : Ending → World → Prop} {u : FrameMode} (hu : u ≠ .run) : ∀ (Ds : List Nat) (B : Nat) (w : World), Marks B w Ds →
    (∀ w' : World, Below B w w' → (∀ k : Nat, (∀ x : Option (List Deferred), w.heap[k]? ≠ some (Obj.deferred x)) → w'.heap[k]? = w.heap[k]?) → LeavesInM F n P fn tmps R [] u w') → LeavesInM F n P fn tmps R (Ds.map markOf) u w
  | [], B, w, _, h => h w (Below.refl _ _) (fun _ _ => rfl)
  | D :: Ds, B, w, hm, h => by
    obtain ⟨⟨hB, hlt⟩, hD⟩ := hm.2 D List.mem_cons_self
    refine ⟨hu, .inl ⟨D, _, rfl, run_takeDeferred hD, ?_⟩⟩
    have hne : ∀ k, k ≠ D → (w.putObj D (.deferred none)).heap[k]? = w.heap[k]? := fun k hk => World.putObj_heap_other hk
    refine leaves_marks hu Ds B _ ⟨(List.nodup_cons.1 hm.1).2, fun D' hD' => ?_⟩ ?_
    · have hn : D' ≠ D := fun e => (List.nodup_cons.1 hm.1).1 (e ▸ hD')
      obtain ⟨⟨h1, h2⟩, h3⟩ := hm.2 D' (List.mem_cons_of_mem _ hD')
      exact ⟨⟨h1, Nat.lt_of_lt_of_le h2 (grownBy_putObj' w D (.deferred none)).size⟩, (hne D' hn).trans h3⟩
    · intro w' hb hk
      refine h w' (((Below.refl B w).grown (grownBy_putObj' w D (.deferred none)) (by omega) (fun k e => by cases e; exact hB)).trans hb) (fun k hk2 => ?_)
      have hkD : k ≠ D := fun e => hk2 _ (e ▸ hD)
      exact (hk k (fun x => by rw [hne k hkD]; exact hk2 x)).trans (hne k hkD)
set_option maxRecDepth 100000 in
set_option maxHeartbeats 4000000 in
theorem build_calls (k : Nat) (A0 : Option Addr) (c0 : Nat) (keys : List ByteArray) (b : Nat) (r : List Int × Int) (w : World) (hr0 : Kd.C Kd.string w A0 keys.length keys) (hc0 : keys.length ≤ c0) (hf : bloomB k keys b = some r) :
    Calls Try.prog 18 #[.slice A0 keys.length c0, .float .f64 b] w fun e w' => ∃ v, e = .returned (.tuple #[v, .int .i64 r.2]) ∧ Kd.R (Kd.int .u8) 5 w' w.heap.size (fun _ => True) v r.1 ∧ Below w.heap.size w w' := by
  have HR0 := Aside0.mk hr0
  have HC0 := Aside0.mk hc0
  clear hr0 hc0
  unfold bloomB at hf
  by_cases hok : okBits b = true
  case neg =>
    rw [if_neg hok] at hf
    injection hf with hf
    subst hf
    unfold okBits at hok
    by_cases hg : (FloatKind.f64.format.order b 0 == some .gt) = true
    · rw [hg, Bool.true_and] at hok
      have hl : (FloatKind.f64.format.order b 4632233691727265792 == some .lt || FloatKind.f64.format.order b 4632233691727265792 == some .eq) = false := by simpa using hok
      clear hok
      go_enter Try.func18, Try.ntmps18
      go_wp2
      go_ret2
      exact ⟨_, rfl, Kd.R_nil _ _ _ _ _, Below.refl _ _⟩
    · have hg : (FloatKind.f64.format.order b 0 == some .gt) = false := by simpa using hg
      clear hok
      go_enter Try.func18, Try.ntmps18
      go_wp2
      go_ret2
      exact ⟨_, rfl, Kd.R_nil _ _ _ _ _, Below.refl _ _⟩
  case pos =>
  rw [if_pos hok] at hf
  unfold okBits at hok
  rw [Bool.and_eq_true] at hok
  obtain ⟨hg, hl⟩ := hok
  split at hf
  case isFalse => cases hf
  rename_i hk300
  obtain ⟨p, hp, hf⟩ := Option.bind_eq_some_iff.mp hf
  obtain ⟨s, hs, hf⟩ := Option.bind_eq_some_iff.mp hf
  split at hf
  case isFalse => cases hf
  rename_i hb
  obtain ⟨⟨hp0, hp1⟩, hs0, hs1⟩ := hb
  obtain ⟨L, hL, hf⟩ := Option.map_eq_some_iff.1 hf
  subst hf
  rename_i hfa hfb
  clear hfa hfb
  obtain ⟨r1, h1, h2⟩ := fIntOf_some hp
  obtain ⟨r2, h3, h4⟩ := fIntOf_some hs
  obtain ⟨n, m, hn1, hn2, hn3, hn4, hn5, hn6, hn7⟩ := sz_w s hs0 hs1
  rw [hn1, Int.toNat_natCast] at hL
  obtain ⟨pr, hpr⟩ := Int.eq_ofNat_of_zero_le (show 0 ≤ max 1 p by omega)
  rw [hpr] at hL
  rw [Int.toNat_natCast] at hL
  have hpr2 : pr < 256 ∧ 0 < pr := by clear hn4 hn5 hn6 hn7; omega
  have hm1 : (if 1 < p then p else 1) = (pr : Int) := by clear hn4 hn5 hn6 hn7; split <;> omega
  rw [hpr]
  have h5 := mk_row (n := n) (h := hn2)
  have h7 := cv_len keys.length
  have h8 : Sem.run Try.prog (binOp .mul 24 (.float .f64 b) (.float .f64 (floatOfInt .f64 (keys.length : Int)))) w = .ok (.float .f64 r2) w := h3 _ _
  obtain ⟨fb, hfb⟩ : ∃ x, floatOfInt .f64 (keys.length : Int) = x := ⟨_, rfl⟩
  rw [hfb] at h7 h8 h3
  clear h8 hfb
  have h6 : wrap64 ((n : Int) + 1) = (n : Int) + 1 := by clear hn4 hn5 hn6 hn7; unfold wrap64; omega
  have HN := Aside0.mk hn2
  have HN3 := Aside0.mk hn3
  have HPR := Aside0.mk hpr2
  have HK3 := Aside0.mk hk300
  have HL := Aside0.mk hL
  clear hp hs hn1 hp0 hp1 hs0 hs1 hn2 hn3 hpr2 hk300 hL hf hpr
  refine (callsIn_wide (n := 3)).1 ?_
  refine callsIn_of_wp_marks Try.func18 rfl trivial ?_ rfl
  simp only [Try.ntmps18, List.size_toArray, List.length_cons, List.length_nil, Nat.reduceAdd, Nat.reduceSub, Array.replicate_succ, Array.replicate_zero, List.push_toArray, List.append_toArray, List.nil_append, List.cons_append]
  refine wpIn_wide.2 ?_
  go_wp2
  simp only [hn5, hn7, h6]
  obtain ⟨W, hW⟩ : ∃ W, (w.alloc (.cells (madeCells #[.int .u8 0] (n + 1)) 5)).alloc (.cells #[.slice (some ⟨w.heap.size, 0, none⟩) n (n + 1)] 27) = W := ⟨_, rfl⟩
  have HO := Aside0.mk (Kd.R_alloc (made_R w n HN.out) (.cells #[.slice (some ⟨w.heap.size, 0, none⟩) n (n + 1)] 27))
  have HX : Aside0 (W.heap[w.heap.size + 1]? = some (.cells #[.slice (some ⟨w.heap.size, 0, none⟩) n (n + 1)] 27 (0, 0))) := ⟨by
    rw [← hW]
    have := blk_new (w.alloc (.cells (madeCells #[.int .u8 0] (n + 1)) 5)) (.cells #[.slice (some ⟨w.heap.size, 0, none⟩) n (n + 1)] 27)
    rwa [World.size_alloc] at this⟩
  have HB : Aside0 (Below w.heap.size w W) := ⟨by rw [← hW]; exact below_alloc (below_alloc (Below.refl _ _) _) _⟩
  have HS : Aside0 (W.heap.size = w.heap.size + 2) := ⟨by rw [← hW]; simp⟩
  rw [hW] at HO ⊢
  clear hW h1 h2 h3 h4 h5 hn4 hn5 hn6 hn7 h6 h7 hm1 hg hl
  refine (wpIn_wide (n := 3)).1 ?_
  refine wpIn_loop (fun a' w' => ∃ (i : Nat) (L1 : List Int) (Ds : List Nat) (u10 u39 u40 u41 u42 u43 u44 u45 u46 u47 u59 : Value), Aside0 (i ≤ keys.length) ∧ Aside0 (rowsB k (8 * (n : Int)) pr (keys.drop i) L1 = some L) ∧ Aside0 (L1.length = n) ∧ Aside0 (Marks (w.heap.size + 2) w' Ds) ∧
      Aside0 (Kd.R (Kd.int .u8) 5 w' w.heap.size (fun _ => True) (.slice (some ⟨w.heap.size, 0, none⟩) L1.length (n + 1)) L1) ∧ Aside0 (w'.heap[w.heap.size + 1]? = some (.cells #[.slice (some ⟨w.heap.size, 0, none⟩) n (n + 1)] 27 (0, 0))) ∧ Aside0 (Below w.heap.size w w') ∧
      a' = { tmps := #[Value.slice A0 keys.length c0, Value.float FloatKind.f64 b, undef, undef, Value.slice none 0 0, Value.int IntKind.i64 0, Value.int IntKind.i64 (pr : Int), Value.int IntKind.i64 (n : Int), Value.pointer (some ⟨w.heap.size + 1, 0, none⟩), undef, u10, undef, Value.float FloatKind.f64 b, Value.bool true, Value.bool true, Value.float FloatKind.f64 b, Value.bool true, Value.bool true, Value.bool false, Value.float FloatKind.f64 b, Value.float FloatKind.f64 r1, Value.int IntKind.i64 p, Value.int IntKind.i64 (pr : Int), Value.float FloatKind.f64 b, Value.slice A0 keys.length c0, Value.int IntKind.i64 (keys.length : Int), Value.float FloatKind.f64 fb, Value.float FloatKind.f64 r2, Value.int IntKind.i64 s, Value.int IntKind.i64 m, Value.int IntKind.i64 (m + 7), Value.int IntKind.i64 (n : Int), Value.int IntKind.i64 (n : Int), Value.int IntKind.i64 (n : Int), Value.int IntKind.i64 ((n : Int) + 1), Value.slice (some ⟨w.heap.size, 0, none⟩) n (n + 1), Value.slice A0 keys.length c0, Value.int IntKind.i64 (keys.length : Int), Value.int IntKind.i64 (i : Int), u39, u40, u41, u42, u43, u44, u45, u46, u47, undef, undef, undef, undef, undef, undef, undef, undef, undef, undef, undef, u59, undef, undef, undef, undef, undef], defers := Ds.map markOf }) (fun a' _ => keys.length - (intOf (a'.tmps.getD 38 undef)).toNat) ?start ?round
  case start => exact ⟨0, List.replicate n 0, [], _, _, _, _, _, _, _, _, _, _, _, ⟨Nat.zero_le _⟩, HL, ⟨List.length_replicate ..⟩, ⟨List.nodup_nil, fun D hD => by cases hD⟩, HO, HX, HB, rfl⟩
  case round =>
    rintro a wr ⟨i, L1, Ds, u10, u39, u40, u41, u42, u43, u44, u45, u46, u47, u59, HI, HL1, HLn, HM, HO1, HX1, HB1, rfl⟩
    clear HO HX HB HL
    refine wpIn_wide.2 ?_
    by_cases c : i < keys.length
    · have c1 : decide ((i : Int) < (keys.length : Int)) = true := decide_eq_true (by omega)
      have c2 := eq_true (show (i : Int) < (keys.length : Int) by omega)
      have c3 := eq_true (show (0 : Int) ≤ (i : Int) by omega)
      obtain ⟨ad, eA, hc⟩ := Kd.at_string (Kd.C_below HR0.out HB1.out) (i : Int) (by omega) (by omega)
      subst eA
      rw [Int.toNat_natCast] at hc
      obtain ⟨ks, hks⟩ : ∃ x, rdOf ByteArray.empty keys (i : Int) = x := ⟨_, rfl⟩
      rw [hks] at hc
      have hdrop : keys.drop i = ks :: keys.drop (i + 1) := by
        rw [List.drop_eq_getElem_cons c, ← hks]
        simp [rdOf, c]
      have HD := Aside0.mk hdrop
      clear hdrop c hks
      have hw2 := tm_w3 n (by have := HN.out; omega)
      have hw3 := tm_w4 n (by clear hw2; have := HN.out; omega)
      go_wp2_with (first
        | (go_at_call 44; refine (probed_calls ks (8 * (n : Int)) (pr : Int) _).mono ?_; rintro e w2 ⟨rfl, rfl⟩))
      obtain ⟨W0, hW0⟩ : ∃ W0, ((wr.alloc (.cells #[.string ks] 9)).alloc (.cells #[.int .u64 (8 * (n : Int))] 33)).alloc (.cells #[.int .i64 (pr : Int)] 3) = W0 := ⟨_, rfl⟩
      have hs0 : W0.heap.size = wr.heap.size + 1 + 1 + 1 := by rw [← hW0]; simp
      have hK0 : W0.heap[wr.heap.size]? = some (.cells #[.string ks] 9 (0, 0)) := by
        rw [← hW0]
        exact blk_alloc (blk_alloc (blk_new wr _) _) _
      have hA0 : W0.heap[wr.heap.size + 1]? = some (.cells #[.int .u64 (8 * (n : Int))] 33 (0, 0)) := by
        rw [← hW0]
        have := blk_new (wr.alloc (.cells #[.string ks] 9)) (.cells #[.int .u64 (8 * (n : Int))] 33)
        rw [World.size_alloc] at this
        exact blk_alloc this _
      have hP0 : W0.heap[wr.heap.size + 1 + 1]? = some (.cells #[.int .i64 (pr : Int)] 3 (0, 0)) := by
        rw [← hW0]
        have := blk_new ((wr.alloc (.cells #[.string ks] 9)).alloc (.cells #[.int .u64 (8 * (n : Int))] 33)) (.cells #[.int .i64 (pr : Int)] 3)
        rwa [World.size_alloc, World.size_alloc] at this
      have hb0 : Below wr.heap.size wr W0 := by rw [← hW0]; exact below_alloc (below_alloc (below_alloc (Below.refl _ _) _) _) _
      rw [hW0]
      have HX0 := blk_below HX1.out hb0
      have HO0 := Kd.R_below HO1.out hb0
      have HB0 := below_step HB1.out hb0
      have HM0 : Marks (w.heap.size + 2) W0 Ds := HM.out.keep hb0.size (fun D _ _ hD => hb0.block D hD)
      have HMlt : ∀ D ∈ Ds, D < wr.heap.size := fun D hD => (HM.out.2 D hD).1.2
      have hws : w.heap.size + 2 ≤ wr.heap.size := by have := blk_lt HX1.out; omega
      have h8 : (8 * ((n : Nat) : Int)) < 18446744073709551616 ∧ 0 < 8 * (n : Int) := by clear hw2 hw3; have := HN.out; have := HN3.out; omega
      have HLx := HL1.out
      rw [HD.out] at HLx
      unfold rowsB at HLx
      obtain ⟨h, hh, HLx⟩ := Option.bind_eq_some_iff.mp HLx
      split at HLx
      case isFalse => cases HLx
      rename_i hh0
      have HL2 := Aside0.mk HLx
      clear HLx hW0 hw2 hw3 hc c1 c2 c3 HX1 HO1 HL1 HM hb0
      refine (wpIn_wide (n := 3)).1 ?_
      refine wpIn_rangeFunc_ownF rfl (by decide) (gf := 63) (lb := #[.pointer (some ⟨wr.heap.size, 0, none⟩), .pointer (some ⟨wr.heap.size + 1 + 1, 0, none⟩), .pointer (some ⟨wr.heap.size + 1, 0, none⟩)]) rfl trivial (enters_of Try.func63 (by kernel_rfl) rfl)
        (probed_stopsB W0.heap.size _ _ _ ks (8 * (n : Int)) h pr h8.2 h8.1 (by have := HPR.out; omega) k hh hh0 W0 (by omega) (by omega) (by omega) (Nat.le_refl _) ((blk_cell hK0 0).trans rfl) ((blk_cell hP0 0).trans rfl) ((blk_cell hA0 0).trans rfl)) keepB_t (keepB_b (by omega)) (Below.refl _ _) (fun _ => rfl)
        (fun pre W2 => ((Kd.R (Kd.int .u8) 5 W2 w.heap.size (fun _ => True) (.slice (some ⟨w.heap.size, 0, none⟩) (setBits h (8 * (n : Int)) (pre.map (·.1)) L1).length (n + 1)) (setBits h (8 * (n : Int)) (pre.map (·.1)) L1) ∧ W2.heap[w.heap.size + 1]? = some (.cells #[.slice (some ⟨w.heap.size, 0, none⟩) n (n + 1)] 27 (0, 0))) ∧ Marks (w.heap.size + 2) W2 Ds) ∧ Below w.heap.size w W2)
        (fun c pre W2 => False ∧ Below w.heap.size w W2)
        (OwnFrom.and (fun s A B row hs hg hr => ⟨⟨R_turn hs.1.1 hg hr, (hg.block _ (blk_lt hs.1.2) (fun e => by have := (hr _ e.symm).1; omega)).trans hs.1.2⟩, hs.2.keep hg.size (fun D hDs _ hD => hg.block D hD (fun e => by have := (hr D e.symm).1; have := HMlt D hDs; omega))⟩) (ownFrom_below (Nat.le_refl _) (by omega)))
        (fun c => OwnFrom.and (fun s A B row hs hg hr => hs) (ownFrom_below (Nat.le_refl _) (by omega)))
        ⟨⟨⟨HO0, HX0⟩, HM0⟩, HB0⟩
        (fun x => { tmps := #[Value.slice (some ad) keys.length c0, Value.float FloatKind.f64 b, undef, undef, Value.slice none 0 0, Value.int IntKind.i64 0, Value.int IntKind.i64 (pr : Int), Value.int IntKind.i64 (n : Int), Value.pointer (some ⟨w.heap.size + 1, 0, none⟩), undef, Value.string ks, .int .u64 (bitAt h (8 * (n : Int)) x.1), Value.float FloatKind.f64 b, Value.bool true, Value.bool true, Value.float FloatKind.f64 b, Value.bool true, Value.bool true, Value.bool false, Value.float FloatKind.f64 b, Value.float FloatKind.f64 r1, Value.int IntKind.i64 p, Value.int IntKind.i64 (pr : Int), Value.float FloatKind.f64 b, Value.slice (some ad) keys.length c0, Value.int IntKind.i64 (keys.length : Int), Value.float FloatKind.f64 fb, Value.float FloatKind.f64 r2, Value.int IntKind.i64 s, Value.int IntKind.i64 m, Value.int IntKind.i64 (m + 7), Value.int IntKind.i64 (n : Int), Value.int IntKind.i64 (n : Int), Value.int IntKind.i64 (n : Int), Value.int IntKind.i64 ((n : Int) + 1), Value.slice (some ⟨w.heap.size, 0, none⟩) n (n + 1), Value.slice (some ad) keys.length c0, Value.int IntKind.i64 (keys.length : Int), Value.int IntKind.i64 (i : Int), Value.bool true, Value.pointer (some (ad.add i)), Value.string ks, Value.string ks, Value.int .i64 (n : Int), Value.int .u64 (n : Int), Value.int .u64 (8 * (n : Int)), Value.int .i64 (pr : Int), .func (.func 63) #[] #[.pointer (some ⟨wr.heap.size, 0, none⟩), .pointer (some ⟨wr.heap.size + 1 + 1, 0, none⟩), .pointer (some ⟨wr.heap.size + 1, 0, none⟩)], .int .u64 (bitAt h (8 * (n : Int)) x.1), undef, undef, undef, undef, undef, undef, undef, undef, undef, undef, u59, undef, undef, undef, undef, undef], defers := [] }) ?assign ?body ?done ?stop
      case assign =>
        intro l x W K hK
        gi_wp2
        exact hK
      case body =>
        rintro l2 pre x W2 ⟨⟨⟨hR, hX⟩, hMk⟩, hB⟩ _
        obtain ⟨hx0, hx1⟩ := bitAt_in hh0 h8.2 x.1
        have hmap : (pre ++ [x]).map (·.1) = pre.map (·.1) ++ [x.1] := by rw [List.map_append]; rfl
        have hset : setBits h (8 * (n : Int)) (pre.map (·.1) ++ [x.1]) L1 = setBit (setBits h (8 * (n : Int)) (pre.map (·.1)) L1) (bitAt h (8 * (n : Int)) x.1) := by unfold setBits; rw [List.foldl_append]; rfl
        have hlen : (setBits h (8 * (n : Int)) (pre.map (·.1)) L1).length = n := (setBits_len _ _ _ _).trans HLn.out
        obtain ⟨xb, hxb⟩ : ∃ y, bitAt h (8 * (n : Int)) x.1 = y := ⟨_, rfl⟩
        obtain ⟨L2, hL2⟩ : ∃ y, setBits h (8 * (n : Int)) (pre.map (·.1)) L1 = y := ⟨_, rfl⟩
        rw [hxb] at hx0 hx1 hset ⊢
        rw [hL2] at hR hset hlen
        have HS2 := Aside0.mk hset
        have HLEN := Aside0.mk hlen
        have hq0 : 0 ≤ xb / 8 := by omega
        have hq1 : xb / 8 < L2.length := by omega
        obtain ⟨hcl, hfz⟩ := Kd.R_cell (0 : Int) hR (xb / 8) hq0 hq1
        have hcb : W2.cell? ⟨w.heap.size + 1, 0, none⟩ = some (.slice (some ⟨w.heap.size, 0, none⟩) n (n + 1)) := (blk_cell hX 0).trans rfl
        have hb1 : decide (xb / 8 < (n : Int)) = true := decide_eq_true (by omega)
        have hb2 : decide (0 ≤ xb / 8) = true := decide_eq_true hq0
        have hb3 := eq_true (show xb / 8 < (n : Int) by omega)
        have hb4 := eq_true hq0
        clear hset hlen
        gi_wp2
        obtain ⟨hR3, hg3⟩ := Kd.R_put hR (xb / 8) (Go.bits .or .u8 (rdOf 0 L2 (xb / 8)) (2 ^ (xb % 8).toNat % 256))
        have hlen3 : (setBits h (8 * (n : Int)) ((pre ++ [x]).map (·.1)) L1) = L2.set (xb / 8).toNat (Go.bits .or .u8 (rdOf 0 L2 (xb / 8)) (2 ^ (xb % 8).toNat % 256)) := by rw [hmap, HS2.out]; rfl
        have hlen4 : (setBits h (8 * (n : Int)) ((pre ++ [x]).map (·.1)) L1).length = L2.length := by rw [hlen3, List.length_set]
        refine ⟨KeepsOthers.setCell _ _ _, Below.heap_setCell _ _ _ _ (by show _ ≠ w.heap.size; omega), ⟨⟨?_, (hg3.block _ (blk_lt hX) (by simp)).trans hX⟩, hMk.keep hg3.size (fun D hD hDB hDl => hg3.block D hDl (fun e => by simp at e; omega))⟩, below_set (j := (xb / 8).toNat) hB (Nat.le_refl _)⟩
        show Kd.R (Kd.int .u8) _ _ _ _ (.slice _ (setBits h (8 * (n : Int)) ((pre ++ [x]).map (·.1)) L1).length _) (setBits h (8 * (n : Int)) ((pre ++ [x]).map (·.1)) L1)
        rw [hlen4, hlen3]
        exact hR3
      case done =>
        rintro D xs W2 hD hxs ⟨⟨⟨hR, hX⟩, hMk⟩, hB⟩ hK
        rw [hxs] at hR
        have hwi := tb_i i (by have := HI.out; have := HK3.out; omega)
        gi_wp2
        go_wp2
        simp only [hwi]
        have hl1 : keys.length > i := by
          have h1 := congrArg List.length HD.out
          rw [List.length_drop] at h1
          simp at h1
          omega
        refine ⟨⟨i + 1, setBits h (8 * (n : Int)) (List.range pr) L1, D :: Ds, ?_⟩, ?_⟩
        · repeat apply Exists.intro
          refine ⟨⟨by omega⟩, HL2, ⟨(setBits_len _ _ _ _).trans HLn.out⟩, ⟨⟨List.nodup_cons.2 ⟨fun hm => ?_, hMk.1⟩, fun D' hD' => ?_⟩⟩, ⟨hR⟩, ⟨hX⟩, ⟨hB⟩, rfl⟩
          · have := HMlt D hm; omega
          · rcases List.mem_cons.1 hD' with e | e
            · subst e; exact ⟨⟨by omega, blk_lt2 hK⟩, hK⟩
            · exact hMk.2 D' e
        · simp [intOf]
          omega
      case stop =>
        rintro D c pre W2 hD hpre ⟨h, _⟩ hK
        exact h.elim
    · have c1 : decide ((i : Int) < (keys.length : Int)) = false := decide_eq_false (by omega)
      have hi : i = keys.length := by have := HI.out; clear c1; omega
      have hc8 : wr.cell? ⟨w.heap.size + 1, 0, none⟩ = some (.slice (some ⟨w.heap.size, 0, none⟩) n (n + 1)) := (blk_cell HX1.out 0).trans rfl
      have hw8 : IntKind.u8.wrap (pr : Int) = (pr : Int) := by have := HPR.out; simp [IntKind.wrap, IntKind.bits, IntKind.signed]; omega
      have HO2 : Aside0 (Kd.R (Kd.int .u8) 5 wr w.heap.size (fun _ => True) (.slice (some ⟨w.heap.size, 0, none⟩) n (n + 1)) L1) := ⟨by have := HO1.out; rw [HLn.out] at this; exact this⟩
      obtain rfl : L1 = L := by
        have := HL1.out
        rw [hi, List.drop_length] at this
        exact Option.some.inj this
      go_wp2_with (first
        | ((with_reducible refine gate_builtin (b := .append) (xs := #[.tmp 60, .tmp 63]) rfl ?_); at_builtin; refine Kd.R_append (Kd.int .u8) (w0 := w) w.heap.size rfl (.tmp 60) (.tmp 63) 27 5 (.int .u8 0) 1 rfl Try.underlying27 info5 rfl (by decide) (by decide) (.slice (some ⟨w.heap.size, 0, none⟩) n (n + 1)) L1 (pr : Int) [.int .u8 (pr : Int)] (fun _ => True) (fun _ => False) rfl rfl rfl (fun _ hk => hk.elim) (fun _ _ => trivial) HO2.out HB1.out (below_size HB1.out) (by have := HLn.out; have := HN.out; omega) ?_
           intro v1 w8 ho hb hg hat
           have HM8 : Aside0 (Marks (w.heap.size + 2) w8 Ds) := ⟨HM.out.keep hg.size (fun D hD hDB hDl => hg.block D hDl (fun e => by simp [Value.ownBlock] at e; omega))⟩
           have HO8 := Aside0.mk ho
           have HB8 := Aside0.mk hb
           clear ho hb hg hat))
      refine leaves_marks (by simp) Ds (w.heap.size + 2) _ HM8.out ?_
      intro w' hbw hkw
      refine ⟨.tuple #[v1, .int .i64 0], by simp [results, Try.f18, go_sem], v1, rfl, Kd.R_mono (Kd.R_move (Kd.R_bound HO8.out) (fun k hk => hkw k (fun x e => by
        obtain ⟨_, _, _, q, hq, cells, hc⟩ := hk
        rw [hc] at e
        cases e))) (fun _ _ => trivial), HB8.out.trans (hbw.mono (by omega))⟩
end Go.Proofs.Ythdemdjobgbpdaa.T
namespace Go.Proofs.Ythdemdjobgbpdaa.T
open Go.RowKit Go.Shelf Go.Proofs.YthdemdjobgbpdaaW.PrintWords Go.Proofs.YthdemdjobgbpdaaW.PrintLast Go.Proofs.YthdemdjobgbpdaaW.PrintMore Go.Proofs.Ythdemdjobgbpdaa.P
set_option linter.unusedVariables false
theorem cut3 (A : Option Addr) (c : Nat) (l : List Int) (lo hi : Nat) (h1 : lo ≤ hi) (h2 : hi ≤ l.length) (hc : l.length ≤ c) :
    ∃ A' : Option Addr, (∀ W : World, (Instr.slice 27 (.slice A l.length c) (some (.int .i64 (lo : Int))) (some (.int .i64 (hi : Int))) (some (.int .i64 (hi : Int)))).run Try.prog W = .ok (.slice A' ((l.take hi).drop lo).length ((l.take hi).drop lo).length) W) ∧
      (∀ W : World, Kd.C (Kd.int .u8) W A l.length l → Kd.C (Kd.int .u8) W A' ((l.take hi).drop lo).length ((l.take hi).drop lo)) := by
  obtain ⟨i5, hi5, _, hs5, _⟩ := info_parts info5
  have hel : Try.prog.elem 27 = 5 := by simp [Program.elem, Try.underlying27]
  have hu : Try.prog.underlying 27 = some (.slice (Try.prog.elem 27)) := by rw [hel]; exact Try.underlying27
  have hl : ((l.take hi).drop lo).length = hi - lo := by simp; omega
  refine ⟨if hi = lo then A else A.map (·.add lo), fun W => ?_, fun W hC => ?_⟩
  · rw [run_slice_lhm W 27 A l.length c hu .i64 .i64 .i64 (lo : Int) (hi : Int) (hi : Int) (by omega) (by omega) (by omega) (by omega), hel, hl]
    simp [sizeOf, typeInfo, hi5, hs5, sliced, Result.andThen]
  · by_cases he : hi = lo
    · rw [if_pos he]
      have e0 : (l.take hi).drop lo = l.take 0 := by rw [he]; simp
      rw [e0]
      exact Kd.C_take hC (by omega)
    · rw [if_neg he]
      have := Kd.C_mid hC h1 h2 hc (c := c)
      have hcl : c ≠ lo := by omega
      rw [if_neg hcl] at this
      simpa [Kd.int, Kd.scalar] using this
def part_f (k : Nat) (l : List Int) (a s : Nat) : Option (List Int × Bool) :=
  if a + s ≤ l.length ∧ l.length < 1000000000000 then (codec_Fixed.f k (l.drop (a + s)) 4).bind fun x => (codec_Crc.f ((l.take (a + s)).drop a)).bind fun c => (codec_Mask.f c).bind fun m => some ((l.take (a + s)).drop a, x.1 == IntKind.u64.wrap m) else none
theorem tp_w (a s : Nat) (h : a + s < 1000000000000) : wrap64 ((a : Int) + (s : Int)) = ((a + s : Nat) : Int) := by unfold wrap64; omega
set_option maxRecDepth 100000 in
set_option maxHeartbeats 4000000 in
theorem part_calls (k : Nat) (A : Option Addr) (c : Nat) (l : List Int) (a s : Nat) (r : List Int × Bool) (w : World) (hC : Kd.C (Kd.int .u8) w A l.length l) (hc : l.length ≤ c) (hf : part_f k l a s = some r) :
    Calls Try.prog 32 #[.slice A l.length c, .int .i64 (a : Int), .int .i64 (s : Int)] w fun e w' => ∃ A', e = .returned (.tuple #[.slice A' r.1.length r.1.length, .bool r.2]) ∧ (∀ W : World, Kd.C (Kd.int .u8) W A l.length l → Kd.C (Kd.int .u8) W A' r.1.length r.1) ∧ Below w.heap.size w w' := by
  unfold part_f at hf
  split at hf
  case isFalse => cases hf
  rename_i hb
  obtain ⟨z, hz⟩ : ∃ z, a + s = z := ⟨_, rfl⟩
  have hw : wrap64 ((a : Int) + (s : Int)) = (z : Int) := by rw [← hz]; exact tp_w a s (by omega)
  rw [hz] at hb hf
  have hza : a ≤ z := by clear hw; omega
  clear hz
  obtain ⟨⟨x, kx⟩, hx, hf⟩ := Option.bind_eq_some_iff.mp hf
  obtain ⟨cr, hcr, hf⟩ := Option.bind_eq_some_iff.mp hf
  obtain ⟨m, hm, hf⟩ := Option.bind_eq_some_iff.mp hf
  injection hf with hf
  subst hf
  obtain ⟨i5, hi5, _, hs5, _⟩ := info_parts info5
  obtain ⟨A2, hcut, hrd, hcp⟩ := print_drop_of (P := Try.prog) (Value.int .u8) (0 : Int) 27 5 .i64 Try.underlying27 hi5 hs5 A c l (z : Int) (by clear hw; omega) (by clear hw; omega) hc
  obtain ⟨A3, hcut3, hrd3⟩ := cut3 A c l a z hza hb.1 hc
  rw [Int.toNat_natCast] at hcut hrd hcp
  have HR2 := Aside0.mk (show ∀ W : World, Kd.C (Kd.int .u8) W A l.length l → Kd.C (Kd.int .u8) W A2 (l.drop z).length (l.drop z) from fun W hW => Kd.C_of_reads (h1 := fun _ => rfl) (hrd W (Kd.reads_of_C hW)))
  have HR3 := Aside0.mk hrd3
  have HC2 := Aside0.mk hcp
  have HR := Aside0.mk hC
  have HX := Aside0.mk hx
  have HCR := Aside0.mk hcr
  have HM := Aside0.mk hm
  obtain ⟨D, hD⟩ : ∃ x, l.drop z = x := ⟨_, rfl⟩
  obtain ⟨M, hM⟩ : ∃ x, (l.take z).drop a = x := ⟨_, rfl⟩
  rw [hD] at HR2 HC2 hcut HX
  rw [hM] at HR3 hcut3 HCR ⊢
  clear hC hc hrd hrd3 hcp hx hcr hm hb hD hM hza
  go_enter Try.func32, Try.ntmps32
  go_wp2_with (first
    | (go_at_call 31; with_reducible refine (codec_Fixed.calls k A2 _ D 4 x kx _ (HR2.out _ HR.out) HC2.out HX.out).mono ?_; rintro ex w2 ⟨rfl, ⟨nd, rfl⟩⟩; have HB := Aside0.mk (pw_below_drewN (Below.refl w.heap.size w) nd))
    | (go_at_call 48; with_reducible refine (codec_Crc.calls A3 _ M cr _ (HR3.out _ (Kd.C_below HR.out HB.out)) (Nat.le_refl _) HCR.out).mono ?_; rintro ex w3 ⟨rfl, hb⟩; have HB2 := Aside0.mk (below_step HB.out hb); clear hb)
    | (go_at_call 47; with_reducible refine (codec_Mask.calls cr m _ HM.out).mono ?_; rintro ex w4 ⟨rfl, ⟨nd2, rfl⟩⟩; have HB3 := Aside0.mk (pw_below_drewN HB2.out nd2)))
  go_ret2
  refine ⟨A3, ?_, HR3.out, HB3.out⟩
  first | rfl | simp
end Go.Proofs.Ythdemdjobgbpdaa.T
namespace Go.Proofs.Ythdemdjobgbpdaa.T
open Go Go.RowKit
/-- the iterator's promise: every element is handed over in a world in which Rx is known of it -/
def SeqTold {α : Type} (F : Fence) (n : Nat) (P : Program) (g : Nat) (lb : Array Value) (encs : α → Array Value) (Rx : List α → α → Nat → World → Prop) (Kp : World → World → Prop) (S : List α → Prop) (w : World) : Prop :=
  ∀ (l : Nat) (J : List α → World → Prop) (W : World), Below w.heap.size w W → AbidesFrom W.heap.size J →
    (∀ pre x W0 W1, J pre W0 → Below W0.heap.size W0 W1 → Rx pre x W0.heap.size W1 → YieldAt F (n - 1) P l (encs x) W1 fun e W' => e = .returned (.bool true) ∧ J (pre ++ [x]) W' ∧ Kp W1 W') →
    J [] W → CallsIn F n P g (#[.func (.yield l) #[] #[]] ++ lb) W fun e W' => (∃ v, e = .returned v) ∧ ∃ xs, S xs ∧ J xs W'
/-- the loop's record -/
def recOf (fn : FuncId) (tmps : Array Value) (ps : Array Tmp) (assign body : Code) (D : Nat) (st : LoopState) : Obj := .loop { state := st, pending := none, fn, tmps, params := ps, assign, body, defers := D }
section
variable {F : Fence} {n : Nat} {P : Program} {α : Type}
/-- what a round's body owes -/
def ToldPost (Kp : World → World → Prop) (I : World → Prop) (W : World) (e : Exit) (_ : Act) (W' : World) : Prop := e = .normal ∧ KeepsOthers W W' ∧ Kp W W' ∧ I W'
theorem range_told {g : Operand} {ps : Array Tmp} {assign body : Code} {Q : Exit → Act → World → Prop} {a : Act} {w : World}
    (hro : F.round = none) (h1 : 1 ≤ n) {gf : Nat} {lb : Array Value} (hg : a.eval g = .func (.func gf) #[] lb) (hFg : F.fn gf) (eg : ∀ args w, (callFunc gf args).run P w = .ok (.enter gf args) w)
    {encs : α → Array Value} {Rx : List α → α → Nat → World → Prop} {Kp : World → World → Prop} {S : List α → Prop} (hseq : SeqTold F (n - 1) P gf lb encs Rx Kp S w)
    (hKt : ∀ {A B C : World}, Kp A B → Kp B C → Kp A C) (hKb : ∀ (W : World) (l : Nat) (o o' : Obj), w.heap.size ≤ l → W.heap[l]? = some o → o.isCells = false → o.isWalk = false → Kp W (W.putObj l o')) (hps : ∀ x, (encs x).size = ps.size)
    (I : List α → World → Prop) (hI : OwnFrom w.heap.size I) (h0 : I [] w)
    (hround : ∀ (l : Nat) (pre : List α) (x : α) (W0 W : World), I pre W0 → Below W0.heap.size W0 W → Rx pre x W0.heap.size W →
      assign.wpIn (F.inRound l) (n - 1 - 1) P (Exit.then (fun a₁ W1 => KeepsOthers W W1 ∧ Kp W W1 ∧
          ∀ W2, W1.grownBy W2 (some l) → (∀ r : Nat, some l = some r → w.heap.size ≤ r ∧ ∃ o : Obj, W1.heap[r]? = some o ∧ o.isCells = false) → body.wpIn (F.inRound l) (n - 1 - 1) P (ToldPost Kp (I (pre ++ [x])) W2) a₁ W2) (fun _ _ _ => False))
        { tmps := (ps.zip (encs x)).foldl (fun t (p, v) => t.setIfInBounds p v) a.tmps, defers := [] } W)
    (hdone : ∀ (D : Nat) (xs : List α) (W : World), w.heap.size ≤ D → S xs → I xs W → W.heap[D]? = some (.deferred (some [])) → Q .normal { a with defers := { target := .collected D, args := #[] } :: a.defers } W) :
    (Code.rangeFunc g ps assign body).wpIn F n P Q a w := by
  refine wpIn_rangeFunc fun fn hfn => ?_
  rw [hro]
  let D := w.heap.size
  let l := w.heap.size + 1
  obtain ⟨ob, hob⟩ : ∃ ob : LoopState → Obj, ob = recOf fn a.tmps ps assign body w.heap.size := ⟨_, rfl⟩
  obtain ⟨V, hV⟩ : ∃ V, (w.alloc (.deferred (some []))).alloc (ob .ready) = V := ⟨_, rfl⟩
  have hcl : ∀ st, (ob st).isCells = false := fun st => by rw [hob]; rfl
  have hnw : ∀ st, (ob st).isWalk = false := fun st => by rw [hob]; rfl
  have hVl : V.heap[w.heap.size + 1]? = some (ob .ready) := by
    have := World.alloc_heap_new (w.alloc (.deferred (some []))) (ob .ready)
    rw [World.size_alloc, hV] at this
    exact this
  have hVD : V.heap[w.heap.size]? = some (.deferred (some [])) := by
    rw [← hV]
    exact (Below.heap_alloc _ _ _ (by simp)).trans (World.alloc_heap_new w _)
  have hIV : I [] V := by rw [← hV]; exact hI.alloc _ (hI.alloc _ h0)
  have hBV : Below w.heap.size w V := by
    rw [← hV]
    exact ((Below.refl _ w).alloc (Nat.le_refl _) _).alloc (by simp) _
  refine ⟨w.heap.size + 1, [{ target := .collected w.heap.size, args := #[] }], V, { target := .fn (.func gf) lb, args := #[.func (.yield (w.heap.size + 1)) #[] #[]] }, V, gf, #[.func (.yield (w.heap.size + 1)) #[] #[]] ++ lb, V, ?_, ?_, ?_, ?_, fun _ => h1, ?_⟩
  · rw [← hV, hob]
    exact run_enterLoop_outer _ _ _ _ _
  · simp only [resolve, hg]
    simp [go_sem]
  · intro f' hf'
    simp [Target.leads] at hf'
    subst hf'
    exact hFg
  · simp [invoke, go_sem, eg]
  · have turn : ∀ {A B : World} (st st' : LoopState), A.heap[w.heap.size + 1]? = some (ob st) → B = A.putObj (w.heap.size + 1) (ob st') →
        A.grownBy B (some (w.heap.size + 1)) ∧ B.heap[w.heap.size + 1]? = some (ob st') ∧ (∀ k, k ≠ w.heap.size + 1 → B.heap[k]? = A.heap[k]?) ∧ (∀ r, some (w.heap.size + 1) = some r → w.heap.size ≤ r ∧ ∃ o : Obj, A.heap[r]? = some o ∧ o.isCells = false) := by
      rintro A B st st' hA rfl
      exact ⟨grownBy_putObj' _ _ _, World.putObj_heap_same (Array.getElem?_eq_some_iff.1 hA).1, fun k hk => World.putObj_heap_other hk, fun r e => by cases e; exact ⟨by omega, _, hA, hcl st⟩⟩
    refine (hseq (w.heap.size + 1) (fun pre W => I pre W ∧ W.heap[w.heap.size + 1]? = some (ob .ready) ∧ W.heap[w.heap.size]? = some (.deferred (some []))) V hBV ?_ ?_ ⟨hIV, hVl, hVD⟩).mono ?_
    · intro s A B row hs hgr hr
      have hr2 : ∀ r, row = some r → ∃ o : Obj, A.heap[r]? = some o ∧ o.isWalk = true := fun r e => (hr r e).2
      refine ⟨hI s A B row hs.1 hgr (fun r e => ?_), (grownBy_keeps hgr hr2 hs.2.1 (hnw _)).trans hs.2.1, (grownBy_keeps hgr hr2 hs.2.2 rfl).trans hs.2.2⟩
      obtain ⟨hB, o, ho, hw⟩ := hr r e
      have := hBV.size
      exact ⟨by omega, o, ho, Obj.not_cells_of_walk hw⟩
    · rintro pre x W0 W1 ⟨hi, hl0, hD0⟩ hb01 hx
      have hl := (hb01.block _ (Array.getElem?_eq_some_iff.1 hl0).1).trans hl0
      have hD := (hb01.block _ (Array.getElem?_eq_some_iff.1 hD0).1).trans hD0
      have hl' := hl
      rw [hob] at hl'
      refine ⟨fn, _, assign, body, run_yield hl' (hps x), roundIn_of_wpIn hfn (wpIn_mono (hround (w.heap.size + 1) pre x W0 W1 hi hb01 hx) ?_)⟩
      intro e a₁ W2 hp
      match e, hp with
      | .normal, ⟨hk, hKp, hbody⟩ =>
      have hl2 := hk.same _ _ hl (hcl _)
      have hD2 := hk.same _ _ hD rfl
      obtain ⟨t1, t2, t3, t4⟩ := turn .ready .busy hl2 rfl
      have hbr : (Instr.beginRound (w.heap.size + 1)).run P W2 = .ok () (W2.putObj (w.heap.size + 1) (ob .busy)) := by
        have h2 := hl2
        rw [hob] at h2 ⊢
        exact run_beginRound h2 rfl
      refine ⟨_, hbr, wpIn_mono (hbody _ t1 t4) ?_⟩
      rintro e3 a3 W3 ⟨rfl, hk3, hKp3, hi3⟩
      have hl3 := hk3.same _ _ t2 (hcl _)
      have hD3 := hk3.same _ _ ((t3 _ (by omega)).trans hD2) rfl
      obtain ⟨u1, u2, u3, u4⟩ := turn .busy .ready hl3 rfl
      have her : (Instr.endRound (w.heap.size + 1) none).run P W3 = .ok (.bool true) (W3.putObj (w.heap.size + 1) (ob .ready)) := by
        have h3 := hl3
        rw [hob] at h3 ⊢
        exact run_endRound none h3
      exact ⟨_, _, her, rfl, ⟨hI _ _ _ _ hi3 u1 u4, u2, (u3 _ (by omega)).trans hD3⟩, hKt hKp (hKt (hKb _ _ _ _ (by omega) hl2 (hcl _) (hnw _)) (hKt hKp3 (hKb _ _ _ _ (by omega) hl3 (hcl _) (hnw _))))⟩
    · rintro e W2 ⟨⟨v, rfl⟩, xs, hS, hi, hl, hD⟩
      obtain ⟨u1, u2, u3, u4⟩ := turn .ready .exhausted hl rfl
      have hel : (Instr.endLoop (w.heap.size + 1)).run P W2 = .ok none (W2.putObj (w.heap.size + 1) (ob .exhausted)) := by
        have h3 := hl
        rw [hob] at h3 ⊢
        exact run_endLoop h3 (by simp)
      exact ⟨none, _, hel, hdone _ xs _ (Nat.le_refl _) hS (hI _ _ _ _ hi u1 u4) ((u3 _ (by omega)).trans hD)⟩
end
end Go.Proofs.Ythdemdjobgbpdaa.T
namespace Go.Proofs.Ythdemdjobgbpdaa.T
open Go.RowKit Go.Shelf Go.Proofs.YthdemdjobgbpdaaW.PrintWords Go.Proofs.YthdemdjobgbpdaaW.PrintLast Go.Proofs.YthdemdjobgbpdaaW.PrintMore Go.Proofs.Ythdemdjobgbpdaa.P Go.Proofs.Ythdemdjobgbpdaa.B
attribute [local go_sem] Oper.semAt_some
set_option linter.unusedVariables false
theorem cutK (A : Option Addr) (c : Nat) (l : List S47) (lo hi : Nat) (h1 : lo ≤ hi) (h2 : hi ≤ l.length) (hc : l.length ≤ c) :
    ∃ (A' : Option Addr) (c' : Nat), (∀ W : World, (Instr.slice 23 (.slice A l.length c) (some (.int .i64 (lo : Int))) (some (.int .i64 (hi : Int))) none).run Try.prog W = .ok (.slice A' ((l.take hi).drop lo).length c') W) ∧
      (∀ W : World, Kd.C k47 W A l.length l → Kd.C k47 W A' ((l.take hi).drop lo).length ((l.take hi).drop lo)) ∧ ((l.take hi).drop lo).length ≤ c' := by
  obtain ⟨i5, hi5, _, hs5, _⟩ := info_parts info47
  have hl : ((l.take hi).drop lo).length = hi - lo := by simp; omega
  have hcm := cut_mid 23 47 .i64 .i64 Try.underlying23 hi5 4 hs5 A l.length c (lo : Int) (hi : Int) (by omega) (by omega) (by omega) hc
  simp only [Int.toNat_natCast] at hcm
  refine ⟨_, c - lo, fun W => (hcm W).trans (by rw [hl]; rfl), fun W hC => Kd.C_mid hC h1 h2 hc, by rw [hl]; omega⟩
/-- the blocks, with their last keys -/
def cuts_g (k : Nat) (l : List S47) (blk iv : Int) : Nat → Nat → Nat → Option (List (S45 × List Int))
  | 0, _, _ => none
  | g + 1, lo, hi => if lo < l.length then (if lo < hi ∧ hi ≤ l.length then (block_Build.f k ((l.take hi).drop lo) iv).bind fun b =>
      if (b.1.length : Int) < blk ∧ hi < l.length then cuts_g k l blk iv g lo (hi + 1)
      else (cuts_g k l blk iv g hi (hi + 1)).map fun r => ((rd_T47 l ((hi - 1 : Nat) : Int)).f0, b.1) :: r else none)
    else some []
/-- what is handed over: a key, and a row -/
structure CutEl where
  key : S45
  bs : List Int
  A : Option Addr
  c : Nat
def CutEl.vals (x : CutEl) : Array Value := #[.agg #[.string x.key.f0, .int .u64 x.key.f1, .int .i64 x.key.f2], .slice x.A x.bs.length x.c]
def CutEl.told (x : CutEl) (m : Nat) (W : World) : Prop := Kd.R (Kd.int .u8) 5 W m (fun _ => True) (.slice x.A x.bs.length x.c) x.bs
def CutEl.out (x : CutEl) : S45 × List Int := (x.key, x.bs)
/-- what is known of an element as it is handed over -/
def CutTold (full : List (S45 × List Int)) (pre : List CutEl) (x : CutEl) (m : Nat) (W : World) : Prop := x.told m W ∧ ∃ rest, (pre ++ [x]).map CutEl.out ++ rest = full
/-- what a round keeps -/
def CutKeep (n₀ b1 b2 : Nat) (W W' : World) : Prop := Below n₀ W W' ∧ KeepB b1 W W' ∧ KeepB b2 W W'
theorem CutKeep.trans {n₀ b1 b2 : Nat} {A B C : World} (h : CutKeep n₀ b1 b2 A B) (k : CutKeep n₀ b1 b2 B C) : CutKeep n₀ b1 b2 A C := ⟨h.1.trans k.1, keepB_t h.2.1 k.2.1, keepB_t h.2.2 k.2.2⟩
theorem CutKeep.of_below {n₀ b1 b2 : Nat} {A B : World} (h : Below A.heap.size A B) (hn : n₀ ≤ A.heap.size) (h1 : b1 < A.heap.size) (h2 : b2 < A.heap.size) : CutKeep n₀ b1 b2 A B := ⟨h.mono hn, h.block _ h1, h.block _ h2⟩
theorem cutKeep_b {n₀ b1 b2 : Nat} {w : World} (hn : n₀ ≤ w.heap.size) (h1 : b1 < w.heap.size) (h2 : b2 < w.heap.size) (W : World) (l : Nat) (o o' : Obj) (hl : w.heap.size ≤ l) (h : W.heap[l]? = some o) (hc : o.isCells = false) (hw : o.isWalk = false) : CutKeep n₀ b1 b2 W (W.putObj l o') :=
  ⟨belowK_b hn W l o o' hl h hc hw, keepB_b h1 W l o o' hl h hc hw, keepB_b h2 W l o o' hl h hc hw⟩
set_option maxRecDepth 100000 in
set_option maxHeartbeats 1000000 in
theorem cuts_calls (A : Option Addr) (c n : Nat) (blk iv : Int) (fb : Nat) (w : World) : Calls Try.prog 20 #[.slice A n c, .agg #[.int .i64 blk, .int .i64 iv, .float .f64 fb]] w fun e w' =>
    e = .returned (.func (.func 46) #[] #[.pointer (some ⟨w.heap.size, 0, none⟩), .pointer (some ⟨w.heap.size + 1, 0, none⟩)]) ∧
    w' = (w.alloc (.cells #[.slice A n c] 23)).alloc (.cells #[.int .i64 blk, .int .i64 iv, .float .f64 fb] 26) := by
  go_enter Try.func20, Try.ntmps20
  go_wp2
  go_ret
  exact ⟨rfl, rfl⟩
theorem tc_w1 (n : Nat) (h : n ≤ 1000) : wrap64 ((n : Int) + 1) = ((n + 1 : Nat) : Int) := by unfold wrap64; omega
theorem tc_w2 (n : Nat) (h : n ≤ 1000) (h0 : 0 < n) : wrap64 ((n : Int) - 1) = ((n - 1 : Nat) : Int) := by unfold wrap64; omega
set_option maxRecDepth 100000 in
set_option maxHeartbeats 4000000 in
theorem cuts1_in (k g l n₀ bl bo : Nat) (w0 : World) (A : Option Addr) (c : Nat) (es : List S47) (blk iv : Int) (fb : Nat) (full : List (S45 × List Int)) (hC : Kd.C k47 w0 A es.length es) (hc : es.length ≤ c) (hlen : es.length ≤ 300) (hn₀ : n₀ = w0.heap.size)
    (hf : cuts_g k es blk iv g 0 1 = some full) (J : List CutEl → World → Prop)
    (hY : ∀ pre x W0 W1, J pre W0 → Below W0.heap.size W0 W1 → CutTold full pre x W0.heap.size W1 → YieldAt Fence.wide 1 Try.prog l x.vals W1 fun e W' => e = .returned (.bool true) ∧ J (pre ++ [x]) W' ∧ CutKeep n₀ bl bo W1 W')
    (hJB : ∀ pre W W', J pre W → Below W.heap.size W W' → J pre W')
    (W : World) (hW : Below n₀ w0 W) (hbl : W.cell? ⟨bl, 0, none⟩ = some (.slice A es.length c)) (hbo0 : W.cell? ⟨bo, 0, none⟩ = some (.int .i64 blk)) (hbo1 : W.cell? ⟨bo, 1, none⟩ = some (.int .i64 iv)) (h0 : J [] W) :
    CallsIn Fence.wide 2 Try.prog 46 #[.func (.yield l) #[] #[], .pointer (some ⟨bl, 0, none⟩), .pointer (some ⟨bo, 0, none⟩)] W fun e W' => (∃ v, e = .returned v) ∧ ∃ xs : List CutEl, xs.map CutEl.out = full ∧ J xs W' := by
  refine callsIn_of_wp Try.func46 rfl trivial ?_ rfl
  simp only [Try.ntmps46, List.size_toArray, List.length_cons, List.length_nil, Nat.reduceAdd, Nat.reduceSub, Array.replicate_succ, Array.replicate_zero, List.push_toArray, List.append_toArray, List.nil_append, List.cons_append]
  refine wpIn_wide.2 ?_
  have HC := Aside0.mk hC
  have HC0 := Aside0.mk hc
  have HLE := Aside0.mk hlen
  clear hC hc hlen
  go_wp2
  refine (wpIn_wide (n := 2)).1 ?_
  gi_loopw [4, 5] (fun v4 v5 wr => ∃ (pre : List CutEl) (lo hi gg : Nat) (rest : List (S45 × List Int)), v4 = .int .i64 (lo : Int) ∧ v5 = .int .i64 (hi : Int) ∧ Aside0 (hi ≤ es.length + 1) ∧ Aside0 (cuts_g k es blk iv gg lo hi = some rest) ∧ Aside0 (pre.map CutEl.out ++ rest = full) ∧ J pre wr ∧ CutKeep n₀ bl bo W wr) (fun v4 v5 _ => es.length + 2 - (intOf v5).toNat)
  case atStart => exact ⟨[], 0, 1, g, full, rfl, rfl, ⟨by omega⟩, ⟨hf⟩, ⟨rfl⟩, h0, Below.refl _ _, rfl, rfl⟩
  case round =>
    obtain ⟨pre, lo, hi, gg, rest, rfl, rfl, HI, HG, HF, hJ, hKK⟩ := hrel
    have hbl2 := hKK.2.1.cell.trans hbl
    have hbo2 := hKK.2.2.cell.trans hbo0
    have hbo3 := hKK.2.2.cell.trans hbo1
    have HCr : Aside0 (Kd.C k47 wr A es.length es) := ⟨Kd.C_below HC.out (by rw [← hn₀]; exact hW.trans hKK.1)⟩
    have HG2 := HG.out
    cases gg with
    | zero => exact absurd HG2 (by simp [cuts_g])
    | succ gg =>
    unfold cuts_g at HG2
    refine wpIn_wide.2 ?_
    by_cases c1 : lo < es.length
    case neg =>
      have c1b : decide ((lo : Int) < (es.length : Int)) = false := decide_eq_false (by omega)
      have c1c : decide (lo < es.length) = false := decide_eq_false c1
      rw [if_neg c1] at HG2
      obtain rfl := Option.some.inj HG2
      clear HG2
      go_wp2
      go_end0
      exact ⟨⟨_, rfl⟩, pre, by have := HF.out; rwa [List.append_nil] at this, hJ⟩
    case pos =>
      have c1b : decide ((lo : Int) < (es.length : Int)) = true := decide_eq_true (by omega)
      have c1c : decide (lo < es.length) = true := decide_eq_true c1
      rw [if_pos c1] at HG2
      split at HG2
      case isFalse => cases HG2
      rename_i c2
      obtain ⟨⟨bs, er⟩, hb, HG2⟩ := Option.bind_eq_some_iff.mp HG2
      dsimp only at HG2 hb
      obtain ⟨A2, c2', hcut, hrd, hcp⟩ := cutK A c es lo hi (by omega) c2.2 HC0.out
      have HRD := Aside0.mk hrd
      have HCP := Aside0.mk hcp
      have HBD := Aside0.mk hb
      have HG3 := Aside0.mk HG2
      have HCC := Aside0.mk (And.intro c1 c2)
      obtain ⟨M, hM⟩ : ∃ x, (es.take hi).drop lo = x := ⟨_, rfl⟩
      rw [hM] at HRD HCP HBD hcut
      clear hrd hcp hb HG2 HG c1 c2 hM
      go_upto_region 3 with fail
      go_wp2_with fail
      have HCd := Aside0.mk (Kd.C_drew HCr.out)
      refine start_ (n := 12) (S := fun w' => w'.cell? ⟨bl, 0, none⟩ = some (.slice A es.length c) ∧ w'.cell? ⟨bo, 0, none⟩ = some (.int .i64 blk) ∧ w'.cell? ⟨bo, 1, none⟩ = some (.int .i64 iv)) (ds := []) #[false, false, false, false, false, false, false, false, false, false, false, false] (by kernel_rfl) rfl rfl ⟨(by exact hbl2), (by exact hbo2), (by exact hbo3)⟩ (fun hHeld => ?_)
      refine pure_ (i := 1) (N := some 16) (v := ?_) (a' := ?_) #[false, true, false, false, false, false, false, false, false, false, false, false] rfl rfl (by kernel_rfl) (fun _ _ _ h => h) (Or.inl ⟨by rfl, ?_⟩) ?_ ?_
      rotate_left
      · intro w'
        go_simp
        with_reducible rfl
      rotate_left
      · simp only [Act.put, List.setIfInBounds_toArray, List.set_cons_zero, List.set_cons_succ, i64_w, i32_w]
        rfl
      refine pure_ (i := 2) (N := some 17) (v := ?_) (a' := ?_) #[false, true, true, false, false, false, false, false, false, false, false, false] rfl rfl (by kernel_rfl) (fun _ _ _ h => h) (Or.inl ⟨by rfl, ?_⟩) ?_ ?_
      rotate_left
      · intro w'
        go_simp
        with_reducible rfl
      rotate_left
      · simp only [Act.put, List.setIfInBounds_toArray, List.set_cons_zero, List.set_cons_succ, i64_w, i32_w]
        rfl
      refine pure_ (i := 4) (N := some 19) (v := ?_) (a' := ?_) #[false, true, true, false, true, false, false, false, false, false, false, false] rfl rfl (by kernel_rfl) (fun _ _ _ h => h) (Or.inl ⟨by rfl, ?_⟩) ?_ ?_
      rotate_left
      · intro w'
        go_simp
        with_reducible rfl
      rotate_left
      · simp only [Act.put, List.setIfInBounds_toArray, List.set_cons_zero, List.set_cons_succ, i64_w, i32_w]
        rfl
      refine take_ (i := 0) (N := some 15) (v := ?_) (a' := ?_) #[true, true, true, false, true, false, false, false, false, false, false, false] rfl rfl (by kernel_rfl) (fun _ _ _ h => h) (Or.inl ⟨by rfl, ?_⟩) hHeld ?_ ?_
      rotate_left
      · rintro w' ⟨s0, s1, s2⟩
        go_simp
        with_reducible rfl
      rotate_left
      · simp only [Act.put, List.setIfInBounds_toArray, List.set_cons_zero, List.set_cons_succ, i64_w, i32_w]
        rfl
      refine pure_ (i := 3) (N := some 18) (v := ?_) (a' := ?_) #[true, true, true, true, true, false, false, false, false, false, false, false] rfl rfl (by kernel_rfl) (fun _ _ _ h => h) (Or.inl ⟨by rfl, ?_⟩) ?_ ?_
      rotate_left
      · intro w'
        go_simp
        with_reducible rfl
      rotate_left
      · simp only [Act.put, List.setIfInBounds_toArray, List.set_cons_zero, List.set_cons_succ, i64_w, i32_w]
        rfl
      refine take_ (i := 5) (N := some 20) (v := ?_) (a' := ?_) #[true, true, true, true, true, true, false, false, false, false, false, false] rfl rfl (by kernel_rfl) (fun _ _ _ h => h) (Or.inl ⟨by rfl, ?_⟩) hHeld ?_ ?_
      rotate_left
      · rintro w' ⟨s0, s1, s2⟩
        go_simp
        with_reducible rfl
      rotate_left
      · simp only [Act.put, List.setIfInBounds_toArray, List.set_cons_zero, List.set_cons_succ, i64_w, i32_w]
        rfl
      refine one_ (i := 6) (N := some 21) #[true, true, true, true, true, true, true, false, false, false, false, false] rfl rfl (by kernel_rfl) (by decide) (fun K hK => ?_)
      refine goes_ Try.func19 (by kernel_rfl) rfl #[.slice A2 M.length c2', .int .i64 iv] (by rfl) rfl rfl (by simp only [List.map_toArray, List.map_cons, List.map_nil]; rfl) ?_
      with_reducible refine (block_Build.calls k A2 c2' M iv bs er _ (HRD.out _ HCd.out) HCP.out HBD.out).mono ?_
      rintro ex w2 ⟨vb, rfl, hob, hb2⟩
      refine ⟨_, rfl, ?_⟩
      have HO := Aside0.mk hob
      have HB2 := Aside0.mk (below_step (below_drew1 (Below.refl wr.heap.size wr)) hb2)
      obtain ⟨Ab, cb, eb⟩ := Kd.R_slice hob
      subst eb
      clear hob hb2
      refine hK.out _ _ ⟨(HB2.out.cell (World.block_lt_of_cell? _ _ hHeld.1)).trans hHeld.1, (HB2.out.cell (World.block_lt_of_cell? _ _ hHeld.2.1)).trans hHeld.2.1, (HB2.out.cell (World.block_lt_of_cell? _ _ hHeld.2.2)).trans hHeld.2.2⟩ (fun hHeld => ?_)
      clear hK K
      refine norm_ (a' := ?_) ?_ ?_
      rotate_left
      · show Act.put _ (some 21) _ = _
        simp only [Act.put, List.setIfInBounds_toArray, List.set_cons_zero, List.set_cons_succ, i64_w, i32_w]
        rfl
      refine pure_ (i := 7) (N := some 14) (v := ?_) (a' := ?_) #[true, true, true, true, true, true, true, true, false, false, false, false] rfl rfl (by kernel_rfl) (fun _ _ _ h => h) (Or.inl ⟨by rfl, ?_⟩) ?_ ?_
      rotate_left
      · intro w'
        go_simp
        with_reducible rfl
      rotate_left
      · simp only [Act.put, List.setIfInBounds_toArray, List.set_cons_zero, List.set_cons_succ, i64_w, i32_w]
        rfl
      refine pure_ (i := 8) (N := some 22) (v := ?_) (a' := ?_) #[true, true, true, true, true, true, true, true, true, false, false, false] rfl rfl (by kernel_rfl) (fun _ _ _ h => h) (Or.inl ⟨by rfl, ?_⟩) ?_ ?_
      rotate_left
      · intro w'
        go_simp
        with_reducible rfl
      rotate_left
      · simp only [Act.put, List.setIfInBounds_toArray, List.set_cons_zero, List.set_cons_succ, i64_w, i32_w]
        rfl
      refine pure_ (i := 9) (N := some 23) (v := ?_) (a' := ?_) #[true, true, true, true, true, true, true, true, true, true, false, false] rfl rfl (by kernel_rfl) (fun _ _ _ h => h) (Or.inl ⟨by rfl, ?_⟩) ?_ ?_
      rotate_left
      · intro w'
        go_simp
        with_reducible rfl
      rotate_left
      · simp only [Act.put, List.setIfInBounds_toArray, List.set_cons_zero, List.set_cons_succ, i64_w, i32_w]
        rfl
      refine pure_ (i := 10) (N := some 6) (v := ?_) (a' := ?_) #[true, true, true, true, true, true, true, true, true, true, true, false] rfl rfl (by kernel_rfl) (fun _ _ _ h => h) (Or.inl ⟨by rfl, ?_⟩) ?_ ?_
      rotate_left
      · intro w'
        go_simp
        with_reducible rfl
      rotate_left
      · simp only [Act.put, List.setIfInBounds_toArray, List.set_cons_zero, List.set_cons_succ, i64_w, i32_w]
        rfl
      refine pure_ (i := 11) (N := some 7) (v := ?_) (a' := ?_) #[true, true, true, true, true, true, true, true, true, true, true, true] rfl rfl (by kernel_rfl) (fun _ _ _ h => h) (Or.inl ⟨by rfl, ?_⟩) ?_ ?_
      rotate_left
      · intro w'
        go_simp
        with_reducible rfl
      rotate_left
      · simp only [Act.put, List.setIfInBounds_toArray, List.set_cons_zero, List.set_cons_succ, i64_w, i32_w]
        rfl
      refine done_ (by kernel_rfl) ?_
      have hbl4 := (HB2.out.cell (World.block_lt_of_cell? _ _ hbl2)).trans hbl2
      have hbo4 := (HB2.out.cell (World.block_lt_of_cell? _ _ hbo2)).trans hbo2
      have hbo5 := (HB2.out.cell (World.block_lt_of_cell? _ _ hbo3)).trans hbo3
      have HC2 : Aside0 (Kd.C k47 w2 A es.length es) := ⟨Kd.C_below HCr.out HB2.out⟩
      have HJ2 : Aside0 (J pre w2) := ⟨hJB _ _ _ hJ HB2.out⟩
      have HJr := Aside0.mk hJ
      have HBr := Aside0.mk HB2.out
      have HK2 : Aside0 (CutKeep n₀ bl bo W w2) := ⟨hKK.trans (CutKeep.of_below HB2.out (by have h1 := hW.size; have h2 := hKK.1.size; omega) (World.block_lt_of_cell? _ _ hbl2) (World.block_lt_of_cell? _ _ hbo2))⟩
      clear hbl2 hbo2 hbo3 HCr hJ hKK HB2
      have HCC2 := HCC.out
      have HG2 := HG3.out
      clear HG3 HCC
      by_cases c3 : (bs.length : Int) < blk
      case neg =>
        have c3b : decide ((bs.length : Int) < blk) = false := decide_eq_false c3
        rw [if_neg (by omega)] at HG2
        obtain ⟨ad, eA, k1, k2, k3, k4⟩ := at_T47 HC2.out ((hi - 1 : Nat) : Int) (Int.natCast_nonneg _) (by omega)
        subst eA
        rw [Int.toNat_natCast] at k1 k2 k3 k4
        obtain ⟨hm, hhm⟩ : ∃ x, hi - 1 = x := ⟨_, rfl⟩
        have d1 : decide (hm < es.length) = true := decide_eq_true (by omega)
        have d2 : decide ((hm : Int) < (es.length : Int)) = true := decide_eq_true (by omega)
        have d3 := eq_true (show (hm : Int) < (es.length : Int) by omega)
        have d4 := eq_true (show (0 : Int) ≤ (hm : Int) by omega)
        have hw2 := tc_w2 hi (by have := HLE.out; omega) (by omega)
        rw [hhm] at hw2 k1 k2 k3 k4
        obtain ⟨ky, hky⟩ : ∃ x, rd_T47 es (hm : Int) = x := ⟨_, rfl⟩
        rw [hky] at k1 k2 k3 k4
        obtain ⟨rest2, hr2, hr3⟩ := Option.map_eq_some_iff.1 HG2
        try dsimp only at hr2 hr3
        rw [hhm, hky] at hr3
        obtain ⟨fn, tmps, assign, body, hy, hR⟩ := hY pre ⟨ky.f0, bs, Ab, cb⟩ wr w2 HJr.out HBr.out ⟨HO.out, rest2, by rw [List.map_append, ← HF.out, ← hr3, List.append_assoc]; rfl⟩
        have HR3 := Aside0.mk hr3
        have HR2 := Aside0.mk hr2
        have HHM := Aside0.mk hhm
        dsimp only [CutEl.vals] at hy
        clear hr2 hr3 HG2 c3 hhm hky HCC2
        go_upto_region 5 with fail
        refine (wpIn_wide (n := 2)).1 ?_
        gi_wp2
        refine hR.mono ?_
        rintro e W3 ⟨rfl, hJ3, hK3⟩
        have hw1 := tc_w1 hi (by have := HLE.out; have := HI.out; omega)
        have HW1 := Aside0.mk hw1
        clear hw1
        gi_wp2
        go_wp2
        try simp only [HW1.out]
        go_roundw
        case rel => exact ⟨pre ++ [⟨ky.f0, bs, Ab, cb⟩], hi, hi + 1, gg, rest2, rfl, rfl, ⟨by have := HHM.out; have := of_decide_eq_true d1; omega⟩, HR2, ⟨by rw [List.map_append, ← HF.out, ← HR3.out, List.append_assoc]; rfl⟩, hJ3, HK2.out.trans hK3⟩
        case measure => have := HHM.out; have := of_decide_eq_true d1; simp [intOf]; omega
      case pos =>
        have c3b : decide ((bs.length : Int) < blk) = true := decide_eq_true c3
        by_cases c4 : hi < es.length
        case pos =>
          have c4b : decide ((hi : Int) < (es.length : Int)) = true := decide_eq_true (by omega)
          have c4c : decide (hi < es.length) = true := decide_eq_true c4
          rw [if_pos ⟨c3, c4⟩] at HG2
          have HG4 := Aside0.mk HG2
          have hw1 := tc_w1 hi (by have := HLE.out; omega)
          clear HG2 c3 HCC2
          go_wp2
          simp only [hw1]
          go_roundw
          case rel => exact ⟨pre, lo, hi + 1, gg, rest, rfl, rfl, ⟨by omega⟩, HG4, HF, HJ2.out, HK2.out⟩
          case measure => simp [intOf]; omega
        case neg =>
        have c4b : decide ((hi : Int) < (es.length : Int)) = false := decide_eq_false (by omega)
        have c4c : decide (hi < es.length) = false := decide_eq_false c4
        rw [if_neg (by omega)] at HG2
        obtain ⟨ad, eA, k1, k2, k3, k4⟩ := at_T47 HC2.out ((hi - 1 : Nat) : Int) (Int.natCast_nonneg _) (by omega)
        subst eA
        rw [Int.toNat_natCast] at k1 k2 k3 k4
        obtain ⟨hm, hhm⟩ : ∃ x, hi - 1 = x := ⟨_, rfl⟩
        have d1 : decide (hm < es.length) = true := decide_eq_true (by omega)
        have d2 : decide ((hm : Int) < (es.length : Int)) = true := decide_eq_true (by omega)
        have d3 := eq_true (show (hm : Int) < (es.length : Int) by omega)
        have d4 := eq_true (show (0 : Int) ≤ (hm : Int) by omega)
        have hw2 := tc_w2 hi (by have := HLE.out; omega) (by omega)
        rw [hhm] at hw2 k1 k2 k3 k4
        obtain ⟨ky, hky⟩ : ∃ x, rd_T47 es (hm : Int) = x := ⟨_, rfl⟩
        rw [hky] at k1 k2 k3 k4
        obtain ⟨rest2, hr2, hr3⟩ := Option.map_eq_some_iff.1 HG2
        try dsimp only at hr2 hr3
        rw [hhm, hky] at hr3
        obtain ⟨fn, tmps, assign, body, hy, hR⟩ := hY pre ⟨ky.f0, bs, Ab, cb⟩ wr w2 HJr.out HBr.out ⟨HO.out, rest2, by rw [List.map_append, ← HF.out, ← hr3, List.append_assoc]; rfl⟩
        have HR3 := Aside0.mk hr3
        have HR2 := Aside0.mk hr2
        have HHM := Aside0.mk hhm
        dsimp only [CutEl.vals] at hy
        clear hr2 hr3 HG2 c3 hhm hky HCC2
        go_upto_region 5 with fail
        refine (wpIn_wide (n := 2)).1 ?_
        gi_wp2
        refine hR.mono ?_
        rintro e W3 ⟨rfl, hJ3, hK3⟩
        have hw1 := tc_w1 hi (by have := HLE.out; have := HI.out; omega)
        have HW1 := Aside0.mk hw1
        clear hw1
        gi_wp2
        go_wp2
        try simp only [HW1.out]
        go_roundw
        case rel => exact ⟨pre ++ [⟨ky.f0, bs, Ab, cb⟩], hi, hi + 1, gg, rest2, rfl, rfl, ⟨by have := HHM.out; have := of_decide_eq_true d1; omega⟩, HR2, ⟨by rw [List.map_append, ← HF.out, ← HR3.out, List.append_assoc]; rfl⟩, hJ3, HK2.out.trans hK3⟩
        case measure => have := HHM.out; have := of_decide_eq_true d1; simp [intOf]; omega
theorem cuts_told (k g bl bo : Nat) (w0 : World) (A : Option Addr) (c : Nat) (es : List S47) (blk iv : Int) (full : List (S45 × List Int)) (hC : Kd.C k47 w0 A es.length es) (hc : es.length ≤ c) (hlen : es.length ≤ 300)
    (hf : cuts_g k es blk iv g 0 1 = some full) (w : World) (hw : Below w0.heap.size w0 w) (hbl : w.cell? ⟨bl, 0, none⟩ = some (.slice A es.length c)) (hbo0 : w.cell? ⟨bo, 0, none⟩ = some (.int .i64 blk)) (hbo1 : w.cell? ⟨bo, 1, none⟩ = some (.int .i64 iv)) :
    SeqTold Fence.wide 2 Try.prog 46 #[.pointer (some ⟨bl, 0, none⟩), .pointer (some ⟨bo, 0, none⟩)] CutEl.vals (CutTold full) (CutKeep w0.heap.size bl bo) (fun xs => xs.map CutEl.out = full) w := by
  intro l J W hW hJ hY h0
  have h1 := World.block_lt_of_cell? _ _ hbl
  have h2 := World.block_lt_of_cell? _ _ hbo0
  exact (cuts1_in k g l w0.heap.size bl bo w0 A c es blk iv 0 full hC hc hlen rfl hf J hY
    (fun pre W W' hj hb => hJ pre W W' none hj ⟨hb.os, hb.tape, hb.output, hb.size, fun i hi _ => hb.block i hi⟩ (fun r e => by cases e)) W (below_step hw hW) ((hW.cell h1).trans hbl) ((hW.cell h2).trans hbo0) ((hW.cell (p := ⟨bo, 1, none⟩) h2).trans hbo1) h0).mono fun _ _ h => h
end Go.Proofs.Ythdemdjobgbpdaa.T
namespace Go.Proofs.Ythdemdjobgbpdaa.T
open Go.RowKit Go.Shelf Go.Proofs.YthdemdjobgbpdaaW.PrintWords Go.Proofs.YthdemdjobgbpdaaW.PrintLast Go.Proofs.YthdemdjobgbpdaaW.PrintMore Go.Proofs.Ythdemdjobgbpdaa.P Go.Proofs.Ythdemdjobgbpdaa.B Go.Proofs.Ythdemdjobgbpdaa.Q
attribute [local go_sem] Oper.semAt_some
set_option linter.unusedVariables false
set_option linter.unusedSimpArgs false
def tab_step (k : Nat) : List (S45 × List Int) → List Int → List S47 → Option (List Int × List S47)
  | [], out, idx => some (out, idx)
  | x :: t, out, idx => if idx.length < 1000 then (codec_PutUvarint.f k [] (IntKind.u64.wrap (out.length : Int))).bind fun p1 => (codec_PutUvarint.f k p1 (IntKind.u64.wrap (x.2.length : Int))).bind fun p2 => (sstable_summed.f k out x.2).bind fun out2 => tab_step k t out2 (idx ++ [⟨x.1, strOfNums p2⟩]) else none
def tab_parts (k : Nat) : List (List Int) → List Int → List Int → Option (List Int × List Int)
  | [], out, tail => some (out, tail)
  | p :: t, out, tail => (codec_PutFixed.f k tail (IntKind.u64.wrap (out.length : Int)) 4).bind fun t1 => (codec_PutFixed.f k t1 (IntKind.u64.wrap (p.length : Int)) 4).bind fun t2 => (sstable_summed.f k out p).bind fun out2 => tab_parts k t out2 t2
def tabMagic : ByteArray := ⟨#[115, 116, 97, 100, 100, 108, 101, 49]⟩
def tab_f (k g : Nat) (l : List S47) (blk iv : Int) (fb : Nat) : Option (List Int × Int) :=
  if blk < 1 then some ([], 1) else if 65536 < blk then some ([], 1) else if iv < 1 then some ([], 1) else if 16 < iv then some ([], 1) else
  if l.length ≤ 300 then (bloomB k (l.map fun x => x.f0.f0) fb).bind fun f => if f.2 ≠ 0 then some ([], f.2) else if l.length = 0 then some ([], 120) else
    (block_Build.f k l iv).bind fun b => if b.2 ≠ 0 then some ([], b.2) else
    (cuts_g k l blk iv g 0 1).bind fun cs => (tab_step k cs [] []).bind fun oi => (block_Build.f k oi.2 1).bind fun x => (tab_parts k [f.1, x.1] oi.1 []).bind fun ot =>
    (codec_PutFixed.f k ot.2 (IntKind.u64.wrap (l.length : Int)) 4).bind fun tl => if ot.1.length + tl.length < 1000000000000 then some (ot.1 ++ tl ++ bytesOf tabMagic, 0) else none
  else none
theorem info9 : (Try.prog.info? 9).map (fun i => (i.zero, i.size, i.bytes)) = some (some (.string ⟨#[]⟩), 1, 16) := by kernel_rfl
theorem tab_step_append (k : Nat) : ∀ (a b : List (S45 × List Int)) (o : List Int) (i : List S47), tab_step k (a ++ b) o i = (tab_step k a o i).bind fun x => tab_step k b x.1 x.2
  | [], b, o, i => rfl
  | x :: a, b, o, i => by
    simp only [List.cons_append, tab_step]
    split
    · cases codec_PutUvarint.f k [] (IntKind.u64.wrap (o.length : Int)) with
      | none => rfl
      | some p1 =>
        simp only [Option.bind_some]
        cases codec_PutUvarint.f k p1 (IntKind.u64.wrap (x.2.length : Int)) with
        | none => rfl
        | some p2 =>
          simp only [Option.bind_some]
          cases sstable_summed.f k o x.2 with
          | none => rfl
          | some o2 =>
            simp only [Option.bind_some]
            exact tab_step_append k a b o2 _
    · rfl
/-- what stands between two rounds -/
def CutI (k n₀ n1 go gi : Nat) (w : World) (A : Option Addr) (c : Nat) (fl : List Int) (pre : List CutEl) (W : World) : Prop :=
  (∃ out idx vo vi, tab_step k (pre.map CutEl.out) [] [] = some (out, idx) ∧ W.heap[go]? = some (.cells #[vo] 27 (0, 0)) ∧ Kd.R (Kd.int .u8) 5 W n₀ (fun k_ => n1 ≤ k_) vo out ∧
    W.heap[gi]? = some (.cells #[vi] 23 (0, 0)) ∧ Kd.R k47 47 W n₀ (fun k_ => n1 ≤ k_) vi idx ∧ Kd.R (Kd.int .u8) 5 W n₀ (fun k_ => k_ < n1) (.slice A fl.length c) fl ∧ n1 ≤ W.heap.size) ∧ Below n₀ w W
theorem R_turnK {W W' : World} {B e base : Nat} {ok : Nat → Prop} {v : Value} {xs : List S47} {row : Option Nat} (h : Kd.R k47 e W base ok v xs) (hg : W.grownBy W' row) (hr : ∀ r, row = some r → B ≤ r ∧ ∃ o : Obj, W.heap[r]? = some o ∧ o.isCells = false) : Kd.R k47 e W' base ok v xs :=
  Kd.R_mono (Kd.R_grown (Kd.R_bound h) hg (fun k hk he => by
    obtain ⟨_, _, _, q, hq, cells, hc⟩ := hk
    obtain ⟨_, o, ho, hi⟩ := hr k he.symm
    rw [hc] at ho
    injection ho with ho
    subst ho
    cases hi)) (fun _ hk => hk.1)
theorem blk_turn {W W' : World} {B g : Nat} {cs : Array Value} {t : TypeId} {row : Option Nat} (h : W.heap[g]? = some (.cells cs t (0, 0))) (hg : W.grownBy W' row) (hr : ∀ r, row = some r → B ≤ r ∧ ∃ o : Obj, W.heap[r]? = some o ∧ o.isCells = false) : W'.heap[g]? = some (.cells cs t (0, 0)) :=
  (hg.block g (blk_lt2 h) (fun e => by
    obtain ⟨_, o, ho, hi⟩ := hr g e.symm
    rw [h] at ho
    injection ho with ho
    subst ho
    cases hi)).trans h
theorem cutI_own {k n₀ n1 go gi B : Nat} {w : World} {A : Option Addr} {c : Nat} {fl : List Int} (hn : n₀ ≤ w.heap.size) (hB : n₀ ≤ B) : OwnFrom B (CutI k n₀ n1 go gi w A c fl) := by
  refine OwnFrom.and (fun s X Y row hs hg hr => ?_) (ownFrom_below hn hB)
  obtain ⟨out, idx, vo, vi, h1, h2, h3, h4, h5, h6, h7⟩ := hs
  exact ⟨out, idx, vo, vi, h1, blk_turn h2 hg hr, R_turn h3 hg hr, blk_turn h4 hg hr, R_turnK h5 hg hr, R_turn h6 hg hr, Nat.le_trans h7 hg.size⟩
/-! ### what a round's steps keep -/
structure Keep3 (n₀ b1 b2 : Nat) (A B : World) : Prop where
  ko : KeepsOthers A B
  ck : CutKeep n₀ b1 b2 A B
section
variable {n₀ b1 b2 : Nat} {X Y Z : World}
theorem Keep3.trans (h : Keep3 n₀ b1 b2 X Y) (k : Keep3 n₀ b1 b2 Y Z) : Keep3 n₀ b1 b2 X Z := ⟨h.ko.trans k.ko, h.ck.trans k.ck⟩
theorem Keep3.below (h : Below X.heap.size X Y) (hn : n₀ ≤ X.heap.size) (h1 : b1 < X.heap.size) (h2 : b2 < X.heap.size) : Keep3 n₀ b1 b2 X Y :=
  ⟨⟨h.size, fun k o e _ => (h.block k (blk_lt2 e)).trans e⟩, CutKeep.of_below h hn h1 h2⟩
theorem Keep3.set {g : Nat} (v : Value) (hn : n₀ ≤ g) (h1 : b1 ≠ g) (h2 : b2 ≠ g) : Keep3 n₀ b1 b2 X (X.setCell ⟨g, 0, none⟩ v) :=
  ⟨KeepsOthers.setCell _ _ _, (Below.refl n₀ X).setCell (p := ⟨g, 0, none⟩) hn _, Below.heap_setCell _ _ _ _ h1, Below.heap_setCell _ _ _ _ h2⟩
theorem Keep3.grown {row : Option Nat} (hg : X.grownBy Y row) (hc : ∀ r, row = some r → n₀ ≤ r ∧ r ≠ b1 ∧ r ≠ b2 ∧ ∃ cells e, X.heap[r]? = some (.cells cells e (0, 0))) (hn : n₀ ≤ X.heap.size) (h1 : b1 < X.heap.size) (h2 : b2 < X.heap.size) : Keep3 n₀ b1 b2 X Y :=
  ⟨KeepsOthers.of_grownBy hg (fun j o e ho => by
    obtain ⟨_, _, _, cells, e2, hc2⟩ := hc j e
    rw [hc2] at ho
    injection ho with ho
    subst ho
    rfl), (Below.refl n₀ X).grown hg hn (fun r e => (hc r e).1), hg.block b1 h1 (fun e => (hc b1 e.symm).2.1 rfl), hg.block b2 h2 (fun e => (hc b2 e.symm).2.2.1 rfl)⟩
theorem Keep3.kept {S : Nat → Prop} (hk : Kept X Y S) (hb : Below n₀ X Y) (hc : ∀ r, S r → r ≠ b1 ∧ r ≠ b2 ∧ (r < X.heap.size → ∃ cells e, X.heap[r]? = some (.cells cells e (0, 0))) ∧ (∀ o, X.heap[r]? = some o → o.isCells = true)) (h1 : b1 < X.heap.size) (h2 : b2 < X.heap.size) : Keep3 n₀ b1 b2 X Y :=
  ⟨⟨hk.1, fun k o e ho => by
    by_cases hs : S k
    · have := (hc k hs).2.2.2 o e
      rw [this] at ho
      cases ho
    · exact (hk.2 k (blk_lt2 e) hs).trans e⟩, hb, hk.2 b1 h1 (fun hs => (hc b1 hs).1 rfl), hk.2 b2 h2 (fun hs => (hc b2 hs).2.1 rfl)⟩
end
section
variable {F : Fence} {n : Nat} {P : Program} {ops : Array Oper} {rest : List Oper} {o : Oper} {a : Act} {Q : Exit → Act → World → Prop} {α : Type}
/-- append of one element to a row of one's own, inside a round -/
theorem R_append_in (d : Kd α) {W : World} (base : Nat) (hgd : o.guard = none) (s x : Operand) (t e : TypeId) (z : Value) (bytes : Nat)
    (ho : o.op = .call { callee := .builtin .append, args := #[s, x], argTypes := #[t, t] })
    (ht : P.underlying t = some (.slice e)) (hinfo : (P.info? e).map (fun i => (i.zero, i.size, i.bytes)) = some (some z, d.sz, bytes)) (hz : z.cells.size = d.sz) (hs0 : 0 < d.sz) (hb0 : 0 < bytes)
    (v : Value) (xs : List α) (p : α) (cs : List Value) (ok okp : Nat → Prop) (hs : a.eval s = v) (hx : a.eval x = .slice (some ⟨W.heap.size, 0, none⟩) 1 1) (hp : d.M W base okp p cs) (hokp : ∀ k, okp k → ok k ∧ some k ≠ v.ownBlock) (hfresh : ∀ k, W.heap.size ≤ k → ok k)
    (HO : d.R e W base ok v xs) (hbase : base ≤ W.heap.size) (hl : (xs.length + 1) * bytes ≤ 140737488355328)
    (h : ∀ v1 w1, d.R e w1 base ok v1 (xs ++ [p]) → W.grownBy w1 v.ownBlock → wpListIn F n P ops Q rest (a.put o.dst v1) w1) :
    wpListIn F n P ops Q (o :: rest) a (W.alloc (.cells cs.toArray e)) := by
  obtain ⟨h0, inner, hown, hr⟩ := HO
  obtain ⟨i0, hi, hzz⟩ := Option.map_eq_some_iff.1 hinfo
  simp only [Prod.mk.injEq] at hzz
  obtain ⟨hz0, hz1, hz2⟩ := hzz
  have hlen : xs.length + 1 ≤ 140737488355328 := Nat.le_trans (Nat.le_mul_of_pos_right _ hb0) hl
  have hcl : cs.length = d.sz := d.K_len (d.K_of_M hp)
  obtain ⟨v1, w1, hrun, h2, h3, _, h5⟩ := run_append_own_at (P := P) (W.alloc (.cells cs.toArray e)) base t o.type e i0 z d.sz bytes ht hi hz0 hz1 hz2 hz hs0 v xs.length inner (hown.alloc _) ⟨W.heap.size, 0, none⟩ 1 1 cs (by rw [hcl]; simp)
    (by simpa using World.news_of_block (cs := cs.toArray) (t := e) (fr := (0, 0)) (World.alloc_heap_new W (.cells cs.toArray e))) (d.K_one (d.K_of_M hp)) (by simp only [maxLen]; omega) hl (by simp; omega)
  have hg := World.grownBy.trans (World.grownBy_alloc W (.cells cs.toArray e) _) h3
  have hR := Kd.R_appended h0 hr hp hokp hfresh h2 hg (by
    rcases h5 with h5 | h5
    · exact .inl h5
    · exact .inr ⟨_, h5, by simp⟩)
  refine wpListIn_plain hgd fun K hK' => ?_
  unfold Oper.wpIn
  refine ⟨?_, ?_⟩
  · simp [Oper.about, ho, resolve, Target.leads, Sem.run_pure]
  · rw [Oper.semAt_plain F _ _ (by rw [ho]; intro c hc'; cases hc')]
    simp [execOp, ho, resolve, invoke, builtin, hs, hx, hrun, Result.andThen]
    exact hK' _ _ (h v1 w1 hR hg)
end
/-- a row of other blocks is kept -/
theorem R_kept {α : Type} {d : Kd α} {e base : Nat} {S ok : Nat → Prop} {w W : World} {v : Value} {xs : List α} (h : Kd.R d e w base ok v xs) (hok : ∀ k, ok k → ¬ S k) (hk : Kept w W S) : Kd.R d e W base ok v xs := Kd.R_step h (fun k ho hlt => hk.2 k hlt (hok k ho))
theorem R_kept_ty {α : Type} {d : Kd α} {e e' base : Nat} {S ok : Nat → Prop} {w W : World} {v : Value} {xs : List α} (h : Kd.R d e w base ok v xs) (hS : ∀ k, S k → ∃ cells, w.heap[k]? = some (.cells cells e' (0, 0))) (ht : ∀ q, q ∈ e :: d.E → q ≠ e') (hk : Kept w W S) : Kd.R d e W base ok v xs :=
  Kd.R_mono (R_kept (Kd.R_bound h) (fun k ho hs => by
    obtain ⟨_, _, _, q, hq, cells, hc⟩ := ho
    obtain ⟨c2, hc2⟩ := hS k hs
    rw [hc] at hc2
    injection hc2 with hc2
    injection hc2 with _ hc2
    exact ht q hq hc2) hk) (fun _ hk => hk.1)
theorem below_between {n₀ : Nat} {w X Y : World} (h : Below n₀ w X) (k : Below n₀ w Y) (hn : n₀ ≤ w.heap.size) (hs : X.heap.size ≤ Y.heap.size) : Below n₀ X Y :=
  ⟨k.os.trans h.os.symm, k.tape.trans h.tape.symm, k.output.trans h.output.symm, hs, fun i hi => (k.block i hi).trans (h.block i hi).symm⟩
theorem ty_k47 {e' : Nat} (h : 47 ≠ e') : ∀ q, q ∈ 47 :: k47.E → q ≠ e' := by
  intro q hq
  rcases List.mem_cons.1 hq with rfl | hq
  · exact h
  · exact absurd hq (by simp [k47, k45, Kd.iso, Kd.pair, Kd.string, Kd.int, Kd.scalar])
theorem ty_u8 {e' : Nat} (h : 5 ≠ e') : ∀ q, q ∈ 5 :: (Kd.int .u8).E → q ≠ e' := by
  intro q hq
  rcases List.mem_cons.1 hq with rfl | hq
  · exact h
  · exact absurd hq (by simp [Kd.int, Kd.scalar])
theorem putu_in (k : Nat) (A : Option Addr) (c n : Nat) (l0 : List Int) (a1 : Int) (r : List Int) (w : World) (lr : Nat) (hl : l0.length = n) (hr0 : Kd.C (Kd.int .u8) w A l0.length l0) (hc : n ≤ c) (h : codec_PutUvarint.f k l0 a1 = some r) :
    CallsIn (Fence.wide.inRound lr) 0 Try.prog 21 #[.slice A n c, .int .u64 a1] w fun e w' => ∃ v0_ : Value, e = .returned (v0_) ∧ Kd.R (Kd.int .u8) 5 w' w.heap.size (fun _ => True) v0_ r ∧ Below w.heap.size w w' := by
  subst hl
  exact CallsIn.inRound lr (callsIn_wide.2 (codec_PutUvarint.calls k A c l0 a1 r w hr0 hc h))
theorem putf_in (k : Nat) (A : Option Addr) (c n : Nat) (l0 : List Int) (a1 a2 : Int) (r : List Int) (w : World) (hl : l0.length = n) (hr0 : Kd.C (Kd.int .u8) w A l0.length l0) (hc : n ≤ c) (h : codec_PutFixed.f k l0 a1 a2 = some r) :
    CallsIn Fence.wide 0 Try.prog 23 #[.slice A n c, .int .u64 a1, .int .i64 a2] w fun e w' => ∃ v0_ : Value, e = .returned (v0_) ∧ Kd.R (Kd.int .u8) 5 w' w.heap.size (fun _ => True) v0_ r ∧ Below w.heap.size w w' := by
  subst hl
  exact callsIn_wide.2 (codec_PutFixed.calls k A c l0 a1 a2 r w hr0 hc h)
theorem summed_in (k : Nat) (P : Nat → Prop) (u : Value) (l0 : List Int) (A1 : Option Addr) (c1 : Nat) (l1 : List Int) (r : List Int) (w0 w : World) (lr : Nat) (hB : Below w0.heap.size w0 w) (ho0 : Kd.R (Kd.int .u8) 5 w w0.heap.size P u l0) (hr1 : ∀ W_, Kept w W_ (fun k_ => P k_) → Kd.C (Kd.int .u8) W_ A1 l1.length l1) (hc1 : l1.length ≤ c1) (h : sstable_summed.f k l0 l1 = some r) :
    CallsIn (Fence.wide.inRound lr) 0 Try.prog 22 #[u, .slice A1 l1.length c1] w fun e w' => ∃ v0_ : Value, e = .returned (v0_) ∧ Kd.R (Kd.int .u8) 5 w' w0.heap.size (fun k_ => (P k_ ∨ w.heap.size ≤ k_)) v0_ r ∧ Below w0.heap.size w0 w' ∧ Kept w w' (fun k_ => P k_) :=
  CallsIn.inRound lr (callsIn_wide.2 (sstable_summed.calls k P u l0 A1 c1 l1 r w0 w hB ho0 hr1 hc1 h))
theorem R_setbox {α : Type} {d : Kd α} {e base t g j : Nat} {ok : Nat → Prop} {w : World} {v u : Value} {xs : List α} {cells : Array Value} (h : Kd.R d e w base ok v xs) (hb : w.heap[g]? = some (.cells cells t (0, 0))) (ht : ∀ q, q ∈ e :: d.E → q ≠ t) : Kd.R d e (w.setCell ⟨g, j, none⟩ u) base ok v xs :=
  Kd.R_mono (Kd.R_move (Kd.R_types h hb ht) (fun k_ hk => Below.heap_setCell _ _ _ k_ hk.2)) (fun _ hk => hk.1)
theorem blk_setne {g g' j : Nat} {w : World} {u : Value} {o : Obj} (h : w.heap[g]? = some o) (hn : g ≠ g') : (w.setCell ⟨g', j, none⟩ u).heap[g]? = some o := (Below.heap_setCell _ _ _ _ hn).trans h
theorem R_self {e base : Nat} {w : World} {ok : Nat → Prop} {v : Value} {xs : List Int} (h : Kd.R (Kd.int .u8) e w base ok v xs) : Kd.R (Kd.int .u8) e w base (fun q => v.ownBlock = some q) v xs :=
  Kd.R_of_own (enc := Value.int .u8) (h1 := fun _ => rfl) (Kd.own_of_R (enc := Value.int .u8) (h1 := fun _ => rfl) h) (fun _ e => e)
/-- what stands between two rounds of the parts -/
structure PartI (n0 n1 go gr D : Nat) (w : World) (Af : Option Addr) (cf : Nat) (fl : List Int) (Ax : Option Addr) (cx : Nat) (xb : List Int) (W : World) (vo : Value) (out : List Int) (At : Option Addr) (ct : Nat) (tl : List Int) : Prop where
  xo : W.heap[go]? = some (.cells #[vo] 27 (0, 0))
  ro : Kd.R (Kd.int .u8) 5 W n0 (fun q => n1 ≤ q) vo out
  rf : Kd.R (Kd.int .u8) 5 W n0 (fun q => q < n1) (.slice Af fl.length cf) fl
  rx : Kd.R (Kd.int .u8) 5 W n0 (fun _ => True) (.slice Ax xb.length cx) xb
  nx : ∀ q, vo.ownBlock = some q → (Value.slice Ax xb.length cx).ownBlock ≠ some q
  rt : Kd.R (Kd.int .u8) 5 W n0 (fun _ => True) (.slice At tl.length ct) tl
  br : W.heap[gr]? = some (.cells #[.slice Af fl.length cf, .slice Ax xb.length cx] 27 (0, 0))
  dk : W.heap[D]? = some (.deferred (some []))
  hb : Below n0 w W
  hz : n1 ≤ W.heap.size
theorem PartI.pick {n0 n1 go gr D : Nat} {w W : World} {Af Ax At : Option Addr} {cf cx ct : Nat} {fl xb out tl : List Int} {vo : Value} (h : PartI n0 n1 go gr D w Af cf fl Ax cx xb W vo out At ct tl) {i : Nat} (hi : i < 2) :
    ∃ Ap cp p, [fl, xb].drop i = p :: [fl, xb].drop (i + 1) ∧ W.cell? ⟨gr, i, none⟩ = some (.slice Ap p.length cp) ∧ Kd.R (Kd.int .u8) 5 W n0 (fun q => vo.ownBlock ≠ some q) (.slice Ap p.length cp) p := by
  rcases (show i = 0 ∨ i = 1 by omega) with rfl | rfl
  · exact ⟨Af, cf, fl, rfl, (blk_cell h.br 0).trans rfl, Kd.R_mono h.rf (fun q hq e => absurd (h.ro.1 q e) (by omega))⟩
  · exact ⟨Ax, cx, xb, rfl, (blk_cell h.br 1).trans rfl, Kd.R_mono (R_self h.rx) (fun q hq e => h.nx q e hq)⟩
theorem PartI.below {n0 n1 go gr D : Nat} {w W W' : World} {Af Ax At : Option Addr} {cf cx ct : Nat} {fl xb out tl : List Int} {vo : Value} (h : PartI n0 n1 go gr D w Af cf fl Ax cx xb W vo out At ct tl) (hw : n0 = w.heap.size) (hb : Below W.heap.size W W') : PartI n0 n1 go gr D w Af cf fl Ax cx xb W' vo out At ct tl := by
  subst hw
  exact ⟨blk_below h.xo hb, Kd.R_below h.ro hb, Kd.R_below h.rf hb, Kd.R_below h.rx hb, h.nx, Kd.R_below h.rt hb, blk_below h.br hb, (hb.block _ (blk_lt2 h.dk)).trans h.dk, below_step h.hb hb, Nat.le_trans h.hz hb.size⟩
theorem PartI.tail {n0 n1 go gr D : Nat} {w W : World} {Af Ax At At' : Option Addr} {cf cx ct ct' : Nat} {fl xb out tl tl' : List Int} {vo : Value} (h : PartI n0 n1 go gr D w Af cf fl Ax cx xb W vo out At ct tl) (r : Kd.R (Kd.int .u8) 5 W n0 (fun _ => True) (.slice At' tl'.length ct') tl') : PartI n0 n1 go gr D w Af cf fl Ax cx xb W vo out At' ct' tl' :=
  ⟨h.xo, h.ro, h.rf, h.rx, h.nx, r, h.br, h.dk, h.hb, h.hz⟩
/-- the call of summed, and its result put into the box -/
theorem PartI.put {n0 n1 go gr D : Nat} {w W W' : World} {Af Ax At : Option Addr} {cf cx ct : Nat} {fl xb out out' tl : List Int} {vo v' : Value} (h : PartI n0 n1 go gr D w Af cf fl Ax cx xb W vo out At ct tl) (hgo : n0 ≤ go) (hng : go ≠ gr) (hw : n0 = w.heap.size)
    (hr : Kd.R (Kd.int .u8) 5 W' n0 (fun q => vo.ownBlock = some q ∨ W.heap.size ≤ q) v' out') (hb : Below n0 w W') (hk : Kept W W' (fun q => vo.ownBlock = some q)) (nt : ∀ q, vo.ownBlock = some q → (Value.slice At tl.length ct).ownBlock ≠ some q) :
    PartI n0 n1 go gr D w Af cf fl Ax cx xb (W'.setCell ⟨go, 0, none⟩ v') v' out' At ct tl := by
  subst hw
  have hxo := (hk.2 _ (blk_lt2 h.xo) (fun e => Kd.R_ne h.ro h.xo (by decide) e.symm)).trans h.xo
  have hbr := (hk.2 _ (blk_lt2 h.br) (fun e => Kd.R_ne h.ro h.br (by decide) e.symm)).trans h.br
  have hdk := (hk.2 _ (blk_lt2 h.dk) (fun e => by
    obtain ⟨cells, hc⟩ := Kd.R_typed h.ro _ e
    rw [h.dk] at hc
    cases hc)).trans h.dk
  have hlt := Kd.R_lt h.rx
  have hne : D ≠ go := fun e => by
    have h1 := h.dk
    rw [e, h.xo] at h1
    cases h1
  exact ⟨blk_put hxo 0 v' rfl, R_setbox (Kd.R_mono hr (fun q hq => hq.elim (fun e => h.ro.1 q e) (fun e => Nat.le_trans h.hz e))) hxo (ty_u8 (by decide)), R_setbox (R_kept h.rf (fun q hq e => absurd (h.ro.1 q e) (by omega)) hk) hxo (ty_u8 (by decide)),
    R_setbox (Kd.R_mono (R_kept (R_self h.rx) (fun q hq e => h.nx q e hq) hk) (fun _ _ => trivial)) hxo (ty_u8 (by decide)), fun q e e2 => (hr.1 q e).elim (fun e3 => h.nx q e3 e2) (fun e3 => absurd (hlt q e2) (by omega)),
    R_setbox (Kd.R_mono (R_kept (R_self h.rt) (fun q hq e => nt q e hq) hk) (fun _ _ => trivial)) hxo (ty_u8 (by decide)), blk_setne hbr hng.symm, blk_setne hdk hne, below_set hb hgo, by simpa using Nat.le_trans h.hz hk.1⟩
theorem put4_in (k : Nat) (A : Option Addr) (c : Nat) (l0 : List Int) (a1 : Int) (r : List Int) (w : World) {m : Nat} {ok : Nat → Prop} (hr0 : Kd.R (Kd.int .u8) 5 w m ok (.slice A l0.length c) l0) (h : codec_PutFixed.f k l0 a1 4 = some r) :
    Calls Try.prog 23 #[.slice A l0.length c, .int .u64 a1, .int .i64 4] w fun e w' => ∃ v0_ : Value, e = .returned (v0_) ∧ Kd.R (Kd.int .u8) 5 w' w.heap.size (fun _ => True) v0_ r ∧ Below w.heap.size w w' :=
  codec_PutFixed.calls k A c l0 a1 4 r w (Kd.R_reads' hr0).2.2 (Kd.R_reads' hr0).2.1 h
theorem td_w1 (n : Nat) (h : n ≤ 1000) : wrap64 ((n : Int) + 1) = ((n + 1 : Nat) : Int) := by unfold wrap64; omega
theorem users_take (l : List S47) (i : Nat) (hi : i < l.length) : (l.take i).map (fun x => x.f0.f0) ++ [(rd_T47 l (i : Int)).f0.f0] = (l.take (i + 1)).map (fun x => x.f0.f0) := by
  rw [List.take_succ_eq_append_getElem hi, List.map_append]
  simp [rd_T47, hi]
set_option maxRecDepth 100000 in
set_option maxHeartbeats 4000000 in
theorem tab_calls (k g : Nat) (A0 : Option Addr) (c0 : Nat) (l : List S47) (blk iv : Int) (fb : Nat) (r : List Int × Int) (w : World) (hr0 : Kd.C k47 w A0 l.length l) (hc0 : l.length ≤ c0) (hf : tab_f k g l blk iv fb = some r) :
    Calls Try.prog 10 #[.slice A0 l.length c0, .agg #[.int .i64 blk, .int .i64 iv, .float .f64 fb]] w fun e w' => ∃ v, e = .returned (.tuple #[v, .int .i64 r.2]) ∧ Kd.R (Kd.int .u8) 5 w' w.heap.size (fun _ => True) v r.1 ∧ Below w.heap.size w w' := by
  have HR0 := Aside0.mk hr0
  have HC0 := Aside0.mk hc0
  clear hr0 hc0
  obtain ⟨W1, hW1⟩ : ∃ W1, w.alloc (.cells #[.int .i64 blk, .int .i64 iv, .float .f64 fb] 26) = W1 := ⟨_, rfl⟩
  have HO1 : Aside0 (W1.heap[w.heap.size]? = some (.cells #[.int .i64 blk, .int .i64 iv, .float .f64 fb] 26 (0, 0))) := ⟨by rw [← hW1]; exact blk_new w _⟩
  have HB1 : Aside0 (Below w.heap.size w W1) := ⟨by rw [← hW1]; exact below_alloc (Below.refl _ _) _⟩
  have q0 : W1.cell? ⟨w.heap.size, 0, none⟩ = some (.int .i64 blk) := (blk_cell HO1.out 0).trans rfl
  have q1 : W1.cell? ⟨w.heap.size, 1, none⟩ = some (.int .i64 iv) := (blk_cell HO1.out 1).trans rfl
  have q2 : W1.cell? ⟨w.heap.size, 2, none⟩ = some (.float .f64 fb) := (blk_cell HO1.out 2).trans rfl
  unfold tab_f at hf
  refine (callsIn_wide (n := 3)).1 ?_
  refine callsIn_of_wp_marks Try.func10 rfl trivial ?_ rfl
  simp only [Try.ntmps10, List.size_toArray, List.length_cons, List.length_nil, Nat.reduceAdd, Nat.reduceSub, Array.replicate_succ, Array.replicate_zero, List.push_toArray, List.append_toArray, List.nil_append, List.cons_append]
  refine wpIn_wide.2 ?_
  go_upto_region 1 with fail
  clear hW1
  by_cases c1 : blk < 1
  case pos =>
    rw [if_pos c1] at hf
    obtain rfl := Option.some.inj hf
    have d1 : decide (blk < 1) = true := decide_eq_true c1
    clear c1 hf
    go_wp2
    exact ⟨.tuple #[.slice none 0 0, .int .i64 1], by simp [results, Try.f10, go_sem], _, rfl, Kd.R_nil _ _ _ _ _, HB1.out⟩
  case neg =>
  rw [if_neg c1] at hf
  have d1 : decide (blk < 1) = false := decide_eq_false c1
  by_cases c2 : 65536 < blk
  case pos =>
    rw [if_pos c2] at hf
    obtain rfl := Option.some.inj hf
    have d2 : decide (65536 < blk) = true := decide_eq_true c2
    clear c2 hf
    go_wp2
    exact ⟨.tuple #[.slice none 0 0, .int .i64 1], by simp [results, Try.f10, go_sem], _, rfl, Kd.R_nil _ _ _ _ _, HB1.out⟩
  case neg =>
  rw [if_neg c2] at hf
  have d2 : decide (65536 < blk) = false := decide_eq_false c2
  by_cases c3 : iv < 1
  case pos =>
    rw [if_pos c3] at hf
    obtain rfl := Option.some.inj hf
    have d3 : decide (iv < 1) = true := decide_eq_true c3
    clear c3 hf
    go_wp2
    exact ⟨.tuple #[.slice none 0 0, .int .i64 1], by simp [results, Try.f10, go_sem], _, rfl, Kd.R_nil _ _ _ _ _, HB1.out⟩
  case neg =>
  rw [if_neg c3] at hf
  have d3 : decide (iv < 1) = false := decide_eq_false c3
  by_cases c4 : 16 < iv
  case pos =>
    rw [if_pos c4] at hf
    obtain rfl := Option.some.inj hf
    have d4 : decide (16 < iv) = true := decide_eq_true c4
    clear c4 hf
    go_wp2
    exact ⟨.tuple #[.slice none 0 0, .int .i64 1], by simp [results, Try.f10, go_sem], _, rfl, Kd.R_nil _ _ _ _ _, HB1.out⟩
  case neg =>
  rw [if_neg c4] at hf
  have d4 : decide (16 < iv) = false := decide_eq_false c4
  split at hf
  case isFalse => cases hf
  rename_i hl3
  have HL3 := Aside0.mk hl3
  have HF := Aside0.mk hf
  clear c1 c2 c3 c4 hf hl3
  go_upto_region 5 with fail
  clear q0 q1 q2 d1 d2 d3 d4
  go_loopg [6, 43] (l.length + 1) (fun gf v6 v43 wx => ∃ i : Nat, v43 = .int .i64 (i : Int) ∧ Aside0 (gf + i = l.length + 1 ∧ i ≤ l.length) ∧ Aside0 (Kd.R Kd.string 9 wx w.heap.size (fun k_ => k_ ≠ w.heap.size) v6 ((l.take i).map fun x => x.f0.f0)) ∧ Aside0 (wx.heap[w.heap.size]? = some (.cells #[.int .i64 blk, .int .i64 iv, .float .f64 fb] 26 (0, 0))) ∧ Aside0 (Below w.heap.size w wx))
  case atStart => exact ⟨0, rfl, ⟨by omega, by omega⟩, ⟨Kd.R_nil _ _ _ _ _⟩, HO1, HB1⟩
  case round =>
    clear HO1 HB1
    obtain ⟨i, rfl, HI, HU, HO1, HB1⟩ := hrel
    cases gk with
    | zero => exact absurd HI.out.1 (by have := HI.out.2; omega)
    | succ g1 =>
      by_cases c : i < l.length
      · have c1b : decide ((i : Int) < (l.length : Int)) = true := decide_eq_true (by omega)
        have c1d := eq_true (show (i : Int) < (l.length : Int) by omega)
        have c1e := eq_true (show (0 : Int) ≤ (i : Int) by omega)
        obtain ⟨al, eA, k1, k2, k3, k4⟩ := at_T47 (Kd.C_below HR0.out HB1.out) (i : Int) (Int.natCast_nonneg i) (by omega)
        subst eA
        rw [Int.toNat_natCast] at k1 k2 k3 k4
        obtain ⟨X, hX⟩ : ∃ x, rd_T47 l (i : Int) = x := ⟨_, rfl⟩
        rw [hX] at k1 k2 k3 k4
        have HX := Aside0.mk hX
        have HCI := Aside0.mk c
        clear hX c
        have hw1 := td_w1 i (by have := HL3.out; have := HI.out; omega)
        have HW1 := Aside0.mk hw1
        clear hw1
        go_upto_region 7 with (first
          | ((with_reducible refine gate_dst (N := 8) rfl ?_); refine box_event ?hg (N := 8) ?hd (cs := #[.string (⟨#[]⟩ : ByteArray), .int .u64 0, .int .i64 0, .string (⟨#[]⟩ : ByteArray)]) (t := 47) ?hr ?_; (case hd => rfl); (case hg => rfl); (case hr => first | (go_simp; done) | (go_simp; rfl)); intro gb hg w3 hbox hb
             have BK := Aside0.mk hbox
             have HB2 := Aside0.mk (below_step HB1.out hb)
             have HU2 := Aside0.mk (Kd.R_below HU.out hb)
             have HO2 := Aside0.mk (blk_below HO1.out hb)
             have HGB : Aside0 (wr.heap.size ≤ gb) := ⟨by rw [hg]; exact Nat.le_refl _⟩
             clear hb hbox hg
             have hcz0 : w3.cell? ⟨gb, 0, none⟩ = some (.string (⟨#[]⟩ : ByteArray)) := (blk_cell BK.out 0).trans rfl
             have hcz1 : w3.cell? ⟨gb, 1, none⟩ = some (.int .u64 0) := (blk_cell BK.out 1).trans rfl
             have hcz2 : w3.cell? ⟨gb, 2, none⟩ = some (.int .i64 0) := (blk_cell BK.out 2).trans rfl
             have hcz3 : w3.cell? ⟨gb, 3, none⟩ = some (.string (⟨#[]⟩ : ByteArray)) := (blk_cell BK.out 3).trans rfl
             have hfz0 := blk_frozen BK.out 0
             have hfz1 := blk_frozen BK.out 1
             have hfz2 := blk_frozen BK.out 2
             have hfz3 := blk_frozen BK.out 3))
        obtain ⟨w4, hw4⟩ : ∃ w4, (((w3.setCell ⟨gb, 0, none⟩ (.string X.f0.f0)).setCell ⟨gb, 1, none⟩ (.int .u64 X.f0.f1)).setCell ⟨gb, 2, none⟩ (.int .i64 X.f0.f2)).setCell ⟨gb, 3, none⟩ (.string X.f1) = w4 := ⟨_, rfl⟩
        have hB : ∀ k_, k_ ≠ gb → w4.heap[k_]? = w3.heap[k_]? := fun k_ hk => by
          rw [← hw4]
          exact (Below.heap_setCell _ _ _ k_ hk).trans ((Below.heap_setCell _ _ _ k_ hk).trans ((Below.heap_setCell _ _ _ k_ hk).trans (Below.heap_setCell _ _ _ k_ hk)))
        have BK4 : w4.heap[gb]? = some (.cells #[.string X.f0.f0, .int .u64 X.f0.f1, .int .i64 X.f0.f2, .string X.f1] 47 (0, 0)) := by
          rw [← hw4]
          exact blk_put (cs := #[.string X.f0.f0, .int .u64 X.f0.f1, .int .i64 X.f0.f2, .string (⟨#[]⟩ : ByteArray)]) (blk_put (cs := #[.string X.f0.f0, .int .u64 X.f0.f1, .int .i64 0, .string (⟨#[]⟩ : ByteArray)]) (blk_put (cs := #[.string X.f0.f0, .int .u64 0, .int .i64 0, .string (⟨#[]⟩ : ByteArray)]) (blk_put (cs := #[.string (⟨#[]⟩ : ByteArray), .int .u64 0, .int .i64 0, .string (⟨#[]⟩ : ByteArray)]) BK.out 0 _ rfl) 1 _ rfl) 2 _ rfl) 3 _ rfl
        have hgb : w.heap.size < gb := by have := blk_lt2 HO1.out; have := HGB.out; omega
        have HU4 : Aside0 (Kd.R Kd.string 9 w4 w.heap.size (fun k_ => k_ ≠ w.heap.size) u6 ((l.take i).map fun x => x.f0.f0)) := ⟨Kd.R_mono (Kd.R_move (Kd.R_types HU2.out BK.out (fun q hq => by rcases List.mem_cons.1 hq with rfl | hq <;> first | decide | exact absurd hq (by simp [Kd.string, Kd.scalar]))) (fun k_ hk => hB k_ hk.2)) (fun _ hk => hk.1)⟩
        have HO4 := Aside0.mk ((hB w.heap.size (by omega)).trans HO2.out)
        have HB4 : Aside0 (Below w.heap.size w w4) := ⟨by rw [← hw4]; exact below_set (below_set (below_set (below_set HB2.out (by omega)) (by omega)) (by omega)) (by omega)⟩
        have hc4 : w4.cell? ⟨gb, 0, none⟩ = some (.string X.f0.f0) := (blk_cell BK4 0).trans rfl
        rw [hw4]
        clear hw4 hB BK4 hcz0 hcz1 hcz2 hcz3 hfz0 hfz1 hfz2 hfz3 HU2 HO2 HB2 BK hgb HGB k1 k2 k3 k4
        go_wp2_with (first
          | ((with_reducible refine gate_builtin (b := .append) (xs := #[.tmp 47, .tmp 51]) rfl ?_); at_builtin; refine Kd.R_append Kd.string (w0 := w) w.heap.size rfl (.tmp 47) (.tmp 51) 53 9 (.string ⟨#[]⟩) 16 rfl Try.underlying53 info9 rfl (by decide) (by decide) u6 ((l.take i).map fun x => x.f0.f0) X.f0.f0 [.string X.f0.f0] (fun k_ => k_ ≠ w.heap.size) (fun _ => False) rfl rfl rfl (fun _ hk => hk.elim) ?aF HU4.out HB4.out (below_size HB4.out) ?aL ?_
             (case aF => exact fun k_ hk => by have := blk_lt2 HO4.out; omega)
             (case aL => have := HL3.out; have := HI.out.2; rw [List.length_map, List.length_take]; omega)
             intro v5 w5 ho hb hg hat
             have HU5 := Aside0.mk ho
             have HB5 := Aside0.mk hb
             have HO5 := Aside0.mk ((hg.block _ (blk_lt2 HO4.out) (Kd.R_away HU4.out (fun k_ hk => hk))).trans HO4.out)
             clear ho hb hg hat))
        simp only [HW1.out]
        go_roundg g1
        case measure => omega
        case rel => exact ⟨i + 1, rfl, ⟨by have := HI.out.1; omega, HCI.out⟩, ⟨by rw [← users_take l i HCI.out, HX.out]; exact HU5.out⟩, HO5, HB5⟩
      · have c1b : decide ((i : Int) < (l.length : Int)) = false := decide_eq_false (by omega)
        have c1c : decide (i < l.length) = false := decide_eq_false c
        have hil : i = l.length := by have := HI.out.2; omega
        rw [hil, List.take_length] at HU
        have HF0 := HF.out
        obtain ⟨us, hus⟩ : ∃ x, (l.map fun x => x.f0.f0) = x := ⟨_, rfl⟩
        rw [hus] at HU HF0
        obtain ⟨Au, cu, eu⟩ := Kd.R_slice HU.out
        subst eu
        obtain ⟨⟨fl, fe⟩, hfl, hf⟩ := Option.bind_eq_some_iff.mp HF0
        dsimp only at hfl hf
        have HFL := Aside0.mk hfl
        have p2 : wr.cell? ⟨w.heap.size, 2, none⟩ = some (.float .f64 fb) := (blk_cell HO1.out 2).trans rfl
        replace HF := Aside0.mk hf
        clear c hil hfl hf HI HF0 hus
        go_upto_region 10 with (first
          | (go_at_call 18; with_reducible refine (build_calls k Au cu us fb (fl, fe) _ (Kd.R_reads' HU.out).2.2 (Kd.R_reads' HU.out).2.1 HFL.out).mono ?_; rintro ex w2 ⟨vf, rfl, hob, hb2⟩
             have HB2 := Aside0.mk (below_step HB1.out hb2)
             have HO2 := Aside0.mk (blk_below HO1.out hb2)
             have HFR := Aside0.mk (Kd.R_mono (Kd.R_lower (Kd.R_bound hob) (below_size HB1.out)) (fun k_ hk => (show k_ ≠ w.heap.size by have := blk_lt2 HO1.out; have := hk.2.1; omega)))
             obtain ⟨Af, cf, ef⟩ := Kd.R_slice hob
             subst ef
             clear hob hb2))
        clear HO1 HB1 HU p2
        try dsimp only at HFR
        by_cases hfe : fe = 0
        case neg =>
          have e1 : (fe != 0) = true := bne_iff_ne.mpr hfe
          have hf := HF.out
          rw [if_pos hfe] at hf
          obtain rfl := Option.some.inj hf
          clear hfe hf HF
          go_wp2
          exact ⟨.tuple #[.slice none 0 0, .int .i64 fe], by simp [results, Try.f10, go_sem], _, rfl, Kd.R_nil _ _ _ _ _, HB2.out⟩
        case pos =>
        subst hfe
        have hf := HF.out
        rw [if_neg (by simp)] at hf
        by_cases hl0 : l.length = 0
        case pos =>
          rw [if_pos hl0] at hf
          obtain rfl := Option.some.inj hf
          have e2 : ((l.length : Int) == 0) = true := by rw [hl0]; rfl
          have e3 : (l.length == 0) = true := by rw [hl0]; rfl
          clear hl0 hf HF
          go_wp2
          exact ⟨.tuple #[.slice none 0 0, .int .i64 120], by simp [results, Try.f10, go_sem], _, rfl, Kd.R_nil _ _ _ _ _, HB2.out⟩
        case neg =>
        rw [if_neg hl0] at hf
        have e2 : ((l.length : Int) == 0) = false := by rw [beq_eq_false_iff_ne]; omega
        have e3 : (l.length == 0) = false := by rw [beq_eq_false_iff_ne]; omega
        obtain ⟨⟨bb, be⟩, hbb, hf⟩ := Option.bind_eq_some_iff.mp hf
        dsimp only at hbb hf
        have HBB := Aside0.mk hbb
        have p1 : w2.cell? ⟨w.heap.size, 1, none⟩ = some (.int .i64 iv) := (blk_cell HO2.out 1).trans rfl
        replace HF := Aside0.mk hf
        clear hl0 hbb hf
        go_upto_region 15 with (first
          | (go_at_call 19; with_reducible refine (block_Build.calls k A0 c0 l iv bb be _ (Kd.C_below HR0.out HB2.out) HC0.out HBB.out).mono ?_; rintro ex w3 ⟨vf2, rfl, hob, hb3⟩
             have HB3 := Aside0.mk (below_step HB2.out hb3)
             have HO3 := Aside0.mk (blk_below HO2.out hb3)
             have HFR3 := Aside0.mk (Kd.R_below HFR.out hb3)
             clear hob hb3))
        clear HO2 HB2 HFR p1 e2 e3
        by_cases hbe : be = 0
        case neg =>
          have e1 : (be != 0) = true := bne_iff_ne.mpr hbe
          have hf := HF.out
          rw [if_pos hbe] at hf
          obtain rfl := Option.some.inj hf
          clear hbe hf HF
          go_wp2
          exact ⟨.tuple #[.slice none 0 0, .int .i64 be], by simp [results, Try.f10, go_sem], _, rfl, Kd.R_nil _ _ _ _ _, HB3.out⟩
        case pos =>
        subst hbe
        have hf := HF.out
        rw [if_neg (by simp)] at hf
        replace HF := Aside0.mk hf
        clear hf
        obtain ⟨cs, hcs, hf⟩ := Option.bind_eq_some_iff.mp HF.out
        obtain ⟨⟨out, idx⟩, hst, hf⟩ := Option.bind_eq_some_iff.mp hf
        dsimp only at hf
        have HCS := Aside0.mk hcs
        have HST := Aside0.mk hst
        replace HF := Aside0.mk hf
        clear hcs hst hf
        go_upto_region 19 with fail
        obtain ⟨W4, hW4⟩ : ∃ W4, (w3.alloc (.cells #[.slice none 0 0] 27)).alloc (.cells #[.slice none 0 0] 23) = W4 := ⟨_, rfl⟩
        have hs4 : W4.heap.size = w3.heap.size + 2 := by rw [← hW4]; simp
        have BO4 : Aside0 (W4.heap[w3.heap.size]? = some (.cells #[.slice none 0 0] 27 (0, 0))) := ⟨by rw [← hW4]; exact blk_alloc (blk_new w3 _) _⟩
        have BI4 : Aside0 (W4.heap[w3.heap.size + 1]? = some (.cells #[.slice none 0 0] 23 (0, 0))) := ⟨by
          rw [← hW4]
          have := blk_new (w3.alloc (.cells #[.slice none 0 0] 27)) (.cells #[.slice none 0 0] 23)
          rwa [World.size_alloc] at this⟩
        have hb34 : Below w3.heap.size w3 W4 := by rw [← hW4]; exact below_alloc (below_alloc (Below.refl _ _) _) _
        have HBL3 : Aside0 (w.heap.size ≤ w3.heap.size) := ⟨below_size HB3.out⟩
        have HB4 := Aside0.mk (below_step HB3.out hb34)
        have HO4 := Aside0.mk (blk_below HO3.out hb34)
        have HFR4 := Aside0.mk (Kd.R_below HFR3.out hb34)
        have HFB : Aside0 (∀ k_, (Value.slice Af fl.length cf).ownBlock = some k_ → k_ < w3.heap.size) := ⟨Kd.R_lt HFR3.out⟩
        have HS4 := Aside0.mk hs4
        have q0 : W4.cell? ⟨w.heap.size, 0, none⟩ = some (.int .i64 blk) := (blk_cell HO4.out 0).trans rfl
        have q1 : W4.cell? ⟨w.heap.size, 1, none⟩ = some (.int .i64 iv) := (blk_cell HO4.out 1).trans rfl
        have q2 : W4.cell? ⟨w.heap.size, 2, none⟩ = some (.float .f64 fb) := (blk_cell HO4.out 2).trans rfl
        rw [hW4]
        clear hW4 hs4 hb34 HB3 HO3 HFR3
        go_wp2_with (first
          | (go_at_call 20; with_reducible refine (cuts_calls A0 c0 l.length blk iv fb _).mono ?_; rintro ex w5 ⟨rfl, rfl⟩))
        obtain ⟨W5, hW5⟩ : ∃ W5, (W4.alloc (.cells #[.slice A0 l.length c0] 23)).alloc (.cells #[.int .i64 blk, .int .i64 iv, .float .f64 fb] 26) = W5 := ⟨_, rfl⟩
        have hs5 : W5.heap.size = W4.heap.size + 2 := by rw [← hW5]; simp
        have hbl : W5.heap[W4.heap.size]? = some (.cells #[.slice A0 l.length c0] 23 (0, 0)) := by rw [← hW5]; exact blk_alloc (blk_new W4 _) _
        have hbo : W5.heap[W4.heap.size + 1]? = some (.cells #[.int .i64 blk, .int .i64 iv, .float .f64 fb] 26 (0, 0)) := by
          rw [← hW5]
          have := blk_new (W4.alloc (.cells #[.slice A0 l.length c0] 23)) (.cells #[.int .i64 blk, .int .i64 iv, .float .f64 fb] 26)
          rwa [World.size_alloc] at this
        have hb45 : Below W4.heap.size W4 W5 := by rw [← hW5]; exact below_alloc (below_alloc (Below.refl _ _) _) _
        have HB5 := Aside0.mk (below_step HB4.out hb45)
        have BO5 := Aside0.mk (blk_below BO4.out hb45)
        have BI5 := Aside0.mk (blk_below BI4.out hb45)
        have HFR5 := Aside0.mk (Kd.R_below HFR4.out hb45)
        have HS5 := Aside0.mk hs5
        rw [hW5]
        clear hW5 hs5 hb45 HB4 HO4 HFR4 q0 q1 q2 BO4 BI4
        have hws : w.heap.size ≤ W5.heap.size := HB5.out.size
        have hw3s : w3.heap.size + 4 = W5.heap.size := by have h1 := HS4.out; have h2 := HS5.out; omega
        refine (wpIn_wide (n := 3)).1 ?_
        refine range_told rfl (by decide) (gf := 46) (lb := #[.pointer (some ⟨W4.heap.size, 0, none⟩), .pointer (some ⟨W4.heap.size + 1, 0, none⟩)]) rfl trivial (enters_of Try.func46 (by kernel_rfl) rfl)
          (cuts_told k g _ _ w A0 c0 l blk iv cs HR0.out HC0.out HL3.out HCS.out W5 HB5.out ((blk_cell hbl 0).trans rfl) ((blk_cell hbo 0).trans rfl) ((blk_cell hbo 1).trans rfl))
          CutKeep.trans (cutKeep_b hws (blk_lt2 hbl) (blk_lt2 hbo)) (fun _ => rfl)
          (CutI k w.heap.size W5.heap.size w3.heap.size (w3.heap.size + 1) w Af cf fl) (cutI_own (Nat.le_refl _) hws) ?h0 ?hround ?hdone
        case h0 =>
          exact ⟨⟨[], [], _, _, rfl, BO5.out, Kd.R_nil _ _ _ _ _, BI5.out, Kd.R_nil _ _ _ _ _, Kd.R_mono (Kd.R_bound HFR5.out) (fun k_ hk => hk.2.2.1), Nat.le_refl _⟩, HB5.out⟩
        case hround =>
          rintro lr pre x W0 W ⟨⟨out0, idx0, vo, vi, hts, hxo, hro, hxi, hri, hrf, hsz0⟩, hB0⟩ hb01 ⟨htold, rest, hrest⟩
          obtain ⟨⟨ku, ks, kk⟩, bs, Ab, cb⟩ := x
          -- what the step comes to
          have hstep : ∃ p1 p2 out2, idx0.length < 1000 ∧ codec_PutUvarint.f k [] (IntKind.u64.wrap (out0.length : Int)) = some p1 ∧ codec_PutUvarint.f k p1 (IntKind.u64.wrap (bs.length : Int)) = some p2 ∧ sstable_summed.f k out0 bs = some out2 ∧ tab_step k ((pre ++ [(⟨⟨ku, ks, kk⟩, bs, Ab, cb⟩ : CutEl)]).map CutEl.out) [] [] = some (out2, idx0 ++ [⟨⟨ku, ks, kk⟩, strOfNums p2⟩]) := by
            have h1 := HST.out
            rw [← hrest, tab_step_append] at h1
            obtain ⟨z, hz, _⟩ := Option.bind_eq_some_iff.mp h1
            rw [List.map_append, tab_step_append, hts] at hz
            simp only [Option.bind_some, List.map_cons, List.map_nil, CutEl.out, tab_step] at hz
            split at hz
            case isFalse => cases hz
            rename_i hlt
            obtain ⟨p1, e1, hz⟩ := Option.bind_eq_some_iff.mp hz
            obtain ⟨p2, e2, hz⟩ := Option.bind_eq_some_iff.mp hz
            obtain ⟨out2, e3, hz⟩ := Option.bind_eq_some_iff.mp hz
            refine ⟨p1, p2, out2, hlt, e1, e2, e3, ?_⟩
            rw [List.map_append, tab_step_append, hts]
            simp only [Option.bind_some, List.map_cons, List.map_nil, CutEl.out, tab_step]
            rw [if_pos hlt, e1, Option.bind_some, e2, Option.bind_some, e3, Option.bind_some]
          obtain ⟨p1, p2, out2, hlt, hp1, hp2, hsm, htst⟩ := hstep
          have HLT := Aside0.mk hlt
          have HP1 := Aside0.mk hp1
          have HP2 := Aside0.mk hp2
          have HSM := Aside0.mk hsm
          have HTS := Aside0.mk htst
          have hvo := Kd.R_lt hro
          obtain ⟨Ao, co, eo⟩ := Kd.R_slice hro
          subst eo
          obtain ⟨Ai, ci, ei⟩ := Kd.R_slice hri
          subst ei
          clear hts hrest hlt hp1 hp2 hsm htst
          dsimp only [CutEl.vals]
          gi_wp2
          refine ⟨KeepsOthers.alloc _ _, CutKeep.of_below (below_alloc (Below.refl _ _) _) (by have := hb01.size; omega) (by have := hb01.size; have := HS5.out; omega) (by have := hb01.size; have := HS5.out; omega), ?_⟩
          intro W2 hg hr
          have hbk : W2.heap[W.heap.size]? = some (.cells #[.string ku, .int .u64 ks, .int .i64 kk] 45 (0, 0)) := blk_turn (blk_new W _) hg hr
          have hal : Below W.heap.size W (W.alloc (.cells #[.string ku, .int .u64 ks, .int .i64 kk] 45)) := below_alloc (Below.refl _ _) _
          have XO := Aside0.mk (blk_turn (blk_below (blk_below hxo hb01) hal) hg hr)
          have XI := Aside0.mk (blk_turn (blk_below (blk_below hxi hb01) hal) hg hr)
          have XK := Aside0.mk hbk
          have RO := Aside0.mk (R_turn (Kd.R_below (Kd.R_below hro hb01) hal) hg hr)
          have RI := Aside0.mk (R_turnK (Kd.R_below (Kd.R_below hri hb01) hal) hg hr)
          have RF := Aside0.mk (R_turn (Kd.R_below (Kd.R_below hrf hb01) hal) hg hr)
          have RB := Aside0.mk (R_turn (Kd.R_below htold hal) hg hr)
          have HVO := Aside0.mk hvo
          have HBW : Aside0 (Below w.heap.size w W2) := ⟨((below_step hB0 hb01).trans (hal.mono (by have := hb01.size; omega))).grown hg (by simp; have := hb01.size; omega) (fun r e => by have := (hr r e).1; omega)⟩
          have K0 : Aside0 (Keep3 w.heap.size W4.heap.size (W4.heap.size + 1) W2 W2) := ⟨⟨KeepsOthers.refl _, Below.refl _ _, rfl, rfl⟩⟩
          have HZa : Aside0 (W5.heap.size ≤ W.heap.size) := ⟨Nat.le_trans hsz0 hb01.size⟩
          have HS0 := Aside0.mk hsz0
          clear hbk hal hxo hxi hro hri hrf htold hvo hB0 hg hr
          have HZ0 : Aside0 (W5.heap.size ≤ W2.heap.size) := ⟨by have h1 := HZa.out; have h2 := blk_lt2 XK.out; omega⟩
          have hco : W2.cell? ⟨w3.heap.size, 0, none⟩ = some (.slice Ao out0.length co) := (blk_cell XO.out 0).trans rfl
          have XO0 := XO
          have XI0 := XI
          have XK0 := XK
          have RO0 := RO
          have RI0 := RI
          have RF0 := RF
          have RB0 := RB
          have HBW0 := HBW
          clear XO XI XK RO RI RF RB HBW
          gi_wp2_with (first
            | (refine ⟨trivial, ?_⟩; gi_at_call 21; with_reducible refine (putu_in k none 0 0 [] (IntKind.u64.wrap (out0.length : Int)) p1 _ lr rfl (Kd.C_nil _ _) (Nat.le_refl _) HP1.out).mono ?_; rintro ex w6 ⟨v6, rfl, hob, hb⟩
               have XO1 := Aside0.mk (blk_below XO0.out hb)
               have XI1 := Aside0.mk (blk_below XI0.out hb)
               have XK1 := Aside0.mk (blk_below XK0.out hb)
               have RO1 := Aside0.mk (Kd.R_below RO0.out hb)
               have RI1 := Aside0.mk (Kd.R_below RI0.out hb)
               have RF1 := Aside0.mk (Kd.R_below RF0.out hb)
               have RB1 := Aside0.mk (Kd.R_below RB0.out hb)
               have HBW1 := Aside0.mk (below_step HBW0.out hb)
               have K1 := Aside0.mk (K0.out.trans (Keep3.below hb (below_size HBW0.out) (by have := HZ0.out; have := HS5.out; omega) (by have := HZ0.out; have := HS5.out; omega)))
               have HZ1 : Aside0 (W5.heap.size ≤ _) := ⟨Nat.le_trans HZ0.out hb.size⟩
               have HQ1 := Aside0.mk hob
               obtain ⟨Ap, cp, ep⟩ := Kd.R_slice hob
               subst ep
               clear hob hb)
            | (refine ⟨trivial, ?_⟩; gi_at_call 21; with_reducible refine (putu_in k Ap cp _ p1 (IntKind.u64.wrap (bs.length : Int)) p2 _ lr rfl (Kd.R_reads' HQ1.out).2.2 (Kd.R_reads' HQ1.out).2.1 HP2.out).mono ?_; rintro ex w7 ⟨v7, rfl, hob, hb⟩
               have XO2 := Aside0.mk (blk_below XO1.out hb)
               have XI2 := Aside0.mk (blk_below XI1.out hb)
               have XK2 := Aside0.mk (blk_below XK1.out hb)
               have RO2 := Aside0.mk (Kd.R_below RO1.out hb)
               have RI2 := Aside0.mk (Kd.R_below RI1.out hb)
               have RF2 := Aside0.mk (Kd.R_below RF1.out hb)
               have RB2 := Aside0.mk (Kd.R_below RB1.out hb)
               have HBW2 := Aside0.mk (below_step HBW1.out hb)
               have K2 := Aside0.mk (K1.out.trans (Keep3.below hb (below_size HBW1.out) (by have := HZ1.out; have := HS5.out; omega) (by have := HZ1.out; have := HS5.out; omega)))
               have HZ2 : Aside0 (W5.heap.size ≤ _) := ⟨Nat.le_trans HZ1.out hb.size⟩
               have HQ2 := Aside0.mk hob
               obtain ⟨Aq, cq, eq⟩ := Kd.R_slice hob
               subst eq
               have hcv := Kd.C_string (P := Try.prog) (dst := 9) (c := cq) Try.underlying27 Try.underlying5 (by kernel_rfl) (Kd.R_reads' HQ2.out).2.2
               have hci : w7.cell? ⟨w3.heap.size + 1, 0, none⟩ = some (.slice Ai idx0.length ci) := (blk_cell XI2.out 0).trans rfl
               have hk0 : w7.cell? ⟨W.heap.size, 0, none⟩ = some (.string ku) := (blk_cell XK2.out 0).trans rfl
               have hk1 : w7.cell? ⟨W.heap.size, 1, none⟩ = some (.int .u64 ks) := (blk_cell XK2.out 1).trans rfl
               have hk2 : w7.cell? ⟨W.heap.size, 2, none⟩ = some (.int .i64 kk) := (blk_cell XK2.out 2).trans rfl
               clear hob hb)
            | (gi_at_builtin; refine R_append_in k47 w.heap.size rfl (.tmp 92) (.tmp 97) 23 47 (.agg #[(.string ⟨#[]⟩), (.int .u64 0), (.int .i64 0), (.string ⟨#[]⟩)]) 48 rfl Try.underlying23 info47 rfl (by decide) (by decide) (.slice Ai idx0.length ci) idx0 ⟨⟨ku, ks, kk⟩, strOfNums p2⟩ [.string ku, .int .u64 ks, .int .i64 kk, .string (strOfNums p2)] (fun k_ => W5.heap.size ≤ k_) (fun _ => False) rfl rfl (k47_mkM _ _ _ (⟨⟨ku, ks, kk⟩, strOfNums p2⟩ : S47)) (fun _ hk => hk.elim) (fun k_ hk => Nat.le_trans HZ2.out hk) RI2.out (below_size HBW2.out) (by have := HLT.out; omega) ?_; intro v8 w8 ho hg
               have XO3 := Aside0.mk ((hg.block _ (blk_lt2 XO2.out) (Kd.R_ne RI2.out XO2.out (by decide))).trans XO2.out)
               have XI3 := Aside0.mk ((hg.block _ (blk_lt2 XI2.out) (Kd.R_ne RI2.out XI2.out (by decide))).trans XI2.out)
               have RO3 := Aside0.mk (Kd.R_over RO2.out RI2.out (ty_u8 (by decide)) hg)
               have RF3 := Aside0.mk (Kd.R_over RF2.out RI2.out (ty_u8 (by decide)) hg)
               have RB3 := Aside0.mk (Kd.R_over RB2.out RI2.out (ty_u8 (by decide)) hg)
               have RI3 := Aside0.mk ho
               have HBW3 := Aside0.mk (HBW2.out.grown hg (below_size HBW2.out) (fun r e => Kd.R_base RI2.out r e))
               have K3 := Aside0.mk (K2.out.trans (Keep3.grown hg (fun r e => ⟨Kd.R_base RI2.out r e, by have h1 := RI2.out.1 r e; have := HS5.out; omega, by have h1 := RI2.out.1 r e; have := HS5.out; omega, by obtain ⟨cells, hc⟩ := Kd.R_typed RI2.out r e; exact ⟨cells, _, hc⟩⟩) (below_size HBW2.out) (by have := HZ2.out; have := HS5.out; omega) (by have := HZ2.out; have := HS5.out; omega)))
               have HZ3 : Aside0 (W5.heap.size ≤ _) := ⟨Nat.le_trans HZ2.out hg.size⟩
               obtain ⟨A8, c8, e8⟩ := Kd.R_slice ho
               subst e8
               rw [List.length_append, List.length_singleton] at RI3
               have hci3 : w8.cell? ⟨w3.heap.size + 1, 0, none⟩ = some (.slice Ai idx0.length ci) := (blk_cell XI3.out 0).trans rfl
               have hcf3 := blk_frozen XI3.out 0
               have hco3 : w8.cell? ⟨w3.heap.size, 0, none⟩ = some (.slice Ao out0.length co) := (blk_cell XO3.out 0).trans rfl
               clear ho hg hci hk0 hk1 hk2 hcv))
          obtain ⟨w9, hw9⟩ : ∃ w9, w8.setCell ⟨w3.heap.size + 1, 0, none⟩ (.slice A8 (idx0.length + 1) c8) = w9 := ⟨_, rfl⟩
          have XO4 := Aside0.mk (hw9 ▸ blk_setne (j := 0) (u := .slice A8 (idx0.length + 1) c8) XO3.out (show w3.heap.size ≠ w3.heap.size + 1 by omega))
          have XI4 := Aside0.mk (hw9 ▸ blk_put XI3.out 0 (.slice A8 (idx0.length + 1) c8) rfl)
          have RO4 := Aside0.mk (hw9 ▸ R_setbox (j := 0) (u := .slice A8 (idx0.length + 1) c8) RO3.out XI3.out (ty_u8 (by decide)))
          have RF4 := Aside0.mk (hw9 ▸ R_setbox (j := 0) (u := .slice A8 (idx0.length + 1) c8) RF3.out XI3.out (ty_u8 (by decide)))
          have RB4 := Aside0.mk (hw9 ▸ R_setbox (j := 0) (u := .slice A8 (idx0.length + 1) c8) RB3.out XI3.out (ty_u8 (by decide)))
          have RI4 := Aside0.mk (hw9 ▸ R_setbox (j := 0) (u := .slice A8 (idx0.length + 1) c8) RI3.out XI3.out (ty_k47 (by decide)))
          have HBW4 := Aside0.mk (hw9 ▸ below_set (j := 0) (v := .slice A8 (idx0.length + 1) c8) HBW3.out (show w.heap.size ≤ w3.heap.size + 1 by have := HBL3.out; omega))
          have K4 := Aside0.mk (hw9 ▸ K3.out.trans (Keep3.set (X := w8) (g := w3.heap.size + 1) (.slice A8 (idx0.length + 1) c8) (by have := HBL3.out; omega) (by have := HS4.out; omega) (by have := HS4.out; omega)))
          have HZ4 : Aside0 (W5.heap.size ≤ w9.heap.size) := ⟨by rw [← hw9]; simpa using HZ3.out⟩
          rw [hw9]
          clear hw9 hci3 hcf3 hco3
          gi_wp2_with (first
            | (refine ⟨trivial, ?_⟩; gi_at_call 22; with_reducible refine (summed_in k (fun q => (Value.slice Ao out0.length co).ownBlock = some q) (.slice Ao out0.length co) out0 Ab cb bs out2 w w9 lr HBW4.out (R_self RO4.out) (fun W_ hk => (Kd.R_reads' (R_kept (Kd.R_bound RB4.out) (fun k ho e => absurd (HVO.out k e) (by have := ho.2.1; omega)) hk)).2.2) (Kd.R_reads' RB4.out).2.1 HSM.out).mono ?_; rintro ex w10 ⟨v10, rfl, hob, hb, hk⟩
               have XO5 := Aside0.mk ((hk.2 _ (blk_lt2 XO4.out) (fun e => Kd.R_ne RO4.out XO4.out (by decide) e.symm)).trans XO4.out)
               have XI5 := Aside0.mk ((hk.2 _ (blk_lt2 XI4.out) (fun e => Kd.R_ne RO4.out XI4.out (by decide) e.symm)).trans XI4.out)
               have RI5 := Aside0.mk (R_kept_ty RI4.out (fun k_ e => Kd.R_typed RO4.out k_ e) (ty_k47 (by decide)) hk)
               have RF5 := Aside0.mk (R_kept RF4.out (fun k_ hk2 e => absurd (RO4.out.1 k_ e) (by omega)) hk)
               have RO5 : Aside0 (Kd.R (Kd.int .u8) 5 w10 w.heap.size (fun k_ => W5.heap.size ≤ k_) v10 out2) := ⟨Kd.R_mono hob (fun k_ hk2 => hk2.elim (fun e => RO4.out.1 k_ e) (fun e => Nat.le_trans HZ4.out e))⟩
               have HBW5 := Aside0.mk hb
               have K5 := Aside0.mk (K4.out.trans (Keep3.kept hk (below_between HBW4.out hb (Nat.le_refl _) hk.1) (fun r e => ⟨by have h1 := RO4.out.1 r e; have := HS5.out; omega, by have h1 := RO4.out.1 r e; have := HS5.out; omega, fun _ => by obtain ⟨cells, hc⟩ := Kd.R_typed RO4.out r e; exact ⟨cells, _, hc⟩, fun o ho => by
                 obtain ⟨cells, hc⟩ := Kd.R_typed RO4.out r e
                 rw [hc] at ho
                 cases ho
                 rfl⟩) (by have := HZ4.out; have := HS5.out; omega) (by have := HZ4.out; have := HS5.out; omega)))
               have HZ5 : Aside0 (W5.heap.size ≤ w10.heap.size) := ⟨Nat.le_trans HZ4.out hk.1⟩
               obtain ⟨A10, c10, e10⟩ := Kd.R_slice hob
               subst e10
               have hco5 : w10.cell? ⟨w3.heap.size, 0, none⟩ = some (.slice Ao out0.length co) := (blk_cell XO5.out 0).trans rfl
               have hcf5 := blk_frozen XO5.out 0
               clear hob hb hk))
          exact ⟨rfl, (K5.out.trans (Keep3.set (X := w10) (g := w3.heap.size) (.slice A10 out2.length c10) HBL3.out (by have := HS4.out; omega) (by have := HS4.out; omega))).ko, (K5.out.trans (Keep3.set (X := w10) (g := w3.heap.size) (.slice A10 out2.length c10) HBL3.out (by have := HS4.out; omega) (by have := HS4.out; omega))).ck,
            ⟨out2, _, _, _, HTS.out, blk_put XO5.out 0 (.slice A10 out2.length c10) rfl, R_setbox RO5.out XO5.out (ty_u8 (by decide)), blk_setne XI5.out (by omega), R_setbox RI5.out XO5.out (ty_k47 (by decide)), R_setbox RF5.out XO5.out (ty_u8 (by decide)), by simpa using HZ5.out⟩, below_set HBW5.out HBL3.out⟩
        case hdone =>
          rintro D xs W hD hxs ⟨⟨out0, idx0, vo, vi, hts, hxo, hro, hxi, hri, hrf, hsz0⟩, hB0⟩ hK
          rw [hxs] at hts
          have hoi := Option.some.inj (hts.symm.trans HST.out)
          simp only [Prod.mk.injEq] at hoi
          obtain ⟨rfl, rfl⟩ := hoi
          obtain ⟨Ao, co, eo⟩ := Kd.R_slice hro
          subst eo
          obtain ⟨Ai, ci, ei⟩ := Kd.R_slice hri
          subst ei
          obtain ⟨⟨xb, xe⟩, hxb, hf⟩ := Option.bind_eq_some_iff.mp HF.out
          dsimp only at hf
          replace HF := Aside0.mk hf
          have HXB := Aside0.mk hxb
          have XO6 := Aside0.mk hxo
          have RO6 := Aside0.mk hro
          have RI6 := Aside0.mk hri
          have RF6 := Aside0.mk hrf
          have HB6 := Aside0.mk hB0
          have HZ6 := Aside0.mk hsz0
          have HVO := Aside0.mk (Kd.R_lt hro)
          have HDK := Aside0.mk hK
          have HDD := Aside0.mk hD
          have hci : W.cell? ⟨w3.heap.size + 1, 0, none⟩ = some (.slice Ai idx0.length ci) := (blk_cell hxi 0).trans rfl
          clear hts hf hxb hxo hxi hro hri hrf hB0 hsz0 hK hD
          gi_wp2
          go_upto_region 26 with (first
            | (go_at_call 19; with_reducible refine (block_Build.calls k Ai ci idx0 1 xb xe _ (Kd.R_reads' RI6.out).2.2 (Kd.R_reads' RI6.out).2.1 HXB.out).mono ?_; rintro ex w7 ⟨vx, rfl, hob, hb⟩
               have XO7 := Aside0.mk (blk_below XO6.out hb)
               have RO7 := Aside0.mk (Kd.R_below RO6.out hb)
               have RF7 := Aside0.mk (Kd.R_below RF6.out hb)
               have HB7 := Aside0.mk (below_step HB6.out hb)
               have HZ7 : Aside0 (W5.heap.size ≤ w7.heap.size) := ⟨Nat.le_trans HZ6.out hb.size⟩
               have HDK7 := Aside0.mk ((hb.block _ (blk_lt2 HDK.out)).trans HDK.out)
               have RX7 := Aside0.mk (Kd.R_bound hob)
               obtain ⟨Ax, cx, ex⟩ := Kd.R_slice hob
               subst ex
               clear hob hb hci))
          go_wp2_with (first
            | ((with_reducible refine gate_dst (N := 109) rfl ?_); refine event_run rfl (v := .slice (some ⟨w7.heap.size, 0, none⟩) 2 2) (w1 := w7.alloc (.cells #[.slice Af fl.length cf, .slice Ax xb.length cx] 27)) (by go_simp; rfl) ?_))
          obtain ⟨w8, hw8⟩ : ∃ w8, w7.alloc (.cells #[.slice Af fl.length cf, .slice Ax xb.length cx] 27) = w8 := ⟨_, rfl⟩
          have hb78 : Below w7.heap.size w7 w8 := by rw [← hw8]; exact below_alloc (Below.refl _ _) _
          have P8 : Aside0 (PartI w.heap.size W5.heap.size w3.heap.size w7.heap.size D w Af cf fl Ax cx xb w8 (.slice Ao out0.length co) out0 none 0 []) := ⟨⟨blk_below XO7.out hb78, Kd.R_below RO7.out hb78, Kd.R_below RF7.out hb78, Kd.R_mono (Kd.R_below (Kd.R_lower RX7.out (below_size HB6.out)) hb78) (fun _ _ => trivial),
            fun q e e2 => absurd (HVO.out q e) (by have := (RX7.out.1 q e2).2.1; omega), Kd.R_nil _ _ _ _ _, by rw [← hw8]; exact blk_new w7 _, (hb78.block _ (blk_lt2 HDK7.out)).trans HDK7.out, below_step HB7.out hb78, Nat.le_trans HZ7.out hb78.size⟩⟩
          have HNG : Aside0 (w3.heap.size ≠ w7.heap.size) := ⟨by have := blk_lt2 XO7.out; omega⟩
          obtain ⟨⟨o2, t2⟩, hpt, hf⟩ := Option.bind_eq_some_iff.mp HF.out
          obtain ⟨tl, htl, hf⟩ := Option.bind_eq_some_iff.mp hf
          dsimp only at htl hf
          have HPT := Aside0.mk hpt
          have HTL := Aside0.mk htl
          replace HF := Aside0.mk hf
          rw [hw8]
          clear hw8 hb78 XO7 RO7 RF7 RX7 HDK7 HB7 HZ7 hpt htl hf
          go_loopg [14, 111] 3 (fun gf v14 v111 wx => ∃ (j : Nat) (out : List Int) (vo : Value) (At : Option Addr) (ct : Nat) (ts : List Int), v14 = .slice At ts.length ct ∧ v111 = .int .i64 (j : Int) ∧ Aside0 (gf + j = 3 ∧ j ≤ 2) ∧ Aside0 (tab_parts k ([fl, xb].drop j) out ts = some (o2, t2)) ∧ Aside0 (PartI w.heap.size W5.heap.size w3.heap.size w7.heap.size D w Af cf fl Ax cx xb wx vo out At ct ts))
          case atStart => exact ⟨0, out0, _, none, 0, [], rfl, rfl, ⟨by omega, by omega⟩, HPT, P8⟩
          case round =>
            clear P8 HPT
            obtain ⟨j, oc, vo, At, ct, ts, rfl, rfl, HJ, HPJ, PJ⟩ := hrel
            obtain ⟨Ao2, co2, eo2⟩ := Kd.R_slice PJ.out.ro
            subst eo2
            cases gk with
            | zero => exact absurd HJ.out.1 (by have := HJ.out.2; omega)
            | succ g1 =>
              have hco : wr.cell? ⟨w3.heap.size, 0, none⟩ = some (.slice Ao2 oc.length co2) := (blk_cell PJ.out.xo 0).trans rfl
              by_cases c : j < 2
              · have c1b : decide ((j : Int) < 2) = true := decide_eq_true (by omega)
                have c1d := eq_true (show (j : Int) < 2 by omega)
                have c1e := eq_true (show (0 : Int) ≤ (j : Int) by omega)
                obtain ⟨Ap, cp, p, hdr, hcp, hrp⟩ := PJ.out.pick c
                have hpt := HPJ.out
                rw [hdr] at hpt
                unfold tab_parts at hpt
                obtain ⟨t1, ht1, hpt⟩ := Option.bind_eq_some_iff.mp hpt
                obtain ⟨t3, ht3, hpt⟩ := Option.bind_eq_some_iff.mp hpt
                obtain ⟨oc2, hoc2, hpt⟩ := Option.bind_eq_some_iff.mp hpt
                have HT1 := Aside0.mk ht1
                have HT3 := Aside0.mk ht3
                have HOC := Aside0.mk hoc2
                have HPT := Aside0.mk hpt
                have HRP := Aside0.mk hrp
                have HC := Aside0.mk c
                have hj1 : wrap64 ((j : Int) + 1) = ((j + 1 : Nat) : Int) := td_w1 j (by omega)
                have HJ1 := Aside0.mk hj1
                clear hdr hpt ht1 ht3 hoc2 hrp hj1 HPJ c
                go_upto_region 31 with (first
                  | (go_at_call 23; with_reducible refine (put4_in k At ct ts (IntKind.u64.wrap (oc.length : Int)) t1 _ PJ.out.rt HT1.out).mono ?_; rintro ex w10 ⟨v10, rfl, hob, hb⟩
                     have HS10 : Aside0 (wr.heap.size ≤ w10.heap.size) := ⟨hb.size⟩
                     have HV10 := Aside0.mk (fun q (e : v10.ownBlock = some q) => Kd.R_base hob q e)
                     obtain ⟨A10, c10, e10⟩ := Kd.R_slice hob
                     subst e10
                     have P10 := Aside0.mk ((PJ.out.below rfl hb).tail (Kd.R_lower hob (below_size PJ.out.hb)))
                     have RP10 := Aside0.mk (Kd.R_below HRP.out hb)
                     clear hob hb)
                  | (go_at_call 23; with_reducible refine (put4_in k A10 c10 t1 (IntKind.u64.wrap (p.length : Int)) t3 _ P10.out.rt HT3.out).mono ?_; rintro ex w11 ⟨v11, rfl, hob, hb⟩
                     have HV11 := Aside0.mk (fun q (e : v11.ownBlock = some q) => Kd.R_base hob q e)
                     obtain ⟨A11, c11, e11⟩ := Kd.R_slice hob
                     subst e11
                     have P11 := Aside0.mk ((P10.out.below rfl hb).tail (Kd.R_lower hob (below_size P10.out.hb)))
                     have RP11 := Aside0.mk (Kd.R_below RP10.out hb)
                     have HVO2 := Aside0.mk (Kd.R_lt PJ.out.ro)
                     have hco3 : w11.cell? ⟨w3.heap.size, 0, none⟩ = some (.slice Ao2 oc.length co2) := (blk_cell P11.out.xo 0).trans rfl
                     have hcf3 := blk_frozen P11.out.xo 0
                     clear hob hb hco hcp)
                  | (go_at_call 22; with_reducible refine (sstable_summed.calls k (fun q => (Value.slice Ao2 oc.length co2).ownBlock = some q) (.slice Ao2 oc.length co2) oc Ap cp p oc2 w _ P11.out.hb (R_self P11.out.ro) (fun W_ hk => (Kd.R_reads' (R_kept RP11.out (fun q hq => hq) hk)).2.2) (Kd.R_reads' RP11.out).2.1 HOC.out).mono ?_; rintro ex w12 ⟨v12, rfl, hob, hb, hk⟩
                     have P12 := Aside0.mk (P11.out.put HBL3.out HNG.out rfl hob hb hk (fun q e e2 => absurd (HVO2.out q e) (by have h1 := HV11.out q e2; have h2 := HS10.out; omega)))
                     have hxf : w12.frozen? ⟨w3.heap.size, 0, none⟩ = false := blk_frozen ((hk.2 _ (blk_lt2 P11.out.xo) (fun e => Kd.R_ne P11.out.ro P11.out.xo (by decide) e.symm)).trans P11.out.xo) 0
                     have hxc : w12.cell? ⟨w3.heap.size, 0, none⟩ = some (.slice Ao2 oc.length co2) := (blk_cell ((hk.2 _ (blk_lt2 P11.out.xo) (fun e => Kd.R_ne P11.out.ro P11.out.xo (by decide) e.symm)).trans P11.out.xo) 0).trans rfl
                     obtain ⟨A12, c12, e12⟩ := Kd.R_slice hob
                     subst e12
                     clear hob hb hk hco3 hcf3))

                clear hxf hxc
                obtain ⟨w13, hw13⟩ : ∃ x, w12.setCell ⟨w3.heap.size, 0, none⟩ (.slice A12 oc2.length c12) = x := ⟨_, rfl⟩
                rw [hw13] at P12 ⊢
                clear hw13
                go_wp2
                simp only [HJ1.out]
                go_roundg g1
                case measure => omega
                case rel => exact ⟨j + 1, oc2, _, A11, c11, t3, rfl, rfl, ⟨by have := HJ.out.1; omega, HC.out⟩, HPT, P12⟩
              · have c1b : decide ((j : Int) < 2) = false := decide_eq_false (by omega)
                have hj2 : j = 2 := by have := HJ.out.2; omega
                have hpt := HPJ.out
                rw [hj2] at hpt
                have hpt2 := Option.some.inj hpt
                simp only [Prod.mk.injEq] at hpt2
                obtain ⟨e1, e2⟩ := hpt2
                rw [← e2] at HTL
                rw [← e1] at HF
                have hlt : oc.length + tl.length < 1000000000000 := by
                  have h1 := HF.out
                  split at h1
                  case isTrue h2 => exact h2
                  case isFalse => cases h1
                have hr := HF.out
                rw [if_pos hlt] at hr
                obtain rfl := Option.some.inj hr
                have HLT2 := Aside0.mk hlt
                clear c hpt hj2 HJ HPJ e1 e2 hlt hr HF hco
                go_wp2_with (first
                  | (go_at_call 23; with_reducible refine (put4_in k At ct ts (IntKind.u64.wrap (l.length : Int)) tl _ PJ.out.rt HTL.out).mono ?_; rintro ex w14 ⟨v14, rfl, hob, hb⟩
                     obtain ⟨A14, c14, e14⟩ := Kd.R_slice hob
                     subst e14
                     have P14 := Aside0.mk ((PJ.out.below rfl hb).tail (Kd.R_lower hob (below_size PJ.out.hb)))
                     have hco14 : w14.cell? ⟨w3.heap.size, 0, none⟩ = some (.slice Ao2 oc.length co2) := (blk_cell P14.out.xo 0).trans rfl
                     clear hob hb)
                  | ((with_reducible refine gate_builtin (b := .append) (xs := #[.tmp 133, .tmp 134]) rfl ?_); at_builtin; refine Kd.R_append_rows (Kd.int .u8) (w0 := w) w.heap.size rfl (.tmp 133) (.tmp 134) 27 5 (.int .u8 0) 1 rfl Try.underlying27 info5 rfl (by decide) (by omega) (.slice Ao2 oc.length co2) oc tl _ _ _ (fun _ => True) (fun _ => False) rfl rfl (Kd.R_mono P14.out.ro (fun _ _ => trivial)) (Kd.R_reads' P14.out.rt).2.2 (fun _ _ h => h) (fun _ h => h.elim) (fun _ _ => trivial) P14.out.hb (below_size P14.out.hb) (by have := HLT2.out; omega) ?_
                     intro v15 w15 ho hb hg hat
                     have RO15 := Aside0.mk ho
                     have HB15 := Aside0.mk hb
                     have DK15 := Aside0.mk ((hg.block _ (blk_lt2 P14.out.dk) (fun e => by
                       obtain ⟨cells, hc⟩ := Kd.R_typed P14.out.ro _ e.symm
                       rw [P14.out.dk] at hc
                       cases hc)).trans P14.out.dk)
                     clear ho hb hg hat hco14)
                  | ((with_reducible refine gate_builtin (b := .append) (xs := #[.tmp 135, .const (.string tabMagic)]) rfl ?_); at_builtin; refine h_R_append_str (w0 := w) w.heap.size rfl (.tmp 135) (.const (.string tabMagic)) 27 9 5 rfl Try.underlying27 Try.underlying9 info5 v15 (oc ++ tl) tabMagic (fun _ => True) rfl rfl RO15.out (fun _ _ => trivial) HB15.out (below_size HB15.out) (by rw [List.length_append]; have := HLT2.out; show oc.length + tl.length + 8 ≤ _; omega) ?_
                     intro v16 w16 ho hb hg hat
                     rw [List.append_assoc] at ho
                     have RO16 := Aside0.mk ho
                     have HB16 := Aside0.mk hb
                     have DK16 := Aside0.mk ((hg.block _ (blk_lt2 DK15.out) (fun e => by
                       obtain ⟨cells, hc⟩ := Kd.R_typed RO15.out _ e.symm
                       rw [DK15.out] at hc
                       cases hc)).trans DK15.out)
                     clear ho hb hg hat))
                refine leaves_marks (by simp) [D] w.heap.size _ ⟨by simp, fun D' hD' => by
                  rcases List.mem_singleton.1 hD' with rfl
                  exact ⟨⟨Nat.le_trans hws HDD.out, blk_lt2 DK16.out⟩, DK16.out⟩⟩ ?_
                intro w' hbw hkw
                exact ⟨.tuple #[v16, .int .i64 0], by simp [results, Try.f10, go_sem], v16, rfl, Kd.R_mono (Kd.R_move (Kd.R_bound RO16.out) (fun k hk => hkw k (fun x e => by
                  obtain ⟨_, _, _, q, hq, cells, hc⟩ := hk
                  rw [hc] at e
                  cases e))) (fun _ _ => trivial), HB16.out.trans hbw⟩
end Go.Proofs.Ythdemdjobgbpdaa.T
