/- bloom's bits: the range over them, by the kit's law of a range over a function; each bit told. -/
import Derived.RangeFuncNested
import Derived.RangeFuncBound
import Derived.RangeFuncCalls
import Derived.RangeFuncLeaves
import Derived.Shelf.Abstract
import Derived.WalkKit
import Derived.OwnWalkIn
import Derived.TacticsInMore
import Derived.LoopNIn
import Derived.LoopIn
import Derived.Test.YthdemdjobgbpdaaP2
namespace Go.Proofs.Ythdemdjobgbpdaa.T
open Go.RowKit Go.Shelf Go.Proofs.YthdemdjobgbpdaaW.PrintWords Go.Proofs.YthdemdjobgbpdaaW.PrintLast Go.Proofs.YthdemdjobgbpdaaW.PrintMore Go.Proofs.Ythdemdjobgbpdaa.P
attribute [local go_sem] Oper.semAt_some
set_option linter.unusedVariables false
def rot15 (x : Int) : Int := Go.bits .or .u32 (shl .u32 x 15) (shr .u32 x 17)
set_option maxRecDepth 100000 in
set_option maxHeartbeats 1000000 in
theorem rot_calls (x : Int) (w : World) : Calls Try.prog 65 #[.int .u32 x, .int .i64 15] w fun e w' => e = .returned (.int .u32 (rot15 x)) ∧ w' = w := by
  have hb : Go.bits .and .u64 15 31 = 15 := by decide +kernel
  unfold rot15
  go_enter Try.func65, Try.ntmps65
  go_wp2
  go_ret
  exact ⟨rfl, rfl⟩
set_option maxRecDepth 100000 in
set_option maxHeartbeats 1000000 in
theorem probed_calls (s : ByteArray) (all probes : Int) (w : World) : Calls Try.prog 44 #[.string s, .int .u64 all, .int .i64 probes] w fun e w' =>
    e = .returned (.func (.func 63) #[] #[.pointer (some ⟨w.heap.size, 0, none⟩), .pointer (some ⟨w.heap.size + 1 + 1, 0, none⟩), .pointer (some ⟨w.heap.size + 1, 0, none⟩)]) ∧
    w' = ((w.alloc (.cells #[.string s] 9)).alloc (.cells #[.int .u64 all] 33)).alloc (.cells #[.int .i64 probes] 3) := by
  go_enter Try.func44, Try.ntmps44
  go_wp2
  go_ret
  exact ⟨rfl, rfl⟩
/-- the numbers that the bits are made of -/
def hsq (h d : Int) : Nat → Int
  | 0 => h
  | n + 1 => IntKind.u32.wrap (hsq h d n + d)
theorem hsq_nn {h d : Int} (h0 : 0 ≤ h) : ∀ n, 0 ≤ hsq h d n
  | 0 => h0
  | n + 1 => by
    show 0 ≤ IntKind.u32.wrap _
    simp only [IntKind.wrap, IntKind.bits, IntKind.signed]
    exact Int.emod_nonneg _ (by decide)
/-- a key's bits -/
def bitAt (h all : Int) (n : Nat) : Int := (IntKind.u64.wrap (hsq h (rot15 h) n)).tmod all
theorem bitAt_in {h all : Int} (h0 : 0 ≤ h) (ha : 0 < all) (n : Nat) : 0 ≤ bitAt h all n ∧ bitAt h all n < all := by
  have hw : ∀ y : Int, IntKind.u64.wrap y = y % 18446744073709551616 := fun y => by simp [IntKind.wrap, IntKind.bits, IntKind.signed]
  unfold bitAt
  rw [hw, Int.tmod_eq_emod_of_nonneg (by omega)]
  exact ⟨Int.emod_nonneg _ (by omega), Int.emod_lt_of_pos _ ha⟩
/-- a block stays as it is -/
def KeepB (b : Nat) (W W' : World) : Prop := W'.heap[b]? = W.heap[b]?
theorem keepB_t {b : Nat} {A B C : World} (h : KeepB b A B) (k : KeepB b B C) : KeepB b A C := Eq.trans k h
theorem keepB_b {b : Nat} {w : World} (hb : b < w.heap.size) (W : World) (l : Nat) (o o' : Obj) (hl : w.heap.size ≤ l) (_ : W.heap[l]? = some o) (_ : o.isCells = false) (_ : o.isWalk = false) : KeepB b W (W.putObj l o') := World.putObj_heap_other (by omega)
theorem KeepB.cell {b j : Nat} {W W' : World} (h : KeepB b W W') : W'.cell? ⟨b, j, none⟩ = W.cell? ⟨b, j, none⟩ := by unfold KeepB at h; simp [World.cell?, h]
set_option maxRecDepth 100000 in
set_option maxHeartbeats 2000000 in
/-- The range over a key's bits, in their order; as many as are asked for, unless it is stopped. -/
theorem probed1_in (l n₀ bk bp ba : Nat) (s : ByteArray) (all h : Int) (probes : Nat) (hall : 0 < all) (hall2 : all < 18446744073709551616) (hp : probes ≤ 1000) (k : Nat) (hh : bloom_Hash.f k s = some h) (hh0 : 0 ≤ h) (hbk : bk < n₀) (hbp : bp < n₀) (hba : ba < n₀)
    (J Jx : List { i : Nat // i < probes } → World → Prop)
    (hY : ∀ pre x W, J pre W → pre.length < probes → YieldAt Fence.wide 1 Try.prog l #[.int .u64 (bitAt h all x.1)] W fun e W' =>
      (e = .returned (.bool true) ∧ J (pre ++ [x]) W' ∧ KeepB ba W W') ∨ (e = .returned (.bool false) ∧ Jx (pre ++ [x]) W'))
    (hJB : ∀ pre W W', J pre W → Below W.heap.size W W' → J pre W')
    (W : World) (hn₀ : n₀ ≤ W.heap.size) (hk : W.cell? ⟨bk, 0, none⟩ = some (.string s)) (hpr : W.cell? ⟨bp, 0, none⟩ = some (.int .i64 (probes : Int))) (ha : W.cell? ⟨ba, 0, none⟩ = some (.int .u64 all)) (h0 : J [] W) :
    CallsIn Fence.wide 2 Try.prog 63 #[.func (.yield l) #[] #[], .pointer (some ⟨bk, 0, none⟩), .pointer (some ⟨bp, 0, none⟩), .pointer (some ⟨ba, 0, none⟩)] W fun e W' => (∃ v, e = .returned v) ∧
      ((∃ ys : List { i : Nat // i < probes }, (ys.map (·.1) = List.range probes) ∧ J ys W') ∨ (∃ pre : List { i : Nat // i < probes }, pre ≠ [] ∧ Jx pre W')) := by
  refine callsIn_of_wp Try.func63 rfl trivial ?_ rfl
  simp only [Try.ntmps63, List.size_toArray, List.length_cons, List.length_nil, Nat.reduceAdd, Nat.reduceSub, Array.replicate_succ, Array.replicate_zero, List.push_toArray, List.append_toArray, List.nil_append, List.cons_append]
  refine wpIn_wide.2 ?_
  go_wp2_with (first
    | (go_at_call 64; refine (bloom_Hash.calls k s h _ hh).mono ?_; rintro e w2 ⟨rfl, hb2⟩; have hk2 := hb2.cell (World.block_lt_of_cell? _ _ hk); have hp2 := hb2.cell (World.block_lt_of_cell? _ _ hpr); have ha2 := hb2.cell (World.block_lt_of_cell? _ _ ha); rw [hk] at hk2; rw [hpr] at hp2; rw [ha] at ha2)
    | (go_at_call 65; refine (rot_calls h _).mono ?_; rintro e w2 ⟨rfl, rfl⟩))
  refine (wpIn_wide (n := 2)).1 ?_
  have hB2 : KeepB ba W w2 := hb2.block ba (by omega)
  have hJ2 : J [] w2 := hJB _ _ _ h0 hb2
  gi_loopw [5, 12] (fun v5 v12 wr => ∃ (pre : List { i : Nat // i < probes }), v5 = .int .u32 (hsq h (rot15 h) pre.length) ∧ v12 = .int .i64 (pre.length : Int) ∧ pre.map (·.1) = List.range pre.length ∧ pre.length ≤ probes ∧ J pre wr ∧ KeepB ba W wr) (fun v5 v12 _ => probes - (intOf v12).toNat)
  case atStart => exact ⟨[], rfl, rfl, rfl, Nat.zero_le _, hJ2, hB2⟩
  case round =>
    obtain ⟨pre, rfl, rfl, hmp, hpl, hJs, hnx⟩ := hrel
    have ha3 : wr.cell? ⟨ba, 0, none⟩ = some (.int .u64 all) := hnx.cell.trans ha
    by_cases hlt : pre.length < probes
    · have hlt' : decide ((pre.length : Int) < (probes : Int)) = true := decide_eq_true (by omega)
      have hne : (all == 0) = false := by simp; omega
      obtain ⟨fn, tmps, assign, body, hy, hR⟩ := hY pre ⟨pre.length, hlt⟩ wr hJs hlt
      dsimp only [bitAt] at hy
      gi_wp2
      refine hR.mono ?_
      rintro e W3 (⟨rfl, hJ3, hk3⟩ | ⟨rfl, hJx3⟩)
      · gi_wp2
        go_roundw
        case rel => exact ⟨pre ++ [⟨pre.length, hlt⟩], by rw [List.length_append]; rfl, by simp, by rw [List.map_append, hmp, List.length_append]; simp [List.range_succ], by simp; omega, hJ3, keepB_t hnx hk3⟩
        case measure => simp [intOf]; omega
      · gi_wp2
        refine bodyPost_ret (results_none rfl _ _ _) rfl ?_
        exact ⟨⟨_, rfl⟩, .inr ⟨pre ++ [⟨pre.length, hlt⟩], by simp, hJx3⟩⟩
    · have hlt' : decide ((pre.length : Int) < (probes : Int)) = false := decide_eq_false (by omega)
      gi_wp2
      go_end0
      have he : pre.length = probes := by omega
      exact ⟨⟨_, rfl⟩, .inl ⟨pre, by rw [hmp, he], hJs⟩⟩
theorem probed_stopsB (n₀ bk bp ba : Nat) (s : ByteArray) (all h : Int) (probes : Nat) (hall : 0 < all) (hall2 : all < 18446744073709551616) (hp : probes ≤ 1000) (k : Nat) (hh : bloom_Hash.f k s = some h) (hh0 : 0 ≤ h) (w : World) (hbk : bk < n₀) (hbp : bp < n₀) (hba : ba < n₀) (hn₀ : n₀ ≤ w.heap.size)
    (hk : w.cell? ⟨bk, 0, none⟩ = some (.string s)) (hpr : w.cell? ⟨bp, 0, none⟩ = some (.int .i64 (probes : Int))) (ha : w.cell? ⟨ba, 0, none⟩ = some (.int .u64 all)) :
    SeqStopsK Fence.wide 2 Try.prog 63 #[.pointer (some ⟨bk, 0, none⟩), .pointer (some ⟨bp, 0, none⟩), .pointer (some ⟨ba, 0, none⟩)] (fun x : { i : Nat // i < probes } => #[.int .u64 (bitAt h all x.1)]) (KeepB ba) (fun ys => ys.map (·.1) = List.range probes) (fun pre => pre ≠ []) probes w := by
  intro l J Jx W hW hJ hJx hY h0
  refine (probed1_in l n₀ bk bp ba s all h probes hall hall2 hp k hh hh0 hbk hbp hba J Jx hY (fun pre W W' hj hb => hJ pre W W' none hj ⟨hb.os, hb.tape, hb.output, hb.size, fun i hi _ => hb.block i hi⟩ (fun r e => by cases e)) W (Nat.le_trans hn₀ hW.size) ?_ ?_ ?_ h0).mono fun _ _ h => h
  · exact (hW.cell (p := ⟨bk, 0, none⟩) (by show bk < _; omega)).trans hk
  · exact (hW.cell (p := ⟨bp, 0, none⟩) (by show bp < _; omega)).trans hpr
  · exact (hW.cell (p := ⟨ba, 0, none⟩) (by show ba < _; omega)).trans ha
theorem probed_stops (n₀ bk bp ba : Nat) (s : ByteArray) (all h : Int) (probes : Nat) (hall : 0 < all) (hall2 : all < 18446744073709551616) (hp : probes ≤ 1000) (k : Nat) (hh : bloom_Hash.f k s = some h) (hh0 : 0 ≤ h) (w : World) (hbk : bk < n₀) (hbp : bp < n₀) (hba : ba < n₀) (hn₀ : n₀ ≤ w.heap.size)
    (hk : w.cell? ⟨bk, 0, none⟩ = some (.string s)) (hpr : w.cell? ⟨bp, 0, none⟩ = some (.int .i64 (probes : Int))) (ha : w.cell? ⟨ba, 0, none⟩ = some (.int .u64 all)) :
    SeqStopsK Fence.wide 2 Try.prog 63 #[.pointer (some ⟨bk, 0, none⟩), .pointer (some ⟨bp, 0, none⟩), .pointer (some ⟨ba, 0, none⟩)] (fun x : { i : Nat // i < probes } => #[.int .u64 (bitAt h all x.1)]) (Below n₀) (fun ys => ys.map (·.1) = List.range probes) (fun pre => pre ≠ []) probes w := by
  intro l J Jx W hW hJ hJx hY h0
  refine probed_stopsB n₀ bk bp ba s all h probes hall hall2 hp k hh hh0 w hbk hbp hba hn₀ hk hpr ha l J Jx W hW hJ hJx (fun pre x W1 hj hl => (hY pre x W1 hj hl).mono ?_) h0
  rintro e W' (⟨h1, h2, h3⟩ | h)
  · exact .inl ⟨h1, h2, h3.block ba hba⟩
  · exact .inr h
end Go.Proofs.Ythdemdjobgbpdaa.T
namespace Go.Proofs.Ythdemdjobgbpdaa.T
open Go.RowKit Go.Shelf Go.Proofs.YthdemdjobgbpdaaW.PrintWords Go.Proofs.YthdemdjobgbpdaaW.PrintLast Go.Proofs.YthdemdjobgbpdaaW.PrintMore Go.Proofs.Ythdemdjobgbpdaa.P
attribute [local go_sem] Oper.semAt_some
set_option linter.unusedVariables false
/-- a bit of a filter -/
def bset (l : List Int) (x : Int) : Bool := !(Go.bits .and .u8 (rd l (x / 8) / 2 ^ (x % 8).toNat) 1 == 0)
def may_f (k : Nat) (l : List Int) (s : ByteArray) : Option Bool :=
  if l.length < 2 then some true else if 30 < rd l ((l.length - 1 : Nat) : Int) then some true else
    if l.length < 140737488355328 ∧ 0 ≤ rd l ((l.length - 1 : Nat) : Int) then (bloom_Hash.f k s).bind fun h => if 0 ≤ h then some ((List.range (rd l ((l.length - 1 : Nat) : Int)).toNat).all fun i => bset l (bitAt h (8 * ((l.length - 1 : Nat) : Int)) i)) else none else none
theorem tm_w1 (n : Nat) (h : 1 ≤ n) (h2 : n < 140737488355328) : wrap64 ((n : Int) - 1) = ((n - 1 : Nat) : Int) := by unfold wrap64; omega
theorem tm_w0 : wrap64 ((0 : Int) - 1) = -1 := by unfold wrap64; omega
theorem tm_w2 (n : Nat) (h : n < 140737488355328) : IntKind.u64.wrap (8 * IntKind.u64.wrap (n : Int)) = 8 * (n : Int) := by
  have hw : ∀ y : Int, IntKind.u64.wrap y = y % 18446744073709551616 := fun y => by simp [IntKind.wrap, IntKind.bits, IntKind.signed]
  rw [hw, hw]
  omega
theorem tm_w3 (n : Nat) (h : n < 140737488355328) : IntKind.u64.wrap (n : Int) = (n : Int) := by
  have hw : ∀ y : Int, IntKind.u64.wrap y = y % 18446744073709551616 := fun y => by simp [IntKind.wrap, IntKind.bits, IntKind.signed]
  rw [hw]
  omega
theorem tm_w4 (n : Nat) (h : n < 140737488355328) : IntKind.u64.wrap (8 * (n : Int)) = 8 * (n : Int) := by
  have hw : ∀ y : Int, IntKind.u64.wrap y = y % 18446744073709551616 := fun y => by simp [IntKind.wrap, IntKind.bits, IntKind.signed]
  rw [hw]
  omega
set_option maxRecDepth 100000 in
set_option maxHeartbeats 4000000 in
theorem may_calls (k : Nat) (A0 : Option Addr) (c0 : Nat) (l : List Int) (s : ByteArray) (r : Bool) (w : World) (hr0 : Kd.C (Kd.int .u8) w A0 l.length l) (hc0 : l.length ≤ c0) (hf : may_f k l s = some r) :
    Calls Try.prog 40 #[.slice A0 l.length c0, .string s] w fun e w' => e = .returned (.bool r) ∧ Below w.heap.size w w' := by
  have HR0 := Aside0.mk hr0
  have HC0 := Aside0.mk hc0
  clear hr0 hc0
  unfold may_f at hf
  by_cases h2 : l.length < 2
  · rw [if_pos h2] at hf
    injection hf with hf
    subst hf
    go_enter Try.func40, Try.ntmps40
    rcases (show l.length = 0 ∨ l.length = 1 by omega) with h | h
    · have hl : (l.length : Int) = 0 := by omega
      have hw := tm_w0
      rw [h]
      go_wp2
      refine bodyPost_ret (v := .bool true) ?_ rfl ⟨rfl, ?_⟩
      · simp [results, Try.f40, go_sem]
      · exact below_alloc (below_alloc (Below.refl _ _) _) _
    · rw [h]
      go_wp2
      refine bodyPost_ret (v := .bool true) ?_ rfl ⟨rfl, ?_⟩
      · simp [results, Try.f40, go_sem]
      · exact below_alloc (below_alloc (Below.refl _ _) _) _
  rw [if_neg h2] at hf
  obtain ⟨n, hn⟩ : ∃ n, l.length = n + 1 := ⟨l.length - 1, by omega⟩
  have hn1 : l.length - 1 = n := by omega
  rw [hn1] at hf
  have hlen : l.length < 140737488355328 ∨ 30 < rd l (n : Int) := by
    by_cases h30 : 30 < rd l (n : Int)
    · exact .inr h30
    · rw [if_neg h30] at hf
      split at hf
      · rename_i h; exact .inl h.1
      · cases hf
  have hmx := HR0.out.2.1
  obtain ⟨ad, eA, hc⟩ := Kd.at_int HR0.out (n : Int) (Int.natCast_nonneg _) (by omega)
  subst eA
  rw [Int.toNat_natCast] at hc
  obtain ⟨pb, hpb⟩ : ∃ x, rd l (n : Int) = x := ⟨_, rfl⟩
  rw [hpb] at hc hf hlen
  have hw1 : wrap64 ((l.length : Int) - 1) = (n : Int) := by rw [hn]; unfold wrap64; clear hc; omega
  have d1 : decide ((n : Int) < 1) = false := decide_eq_false (by clear hw1; omega)
  have d2 : decide (n < 1) = false := decide_eq_false (by clear hw1; omega)
  have p1 := eq_true (show (n : Int) < (l.length : Int) by clear hw1; omega)
  have p2 := eq_true (show 0 ≤ (n : Int) by clear hw1; omega)
  have HB0 : Aside0 (Below w.heap.size w ((w.alloc (.cells #[.slice (some ad) l.length c0] 27)).alloc (.cells #[.bool false] 4))) := ⟨below_alloc (below_alloc (Below.refl _ _) _) _⟩
  have hc2 : ((w.alloc (.cells #[.slice (some ad) l.length c0] 27)).alloc (.cells #[.bool false] 4)).cell? (ad.add n) = some (.int .u8 pb) := (HB0.out.cell (World.block_lt_of_cell? w _ hc)).trans hc
  have HN := Aside0.mk hn
  have HN1 : Aside0 (0 < 8 * (n : Int)) := ⟨by clear hw1; omega⟩
  clear hn1
  rw [hn] at hc2 HB0
  by_cases h30 : 30 < pb
  · rw [if_pos h30] at hf
    injection hf with hf
    subst hf
    have d3 : decide (30 < pb) = true := decide_eq_true h30
    have hw1b : wrap64 (n : Int) = (n : Int) := by rw [hn] at hw1; simpa using hw1
    clear h30 h2 hmx hlen
    go_enter Try.func40, Try.ntmps40
    go_wp2
    refine bodyPost_ret (R := fun e w' => e = .returned (.bool true) ∧ Below w.heap.size w w') (v := .bool true) ?_ rfl ?_
    · simp [results, Try.f40, go_sem]
    · exact ⟨rfl, below_alloc (below_alloc (Below.refl _ _) _) _⟩
  rw [if_neg h30] at hf
  split at hf
  case isFalse => cases hf
  rename_i hcond
  obtain ⟨hl47, hp0⟩ := hcond
  obtain ⟨h, hh, hf⟩ := Option.bind_eq_some_iff.mp hf
  split at hf
  case isFalse => cases hf
  rename_i hh0
  injection hf with hf
  obtain ⟨pr, rfl⟩ := Int.eq_ofNat_of_zero_le hp0
  rw [Int.toNat_natCast] at hf
  have HF := Aside0.mk hf
  clear hf
  have d3 : decide (30 < (pr : Int)) = false := decide_eq_false h30
  have d4 : decide (30 < pr) = false := decide_eq_false (by omega)
  have hw2 := tm_w3 n (by clear hw1; omega)
  have hw3 := tm_w4 n (by clear hw1 hw2; omega)
  have hpw : wrap64 (pr : Int) = (pr : Int) := by clear hw1 hw2 hw3; unfold wrap64; omega
  have hpw2 : IntKind.i64.wrap (pr : Int) = (pr : Int) := (i64_w _).trans hpw
  refine (callsIn_wide (n := 3)).1 ?_
  refine callsIn_of_wp_marks Try.func40 rfl trivial ?_ rfl
  simp only [Try.ntmps40, List.size_toArray, List.length_cons, List.length_nil, Nat.reduceAdd, Nat.reduceSub, Array.replicate_succ, Array.replicate_zero, List.push_toArray, List.append_toArray, List.nil_append, List.cons_append]
  refine wpIn_wide.2 ?_
  clear hlen hmx h2
  go_wp2_with (first
    | (go_at_call 44; refine (probed_calls s (8 * (n : Int)) (pr : Int) _).mono ?_; rintro e w2 ⟨rfl, rfl⟩))
  obtain ⟨W1, hW1⟩ : ∃ W1, (w.alloc (.cells #[.slice (some ad) (n + 1) c0] 27)).alloc (.cells #[.bool false] 4) = W1 := ⟨_, rfl⟩
  have hs1 : W1.heap.size = w.heap.size + 1 + 1 := by rw [← hW1]; simp
  have hF1 : W1.heap[w.heap.size]? = some (.cells #[.slice (some ad) (n + 1) c0] 27 (0, 0)) := by rw [← hW1]; exact blk_alloc (blk_new w _) _
  have hR1 : W1.heap[w.heap.size + 1]? = some (.cells #[.bool false] 4 (0, 0)) := by
    rw [← hW1]
    have := blk_new (w.alloc (.cells #[.slice (some ad) (n + 1) c0] 27)) (.cells #[.bool false] 4)
    rwa [World.size_alloc] at this
  have hb1 : Below w.heap.size w W1 := by rw [← hW1]; exact below_alloc (below_alloc (Below.refl _ _) _) _
  rw [hW1]
  obtain ⟨W0, hW0⟩ : ∃ W0, ((W1.alloc (.cells #[.string s] 9)).alloc (.cells #[.int .u64 (8 * (n : Int))] 33)).alloc (.cells #[.int .i64 (pr : Int)] 3) = W0 := ⟨_, rfl⟩
  have hs0 : W0.heap.size = w.heap.size + 1 + 1 + 1 + 1 + 1 := by rw [← hW0]; simp [hs1]
  have hK0 : W0.heap[w.heap.size + 1 + 1]? = some (.cells #[.string s] 9 (0, 0)) := by
    rw [← hW0, ← hs1]
    exact blk_alloc (blk_alloc (blk_new W1 _) _) _
  have hA0 : W0.heap[w.heap.size + 1 + 1 + 1]? = some (.cells #[.int .u64 (8 * (n : Int))] 33 (0, 0)) := by
    rw [← hW0, ← hs1]
    have := blk_new (W1.alloc (.cells #[.string s] 9)) (.cells #[.int .u64 (8 * (n : Int))] 33)
    rw [World.size_alloc] at this
    exact blk_alloc this _
  have hP0 : W0.heap[w.heap.size + 1 + 1 + 1 + 1]? = some (.cells #[.int .i64 (pr : Int)] 3 (0, 0)) := by
    rw [← hW0, ← hs1]
    have := blk_new ((W1.alloc (.cells #[.string s] 9)).alloc (.cells #[.int .u64 (8 * (n : Int))] 33)) (.cells #[.int .i64 (pr : Int)] 3)
    rwa [World.size_alloc, World.size_alloc] at this
  have hF0 : W0.heap[w.heap.size]? = some (.cells #[.slice (some ad) (n + 1) c0] 27 (0, 0)) := by rw [← hW0]; exact blk_alloc (blk_alloc (blk_alloc hF1 _) _) _
  have hR0 : W0.heap[w.heap.size + 1]? = some (.cells #[.bool false] 4 (0, 0)) := by rw [← hW0]; exact blk_alloc (blk_alloc (blk_alloc hR1 _) _) _
  have hb0 : Below w.heap.size w W0 := by rw [← hW0]; exact below_alloc (below_alloc (below_alloc hb1 _) _) _
  rw [hW0]
  have h8 : (8 * ((n : Nat) : Int)) < 18446744073709551616 ∧ 0 < 8 * (n : Int) := ⟨by clear hw1 hw2 hw3 hpw hpw2; have := HN.out; omega, by clear hw1 hw2 hw3 hpw hpw2; exact HN1.out⟩
  clear hW0 hW1 hs1 hF1 hR1 hb1 hc2 hw1 hw2 hw3 hpw hpw2 HB0
  refine (wpIn_wide (n := 3)).1 ?_
  refine wpIn_rangeFunc_ownF rfl (by decide) (gf := 63) (lb := #[.pointer (some ⟨w.heap.size + 1 + 1, 0, none⟩), .pointer (some ⟨w.heap.size + 1 + 1 + 1 + 1, 0, none⟩), .pointer (some ⟨w.heap.size + 1 + 1 + 1, 0, none⟩)]) rfl trivial (enters_of Try.func63 (by kernel_rfl) rfl)
    (probed_stops W0.heap.size _ _ _ s (8 * (n : Int)) h pr h8.2 h8.1 (by omega) k hh hh0 W0 (by omega) (by omega) (by omega) (Nat.le_refl _) ((blk_cell hK0 0).trans rfl) ((blk_cell hP0 0).trans rfl) ((blk_cell hA0 0).trans rfl)) belowK_t (belowK_b (Nat.le_refl _)) (Below.refl _ _) (fun _ => rfl)
    (fun pre W => ((∀ x ∈ pre, bset l (bitAt h (8 * (n : Int)) x.1) = true) ∧ W.cell? ⟨w.heap.size, 0, none⟩ = some (.slice (some ad) (n + 1) c0) ∧ W.cell? ⟨w.heap.size + 1, 0, none⟩ = some (.bool false) ∧ W.frozen? ⟨w.heap.size + 1, 0, none⟩ = false) ∧ Below w.heap.size w W)
    (fun c pre W => ((c = .ret ∧ W.cell? ⟨w.heap.size + 1, 0, none⟩ = some (.bool false)) ∧ ∃ x : { i : Nat // i < pr }, bset l (bitAt h (8 * (n : Int)) x.1) = false) ∧ Below w.heap.size w W)
    (OwnFrom.and (Own.from (fun s A B row hs hg hr => ⟨hs.1, cell_kept hs.2.1 hg hr, cell_kept hs.2.2.1 hg hr, (frozen_kept hs.2.2.1 hg hr).trans hs.2.2.2⟩) _) (ownFrom_below (Nat.le_refl _) (by omega)))
    (fun c => OwnFrom.and (Own.from (fun s A B row hs hg hr => ⟨⟨hs.1.1, cell_kept hs.1.2 hg hr⟩, hs.2⟩) _) (ownFrom_below (Nat.le_refl _) (by omega)))
    ⟨⟨(fun x hx => by cases hx), (blk_cell hF0 0).trans rfl, (blk_cell hR0 0).trans rfl, blk_frozen hR0 0⟩, hb0⟩
    (fun x => { tmps := #[.slice (some ad) (n + 1) c0, .string s, .pointer (some ⟨w.heap.size, 0, none⟩), undef, .pointer (some ⟨w.heap.size + 1, 0, none⟩), .int .i64 (n : Int), .int .u64 (bitAt h (8 * (n : Int)) x.1), .slice (some ad) (n + 1) c0, .int .i64 ((n : Int) + 1), .int .i64 (n : Int), .int .i64 (n : Int), .bool false, .bool false, .slice (some ad) (n + 1) c0,
        .int .i64 (n : Int), .pointer (some (ad.add n)), .int .u8 (pr : Int), .bool false, .bool false, .string s, .int .i64 (n : Int), .int .u64 (n : Int), .int .u64 (8 * (n : Int)), .slice (some ad) (n + 1) c0, .int .i64 (n : Int), .pointer (some (ad.add n)), .int .u8 (pr : Int), .int .i64 (pr : Int),
        .func (.func 63) #[] #[.pointer (some ⟨w.heap.size + 1 + 1, 0, none⟩), .pointer (some ⟨w.heap.size + 1 + 1 + 1 + 1, 0, none⟩), .pointer (some ⟨w.heap.size + 1 + 1 + 1, 0, none⟩)], .int .u64 (bitAt h (8 * (n : Int)) x.1), undef, undef, undef, undef, undef, undef, undef, undef, undef, undef], defers := [] }) ?assign ?body ?done ?stop
  case assign =>
    intro l x W K hK
    gi_wp2
    exact hK
  case body =>
    rintro l2 pre x W ⟨⟨hp, hcw, hcr, hfr⟩, hB⟩ _
    obtain ⟨hx0, hx1⟩ := bitAt_in hh0 h8.2 x.1
    obtain ⟨xb, hxb⟩ : ∃ y, bitAt h (8 * (n : Int)) x.1 = y := ⟨_, rfl⟩
    rw [hxb] at hx0 hx1 ⊢
    obtain ⟨ad2, eA2, hcx⟩ := Kd.at_int (Kd.C_below HR0.out hB) (xb / 8) (by omega) (by have := HN.out; omega)
    cases eA2
    have hx8 : decide (xb / 8 < (n : Int) + 1) = true := decide_eq_true (by omega)
    have hx9 : (0 ≤ xb / 8) = True := eq_true (by omega)
    have hx7 : (xb / 8 < (n : Int) + 1) = True := eq_true (by omega)
    by_cases hbs : bset l xb = true
    · have hbs2 : (Go.bits .and .u8 (rd l (xb / 8) / 2 ^ (xb % 8).toNat) 1 == 0) = false := by unfold bset at hbs; simpa using hbs
      gi_wp2
      refine ⟨KeepsOthers.refl _, Below.refl _ _, ⟨fun y hy => ?_, hcw, hcr, hfr⟩, hB⟩
      rcases List.mem_append.1 hy with hy | hy
      · exact hp y hy
      · rw [List.mem_singleton.1 hy, hxb]; exact hbs
    · have hbs2 : (Go.bits .and .u8 (rd l (xb / 8) / 2 ^ (xb % 8).toNat) 1 == 0) = true := by unfold bset at hbs; simpa using hbs
      gi_wp2
      exact ⟨KeepsOthers.setCell _ _ _, ⟨⟨rfl, World.cell?_setCell_same' _ _ _ (by rw [hcr]; rfl)⟩, x, by rw [hxb]; simpa using hbs⟩, hB.setCell (p := ⟨w.heap.size + 1, 0, none⟩) (by simp) _⟩
  case done =>
    rintro D xs W hD hxs ⟨⟨hp, hcw, hcr, hfr⟩, hB⟩ hK
    have hall : ((List.range pr).all fun i => bset l (bitAt h (8 * (n : Int)) i)) = true := by
      rw [List.all_eq_true]
      intro i hi
      rw [← hxs] at hi
      obtain ⟨x, hx, rfl⟩ := List.mem_map.1 hi
      exact hp x hx
    obtain rfl : true = r := hall.symm.trans HF.out
    gi_wp2
    go_wp2
    have hDn : D ≠ w.heap.size + 1 := by omega
    have hK2 := (Below.heap_setCell W ⟨w.heap.size + 1, 0, none⟩ (.bool true) D hDn).trans hK
    have hcr2 : (W.setCell ⟨w.heap.size + 1, 0, none⟩ (.bool true)).cell? ⟨w.heap.size + 1, 0, none⟩ = some (.bool true) := World.cell?_setCell_same' _ _ _ (by rw [hcr]; rfl)
    have hB2 := below_set (j := 0) (v := .bool true) hB (show w.heap.size ≤ w.heap.size + 1 by omega)
    refine ⟨by simp, .inl ⟨_, _, rfl, run_takeDeferred hK2, ?_⟩⟩
    have hc5 := cell_kept hcr2 (grownBy_putObj' _ D (.deferred none)) (fun r e => by cases e; exact ⟨_, hK2, rfl⟩)
    refine ⟨.bool true, ?_, rfl, hB2.trans (belowK_b (w := w) (Nat.le_refl _) _ D _ _ (by omega) hK2 rfl rfl)⟩
    simp [results, Try.f40, go_sem, hc5]
  case stop =>
    rintro D c pre W hD hpre ⟨⟨⟨rfl, hcr⟩, x, hx⟩, hB⟩ hK
    have hall : ((List.range pr).all fun i => bset l (bitAt h (8 * (n : Int)) i)) = false := by
      rw [List.all_eq_false]
      exact ⟨x.1, List.mem_range.2 x.2, by rw [hx]; decide⟩
    obtain rfl : false = r := hall.symm.trans HF.out
    gi_wp2
    refine ⟨by simp, .inl ⟨_, _, rfl, run_takeDeferred hK, ?_⟩⟩
    have hc5 := cell_kept hcr (grownBy_putObj' _ D (.deferred none)) (fun r e => by cases e; exact ⟨_, hK, rfl⟩)
    refine ⟨.bool false, ?_, rfl, hB.trans (belowK_b (w := w) (Nat.le_refl _) W D _ _ (by omega) hK rfl rfl)⟩
    simp [results, Try.f40, go_sem, hc5]
end Go.Proofs.Ythdemdjobgbpdaa.T
