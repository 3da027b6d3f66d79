/- bloom's May: what it comes to. -/
import Derived.Test.YthdemdjobgbpdaaTF
namespace Go.Proofs.Ythdemdjobgbpdaa.T
open Go.RowKit Go.Shelf Go.Proofs.YthdemdjobgbpdaaW.PrintWords Go.Proofs.YthdemdjobgbpdaaW.PrintLast Go.Proofs.YthdemdjobgbpdaaW.PrintMore Go.Proofs.Ythdemdjobgbpdaa.P
attribute [local go_sem] Oper.semAt_some
set_option linter.unusedVariables false
/-- a bit of a filter -/
def bset (l : List Int) (x : Int) : Bool := !(Go.bits .and .u8 (rd l (x / 8) / 2 ^ (x % 8).toNat) 1 == 0)
def may_f (k : Nat) (l : List Int) (s : ByteArray) : Option Bool :=
  if l.length < 2 then some true else if 30 < rd l ((l.length - 1 : Nat) : Int) then some true else
    if l.length < 140737488355328 ∧ 0 ≤ rd l ((l.length - 1 : Nat) : Int) then (bloom_Hash.f k s).bind fun h => if 0 ≤ h then some ((List.range (rd l ((l.length - 1 : Nat) : Int)).toNat).all fun i => bset l (bitAt h (8 * ((l.length - 1 : Nat) : Int)) i)) else none else none
theorem tm_w1 (n : Nat) (h : 1 ≤ n) (h2 : n < 140737488355328) : wrap64 ((n : Int) - 1) = ((n - 1 : Nat) : Int) := by unfold wrap64; omega
theorem tm_w0 : wrap64 ((0 : Int) - 1) = -1 := by unfold wrap64; omega
theorem tm_w2 (n : Nat) (h : n < 140737488355328) : IntKind.u64.wrap (8 * IntKind.u64.wrap (n : Int)) = 8 * (n : Int) := by
  have hw : ∀ y : Int, IntKind.u64.wrap y = y % 18446744073709551616 := fun y => by simp [IntKind.wrap, IntKind.bits, IntKind.signed]
  rw [hw, hw]
  omega
theorem tm_w3 (n : Nat) (h : n < 140737488355328) : IntKind.u64.wrap (n : Int) = (n : Int) := by
  have hw : ∀ y : Int, IntKind.u64.wrap y = y % 18446744073709551616 := fun y => by simp [IntKind.wrap, IntKind.bits, IntKind.signed]
  rw [hw]
  omega
theorem tm_w4 (n : Nat) (h : n < 140737488355328) : IntKind.u64.wrap (8 * (n : Int)) = 8 * (n : Int) := by
  have hw : ∀ y : Int, IntKind.u64.wrap y = y % 18446744073709551616 := fun y => by simp [IntKind.wrap, IntKind.bits, IntKind.signed]
  rw [hw]
  omega
set_option maxRecDepth 100000 in
set_option maxHeartbeats 4000000 in
theorem may_calls (k : Nat) (A0 : Option Addr) (c0 : Nat) (l : List Int) (s : ByteArray) (r : Bool) (w : World) (hr0 : Kd.C (Kd.int .u8) w A0 l.length l) (hc0 : l.length ≤ c0) (hf : may_f k l s = some r) :
    Calls Try.prog 40 #[.slice A0 l.length c0, .string s] w fun e w' => e = .returned (.bool r) ∧ Below w.heap.size w w' := by
  have HR0 := Aside0.mk hr0
  have HC0 := Aside0.mk hc0
  clear hr0 hc0
  unfold may_f at hf
  by_cases h2 : l.length < 2
  · rw [if_pos h2] at hf
    injection hf with hf
    subst hf
    go_enter Try.func40, Try.ntmps40
    rcases (show l.length = 0 ∨ l.length = 1 by omega) with h | h
    · have hl : (l.length : Int) = 0 := by omega
      have hw := tm_w0
      rw [h]
      go_wp2
      refine bodyPost_ret (v := .bool true) ?_ rfl ⟨rfl, ?_⟩
      · simp [results, Try.f40, go_sem]
      · exact below_alloc (below_alloc (Below.refl _ _) _) _
    · rw [h]
      go_wp2
      refine bodyPost_ret (v := .bool true) ?_ rfl ⟨rfl, ?_⟩
      · simp [results, Try.f40, go_sem]
      · exact below_alloc (below_alloc (Below.refl _ _) _) _
  rw [if_neg h2] at hf
  obtain ⟨n, hn⟩ : ∃ n, l.length = n + 1 := ⟨l.length - 1, by omega⟩
  have hn1 : l.length - 1 = n := by omega
  rw [hn1] at hf
  have hlen : l.length < 140737488355328 ∨ 30 < rd l (n : Int) := by
    by_cases h30 : 30 < rd l (n : Int)
    · exact .inr h30
    · rw [if_neg h30] at hf
      split at hf
      · rename_i h; exact .inl h.1
      · cases hf
  have hmx := HR0.out.2.1
  obtain ⟨ad, eA, hc⟩ := Kd.at_int HR0.out (n : Int) (Int.natCast_nonneg _) (by omega)
  subst eA
  rw [Int.toNat_natCast] at hc
  obtain ⟨pb, hpb⟩ : ∃ x, rd l (n : Int) = x := ⟨_, rfl⟩
  rw [hpb] at hc hf hlen
  have hw1 : wrap64 ((l.length : Int) - 1) = (n : Int) := by rw [hn]; unfold wrap64; clear hc; omega
  have d1 : decide ((n : Int) < 1) = false := decide_eq_false (by clear hw1; omega)
  have d2 : decide (n < 1) = false := decide_eq_false (by clear hw1; omega)
  have p1 := eq_true (show (n : Int) < (l.length : Int) by clear hw1; omega)
  have p2 := eq_true (show 0 ≤ (n : Int) by clear hw1; omega)
  have HB0 : Aside0 (Below w.heap.size w ((w.alloc (.cells #[.slice (some ad) l.length c0] 27)).alloc (.cells #[.bool false] 4))) := ⟨below_alloc (below_alloc (Below.refl _ _) _) _⟩
  have hc2 : ((w.alloc (.cells #[.slice (some ad) l.length c0] 27)).alloc (.cells #[.bool false] 4)).cell? (ad.add n) = some (.int .u8 pb) := (HB0.out.cell (World.block_lt_of_cell? w _ hc)).trans hc
  have HN := Aside0.mk hn
  have HN1 : Aside0 (0 < 8 * (n : Int)) := ⟨by clear hw1; omega⟩
  clear hn1
  rw [hn] at hc2 HB0
  by_cases h30 : 30 < pb
  · rw [if_pos h30] at hf
    injection hf with hf
    subst hf
    have d3 : decide (30 < pb) = true := decide_eq_true h30
    have hw1b : wrap64 (n : Int) = (n : Int) := by rw [hn] at hw1; simpa using hw1
    clear h30 h2 hmx hlen
    go_enter Try.func40, Try.ntmps40
    go_wp2
    refine bodyPost_ret (R := fun e w' => e = .returned (.bool true) ∧ Below w.heap.size w w') (v := .bool true) ?_ rfl ?_
    · simp [results, Try.f40, go_sem]
    · exact ⟨rfl, below_alloc (below_alloc (Below.refl _ _) _) _⟩
  rw [if_neg h30] at hf
  split at hf
  case isFalse => cases hf
  rename_i hcond
  obtain ⟨hl47, hp0⟩ := hcond
  obtain ⟨h, hh, hf⟩ := Option.bind_eq_some_iff.mp hf
  split at hf
  case isFalse => cases hf
  rename_i hh0
  injection hf with hf
  obtain ⟨pr, rfl⟩ := Int.eq_ofNat_of_zero_le hp0
  rw [Int.toNat_natCast] at hf
  have HF := Aside0.mk hf
  clear hf
  have d3 : decide (30 < (pr : Int)) = false := decide_eq_false h30
  have d4 : decide (30 < pr) = false := decide_eq_false (by omega)
  have hw2 := tm_w3 n (by clear hw1; omega)
  have hw3 := tm_w4 n (by clear hw1 hw2; omega)
  have hpw : wrap64 (pr : Int) = (pr : Int) := by clear hw1 hw2 hw3; unfold wrap64; omega
  have hpw2 : IntKind.i64.wrap (pr : Int) = (pr : Int) := (i64_w _).trans hpw
  refine (callsIn_wide (n := 3)).1 ?_
  refine callsIn_of_wp_marks Try.func40 rfl trivial ?_ rfl
  simp only [Try.ntmps40, List.size_toArray, List.length_cons, List.length_nil, Nat.reduceAdd, Nat.reduceSub, Array.replicate_succ, Array.replicate_zero, List.push_toArray, List.append_toArray, List.nil_append, List.cons_append]
  refine wpIn_wide.2 ?_
  clear hlen hmx h2
  go_wp2_with (first
    | (go_at_call 44; refine (probed_calls s (8 * (n : Int)) (pr : Int) _).mono ?_; rintro e w2 ⟨rfl, rfl⟩))
  obtain ⟨W1, hW1⟩ : ∃ W1, (w.alloc (.cells #[.slice (some ad) (n + 1) c0] 27)).alloc (.cells #[.bool false] 4) = W1 := ⟨_, rfl⟩
  have hs1 : W1.heap.size = w.heap.size + 1 + 1 := by rw [← hW1]; simp
  have hF1 : W1.heap[w.heap.size]? = some (.cells #[.slice (some ad) (n + 1) c0] 27 (0, 0)) := by rw [← hW1]; exact blk_alloc (blk_new w _) _
  have hR1 : W1.heap[w.heap.size + 1]? = some (.cells #[.bool false] 4 (0, 0)) := by
    rw [← hW1]
    have := blk_new (w.alloc (.cells #[.slice (some ad) (n + 1) c0] 27)) (.cells #[.bool false] 4)
    rwa [World.size_alloc] at this
  have hb1 : Below w.heap.size w W1 := by rw [← hW1]; exact below_alloc (below_alloc (Below.refl _ _) _) _
  rw [hW1]
  obtain ⟨W0, hW0⟩ : ∃ W0, ((W1.alloc (.cells #[.string s] 9)).alloc (.cells #[.int .u64 (8 * (n : Int))] 33)).alloc (.cells #[.int .i64 (pr : Int)] 3) = W0 := ⟨_, rfl⟩
  have hs0 : W0.heap.size = w.heap.size + 1 + 1 + 1 + 1 + 1 := by rw [← hW0]; simp [hs1]
  have hK0 : W0.heap[w.heap.size + 1 + 1]? = some (.cells #[.string s] 9 (0, 0)) := by
    rw [← hW0, ← hs1]
    exact blk_alloc (blk_alloc (blk_new W1 _) _) _
  have hA0 : W0.heap[w.heap.size + 1 + 1 + 1]? = some (.cells #[.int .u64 (8 * (n : Int))] 33 (0, 0)) := by
    rw [← hW0, ← hs1]
    have := blk_new (W1.alloc (.cells #[.string s] 9)) (.cells #[.int .u64 (8 * (n : Int))] 33)
    rw [World.size_alloc] at this
    exact blk_alloc this _
  have hP0 : W0.heap[w.heap.size + 1 + 1 + 1 + 1]? = some (.cells #[.int .i64 (pr : Int)] 3 (0, 0)) := by
    rw [← hW0, ← hs1]
    have := blk_new ((W1.alloc (.cells #[.string s] 9)).alloc (.cells #[.int .u64 (8 * (n : Int))] 33)) (.cells #[.int .i64 (pr : Int)] 3)
    rwa [World.size_alloc, World.size_alloc] at this
  have hF0 : W0.heap[w.heap.size]? = some (.cells #[.slice (some ad) (n + 1) c0] 27 (0, 0)) := by rw [← hW0]; exact blk_alloc (blk_alloc (blk_alloc hF1 _) _) _
  have hR0 : W0.heap[w.heap.size + 1]? = some (.cells #[.bool false] 4 (0, 0)) := by rw [← hW0]; exact blk_alloc (blk_alloc (blk_alloc hR1 _) _) _
  have hb0 : Below w.heap.size w W0 := by rw [← hW0]; exact below_alloc (below_alloc (below_alloc hb1 _) _) _
  rw [hW0]
  have h8 : (8 * ((n : Nat) : Int)) < 18446744073709551616 ∧ 0 < 8 * (n : Int) := ⟨by clear hw1 hw2 hw3 hpw hpw2; have := HN.out; omega, by clear hw1 hw2 hw3 hpw hpw2; exact HN1.out⟩
  clear hW0 hW1 hs1 hF1 hR1 hb1 hc2 hw1 hw2 hw3 hpw hpw2 HB0
  refine (wpIn_wide (n := 3)).1 ?_
  refine wpIn_rangeFunc_ownF rfl (by decide) (gf := 63) (lb := #[.pointer (some ⟨w.heap.size + 1 + 1, 0, none⟩), .pointer (some ⟨w.heap.size + 1 + 1 + 1 + 1, 0, none⟩), .pointer (some ⟨w.heap.size + 1 + 1 + 1, 0, none⟩)]) rfl trivial (enters_of Try.func63 (by kernel_rfl) rfl)
    (probed_stops W0.heap.size _ _ _ s (8 * (n : Int)) h pr h8.2 h8.1 (by omega) k hh hh0 W0 (by omega) (by omega) (by omega) (Nat.le_refl _) ((blk_cell hK0 0).trans rfl) ((blk_cell hP0 0).trans rfl) ((blk_cell hA0 0).trans rfl)) belowK_t (belowK_b (Nat.le_refl _)) (Below.refl _ _) (fun _ => rfl)
    (fun pre W => ((∀ x ∈ pre, bset l (bitAt h (8 * (n : Int)) x.1) = true) ∧ W.cell? ⟨w.heap.size, 0, none⟩ = some (.slice (some ad) (n + 1) c0) ∧ W.cell? ⟨w.heap.size + 1, 0, none⟩ = some (.bool false) ∧ W.frozen? ⟨w.heap.size + 1, 0, none⟩ = false) ∧ Below w.heap.size w W)
    (fun c pre W => ((c = .ret ∧ W.cell? ⟨w.heap.size + 1, 0, none⟩ = some (.bool false)) ∧ ∃ x : { i : Nat // i < pr }, bset l (bitAt h (8 * (n : Int)) x.1) = false) ∧ Below w.heap.size w W)
    (OwnFrom.and (Own.from (fun s A B row hs hg hr => ⟨hs.1, cell_kept hs.2.1 hg hr, cell_kept hs.2.2.1 hg hr, (frozen_kept hs.2.2.1 hg hr).trans hs.2.2.2⟩) _) (ownFrom_below (Nat.le_refl _) (by omega)))
    (fun c => OwnFrom.and (Own.from (fun s A B row hs hg hr => ⟨⟨hs.1.1, cell_kept hs.1.2 hg hr⟩, hs.2⟩) _) (ownFrom_below (Nat.le_refl _) (by omega)))
    ⟨⟨(fun x hx => by cases hx), (blk_cell hF0 0).trans rfl, (blk_cell hR0 0).trans rfl, blk_frozen hR0 0⟩, hb0⟩
    (fun x => { tmps := #[.slice (some ad) (n + 1) c0, .string s, .pointer (some ⟨w.heap.size, 0, none⟩), undef, .pointer (some ⟨w.heap.size + 1, 0, none⟩), .int .i64 (n : Int), .int .u64 (bitAt h (8 * (n : Int)) x.1), .slice (some ad) (n + 1) c0, .int .i64 ((n : Int) + 1), .int .i64 (n : Int), .int .i64 (n : Int), .bool false, .bool false, .slice (some ad) (n + 1) c0,
        .int .i64 (n : Int), .pointer (some (ad.add n)), .int .u8 (pr : Int), .bool false, .bool false, .string s, .int .i64 (n : Int), .int .u64 (n : Int), .int .u64 (8 * (n : Int)), .slice (some ad) (n + 1) c0, .int .i64 (n : Int), .pointer (some (ad.add n)), .int .u8 (pr : Int), .int .i64 (pr : Int),
        .func (.func 63) #[] #[.pointer (some ⟨w.heap.size + 1 + 1, 0, none⟩), .pointer (some ⟨w.heap.size + 1 + 1 + 1 + 1, 0, none⟩), .pointer (some ⟨w.heap.size + 1 + 1 + 1, 0, none⟩)], .int .u64 (bitAt h (8 * (n : Int)) x.1), undef, undef, undef, undef, undef, undef, undef, undef, undef, undef], defers := [] }) ?assign ?body ?done ?stop
  case assign =>
    intro l x W K hK
    gi_wp2
    exact hK
  case body =>
    rintro l2 pre x W ⟨⟨hp, hcw, hcr, hfr⟩, hB⟩ _
    obtain ⟨hx0, hx1⟩ := bitAt_in hh0 h8.2 x.1
    obtain ⟨xb, hxb⟩ : ∃ y, bitAt h (8 * (n : Int)) x.1 = y := ⟨_, rfl⟩
    rw [hxb] at hx0 hx1 ⊢
    obtain ⟨ad2, eA2, hcx⟩ := Kd.at_int (Kd.C_below HR0.out hB) (xb / 8) (by omega) (by have := HN.out; omega)
    cases eA2
    have hx8 : decide (xb / 8 < (n : Int) + 1) = true := decide_eq_true (by omega)
    have hx9 : (0 ≤ xb / 8) = True := eq_true (by omega)
    have hx7 : (xb / 8 < (n : Int) + 1) = True := eq_true (by omega)
    by_cases hbs : bset l xb = true
    · have hbs2 : (Go.bits .and .u8 (rd l (xb / 8) / 2 ^ (xb % 8).toNat) 1 == 0) = false := by unfold bset at hbs; simpa using hbs
      gi_wp2
      refine ⟨KeepsOthers.refl _, Below.refl _ _, ⟨fun y hy => ?_, hcw, hcr, hfr⟩, hB⟩
      rcases List.mem_append.1 hy with hy | hy
      · exact hp y hy
      · rw [List.mem_singleton.1 hy, hxb]; exact hbs
    · have hbs2 : (Go.bits .and .u8 (rd l (xb / 8) / 2 ^ (xb % 8).toNat) 1 == 0) = true := by unfold bset at hbs; simpa using hbs
      gi_wp2
      exact ⟨KeepsOthers.setCell _ _ _, ⟨⟨rfl, World.cell?_setCell_same' _ _ _ (by rw [hcr]; rfl)⟩, x, by rw [hxb]; simpa using hbs⟩, hB.setCell (p := ⟨w.heap.size + 1, 0, none⟩) (by simp) _⟩
  case done =>
    rintro D xs W hD hxs ⟨⟨hp, hcw, hcr, hfr⟩, hB⟩ hK
    have hall : ((List.range pr).all fun i => bset l (bitAt h (8 * (n : Int)) i)) = true := by
      rw [List.all_eq_true]
      intro i hi
      rw [← hxs] at hi
      obtain ⟨x, hx, rfl⟩ := List.mem_map.1 hi
      exact hp x hx
    obtain rfl : true = r := hall.symm.trans HF.out
    gi_wp2
    go_wp2
    have hDn : D ≠ w.heap.size + 1 := by omega
    have hK2 := (Below.heap_setCell W ⟨w.heap.size + 1, 0, none⟩ (.bool true) D hDn).trans hK
    have hcr2 : (W.setCell ⟨w.heap.size + 1, 0, none⟩ (.bool true)).cell? ⟨w.heap.size + 1, 0, none⟩ = some (.bool true) := World.cell?_setCell_same' _ _ _ (by rw [hcr]; rfl)
    have hB2 := below_set (j := 0) (v := .bool true) hB (show w.heap.size ≤ w.heap.size + 1 by omega)
    refine ⟨by simp, .inl ⟨_, _, rfl, run_takeDeferred hK2, ?_⟩⟩
    have hc5 := cell_kept hcr2 (grownBy_putObj' _ D (.deferred none)) (fun r e => by cases e; exact ⟨_, hK2, rfl⟩)
    refine ⟨.bool true, ?_, rfl, hB2.trans (belowK_b (w := w) (Nat.le_refl _) _ D _ _ (by omega) hK2 rfl rfl)⟩
    simp [results, Try.f40, go_sem, hc5]
  case stop =>
    rintro D c pre W hD hpre ⟨⟨⟨rfl, hcr⟩, x, hx⟩, hB⟩ hK
    have hall : ((List.range pr).all fun i => bset l (bitAt h (8 * (n : Int)) i)) = false := by
      rw [List.all_eq_false]
      exact ⟨x.1, List.mem_range.2 x.2, by rw [hx]; decide⟩
    obtain rfl : false = r := hall.symm.trans HF.out
    gi_wp2
    refine ⟨by simp, .inl ⟨_, _, rfl, run_takeDeferred hK, ?_⟩⟩
    have hc5 := cell_kept hcr (grownBy_putObj' _ D (.deferred none)) (fun r e => by cases e; exact ⟨_, hK, rfl⟩)
    refine ⟨.bool false, ?_, rfl, hB.trans (belowK_b (w := w) (Nat.le_refl _) W D _ _ (by omega) hK rfl rfl)⟩
    simp [results, Try.f40, go_sem, hc5]
end Go.Proofs.Ythdemdjobgbpdaa.T
