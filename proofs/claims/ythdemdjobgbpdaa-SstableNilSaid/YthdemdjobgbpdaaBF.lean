/- block's Find. -/
import Derived.Test.YthdemdjobgbpdaaBW
import Derived.Test.YthdemdjobgbpdaaP5
import Derived.Laws.ByValue
import Derived.OneCell
import Derived.Outline
namespace Go.Proofs.Ythdemdjobgbpdaa.B
open Go.RowKit Go.Proofs.YthdemdjobgbpdaaW.PrintWords Go.Proofs.YthdemdjobgbpdaaW.PrintLast Go.Proofs.YthdemdjobgbpdaaW.PrintMore Go.Proofs.Ythdemdjobgbpdaa.P
attribute [local go_sem] max2_int min2_int max_two min_two max_three min_three max_four min_four
set_option linter.unusedVariables false
set_option linter.unusedSimpArgs false
set_option maxHeartbeats 1000000 in
set_option maxRecDepth 100000 in
theorem ahead_calls (g gb gk : Nat) (l : List S47) (iv i : Int) (q : S45) (r : Int) (w : World) (h : IsBlk w g l iv) (h0 : 0 ≤ i) (hi : i < l.length)
    (hb : w.cell? ⟨gb, 0, none⟩ = some (.pointer (some ⟨g, 0, none⟩))) (hk0 : w.cell? ⟨gk, 0, none⟩ = some (.string q.f0)) (hk1 : w.cell? ⟨gk, 1, none⟩ = some (.int .u64 q.f1)) (hk2 : w.cell? ⟨gk, 2, none⟩ = some (.int .i64 q.f2))
    (hr : ikey_Compare.f (rd_T47 l i).f0.f0 (rd_T47 l i).f0.f1 (rd_T47 l i).f0.f2 q.f0 q.f1 q.f2 = some r) :
    Calls Try.prog 62 #[.int .i64 i, .pointer (some ⟨gb, 0, none⟩), .pointer (some ⟨gk, 0, none⟩)] w fun e w' => e = .returned (.bool (decide (r < 0))) ∧ Below w.heap.size w w' := by
  obtain ⟨A, c, h1, h2, h3, h4⟩ := h
  obtain ⟨ad, rfl, k1, k2, k3, k4⟩ := at_T47 h3 i h0 hi
  obtain ⟨X, hX⟩ : ∃ x, rd_T47 l i = x := ⟨_, rfl⟩
  rw [hX] at k1 k2 k3 hr
  have b3 : decide (0 ≤ i) = true := decide_eq_true h0
  have b4 : decide (i < (l.length : Int)) = true := decide_eq_true hi
  have p3 := eq_true h0
  have p4 := eq_true hi
  have HR := Aside0.mk hr
  have HB := Aside0.mk (Below.refl w.heap.size w)
  clear h3 h4 hr hX k4 h2
  go_enter Try.func62, Try.ntmps62
  go_wp2_with fail
  replace HB := Aside0.mk (below_drew1 HB.out)
  refine start_ (n := 12) (S := fun w' => w'.cell? ⟨gb, 0, none⟩ = some (.pointer (some ⟨g, 0, none⟩)) ∧ w'.cell? ⟨g, 0, none⟩ = some (.slice (some ad) l.length c) ∧ w'.cell? (ad.add (i.toNat * 4)) = some (.string X.f0.f0) ∧ w'.cell? ⟨(ad.add (i.toNat * 4)).block, (ad.add (i.toNat * 4)).off + 1, none⟩ = some (.int .u64 X.f0.f1) ∧ w'.cell? ⟨(ad.add (i.toNat * 4)).block, (ad.add (i.toNat * 4)).off + 2, none⟩ = some (.int .i64 X.f0.f2) ∧ w'.cell? ⟨gk, 0, none⟩ = some (.string q.f0) ∧ w'.cell? ⟨gk, 1, none⟩ = some (.int .u64 q.f1) ∧ w'.cell? ⟨gk, 2, none⟩ = some (.int .i64 q.f2)) (ds := []) #[false, false, false, false, false, false, false, false, false, false, false, false] (by kernel_rfl) rfl rfl ⟨(by exact hb), (by exact h1), (by exact k1), (by exact k2), (by exact k3), (by exact hk0), (by exact hk1), (by exact hk2)⟩ (fun hHeld => ?_)
  refine pure_ (i := 4) (N := some 9) (v := ?_) (a' := ?_) #[false, false, false, false, true, false, false, false, false, false, false, false] rfl rfl (by kernel_rfl) (fun _ _ _ h => h) (Or.inl ⟨by rfl, ?_⟩) ?_ ?_
  rotate_left
  · intro w'
    go_simp
    with_reducible rfl
  rotate_left
  · simp only [Act.put, List.setIfInBounds_toArray, List.set_cons_zero, List.set_cons_succ, i64_w, i32_w]
    rfl
  refine take_ (i := 0) (N := some 5) (v := ?_) (a' := ?_) #[true, false, false, false, true, false, false, false, false, false, false, false] rfl rfl (by kernel_rfl) (fun _ _ _ h => h) (Or.inl ⟨by rfl, ?_⟩) hHeld ?_ ?_
  rotate_left
  · rintro w' ⟨s0, s1, s2, s3, s4, s5, s6, s7⟩
    go_simp
    with_reducible rfl
  rotate_left
  · simp only [Act.put, List.setIfInBounds_toArray, List.set_cons_zero, List.set_cons_succ, i64_w, i32_w]
    rfl
  refine pure_ (i := 1) (N := some 6) (v := ?_) (a' := ?_) #[true, true, false, false, true, false, false, false, false, false, false, false] rfl rfl (by kernel_rfl) (fun _ _ _ h => h) (Or.inl ⟨by rfl, ?_⟩) ?_ ?_
  rotate_left
  · intro w'
    go_simp
    with_reducible rfl
  rotate_left
  · simp only [Act.put, List.setIfInBounds_toArray, List.set_cons_zero, List.set_cons_succ, i64_w, i32_w]
    rfl
  refine pure_ (i := 2) (N := some 7) (v := ?_) (a' := ?_) #[true, true, true, false, true, false, false, false, false, false, false, false] rfl rfl (by kernel_rfl) (fun _ _ _ h => h) (Or.inl ⟨by rfl, ?_⟩) ?_ ?_
  rotate_left
  · intro w'
    go_simp
    with_reducible rfl
  rotate_left
  · simp only [Act.put, List.setIfInBounds_toArray, List.set_cons_zero, List.set_cons_succ, i64_w, i32_w]
    rfl
  refine take_ (i := 3) (N := some 8) (v := ?_) (a' := ?_) #[true, true, true, true, true, false, false, false, false, false, false, false] rfl rfl (by kernel_rfl) (fun _ _ _ h => h) (Or.inl ⟨by rfl, ?_⟩) hHeld ?_ ?_
  rotate_left
  · rintro w' ⟨s0, s1, s2, s3, s4, s5, s6, s7⟩
    go_simp
    with_reducible rfl
  rotate_left
  · simp only [Act.put, List.setIfInBounds_toArray, List.set_cons_zero, List.set_cons_succ, i64_w, i32_w]
    rfl
  refine pure_ (i := 5) (N := some 10) (v := ?_) (a' := ?_) #[true, true, true, true, true, true, false, false, false, false, false, false] rfl rfl (by kernel_rfl) (fun _ _ _ h => h) (Or.inl ⟨by rfl, ?_⟩) ?_ ?_
  rotate_left
  · intro w'
    go_simp
    with_reducible rfl
  rotate_left
  · simp only [Act.put, List.setIfInBounds_toArray, List.set_cons_zero, List.set_cons_succ, i64_w, i32_w]
    rfl
  refine pure_ (i := 6) (N := some 11) (v := ?_) (a' := ?_) #[true, true, true, true, true, true, true, false, false, false, false, false] rfl rfl (by kernel_rfl) (fun _ _ _ h => h) (Or.inl ⟨by rfl, ?_⟩) ?_ ?_
  rotate_left
  · intro w'
    go_simp
    with_reducible rfl
  rotate_left
  · simp only [Act.put, List.setIfInBounds_toArray, List.set_cons_zero, List.set_cons_succ, i64_w, i32_w]
    rfl
  refine take_ (i := 7) (N := some 12) (v := ?_) (a' := ?_) #[true, true, true, true, true, true, true, true, false, false, false, false] rfl rfl (by kernel_rfl) (fun _ _ _ h => h) (Or.inl ⟨by rfl, ?_⟩) hHeld ?_ ?_
  rotate_left
  · rintro w' ⟨s0, s1, s2, s3, s4, s5, s6, s7⟩
    go_simp
    with_reducible rfl
  rotate_left
  · simp only [Act.put, List.setIfInBounds_toArray, List.set_cons_zero, List.set_cons_succ, i64_w, i32_w]
    rfl
  refine take_ (i := 8) (N := some 13) (v := ?_) (a' := ?_) #[true, true, true, true, true, true, true, true, true, false, false, false] rfl rfl (by kernel_rfl) (fun _ _ _ h => h) (Or.inl ⟨by rfl, ?_⟩) hHeld ?_ ?_
  rotate_left
  · rintro w' ⟨s0, s1, s2, s3, s4, s5, s6, s7⟩
    go_simp
    with_reducible rfl
  rotate_left
  · simp only [Act.put, List.setIfInBounds_toArray, List.set_cons_zero, List.set_cons_succ, i64_w, i32_w]
    rfl
  refine one_ (i := 9) (N := some 14) #[true, true, true, true, true, true, true, true, true, true, false, false] rfl rfl (by kernel_rfl) (by decide) (fun K hK => ?_)
  refine goes_ Try.func39 (by kernel_rfl) rfl #[.agg #[.string X.f0.f0, .int .u64 X.f0.f1, .int .i64 X.f0.f2], .agg #[.string q.f0, .int .u64 q.f1, .int .i64 q.f2]] (by rfl) rfl rfl (by simp only [List.map_toArray, List.map_cons, List.map_nil]; rfl) ?_
  with_reducible refine (ikey_Compare.calls X.f0.f0 X.f0.f1 X.f0.f2 q.f0 q.f1 q.f2 r _ HR.out).mono ?_
  rintro e w3 ⟨rfl, hb3⟩
  refine ⟨_, rfl, ?_⟩
  have HB := Aside0.mk (below_step HB.out hb3)
  refine hK.out _ _ ⟨(hb3.cell (World.block_lt_of_cell? _ _ hHeld.1)).trans hHeld.1, (hb3.cell (World.block_lt_of_cell? _ _ hHeld.2.1)).trans hHeld.2.1, (hb3.cell (World.block_lt_of_cell? _ _ hHeld.2.2.1)).trans hHeld.2.2.1, (hb3.cell (World.block_lt_of_cell? _ _ hHeld.2.2.2.1)).trans hHeld.2.2.2.1, (hb3.cell (World.block_lt_of_cell? _ _ hHeld.2.2.2.2.1)).trans hHeld.2.2.2.2.1, (hb3.cell (World.block_lt_of_cell? _ _ hHeld.2.2.2.2.2.1)).trans hHeld.2.2.2.2.2.1, (hb3.cell (World.block_lt_of_cell? _ _ hHeld.2.2.2.2.2.2.1)).trans hHeld.2.2.2.2.2.2.1, (hb3.cell (World.block_lt_of_cell? _ _ hHeld.2.2.2.2.2.2.2)).trans hHeld.2.2.2.2.2.2.2⟩ (fun hHeld => ?_)
  clear hK K
  refine norm_ (a' := ?_) ?_ ?_
  rotate_left
  · show Act.put _ (some 14) _ = _
    simp only [Act.put, List.setIfInBounds_toArray, List.set_cons_zero, List.set_cons_succ, i64_w, i32_w]
    rfl
  refine pure_ (i := 10) (N := some 15) (v := ?_) (a' := ?_) #[true, true, true, true, true, true, true, true, true, true, true, false] rfl rfl (by kernel_rfl) (fun _ _ _ h => h) (Or.inl ⟨by rfl, ?_⟩) ?_ ?_
  rotate_left
  · intro w'
    go_simp
    with_reducible rfl
  rotate_left
  · simp only [Act.put, List.setIfInBounds_toArray, List.set_cons_zero, List.set_cons_succ, i64_w, i32_w]
    rfl
  refine pure_ (i := 11) (N := some 4) (v := ?_) (a' := ?_) #[true, true, true, true, true, true, true, true, true, true, true, true] rfl rfl (by kernel_rfl) (fun _ _ _ h => h) (Or.inl ⟨by rfl, ?_⟩) ?_ ?_
  rotate_left
  · intro w'
    go_simp
    with_reducible rfl
  rotate_left
  · simp only [Act.put, List.setIfInBounds_toArray, List.set_cons_zero, List.set_cons_succ, i64_w, i32_w]
    rfl
  refine done_ (by kernel_rfl) ?_
  go_wp2
  go_ret
  exact ⟨by first | rfl | simp, HB.out⟩
/-! ### Find -/
def cmpK (x : S47) (q : S45) : Option Int := ikey_Compare.f x.f0.f0 x.f0.f1 x.f0.f2 q.f0 q.f1 q.f2
def find_b : Nat → List S47 → Nat → S45 → Nat → Nat → Option Nat
  | 0, _, _, _, _, _ => none
  | k + 1, l, iv, q, lo, hi => if lo < hi then (if (lo + hi) / 2 * iv < l.length ∧ hi ≤ l.length then (cmpK (rd_T47 l (((lo + hi) / 2 * iv : Nat) : Int)) q).bind fun r => if r < 0 then find_b k l iv q ((lo + hi) / 2 + 1) hi else find_b k l iv q lo ((lo + hi) / 2) else none) else some lo
def find_s : Nat → List S47 → S45 → Nat → Option Nat
  | 0, _, _, _ => none
  | k + 1, l, q, at_ => if at_ < l.length then (cmpK (rd_T47 l (at_ : Int)) q).bind fun r => if r < 0 then find_s k l q (at_ + 1) else some at_ else some at_
def find_f (k : Nat) (l : List S47) (iv : Nat) (q : S45) : Option Nat :=
  if l.length < 281474976710656 ∧ 1 ≤ iv ∧ iv ≤ 16 then (find_b k l iv q 0 ((l.length + iv - 1) / iv)).bind fun lo => if lo ≤ l.length then find_s k l q ((lo - 1) * iv) else none else none
theorem fw1 (n : Nat) (h : n < 9000000000000000000) : wrap64 (n : Int) = (n : Int) := by unfold wrap64; omega
theorem fw2 (a b : Nat) (h : a + b < 9000000000000000000) : wrap64 ((a : Int) + (b : Int)) = ((a + b : Nat) : Int) := by unfold wrap64; omega
theorem fwm (a b m : Nat) (e : a * b = m) (h : m < 9000000000000000000) : wrap64 ((a : Int) * (b : Int)) = (m : Int) := by rw [← Int.natCast_mul, e]; exact fw1 m h
theorem fhalf (a m : Nat) (e : a / 2 = m) : Int.tdiv (a : Int) 2 = (m : Int) := by rw [Int.tdiv_eq_ediv_of_nonneg (by omega)]; omega
theorem fws (a : Nat) (h : 1 ≤ a) (h2 : a < 9000000000000000000) : wrap64 ((a : Int) - 1) = ((a - 1 : Nat) : Int) := by unfold wrap64; omega
/-- what stands while Find runs -/
structure FindSt (w : World) (g gb gq : Nat) (l : List S47) (iv : Int) (q : S45) (wx : World) : Prop where
  blk : IsBlk wx g l iv
  b : wx.cell? ⟨gb, 0, none⟩ = some (.pointer (some ⟨g, 0, none⟩))
  k0 : wx.cell? ⟨gq, 0, none⟩ = some (.string q.f0)
  k1 : wx.cell? ⟨gq, 1, none⟩ = some (.int .u64 q.f1)
  k2 : wx.cell? ⟨gq, 2, none⟩ = some (.int .i64 q.f2)
  bel : Below w.heap.size w wx
theorem FindSt.step {w wx w' : World} {g gb gq : Nat} {l : List S47} {iv : Int} {q : S45} (h : FindSt w g gb gq l iv q wx) (hb : Below wx.heap.size wx w') : FindSt w g gb gq l iv q w' :=
  ⟨h.blk.below hb, (hb.cell (World.block_lt_of_cell? _ _ h.b)).trans h.b, (hb.cell (World.block_lt_of_cell? _ _ h.k0)).trans h.k0, (hb.cell (World.block_lt_of_cell? _ _ h.k1)).trans h.k1, (hb.cell (World.block_lt_of_cell? _ _ h.k2)).trans h.k2, below_step h.bel hb⟩
set_option maxHeartbeats 1000000 in
set_option maxRecDepth 100000 in
theorem Find_calls (k g : Nat) (l : List S47) (iv : Nat) (q : S45) (r : Nat) (w : World) (h : IsBlk w g l (iv : Int)) (hf : find_f k l iv q = some r) :
    Calls Try.prog 43 #[.pointer (some ⟨g, 0, none⟩), .agg #[.string q.f0, .int .u64 q.f1, .int .i64 q.f2]] w fun e w' => e = .returned (.int .i64 (r : Int)) ∧ Below w.heap.size w w' := by
  unfold find_f at hf
  split at hf
  case isFalse => cases hf
  rename_i hlim
  obtain ⟨b0, hb, hf⟩ := Option.bind_eq_some_iff.mp hf
  split at hf
  case isFalse => cases hf
  rename_i hlo
  have HB1 := Aside0.mk hb
  have HF1 := Aside0.mk hf
  have HLIM := Aside0.mk hlim
  have HLO := Aside0.mk hlo
  have HBLK := Aside0.mk h
  obtain ⟨A, c, h1, h2, h3, h4⟩ := h
  have HB := Aside0.mk (Below.refl w.heap.size w)
  have HC := Aside0.mk (And.intro h3 h4)
  clear hb hf hlim hlo h3 h4
  have hmf : ∀ (fn : Fn) (first cap : Array Value) (w : World), (Instr.makeFunc fn first cap).run Try.prog w = .ok (.func fn first cap) w := fun _ _ _ _ => rfl
  go_enter Try.func43, Try.ntmps43
  go_wp2_with (first
    | ((with_reducible refine gate_dst (N := 2) rfl ?_); refine box_event ?hg (N := 2) ?hd (cs := #[.pointer (some ⟨g, 0, none⟩)]) (t := 70) ?hr ?_; (case hd => rfl); (case hg => rfl); (case hr => first | (go_simp; done) | (go_simp; rfl)); intro gb hg w3 hbox hb
       have BK := Aside0.mk hbox
       have HB := Aside0.mk (below_step HB.out hb)
       have q1 := (hb.cell (World.block_lt_of_cell? w _ h1)).trans h1
       have q2 := (hb.cell (World.block_lt_of_cell? w _ h2)).trans h2
       clear hb hbox hg)
    | ((with_reducible refine gate_dst (N := 3) rfl ?_); refine box_event ?hg (N := 3) ?hd (cs := #[.string q.f0, .int .u64 q.f1, .int .i64 q.f2]) (t := 45) ?hr ?_; (case hd => rfl); (case hg => rfl); (case hr => first | (go_simp; done) | (go_simp; rfl)); intro gq hg w4 hbox hb
       have BK2 := Aside0.mk hbox
       have BK1 := Aside0.mk (blk_below BK.out hb)
       have HB := Aside0.mk (below_step HB.out hb)
       have q3 := (hb.cell (World.block_lt_of_cell? _ _ q1)).trans q1
       have q4 := (hb.cell (World.block_lt_of_cell? _ _ q2)).trans q2
       have hz0 : w4.cell? ⟨gb, 0, none⟩ = some (.pointer (some ⟨g, 0, none⟩)) := (blk_cell BK1.out 0).trans rfl
       have hz1 : w4.cell? ⟨gq, 0, none⟩ = some (.string q.f0) := (blk_cell BK2.out 0).trans rfl
       have hz2 : w4.cell? ⟨gq, 1, none⟩ = some (.int .u64 q.f1) := (blk_cell BK2.out 1).trans rfl
       have hz3 : w4.cell? ⟨gq, 2, none⟩ = some (.int .i64 q.f2) := (blk_cell BK2.out 2).trans rfl
       clear hb hbox hg))
  have HS : Aside0 (FindSt w g gb gq l (iv : Int) q w4) := ⟨⟨⟨A, c, q3, q4, Kd.C_below (show Kd.C k47 w A l.length l from HC.out.1) HB.out, HC.out.2⟩, hz0, hz1, hz2, hz3, HB.out⟩⟩
  have hiv0 : ((iv : Int) == 0) = false := beq_eq_false_iff_ne.mpr (by have := HLIM.out; omega)
  have hiv1 : ¬ (iv : Int) = 0 := by have := HLIM.out; omega
  have hiv2 : (iv = 0) = False := eq_false (by have := HLIM.out; omega)
  obtain ⟨n0, hn0⟩ : ∃ n, (l.length + iv - 1) / iv = n := ⟨_, rfl⟩
  rw [hn0] at HB1
  have hq1 : wrap64 ((l.length : Int) + (iv : Int)) = ((l.length + iv : Nat) : Int) := by have := HLIM.out; exact fw2 _ _ (by omega)
  have hq2 : wrap64 (((l.length + iv : Nat) : Int) - 1) = ((l.length + iv - 1 : Nat) : Int) := by have := HLIM.out; exact fws _ (by omega) (by omega)
  have hq3 : Int.tdiv ((l.length + iv - 1 : Nat) : Int) (iv : Int) = (n0 : Int) := by rw [← hn0, Int.tdiv_eq_ediv_of_nonneg (by omega)]; exact (Int.natCast_ediv _ _).symm
  have hn1 : n0 ≤ l.length + 16 := by rw [← hn0]; have := HLIM.out; exact Nat.le_trans (Nat.div_le_self _ _) (by omega)
  have hq4 : wrap64 (n0 : Int) = (n0 : Int) := by have := HLIM.out; exact fw1 _ (by omega)
  have hq5 : IntKind.i64.wrap (n0 : Int) = (n0 : Int) := (i64_w _).trans hq4
  have HN1 := Aside0.mk hn1
  clear hn1
  refine start_ (n := 18) (S := fun w' => w'.cell? ⟨gb, 0, none⟩ = some (.pointer (some ⟨g, 0, none⟩)) ∧ w'.cell? ⟨g, 0, none⟩ = some (.slice A l.length c) ∧ w'.cell? ⟨g, 1, none⟩ = some (.int .i64 (iv : Int))) (ds := []) #[false, false, false, false, false, false, false, false, false, false, false, false, false, false, false, false, false, false] (by kernel_rfl) rfl rfl ⟨hz0, q3, q4⟩ (fun hHeld => ?_)
  refine pure_ (i := 16) (N := some 6) (v := ?_) (a' := ?_) #[false, false, false, false, false, false, false, false, false, false, false, false, false, false, false, false, true, false] rfl rfl (by kernel_rfl) (fun _ _ _ h => h) (Or.inl ⟨by rfl, ?_⟩) ?_ ?_
  rotate_left
  · intro w'
    go_simp
    with_reducible rfl
  rotate_left
  · simp only [Act.put, List.setIfInBounds_toArray, List.set_cons_zero, List.set_cons_succ, i64_w, i32_w]
    rfl
  refine take_ (i := 0) (N := some 13) (v := ?_) (a' := ?_) #[true, false, false, false, false, false, false, false, false, false, false, false, false, false, false, false, true, false] rfl rfl (by kernel_rfl) (fun _ _ _ h => h) (Or.inl ⟨by rfl, ?_⟩) hHeld ?_ ?_
  rotate_left
  · rintro w' ⟨s0, s1, s2⟩
    go_simp
    with_reducible rfl
  rotate_left
  · simp only [Act.put, List.setIfInBounds_toArray, List.set_cons_zero, List.set_cons_succ, i64_w, i32_w]
    rfl
  refine pure_ (i := 1) (N := some 14) (v := ?_) (a' := ?_) #[true, true, false, false, false, false, false, false, false, false, false, false, false, false, false, false, true, false] rfl rfl (by kernel_rfl) (fun _ _ _ h => h) (Or.inl ⟨by rfl, ?_⟩) ?_ ?_
  rotate_left
  · intro w'
    go_simp
    with_reducible rfl
  rotate_left
  · simp only [Act.put, List.setIfInBounds_toArray, List.set_cons_zero, List.set_cons_succ, i64_w, i32_w]
    rfl
  refine pure_ (i := 2) (N := some 15) (v := ?_) (a' := ?_) #[true, true, true, false, false, false, false, false, false, false, false, false, false, false, false, false, true, false] rfl rfl (by kernel_rfl) (fun _ _ _ h => h) (Or.inl ⟨by rfl, ?_⟩) ?_ ?_
  rotate_left
  · intro w'
    go_simp
    with_reducible rfl
  rotate_left
  · simp only [Act.put, List.setIfInBounds_toArray, List.set_cons_zero, List.set_cons_succ, i64_w, i32_w]
    rfl
  refine take_ (i := 3) (N := some 16) (v := ?_) (a' := ?_) #[true, true, true, true, false, false, false, false, false, false, false, false, false, false, false, false, true, false] rfl rfl (by kernel_rfl) (fun _ _ _ h => h) (Or.inl ⟨by rfl, ?_⟩) hHeld ?_ ?_
  rotate_left
  · rintro w' ⟨s0, s1, s2⟩
    go_simp
    with_reducible rfl
  rotate_left
  · simp only [Act.put, List.setIfInBounds_toArray, List.set_cons_zero, List.set_cons_succ, i64_w, i32_w]
    rfl
  refine pure_ (i := 4) (N := some 17) (v := ?_) (a' := ?_) #[true, true, true, true, true, false, false, false, false, false, false, false, false, false, false, false, true, false] rfl rfl (by kernel_rfl) (fun _ _ _ h => h) (Or.inl ⟨by rfl, ?_⟩) ?_ ?_
  rotate_left
  · intro w'
    go_simp
    with_reducible rfl
  rotate_left
  · simp only [Act.put, List.setIfInBounds_toArray, List.set_cons_zero, List.set_cons_succ, i64_w, i32_w]
    rfl
  refine take_ (i := 5) (N := some 18) (v := ?_) (a' := ?_) #[true, true, true, true, true, true, false, false, false, false, false, false, false, false, false, false, true, false] rfl rfl (by kernel_rfl) (fun _ _ _ h => h) (Or.inl ⟨by rfl, ?_⟩) hHeld ?_ ?_
  rotate_left
  · rintro w' ⟨s0, s1, s2⟩
    go_simp
    with_reducible rfl
  rotate_left
  · simp only [Act.put, List.setIfInBounds_toArray, List.set_cons_zero, List.set_cons_succ, i64_w, i32_w]
    rfl
  refine pure_ (i := 6) (N := some 19) (v := ?_) (a' := ?_) #[true, true, true, true, true, true, true, false, false, false, false, false, false, false, false, false, true, false] rfl rfl (by kernel_rfl) (fun _ _ _ h => h) (Or.inl ⟨by rfl, ?_⟩) ?_ ?_
  rotate_left
  · intro w'
    go_simp
    with_reducible rfl
  rotate_left
  · simp only [Act.put, List.setIfInBounds_toArray, List.set_cons_zero, List.set_cons_succ, i64_w, i32_w]
    rfl
  refine pure_ (i := 7) (N := some 20) (v := ?_) (a' := ?_) #[true, true, true, true, true, true, true, true, false, false, false, false, false, false, false, false, true, false] rfl rfl (by kernel_rfl) (fun _ _ _ h => h) (Or.inl ⟨by rfl, ?_⟩) ?_ ?_
  rotate_left
  · intro w'
    go_simp
    with_reducible rfl
  rotate_left
  · simp only [Act.put, List.setIfInBounds_toArray, List.set_cons_zero, List.set_cons_succ, i64_w, i32_w]
    rfl
  refine take_ (i := 8) (N := some 21) (v := ?_) (a' := ?_) #[true, true, true, true, true, true, true, true, true, false, false, false, false, false, false, false, true, false] rfl rfl (by kernel_rfl) (fun _ _ _ h => h) (Or.inl ⟨by rfl, ?_⟩) hHeld ?_ ?_
  rotate_left
  · rintro w' ⟨s0, s1, s2⟩
    go_simp
    with_reducible rfl
  rotate_left
  · simp only [Act.put, List.setIfInBounds_toArray, List.set_cons_zero, List.set_cons_succ, i64_w, i32_w]
    rfl
  refine pure_ (i := 9) (N := some 22) (v := ?_) (a' := ?_) #[true, true, true, true, true, true, true, true, true, true, false, false, false, false, false, false, true, false] rfl rfl (by kernel_rfl) (fun _ _ _ h => h) (Or.inl ⟨by rfl, ?_⟩) ?_ ?_
  rotate_left
  · intro w'
    go_simp
    with_reducible rfl
  rotate_left
  · simp only [Act.put, List.setIfInBounds_toArray, List.set_cons_zero, List.set_cons_succ, i64_w, i32_w]
    rfl
  refine pure_ (i := 10) (N := some 23) (v := ?_) (a' := ?_) #[true, true, true, true, true, true, true, true, true, true, true, false, false, false, false, false, true, false] rfl rfl (by kernel_rfl) (fun _ _ _ h => h) (Or.inl ⟨by rfl, ?_⟩) ?_ ?_
  rotate_left
  · intro w'
    go_simp
    with_reducible rfl
  rotate_left
  · simp only [Act.put, List.setIfInBounds_toArray, List.set_cons_zero, List.set_cons_succ, i64_w, i32_w]
    rfl
  refine take_ (i := 11) (N := some 24) (v := ?_) (a' := ?_) #[true, true, true, true, true, true, true, true, true, true, true, true, false, false, false, false, true, false] rfl rfl (by kernel_rfl) (fun _ _ _ h => h) (Or.inl ⟨by rfl, ?_⟩) hHeld ?_ ?_
  rotate_left
  · rintro w' ⟨s0, s1, s2⟩
    go_simp
    with_reducible rfl
  rotate_left
  · simp only [Act.put, List.setIfInBounds_toArray, List.set_cons_zero, List.set_cons_succ, i64_w, i32_w]
    rfl
  refine pure_ (i := 12) (N := some 25) (v := ?_) (a' := ?_) #[true, true, true, true, true, true, true, true, true, true, true, true, true, false, false, false, true, false] rfl rfl (by kernel_rfl) (fun _ _ _ h => h) (Or.inl ⟨by rfl, ?_⟩) ?_ ?_
  rotate_left
  · intro w'
    go_simp
    with_reducible rfl
  rotate_left
  · simp only [Act.put, List.setIfInBounds_toArray, List.set_cons_zero, List.set_cons_succ, i64_w, i32_w]
    rfl
  refine pure_ (i := 13) (N := some 26) (v := ?_) (a' := ?_) #[true, true, true, true, true, true, true, true, true, true, true, true, true, true, false, false, true, false] rfl rfl (by kernel_rfl) (fun _ _ _ h => h) (Or.inl ⟨by rfl, ?_⟩) ?_ ?_
  rotate_left
  · intro w'
    go_simp
    with_reducible rfl
  rotate_left
  · simp only [Act.put, List.setIfInBounds_toArray, List.set_cons_zero, List.set_cons_succ, i64_w, i32_w]
    rfl
  refine take_ (i := 14) (N := some 27) (v := ?_) (a' := ?_) #[true, true, true, true, true, true, true, true, true, true, true, true, true, true, true, false, true, false] rfl rfl (by kernel_rfl) (fun _ _ _ h => h) (Or.inl ⟨by rfl, ?_⟩) hHeld ?_ ?_
  rotate_left
  · rintro w' ⟨s0, s1, s2⟩
    go_simp
    with_reducible rfl
  rotate_left
  · simp only [Act.put, List.setIfInBounds_toArray, List.set_cons_zero, List.set_cons_succ, i64_w, i32_w]
    rfl
  refine pure_ (i := 15) (N := some 28) (v := ?_) (a' := ?_) #[true, true, true, true, true, true, true, true, true, true, true, true, true, true, true, true, true, false] rfl rfl (by kernel_rfl) (fun _ _ _ h => h) (Or.inl ⟨by rfl, ?_⟩) ?_ ?_
  rotate_left
  · intro w'
    go_simp
    with_reducible rfl
  rotate_left
  · simp only [Act.put, List.setIfInBounds_toArray, List.set_cons_zero, List.set_cons_succ, i64_w, i32_w]
    rfl
  refine pure_ (i := 17) (N := some 7) (v := ?_) (a' := ?_) #[true, true, true, true, true, true, true, true, true, true, true, true, true, true, true, true, true, true] rfl rfl (by kernel_rfl) (fun _ _ _ h => h) (Or.inl ⟨by rfl, ?_⟩) ?_ ?_
  rotate_left
  · intro w'
    go_simp
    with_reducible rfl
  rotate_left
  · simp only [Act.put, List.setIfInBounds_toArray, List.set_cons_zero, List.set_cons_succ, i64_w, i32_w]
    rfl
  refine done_ (by kernel_rfl) ?_
  have HS2 := Aside0.mk (HS.out.step (below_drew1 (Below.refl _ _)))
  clear HS HB
  generalize w4.drew = w5 at HS2 hHeld ⊢
  have HS := HS2
  clear HS2 hHeld
  have hq6 : wrap64 ((l.length : Int) + (iv : Int) - 1) = ((l.length + iv - 1 : Nat) : Int) := by have := HLIM.out; rw [← fws (l.length + iv) (by clear hq1 hq2 hq3 hq4 hq5; omega) (by clear hq1 hq2 hq3 hq4 hq5; omega)]; rfl
  have HQA : Aside0 (wrap64 (Int.tdiv (wrap64 ((l.length : Int) + (iv : Int) - 1)) (iv : Int)) = (n0 : Int)) := ⟨by rw [hq6, hq3, hq4]⟩
  clear hq1 hq2 hq3 hq4 hq5 hq6 hn0 hz0 hz1 hz2 hz3 q3 q4 q1 q2 h1 h2 hiv0 hiv1 hiv2 BK BK1 BK2 HBLK HC hf
  go_wp2
  go_loopg [6, 7] k (fun gf v6 v7 wx => ∃ lo hi : Nat, v6 = .int .i64 (lo : Int) ∧ v7 = .int .i64 (hi : Int) ∧ Aside0 (find_b gf l iv q lo hi = some b0) ∧ Aside0 (FindSt w g gb gq l (iv : Int) q wx))
  case atStart => exact ⟨0, n0, rfl, by rw [HQA.out], HB1, HS⟩
  case round =>
    clear HS HB1 HN1
    obtain ⟨lo, hi, rfl, rfl, HF, HS⟩ := hrel
    cases gk with
    | zero => exact absurd HF.out (by simp [find_b])
    | succ g1 =>
      have H := HF.out
      clear HF
      simp only [find_b] at H
      by_cases c1 : lo < hi
      · rw [if_pos c1] at H
        have c1b : decide ((lo : Int) < (hi : Int)) = true := decide_eq_true (by omega)
        have c1c : decide (lo < hi) = true := decide_eq_true c1
        split at H
        case isFalse => cases H
        rename_i hc2
        obtain ⟨r1, hr1, H⟩ := Option.bind_eq_some_iff.mp H
        obtain ⟨mid, hmid⟩ : ∃ m, (lo + hi) / 2 = m := ⟨_, rfl⟩
        rw [hmid] at hc2 hr1 H
        have hmh : mid < hi := by omega
        have hmn : mid < 281474976710656 + 16 := by have := HLIM.out; omega
        have hlh : lo + hi < 9000000000000000000 := by have := HLIM.out; omega
        obtain ⟨mi, hmi⟩ : ∃ m, mid * iv = m := ⟨_, rfl⟩
        rw [hmi] at hc2 hr1
        have HM : Aside0 (wrap64 (Int.tdiv (wrap64 ((lo : Int) + (hi : Int))) 2) = (mid : Int)) := ⟨by rw [fw2 lo hi hlh, fhalf _ _ hmid, fw1 mid (by omega)]⟩
        have HE : Aside0 (wrap64 (wrap64 (Int.tdiv (wrap64 ((lo : Int) + (hi : Int))) 2) * (iv : Int)) = (mi : Int)) := ⟨by rw [HM.out, fwm mid iv mi hmi (by have := HLIM.out; omega)]⟩
        have HM1 : Aside0 (wrap64 (wrap64 (Int.tdiv (wrap64 ((lo : Int) + (hi : Int))) 2) + 1) = ((mid + 1 : Nat) : Int)) := ⟨by rw [HM.out]; exact fw2 mid 1 (by omega)⟩
        have HR1 : Aside0 (ikey_Compare.f (rd_T47 l (mi : Int)).f0.f0 (rd_T47 l (mi : Int)).f0.f1 (rd_T47 l (mi : Int)).f0.f2 q.f0 q.f1 q.f2 = some r1) := ⟨hr1⟩
        have HMI := Aside0.mk hc2.1
        have HH := Aside0.mk H
        clear H hr1 hc2 hmi hmid c1 hmh hmn hlh
        obtain ⟨A1, cc1, z1, z2, z3, z4⟩ := HS.out.blk
        have hz0 := HS.out.b
        clear z3 z4
        by_cases c2 : r1 < 0
        · have H := HH.out
          rw [if_pos c2] at H
          have H' := Aside0.mk H
          have c2b : decide (r1 < 0) = true := decide_eq_true c2
          clear H HH c2
          go_wp2_with (first
            | (go_at_call 62; rw [HE.out]; with_reducible refine (ahead_calls g gb gq l (iv : Int) (mi : Int) q r1 _ HS.out.blk (Int.natCast_nonneg _) (Int.ofNat_lt.2 HMI.out) HS.out.b HS.out.k0 HS.out.k1 HS.out.k2 HR1.out).mono ?_; rintro e w6 ⟨rfl, hb6⟩; have HS6 := Aside0.mk (HS.out.step hb6); clear HS hb6; have HS := HS6; clear HS6))
          go_roundg g1
          case measure => omega
          case rel => exact ⟨mid + 1, hi, by rw [HM1.out], rfl, H', HS⟩
        · have H := HH.out
          rw [if_neg c2] at H
          have H' := Aside0.mk H
          have c2b : decide (r1 < 0) = false := decide_eq_false c2
          clear H HH c2
          go_wp2_with (first
            | (go_at_call 62; rw [HE.out]; with_reducible refine (ahead_calls g gb gq l (iv : Int) (mi : Int) q r1 _ HS.out.blk (Int.natCast_nonneg _) (Int.ofNat_lt.2 HMI.out) HS.out.b HS.out.k0 HS.out.k1 HS.out.k2 HR1.out).mono ?_; rintro e w6 ⟨rfl, hb6⟩; have HS6 := Aside0.mk (HS.out.step hb6); clear HS hb6; have HS := HS6; clear HS6))
          go_roundg g1
          case measure => omega
          case rel => exact ⟨lo, mid, rfl, by rw [HM.out], H', HS⟩
      · rw [if_neg c1] at H
        obtain rfl := Option.some.inj H
        have c1b : decide ((lo : Int) < (hi : Int)) = false := decide_eq_false (by omega)
        have c1c : decide (lo < hi) = false := decide_eq_false c1
        clear H c1
        obtain ⟨A1, cc1, z1, z2, z3, z4⟩ := HS.out.blk
        have hz0 := HS.out.b
        clear z3 z4
        obtain ⟨a0, ha0⟩ : ∃ x, (lo - 1) * iv = x := ⟨_, rfl⟩
        rw [ha0] at HF1
        have HA9 : Aside0 (a0 ≤ 16 * l.length) := ⟨by have h1 := HLIM.out; have h2 := HLO.out; rw [← ha0, Nat.mul_comm 16]; exact Nat.mul_le_mul (by omega) (by omega)⟩
        have HV9 : Aside0 (wrap64 ((if (0 : Int) < wrap64 ((lo : Int) - 1) then wrap64 ((lo : Int) - 1) else 0) * (iv : Int)) = (a0 : Int)) := ⟨by
          have h1 := HLIM.out
          have h2 := HLO.out
          have h9 := HA9.out
          by_cases hz : lo = 0
          · subst hz
            rw [if_neg (by unfold wrap64; omega), Int.zero_mul, ← ha0, Nat.zero_sub, Nat.zero_mul]
            unfold wrap64
            omega
          · rw [fws lo (by omega) (by omega)]
            by_cases h1' : lo = 1
            · subst h1'
              rw [if_neg (by omega), Int.zero_mul, ← ha0, Nat.sub_self, Nat.zero_mul]
              unfold wrap64
              omega
            · rw [if_pos (by omega), fwm (lo - 1) iv a0 ha0 (by omega)]⟩
        clear ha0
        by_cases cm : 0 < wrap64 ((lo : Int) - 1)
        · have HV : Aside0 (wrap64 (wrap64 ((lo : Int) - 1) * (iv : Int)) = (a0 : Int)) := ⟨by have := HV9.out; rwa [if_pos cm] at this⟩
          have cm2 : decide (0 < wrap64 ((lo : Int) - 1)) = true := decide_eq_true cm
          clear HV9
          go_upto_region 11 with fail
          rw [HV.out]
          clear HV z1 z2 hz0
          go_loopg [9] k (fun gf v9 wx => ∃ at_ : Nat, v9 = .int .i64 (at_ : Int) ∧ Aside0 (find_s gf l q at_ = some r) ∧ Aside0 (FindSt w g gb gq l (iv : Int) q wx))
          case atStart => exact ⟨a0, rfl, HF1, HS⟩
          case round =>
            clear HS HF1 cm cm2
            obtain ⟨at_, rfl, HF, HS⟩ := hrel
            cases gk with
            | zero => exact absurd HF.out (by simp [find_s])
            | succ g2 =>
              have H := HF.out
              clear HF
              simp only [find_s] at H
              obtain ⟨A2, cc2, y1, y2, y3, y4⟩ := HS.out.blk
              have hz0 := HS.out.b
              clear y3 y4
              by_cases c1 : at_ < l.length
              · rw [if_pos c1] at H
                have d1 : decide ((at_ : Int) < (l.length : Int)) = true := decide_eq_true (by omega)
                have d2 : decide (at_ < l.length) = true := decide_eq_true c1
                obtain ⟨r1, hr1, H⟩ := Option.bind_eq_some_iff.mp H
                have HR1 : Aside0 (ikey_Compare.f (rd_T47 l (at_ : Int)).f0.f0 (rd_T47 l (at_ : Int)).f0.f1 (rd_T47 l (at_ : Int)).f0.f2 q.f0 q.f1 q.f2 = some r1) := ⟨hr1⟩
                have HW : Aside0 (wrap64 ((at_ : Int) + 1) = ((at_ + 1 : Nat) : Int)) := ⟨by have := HLIM.out; exact fw2 at_ 1 (by omega)⟩
                have HC1 := Aside0.mk c1
                clear hr1 c1
                by_cases c2 : r1 < 0
                · rw [if_pos c2] at H
                  have H' := Aside0.mk H
                  have c2b : decide (r1 < 0) = true := decide_eq_true c2
                  clear H c2
                  go_wp2_with (first
                    | (go_at_call 62; with_reducible refine (ahead_calls g gb gq l (iv : Int) (at_ : Int) q r1 _ HS.out.blk (Int.natCast_nonneg _) (Int.ofNat_lt.2 HC1.out) HS.out.b HS.out.k0 HS.out.k1 HS.out.k2 HR1.out).mono ?_; rintro e w6 ⟨rfl, hb6⟩; have HS6 := Aside0.mk (HS.out.step hb6); clear HS hb6; have HS := HS6; clear HS6))
                  go_roundg g2
                  case measure => omega
                  case rel => exact ⟨at_ + 1, by rw [HW.out], H', HS⟩
                · rw [if_neg c2] at H
                  obtain rfl := Option.some.inj H
                  have c2b : decide (r1 < 0) = false := decide_eq_false c2
                  clear H c2
                  go_wp2_with (first
                    | (go_at_call 62; with_reducible refine (ahead_calls g gb gq l (iv : Int) (at_ : Int) q r1 _ HS.out.blk (Int.natCast_nonneg _) (Int.ofNat_lt.2 HC1.out) HS.out.b HS.out.k0 HS.out.k1 HS.out.k2 HR1.out).mono ?_; rintro e w6 ⟨rfl, hb6⟩; have HS6 := Aside0.mk (HS.out.step hb6); clear HS hb6; have HS := HS6; clear HS6))
                  go_ret
                  exact ⟨by first | rfl | simp, HS.out.bel⟩
              · rw [if_neg c1] at H
                obtain rfl := Option.some.inj H
                have d1 : decide ((at_ : Int) < (l.length : Int)) = false := decide_eq_false (by omega)
                have d2 : decide (at_ < l.length) = false := decide_eq_false c1
                clear H c1
                go_wp2
                go_ret
                exact ⟨by first | rfl | simp, HS.out.bel⟩
        · have HV : Aside0 (a0 = 0) := ⟨by have := HV9.out; rw [if_neg cm, Int.zero_mul] at this; have h0 : wrap64 0 = 0 := by unfold wrap64; omega
                                           rw [h0] at this; omega⟩
          have cm2 : decide (0 < wrap64 ((lo : Int) - 1)) = false := decide_eq_false cm
          clear HV9
          go_upto_region 11 with fail
          obtain rfl := HV.out
          clear HV z1 z2 hz0
          go_loopg [9] k (fun gf v9 wx => ∃ at_ : Nat, v9 = .int .i64 (at_ : Int) ∧ Aside0 (find_s gf l q at_ = some r) ∧ Aside0 (FindSt w g gb gq l (iv : Int) q wx))
          case atStart => exact ⟨0, rfl, HF1, HS⟩
          case round =>
            clear HS HF1 cm cm2
            obtain ⟨at_, rfl, HF, HS⟩ := hrel
            cases gk with
            | zero => exact absurd HF.out (by simp [find_s])
            | succ g2 =>
              have H := HF.out
              clear HF
              simp only [find_s] at H
              obtain ⟨A2, cc2, y1, y2, y3, y4⟩ := HS.out.blk
              have hz0 := HS.out.b
              clear y3 y4
              by_cases c1 : at_ < l.length
              · rw [if_pos c1] at H
                have d1 : decide ((at_ : Int) < (l.length : Int)) = true := decide_eq_true (by omega)
                have d2 : decide (at_ < l.length) = true := decide_eq_true c1
                obtain ⟨r1, hr1, H⟩ := Option.bind_eq_some_iff.mp H
                have HR1 : Aside0 (ikey_Compare.f (rd_T47 l (at_ : Int)).f0.f0 (rd_T47 l (at_ : Int)).f0.f1 (rd_T47 l (at_ : Int)).f0.f2 q.f0 q.f1 q.f2 = some r1) := ⟨hr1⟩
                have HW : Aside0 (wrap64 ((at_ : Int) + 1) = ((at_ + 1 : Nat) : Int)) := ⟨by have := HLIM.out; exact fw2 at_ 1 (by omega)⟩
                have HC1 := Aside0.mk c1
                clear hr1 c1
                by_cases c2 : r1 < 0
                · rw [if_pos c2] at H
                  have H' := Aside0.mk H
                  have c2b : decide (r1 < 0) = true := decide_eq_true c2
                  clear H c2
                  go_wp2_with (first
                    | (go_at_call 62; with_reducible refine (ahead_calls g gb gq l (iv : Int) (at_ : Int) q r1 _ HS.out.blk (Int.natCast_nonneg _) (Int.ofNat_lt.2 HC1.out) HS.out.b HS.out.k0 HS.out.k1 HS.out.k2 HR1.out).mono ?_; rintro e w6 ⟨rfl, hb6⟩; have HS6 := Aside0.mk (HS.out.step hb6); clear HS hb6; have HS := HS6; clear HS6))
                  go_roundg g2
                  case measure => omega
                  case rel => exact ⟨at_ + 1, by rw [HW.out], H', HS⟩
                · rw [if_neg c2] at H
                  obtain rfl := Option.some.inj H
                  have c2b : decide (r1 < 0) = false := decide_eq_false c2
                  clear H c2
                  go_wp2_with (first
                    | (go_at_call 62; with_reducible refine (ahead_calls g gb gq l (iv : Int) (at_ : Int) q r1 _ HS.out.blk (Int.natCast_nonneg _) (Int.ofNat_lt.2 HC1.out) HS.out.b HS.out.k0 HS.out.k1 HS.out.k2 HR1.out).mono ?_; rintro e w6 ⟨rfl, hb6⟩; have HS6 := Aside0.mk (HS.out.step hb6); clear HS hb6; have HS := HS6; clear HS6))
                  go_ret
                  exact ⟨by first | rfl | simp, HS.out.bel⟩
              · rw [if_neg c1] at H
                obtain rfl := Option.some.inj H
                have d1 : decide ((at_ : Int) < (l.length : Int)) = false := decide_eq_false (by omega)
                have d2 : decide (at_ < l.length) = false := decide_eq_false c1
                clear H c1
                go_wp2
                go_ret
                exact ⟨by first | rfl | simp, HS.out.bel⟩
end Go.Proofs.Ythdemdjobgbpdaa.B
