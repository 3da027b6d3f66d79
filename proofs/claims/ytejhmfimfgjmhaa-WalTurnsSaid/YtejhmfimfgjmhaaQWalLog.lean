/- What is read of records that are laid one behind the other, and of a log that is cut. -/
import Derived.Test.YtejhmfimfgjmhaaP15
import Derived.Test.YtejhmfimfgjmhaaSame
import Derived.Test.YtejhmfimfgjmhaaQWalRead
namespace Go.Proofs.Ytejhmfimfgjmhaa.Q
open Go.RowKit Go.Proofs.YtejhmfimfgjmhaaW.PrintWords Go.Proofs.YtejhmfimfgjmhaaW.PrintLast Go.Proofs.YtejhmfimfgjmhaaW.PrintMore Go.Proofs.Ytejhmfimfgjmhaa.P Go.Proofs.Ytejhmfimfgjmhaa.M
set_option linter.unusedVariables false

theorem lay_mod : ∀ (d a b : Nat) (r : List Int) (begun : Bool), a % 128 = b % 128 → lay d a r begun = lay d b r begun
  | 0, _, _, _, _, _ => rfl
  | d + 1, a, b, r, begun, h => by
    unfold lay
    rw [n_mod a b _ h, pad_same a b h, lay_mod d (a + pad b + (7 + wal_n b r.length)) (b + pad b + (7 + wal_n b r.length)) _ _ (by omega)]
theorem reads_fuel (b : List Int) (hb : IsB b) : ∀ (d e : Nat) (recs : List (List Int)) (size : Nat) (now : List Int) (begun : Bool) (a : Nat), a ≤ b.length → b.length < a + d → b.length < a + e → reads d b recs size now begun a = reads e b recs size now begun a
  | 0, _, _, _, _, _, _, _, h, _ => by omega
  | d + 1, 0, _, _, _, _, _, _, _, h => by omega
  | d + 1, e + 1, recs, size, now, begun, a, ha, hd, he => by
    unfold reads
    by_cases h : (look b begun a).1 = 0
    · rw [if_pos h, if_pos h]
      have hk := look_ok hb h
      by_cases h2 : (look b begun a).2.1 = 2 ∨ (look b begun a).2.1 = 3
      · rw [if_pos h2, if_pos h2]
        exact reads_fuel b hb d e _ _ _ _ _ (by omega) (by omega) (by omega)
      · rw [if_neg h2, if_neg h2]
        exact reads_fuel b hb d e _ _ _ _ _ (by omega) (by omega) (by omega)
    · rw [if_neg h, if_neg h]
def RR (b : List Int) (recs : List (List Int)) (size : Nat) (now : List Int) (begun : Bool) (a : Nat) : List (List Int) × Nat × Nat := reads (b.length + 1) b recs size now begun a
theorem RR_step (b : List Int) (hb : IsB b) (recs : List (List Int)) (size : Nat) (now : List Int) (begun : Bool) (a : Nat) (ha : a ≤ b.length) :
    RR b recs size now begun a = if (look b begun a).1 = 0 then
      (if (look b begun a).2.1 = 2 ∨ (look b begun a).2.1 = 3 then RR b recs size (now ++ (look b begun a).2.2.1) true (look b begun a).2.2.2
       else RR b (recs ++ [now ++ (look b begun a).2.2.1]) (look b begun a).2.2.2 [] false (look b begun a).2.2.2)
    else (recs, size, (look b begun a).1 - 1) := by
  show reads (b.length + 1) b recs size now begun a = _
  rw [reads]
  by_cases h : (look b begun a).1 = 0
  · rw [if_pos h, if_pos h]
    have hk := look_ok hb h
    unfold RR
    by_cases h2 : (look b begun a).2.1 = 2 ∨ (look b begun a).2.1 = 3
    · rw [if_pos h2, if_pos h2]
      exact reads_fuel b hb _ _ _ _ _ _ _ (by omega) (by omega) (by omega)
    · rw [if_neg h2, if_neg h2]
      exact reads_fuel b hb _ _ _ _ _ _ _ (by omega) (by omega) (by omega)
  · rw [if_neg h, if_neg h]

/-! ### a piece at a place -/
theorem rd_zero (c : Int) (l : List Int) : rd (c :: l) (0 : Nat) = c := by rw [rd_nat]; rfl
theorem fxd_two {n : Nat} (h : n < 65536) : fxd (fx 2 n) = n := by rw [fxd_fx]; exact Nat.mod_eq_of_lt h
theorem fxd_four {n : Nat} (h : n < 4294967296) : fxd (fx 4 n) = n := by rw [fxd_fx]; exact Nat.mod_eq_of_lt h
theorem pc_parts (kind : Int) (data more : List Int) : pc kind data ++ more = fx 4 (psum kind data) ++ (fx 2 data.length ++ (kind :: (data ++ more))) := by
  unfold pc
  simp only [List.append_assoc, List.cons_append, List.nil_append]
theorem look_at {B data more : List Int} {kind : Int} {begun : Bool} {a : Nat} (hk0 : 1 ≤ kind) (hk1 : kind ≤ 4) (hbg : begun = decide (2 < kind)) (hdl : data.length + 7 ≤ wal_left a) (hB : B.drop (a + pad a) = pc kind data ++ more) :
    look B begun a = (0, kind, data, a + pad a + (7 + data.length)) := by
  have hlf := left_le a
  unfold look lookp
  generalize a + pad a = p at *
  have hlen : B.length - p = 7 + data.length + more.length := by rw [← List.length_drop, hB, List.length_append, pc_length]
  rw [pc_parts] at hB
  have h4 : B.drop (p + 4) = fx 2 data.length ++ (kind :: (data ++ more)) := by rw [← List.drop_drop, hB, List.drop_left' (fx_length _ _)]
  have h6 : B.drop (p + 6) = kind :: (data ++ more) := by rw [show p + 6 = p + 4 + 2 by omega, ← List.drop_drop, h4, List.drop_left' (fx_length _ _)]
  have h7 : B.drop (p + 7) = data ++ more := by rw [show p + 7 = p + 6 + 1 by omega, ← List.drop_drop, h6]; rfl
  have e2 : fxd ((B.drop (p + 4)).take 2) = data.length := by rw [h4, List.take_left' (fx_length _ _), fxd_two (by omega)]
  have e4 : fxd ((B.drop p).take 4) = psum kind data := by rw [hB, List.take_left' (fx_length _ _), fxd_four (psum_lt _ _)]
  have ek : rd B ((p + 6 : Nat) : Int) = kind := by
    have := rd_drop B (p + 6) 0
    rw [h6, rd_zero] at this
    exact this.symm
  have ed : (B.drop (p + 7)).take data.length = data := by rw [h7, List.take_left' rfl]
  rw [if_neg (by omega), if_neg (by omega), e2, if_neg (by omega), if_neg (by omega), ek, ed, e4, if_pos rfl, if_neg ?_]
  · rw [Nat.add_assoc]
  · rintro (h | h | h)
    · omega
    · omega
    · rw [hbg, decide_eq_decide] at h
      omega
theorem look_cut {C data more : List Int} {kind : Int} {begun : Bool} {a m : Nat} (hdl : data.length + 7 ≤ wal_left a) (hC : C.drop (a + pad a) = (pc kind data ++ more).take m) (hm : m < 7 + data.length) :
    (look C begun a).1 = 1 ∨ (look C begun a).1 = 2 := by
  have hlf := left_le a
  unfold look lookp
  generalize a + pad a = p at *
  have hlen : C.length - p ≤ m := by rw [← List.length_drop, hC, List.length_take]; omega
  have hlen2 : C.length - p = m := by rw [← List.length_drop, hC, List.length_take, List.length_append, pc_length]; omega
  by_cases c1 : C.length ≤ p
  · rw [if_pos c1]
    cases begun
    · left; rfl
    · right; rfl
  rw [if_neg c1]
  by_cases c2 : C.length < p + 7
  · rw [if_pos c2]; right; rfl
  rw [if_neg c2]
  rw [pc_parts] at hC
  have h4 : (C.drop (p + 4)).take 2 = fx 2 data.length := by
    rw [← List.drop_drop, hC, List.drop_take, List.drop_left' (fx_length _ _), List.take_take, show min 2 (m - 4) = 2 by omega, List.take_left' (fx_length _ _)]
  rw [h4, fxd_two (by omega), if_neg (by omega), if_pos (by omega)]
  right; rfl

/-! ### a record -/
theorem kind_begun (begun : Bool) (n m : Nat) : begun = decide (2 < wal_kind begun n m) := by
  unfold wal_kind
  cases begun <;> simp only [Bool.true_eq_false, if_true, if_false] <;> split <;> rfl
theorem kind_more (begun : Bool) (n m : Nat) : (wal_kind begun n m = 2 ∨ wal_kind begun n m = 3) ↔ n ≠ m := by
  unfold wal_kind
  cases begun <;> simp only [Bool.true_eq_false, if_true, if_false] <;> split <;> simp_all
theorem lay_done (d a : Nat) : lay d a [] true = [] := by
  cases d with
  | zero => rfl
  | succ d => unfold lay; rw [if_pos ⟨rfl, rfl⟩]
theorem lay_one {d a : Nat} {r : List Int} {begun : Bool} (hc : ¬ (begun = true ∧ r.length = 0)) : lay (d + 1) a r begun = List.replicate (pad a) 0 ++ pc (wal_kind begun (wal_n a r.length) r.length) (r.take (wal_n a r.length)) ++ lay d (a + pad a + (7 + wal_n a r.length)) (r.drop (wal_n a r.length)) true := by
  rw [lay, if_neg hc]
theorem RR_lay : ∀ (d a : Nat) (r : List Int) (begun : Bool) (now B : List Int) (recs : List (List Int)) (size : Nat) (more : List Int), IsB B → mu a r.length begun < d → ¬ (begun = true ∧ r.length = 0) → B.drop a = lay d a r begun ++ more → a ≤ B.length →
    RR B recs size now begun a = RR B (recs ++ [now ++ r]) (a + (lay d a r begun).length) [] false (a + (lay d a r begun).length)
  | 0, _, _, _, _, _, _, _, _, _, h, _, _, _ => by omega
  | d + 1, a, r, begun, now, B, recs, size, more, hb, hd, hc, hB, ha => by
    have hm := (mu_step a r.length begun hc).1
    have hn := n_le a r.length
    have hk := kind_range begun (wal_n a r.length) r.length
    have hkm := kind_more begun (wal_n a r.length) r.length
    have hl : (r.take (wal_n a r.length)).length = wal_n a r.length := by rw [List.length_take]; omega
    rw [lay_one hc] at hB ⊢
    have hB2 : B.drop (a + pad a) = pc (wal_kind begun (wal_n a r.length) r.length) (r.take (wal_n a r.length)) ++ (lay d (a + pad a + (7 + wal_n a r.length)) (r.drop (wal_n a r.length)) true ++ more) := by
      rw [← List.drop_drop, hB, List.append_assoc, List.append_assoc, List.drop_left' (List.length_replicate ..)]
    have hlook := look_at (begun := begun) hk.1 hk.2 (kind_begun begun _ _) (by rw [hl]; omega) hB2
    have hlen : B.length - (a + pad a) = 7 + wal_n a r.length + ((lay d (a + pad a + (7 + wal_n a r.length)) (r.drop (wal_n a r.length)) true).length + more.length) := by
      rw [← List.length_drop, hB2, List.length_append, pc_length, hl, List.length_append]
    have hB3 : B.drop (a + pad a + (7 + wal_n a r.length)) = lay d (a + pad a + (7 + wal_n a r.length)) (r.drop (wal_n a r.length)) true ++ more := by
      rw [← List.drop_drop, hB2, List.drop_left' (by rw [pc_length, hl])]
    rw [RR_step B hb _ _ _ _ _ ha, hlook, if_pos rfl]
    simp only [List.length_append, List.length_replicate, pc_length, hl]
    by_cases hnm : wal_n a r.length = r.length
    · rw [if_neg (fun h => hkm.1 h hnm)]
      have e0 : r.drop (wal_n a r.length) = [] := by rw [hnm, List.drop_length]
      rw [e0, lay_done, List.length_nil, hnm, List.take_length]
      rw [show a + (pad a + (7 + r.length) + 0) = a + pad a + (7 + r.length) by omega]
    · rw [if_pos (hkm.2 hnm)]
      have hc2 : ¬ (true = true ∧ (r.drop (wal_n a r.length)).length = 0) := by rw [List.length_drop]; omega
      rw [RR_lay d (a + pad a + (7 + wal_n a r.length)) (r.drop (wal_n a r.length)) true (now ++ r.take (wal_n a r.length)) B recs size more hb (by rw [List.length_drop]; omega) hc2 hB3 (by omega)]
      rw [List.append_assoc, List.take_append_drop]
      rw [show a + (pad a + (7 + wal_n a r.length) + (lay d (a + pad a + (7 + wal_n a r.length)) (r.drop (wal_n a r.length)) true).length) = a + pad a + (7 + wal_n a r.length) + (lay d (a + pad a + (7 + wal_n a r.length)) (r.drop (wal_n a r.length)) true).length by omega]
theorem RR_cut : ∀ (d a : Nat) (r : List Int) (begun : Bool) (now C : List Int) (recs : List (List Int)) (size m : Nat) (more : List Int), IsB C → mu a r.length begun < d → ¬ (begun = true ∧ r.length = 0) → C.drop a = (lay d a r begun ++ more).take m → m < (lay d a r begun).length → a ≤ C.length →
    ∃ e, e ≤ 1 ∧ RR C recs size now begun a = (recs, size, e)
  | 0, _, _, _, _, _, _, _, _, _, _, h, _, _, _, _ => by omega
  | d + 1, a, r, begun, now, C, recs, size, m, more, hb, hd, hc, hC, hmm, ha => by
    have hm := (mu_step a r.length begun hc).1
    have hn := n_le a r.length
    have hk := kind_range begun (wal_n a r.length) r.length
    have hkm := kind_more begun (wal_n a r.length) r.length
    have hl : (r.take (wal_n a r.length)).length = wal_n a r.length := by rw [List.length_take]; omega
    rw [lay_one hc] at hC hmm
    have hC2 : C.drop (a + pad a) = (pc (wal_kind begun (wal_n a r.length) r.length) (r.take (wal_n a r.length)) ++ (lay d (a + pad a + (7 + wal_n a r.length)) (r.drop (wal_n a r.length)) true ++ more)).take (m - pad a) := by
      rw [← List.drop_drop, hC, List.drop_take, List.append_assoc, List.append_assoc, List.drop_left' (List.length_replicate ..)]
    rw [RR_step C hb _ _ _ _ _ ha]
    by_cases hs : m - pad a < 7 + wal_n a r.length
    · have hlook := look_cut (begun := begun) (a := a) (by rw [hl]; omega) hC2 (by rw [hl]; exact hs)
      rw [if_neg (by omega)]
      exact ⟨_, by omega, rfl⟩
    · have hpcl : (pc (wal_kind begun (wal_n a r.length) r.length) (r.take (wal_n a r.length))).length = 7 + wal_n a r.length := by rw [pc_length, hl]
      have hC3 : C.drop (a + pad a) = pc (wal_kind begun (wal_n a r.length) r.length) (r.take (wal_n a r.length)) ++ (lay d (a + pad a + (7 + wal_n a r.length)) (r.drop (wal_n a r.length)) true ++ more).take (m - pad a - (7 + wal_n a r.length)) := by
        rw [hC2, List.take_append, hpcl, List.take_of_length_le (by rw [hpcl]; omega)]
      have hlook := look_at (begun := begun) hk.1 hk.2 (kind_begun begun _ _) (by rw [hl]; omega) hC3
      have hlen : C.length - (a + pad a) ≥ 7 + wal_n a r.length := by
        rw [← List.length_drop, hC3, List.length_append, hpcl]
        omega
      have hC4 : C.drop (a + pad a + (7 + wal_n a r.length)) = (lay d (a + pad a + (7 + wal_n a r.length)) (r.drop (wal_n a r.length)) true ++ more).take (m - pad a - (7 + wal_n a r.length)) := by
        rw [← List.drop_drop, hC3, List.drop_left' hpcl]
      rw [hlook, if_pos rfl]
      simp only [hl]
      simp only [List.length_append, List.length_replicate, hpcl] at hmm
      by_cases hnm : wal_n a r.length = r.length
      · have e0 : r.drop (wal_n a r.length) = [] := by rw [hnm, List.drop_length]
        rw [e0, lay_done, List.length_nil] at hmm
        omega
      · rw [if_pos (hkm.2 hnm)]
        have hc2 : ¬ (true = true ∧ (r.drop (wal_n a r.length)).length = 0) := by rw [List.length_drop]; omega
        exact RR_cut d (a + pad a + (7 + wal_n a r.length)) (r.drop (wal_n a r.length)) true _ C recs size (m - pad a - (7 + wal_n a r.length)) more hb (by rw [List.length_drop]; omega) hc2 hC4 (by omega) (by omega)

/-! ### a log -/
def layAll : Nat → List (List Int) → List Int
  | _, [] => []
  | a, r :: rs => putB a r ++ layAll (a + (putB a r).length) rs
theorem putB_lay (a : Nat) (r : List Int) : putB a r = lay (2 * r.length + 4) a r false := lay_mod _ _ _ _ _ (by omega)
theorem mu_put' (a : Nat) (r : List Int) : mu a r.length false < 2 * r.length + 4 := by unfold mu; simp only [Bool.false_eq_true, if_false]; split <;> omega
theorem RR_end {B : List Int} {recs : List (List Int)} {a : Nat} (hb : IsB B) (h : a = B.length) : RR B recs a [] false a = (recs, a, 0) := by
  have hl : look B false a = (1, 0, [], 0) := by unfold look lookp; rw [if_pos (by omega)]; rfl
  rw [RR_step B hb _ _ _ _ _ (by omega), hl]
  rfl
theorem RR_all : ∀ (rs : List (List Int)) (a : Nat) (B : List Int) (recs : List (List Int)), IsB B → B.drop a = layAll a rs → a ≤ B.length → RR B recs a [] false a = (recs ++ rs, a + (layAll a rs).length, 0)
  | [], a, B, recs, hb, hB, ha => by
    have : B.length - a = 0 := by rw [← List.length_drop, hB]; rfl
    rw [RR_end hb (by omega), List.append_nil]
    rfl
  | r :: rs, a, B, recs, hb, hB, ha => by
    have hlen : B.length - a = (putB a r).length + (layAll (a + (putB a r).length) rs).length := by rw [← List.length_drop, hB]; show (putB a r ++ layAll _ rs).length = _; rw [List.length_append]
    have h1 := RR_lay (2 * r.length + 4) a r false [] B recs a (layAll (a + (putB a r).length) rs) hb (mu_put' a r) (fun h => by cases h.1) (by rw [hB, ← putB_lay]; rfl) ha
    rw [← putB_lay] at h1
    rw [h1, List.nil_append, RR_all rs (a + (putB a r).length) B (recs ++ [r]) hb (by rw [← List.drop_drop, hB]; show (putB a r ++ layAll _ rs).drop _ = _; rw [List.drop_left' rfl]) (by omega)]
    rw [List.append_assoc]
    show (recs ++ ([r] ++ rs), a + (putB a r).length + (layAll (a + (putB a r).length) rs).length, 0) = (recs ++ r :: rs, a + (putB a r ++ layAll (a + (putB a r).length) rs).length, 0)
    rw [List.length_append, ← Nat.add_assoc]
    rfl
theorem RR_allcut : ∀ (rs : List (List Int)) (a : Nat) (C : List Int) (recs : List (List Int)) (m : Nat), IsB C → C.drop a = (layAll a rs).take m → a ≤ C.length →
    ∃ j e, j ≤ rs.length ∧ e ≤ 1 ∧ RR C recs a [] false a = (recs ++ rs.take j, a + (layAll a (rs.take j)).length, e) ∧ (layAll a (rs.take j)).length ≤ m ∧ (j < rs.length → m < (layAll a (rs.take (j + 1))).length)
  | [], a, C, recs, m, hb, hC, ha => by
    have : C.length - a = 0 := by rw [← List.length_drop, hC]; show (([] : List Int).take m).length = 0; rw [List.take_nil]; rfl
    refine ⟨0, 0, Nat.le_refl _, by decide, ?_, Nat.zero_le _, fun h => by cases h⟩
    rw [RR_end hb (by omega), List.take_nil, List.append_nil]
    rfl
  | r :: rs, a, C, recs, m, hb, hC, ha => by
    have hC' : C.drop a = (putB a r ++ layAll (a + (putB a r).length) rs).take m := hC
    by_cases hs : m < (putB a r).length
    · obtain ⟨e, he, h⟩ := RR_cut (2 * r.length + 4) a r false [] C recs a m (layAll (a + (putB a r).length) rs) hb (mu_put' a r) (fun h => by cases h.1) (by rw [← putB_lay]; exact hC') (by rw [← putB_lay]; exact hs) ha
      refine ⟨0, e, Nat.zero_le _, he, ?_, Nat.zero_le _, fun _ => ?_⟩
      · rw [h, List.take_zero, List.append_nil]
        rfl
      · show m < (putB a r ++ layAll _ (rs.take 0)).length
        rw [List.length_append]
        omega
    · have hC2 : C.drop a = putB a r ++ (layAll (a + (putB a r).length) rs).take (m - (putB a r).length) := by
        rw [hC', List.take_append, List.take_of_length_le (by omega)]
      have hlen : C.length - a ≥ (putB a r).length := by rw [← List.length_drop, hC2, List.length_append]; omega
      have h1 := RR_lay (2 * r.length + 4) a r false [] C recs a ((layAll (a + (putB a r).length) rs).take (m - (putB a r).length)) hb (mu_put' a r) (fun h => by cases h.1) (by rw [← putB_lay]; exact hC2) ha
      rw [← putB_lay] at h1
      obtain ⟨j, e, hj, he, h, hle, hlt⟩ := RR_allcut rs (a + (putB a r).length) C (recs ++ [r]) (m - (putB a r).length) hb (by rw [← List.drop_drop, hC2, List.drop_left' rfl]) (by omega)
      refine ⟨j + 1, e, by rw [List.length_cons]; omega, he, ?_, ?_, fun hj2 => ?_⟩
      · rw [h1, List.nil_append, h, List.append_assoc]
        show (recs ++ ([r] ++ rs.take j), a + (putB a r).length + (layAll (a + (putB a r).length) (rs.take j)).length, e) = (recs ++ (r :: rs).take (j + 1), a + (putB a r ++ layAll (a + (putB a r).length) (rs.take j)).length, e)
        rw [List.length_append, ← Nat.add_assoc]
        rfl
      · show (putB a r ++ layAll (a + (putB a r).length) (rs.take j)).length ≤ m
        rw [List.length_append]
        omega
      · have := hlt (by rw [List.length_cons] at hj2; omega)
        show m < (putB a r ++ layAll (a + (putB a r).length) (rs.take (j + 1))).length
        rw [List.length_append]
        omega
theorem read_all (rs : List (List Int)) (hb : IsB (layAll 0 rs)) : readB (layAll 0 rs) = (rs, (layAll 0 rs).length, 0) := by
  have := RR_all rs 0 (layAll 0 rs) [] hb rfl (Nat.zero_le _)
  rw [List.nil_append, Nat.zero_add] at this
  exact this
theorem read_cut (rs : List (List Int)) (m : Nat) (hb : IsB (layAll 0 rs)) : ∃ j e, j ≤ rs.length ∧ e ≤ 1 ∧ readB ((layAll 0 rs).take m) = (rs.take j, (layAll 0 (rs.take j)).length, e) ∧ (layAll 0 (rs.take j)).length ≤ m ∧ (j < rs.length → m < (layAll 0 (rs.take (j + 1))).length) := by
  obtain ⟨j, e, h1, h2, h3, h4, h5⟩ := RR_allcut rs 0 ((layAll 0 rs).take m) [] m (hb.take _) rfl (Nat.zero_le _)
  rw [List.nil_append, Nat.zero_add] at h3
  exact ⟨j, e, h1, h2, h3, h4, h5⟩
theorem lay_lo : ∀ (d a : Nat) (r : List Int), mu a r.length true < d → r.length ≤ (lay d a r true).length
  | 0, _, _, h => by omega
  | d + 1, a, r, h => by
    unfold lay
    by_cases hc : true = true ∧ r.length = 0
    · omega
    · rw [if_neg hc]
      have hm := (mu_step a r.length true hc).1
      have hn := n_le a r.length
      have ih := lay_lo d (a + pad a + (7 + wal_n a r.length)) (r.drop (wal_n a r.length)) (by rw [List.length_drop]; omega)
      rw [List.length_drop] at ih
      simp only [List.length_append, List.length_replicate, pc_length, List.length_take]
      omega
theorem lay_up : ∀ (d a : Nat) (r : List Int), a % 128 = 0 → (lay d a r true).length ≤ r.length + 7 * ((r.length + 120) / 121)
  | 0, _, _, _ => by unfold lay; simp
  | d + 1, a, r, h => by
    unfold lay
    by_cases hc : true = true ∧ r.length = 0
    · rw [if_pos hc]; simp
    · rw [if_neg hc]
      have hp : pad a = 0 := by unfold pad; rw [if_neg (by omega)]
      have hl : wal_left a = 128 := by unfold wal_left; rw [if_neg (by omega)]; omega
      have hn : wal_n a r.length = if r.length < 121 then r.length else 121 := by unfold wal_n; rw [hl]
      rw [hp]
      by_cases hs : r.length < 121
      · rw [if_pos hs] at hn
        rw [hn]
        have ez : (lay d (a + 0 + (7 + r.length)) (r.drop r.length) true).length = 0 := by
          rw [List.drop_length]
          cases d with
          | zero => rfl
          | succ d => unfold lay; rw [if_pos ⟨rfl, rfl⟩]; rfl
        simp only [List.length_append, List.length_replicate, pc_length, List.length_take, ez]
        have : ¬ r.length = 0 := fun e => hc ⟨rfl, e⟩
        omega
      · rw [if_neg hs] at hn
        rw [hn]
        have ih := lay_up d (a + 0 + (7 + 121)) (r.drop 121) (by omega)
        rw [List.length_drop] at ih
        simp only [List.length_append, List.length_replicate, pc_length, List.length_take]
        omega
theorem put_length (a : Nat) (r : List Int) : r.length + 7 ≤ (putB a r).length ∧ (putB a r).length ≤ r.length + 7 * (r.length / 121 + 2) + 6 := by
  unfold putB
  rw [show 2 * r.length + 4 = (2 * r.length + 3) + 1 by omega]
  have hmu := mu_put (a % 128) r
  generalize a % 128 = a at *
  unfold lay
  have hc : ¬ (false = true ∧ r.length = 0) := fun h => by cases h.1
  rw [if_neg hc]
  have hm := (mu_step a r.length false hc).1
  have hn := n_le a r.length
  have hne := n_eq a r.length
  have hp := pad_le a
  have hlp := left_pad a
  have hpm := pad_mod a
  have lo := lay_lo (2 * r.length + 3) (a + pad a + (7 + wal_n a r.length)) (r.drop (wal_n a r.length)) (by rw [List.length_drop]; omega)
  rw [List.length_drop] at lo
  simp only [List.length_append, List.length_replicate, pc_length, List.length_take]
  refine ⟨by omega, ?_⟩
  rcases hne with hne | hne
  · have ez : (lay (2 * r.length + 3) (a + pad a + (7 + wal_n a r.length)) (r.drop (wal_n a r.length)) true).length = 0 := by
      rw [hne, List.drop_length]
      unfold lay
      rw [if_pos ⟨rfl, rfl⟩]
      rfl
    omega
  · have up := lay_up (2 * r.length + 3) (a + pad a + (7 + wal_n a r.length)) (r.drop (wal_n a r.length)) (by omega)
    rw [List.length_drop] at up
    omega

theorem putB_IsB {a : Nat} {r : List Int} (hb : IsB r) : IsB (putB a r) := by
  have : ∀ (d a : Nat) (r : List Int) (begun : Bool), IsB r → IsB (lay d a r begun) := by
    intro d
    induction d with
    | zero => intro _ _ _ _; exact IsB.nil
    | succ d ih =>
      intro a r begun hb
      unfold lay
      split
      · exact IsB.nil
      · have hk := kind_range begun (wal_n a r.length) r.length
        refine (IsB.append (fun x hx => ?_) (pc_IsB (by omega) (by omega) (hb.take _))).append (ih _ _ _ (hb.drop _))
        rw [List.eq_of_mem_replicate hx]
        exact ⟨by decide, by decide⟩
  exact this _ _ _ _ hb
theorem layAll_IsB : ∀ (rs : List (List Int)) (a : Nat), (∀ r ∈ rs, IsB r) → IsB (layAll a rs)
  | [], _, _ => IsB.nil
  | r :: rs, a, h => (putB_IsB (h r (List.mem_cons_self ..))).append (layAll_IsB rs _ fun x hx => h x (List.mem_cons_of_mem _ hx))
theorem layAll_len : ∀ (rs : List (List Int)) (a : Nat), (∀ r ∈ rs, r.length ≤ 131072) → (layAll a rs).length ≤ 140000 * rs.length
  | [], _, _ => Nat.zero_le _
  | r :: rs, a, h => by
    have h1 := (put_length a r).2
    have h2 := h r (List.mem_cons_self ..)
    have h3 := layAll_len rs (a + (putB a r).length) fun x hx => h x (List.mem_cons_of_mem _ hx)
    show (putB a r ++ layAll _ rs).length ≤ _
    rw [List.length_append, List.length_cons]
    omega
theorem layAll_append : ∀ (x y : List (List Int)) (a : Nat), layAll a (x ++ y) = layAll a x ++ layAll (a + (layAll a x).length) y
  | [], y, a => rfl
  | r :: x, y, a => by
    show putB a r ++ layAll (a + (putB a r).length) (x ++ y) = (putB a r ++ layAll (a + (putB a r).length) x) ++ _
    rw [layAll_append x y, List.append_assoc, show (layAll a (r :: x)).length = (putB a r).length + (layAll (a + (putB a r).length) x).length from List.length_append, Nat.add_assoc]
def allFit (rs : List (List Int)) : Bool := rs.all fun r => decide (r.length ≤ 131072)
theorem allFit_iff {rs : List (List Int)} : allFit rs = true ↔ ∀ r ∈ rs, r.length ≤ 131072 := by
  unfold allFit
  rw [List.all_eq_true]
  exact ⟨fun h r hr => of_decide_eq_true (h r hr), fun h r hr => decide_eq_true (h r hr)⟩
theorem rd_L4_get (l : List (List Int)) (i : Nat) (h : i < l.length) : rd_L4 l (i : Int) = l[i] := by
  unfold rd_L4
  rw [Int.toNat_natCast, List.getD_eq_getElem?_getD, List.getElem?_eq_getElem h]
  rfl
theorem la1 (a : Nat) (h : a < 999999999999999) : wrap64 ((a : Int) + 1) = ((a + 1 : Nat) : Int) := by unfold wrap64; omega
theorem laid_l0 (x0 : List (List Int)) (hb : ∀ r ∈ x0, IsB r) (hs : x0.length ≤ 1000) : ∀ (d i : Nat) (x4 : List Int), i + d = x0.length → x4.length ≤ 140000 * i →
    Ev (fun k => staddlelaw09_laid.l0 k x0 x4 (i : Int)) (if allFit (x0.drop i) = true then (x4 ++ layAll x4.length (x0.drop i), true) else ([], false))
  | 0, i, x4, hi, hx => by
    refine Ev.step (f := fun _ => some (x4, true)) (fun k => ?_) ?_
    · simp only [staddlelaw09_laid.l0]
      rw [if_neg (by omega)]
    · rw [List.drop_of_length_le (by omega)]
      show Ev _ (x4 ++ [], true)
      rw [List.append_nil]
      exact Ev.now _
  | d + 1, i, x4, hi, hx => by
    have hlt : i < x0.length := by omega
    have hg := rd_L4_get x0 i hlt
    have hd := List.drop_eq_getElem_cons hlt
    have hrb : IsB x0[i] := hb _ (List.getElem_mem hlt)
    have ih := fun y h => laid_l0 x0 hb hs d (i + 1) y (by omega) h
    rw [hd]
    generalize x0[i] = r at *
    by_cases hr : r.length ≤ 131072
    · have hp := (put_length x4.length r).2
      have hpl := (put_length x4.length r).1
      refine Ev.step (f := fun k => (wal_Put.f k ((x4.length : Nat) : Int) r).bind fun bt318 => (if bt318.2 = 0 then (if x4.length + bt318.1.length < 140737488355328 then (staddlelaw09_laid.l0 k x0 (x4 ++ bt318.1) (((i + 1 : Nat) : Int))) else (none)) else (some (([] : List Int), false)))) (fun k => ?_) ?_
      · simp only [staddlelaw09_laid.l0]
        rw [if_pos (by omega), if_pos (by omega), hg, la1 i (by omega)]
      · refine Ev.bind (Put_ev _ r (by omega) hrb hr) (Ev.ifT rfl (Ev.ifT ?_ ?_))
        · show x4.length + (putB (x4.length : Int).toNat r).length < 140737488355328
          rw [Int.toNat_natCast]
          omega
        · simp only [Int.toNat_natCast]
          have h := ih (x4 ++ putB x4.length r) (by rw [List.length_append]; omega)
          have e : (if allFit (x0.drop (i + 1)) = true then (x4 ++ putB x4.length r ++ layAll (x4 ++ putB x4.length r).length (x0.drop (i + 1)), true) else ([], false)) = (if allFit (r :: x0.drop (i + 1)) = true then (x4 ++ layAll x4.length (r :: x0.drop (i + 1)), true) else ([], false)) := by
            have ea : allFit (r :: x0.drop (i + 1)) = allFit (x0.drop (i + 1)) := by
              unfold allFit
              rw [List.all_cons, decide_eq_true hr, Bool.true_and]
            rw [ea, List.length_append, List.append_assoc]
            rfl
          rw [← e]
          exact h
    · have ea : allFit (r :: x0.drop (i + 1)) = false := by
        unfold allFit
        rw [List.all_cons, decide_eq_false hr, Bool.false_and]
      rw [ea]
      refine Ev.step (f := fun k => (wal_Put.f k ((x4.length : Nat) : Int) r).bind fun bt318 => (if bt318.2 = 0 then (if x4.length + bt318.1.length < 140737488355328 then (staddlelaw09_laid.l0 k x0 (x4 ++ bt318.1) (((i + 1 : Nat) : Int))) else (none)) else (some (([] : List Int), false)))) (fun k => ?_) ?_
      · simp only [staddlelaw09_laid.l0]
        rw [if_pos (by omega), if_pos (by omega), hg, la1 i (by omega)]
      · exact Ev.bind (Put_long _ r (by omega) (by omega)) (Ev.ifF (by decide) (Ev.now _))
theorem laid_ev (x0 : List (List Int)) (hb : ∀ r ∈ x0, IsB r) (hs : x0.length ≤ 1000) : Ev (fun k => staddlelaw09_laid.f k x0) (if allFit x0 = true then (layAll 0 x0, true) else ([], false)) := by
  have h := laid_l0 x0 hb hs x0.length 0 [] (by omega) (by simp)
  rw [List.drop_zero, List.nil_append] at h
  exact h
theorem Same_l0 (x y : List (List Int)) (hl : x.length = y.length) (hs : x.length < 5864062014805) : ∀ (d i : Nat), i + d = x.length → (∀ j, i ≤ j → j < x.length → rd_L4 x (j : Int) = rd_L4 y (j : Int)) → Ev (fun k => staddleref09_Same.l0 k x y (i : Int)) true
  | 0, i, hi, _ => by
    refine Ev.step (f := fun _ => some true) (fun k => ?_) (Ev.now _)
    simp only [staddleref09_Same.l0]
    rw [if_neg (by omega)]
  | d + 1, i, hi, h => by
    refine Ev.step (fun k => ?_) (Same_l0 x y hl hs d (i + 1) (by omega) (fun j h1 h2 => h j (by omega) h2))
    simp only [staddleref09_Same.l0]
    rw [if_pos (by omega), if_pos (by omega), if_pos (by omega), if_pos (by rw [h i (Nat.le_refl _) (by omega)]), la1 i (by omega)]
theorem Same_refl (x : List (List Int)) (hs : x.length < 5864062014805) : Ev (fun k => staddleref09_Same.f k x x) true := by
  unfold staddleref09_Same.f
  exact Ev.ifT rfl (Same_l0 x x rfl hs x.length 0 (by omega) (fun _ _ _ => rfl))
end Go.Proofs.Ytejhmfimfgjmhaa.Q
