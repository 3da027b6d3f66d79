/- What is proved: for every place, number of blocks and record staddlelaw09.WalPlaces answers true. No condition but that the record can stand in memory. -/
import Derived.Test.YtejhmfimfgjmhaaP15
import Derived.Test.YtejhmfimfgjmhaaQWalPut
import Derived.Test.YtejhmfimfgjmhaaQAwake09
namespace Go.Proofs.Ytejhmfimfgjmhaa.Pure
open Go.RowKit Go.Proofs.YtejhmfimfgjmhaaW.PrintWords Go.Proofs.YtejhmfimfgjmhaaW.PrintLast Go.Proofs.YtejhmfimfgjmhaaW.PrintMore Go.Proofs.Ytejhmfimfgjmhaa.P Go.Proofs.Ytejhmfimfgjmhaa.M Go.Proofs.Ytejhmfimfgjmhaa.Q
theorem lay_lo : ∀ (d a : Nat) (r : List Int), mu a r.length true < d → r.length ≤ (lay d a r true).length
  | 0, _, _, h => by omega
  | d + 1, a, r, h => by
    unfold lay
    by_cases hc : true = true ∧ r.length = 0
    · omega
    · rw [if_neg hc]
      have hm := (mu_step a r.length true hc).1
      have hn := n_le a r.length
      have ih := lay_lo d (a + pad a + (7 + wal_n a r.length)) (r.drop (wal_n a r.length)) (by rw [List.length_drop]; omega)
      rw [List.length_drop] at ih
      simp only [List.length_append, List.length_replicate, pc_length, List.length_take]
      omega
theorem lay_up : ∀ (d a : Nat) (r : List Int), a % 128 = 0 → (lay d a r true).length ≤ r.length + 7 * ((r.length + 120) / 121)
  | 0, _, _, _ => by unfold lay; simp
  | d + 1, a, r, h => by
    unfold lay
    by_cases hc : true = true ∧ r.length = 0
    · rw [if_pos hc]; simp
    · rw [if_neg hc]
      have hp : pad a = 0 := by unfold pad; rw [if_neg (by omega)]
      have hl : wal_left a = 128 := by unfold wal_left; rw [if_neg (by omega)]; omega
      have hn : wal_n a r.length = if r.length < 121 then r.length else 121 := by unfold wal_n; rw [hl]
      rw [hp]
      by_cases hs : r.length < 121
      · rw [if_pos hs] at hn
        rw [hn]
        have ez : (lay d (a + 0 + (7 + r.length)) (r.drop r.length) true).length = 0 := by
          rw [List.drop_length]
          cases d with
          | zero => rfl
          | succ d => unfold lay; rw [if_pos ⟨rfl, rfl⟩]; rfl
        simp only [List.length_append, List.length_replicate, pc_length, List.length_take, ez]
        have : ¬ r.length = 0 := fun e => hc ⟨rfl, e⟩
        omega
      · rw [if_neg hs] at hn
        rw [hn]
        have ih := lay_up d (a + 0 + (7 + 121)) (r.drop 121) (by omega)
        rw [List.length_drop] at ih
        simp only [List.length_append, List.length_replicate, pc_length, List.length_take]
        omega
theorem put_length (a : Nat) (r : List Int) : r.length + 7 ≤ (putB a r).length ∧ (putB a r).length ≤ r.length + 7 * (r.length / 121 + 2) + 6 := by
  unfold putB
  rw [show 2 * r.length + 4 = (2 * r.length + 3) + 1 by omega]
  have hmu := mu_put (a % 128) r
  generalize a % 128 = a at *
  unfold lay
  have hc : ¬ (false = true ∧ r.length = 0) := fun h => by cases h.1
  rw [if_neg hc]
  have hm := (mu_step a r.length false hc).1
  have hn := n_le a r.length
  have hne := n_eq a r.length
  have hp := pad_le a
  have hlp := left_pad a
  have hpm := pad_mod a
  have lo := lay_lo (2 * r.length + 3) (a + pad a + (7 + wal_n a r.length)) (r.drop (wal_n a r.length)) (by rw [List.length_drop]; omega)
  rw [List.length_drop] at lo
  simp only [List.length_append, List.length_replicate, pc_length, List.length_take]
  refine ⟨by omega, ?_⟩
  rcases hne with hne | hne
  · have ez : (lay (2 * r.length + 3) (a + pad a + (7 + wal_n a r.length)) (r.drop (wal_n a r.length)) true).length = 0 := by
      rw [hne, List.drop_length]
      unfold lay
      rw [if_pos ⟨rfl, rfl⟩]
      rfl
    omega
  · have up := lay_up (2 * r.length + 3) (a + pad a + (7 + wal_n a r.length)) (r.drop (wal_n a r.length)) (by omega)
    rw [List.length_drop] at up
    omega
theorem places_fin (a b : Int) (l : List Int) (hb : IsB l) (hl : l.length ≤ 100000) (ha : 0 ≤ a) (hb0 : 0 ≤ b) :
    Ev (fun k => ((wal_Put.f k (Int.tmod a 100000) l).bind fun bt341 => ((wal_Put.f k (wrap64 ((Int.tmod a 100000) + (wrap64 (128 * (Int.tmod b 1000))))) l).bind fun bt345 => (if true = true then (if bt341.2 = 0 then (if bt345.2 = 0 then (if (strOfNums bt341.1).toList = (strOfNums bt345.1).toList then (if (bt341.1.length : Int) ≥ (wrap64 ((l.length : Int) + 7)) then (some (decide ((bt341.1.length : Int) ≤ (wrap64 ((wrap64 ((l.length : Int) + (wrap64 (7 * (wrap64 ((wrap64 ((l.length : Int) / 121)) + 2)))))) + 6))))) else (some false)) else (some false)) else (some false)) else (some false)) else (some false))))) true := by
  have ea : Int.tmod a 100000 = a % 100000 := Int.tmod_eq_emod_of_nonneg ha
  have eb : Int.tmod b 1000 = b % 1000 := Int.tmod_eq_emod_of_nonneg hb0
  rw [ea, eb, w64 (n := 128 * (b % 1000)) (by omega) (by omega), w64 (n := a % 100000 + 128 * (b % 1000)) (by omega) (by omega)]
  refine Ev.bind (Put_ev _ l (by omega) hb (by omega)) (Ev.bind (Put_ev _ l (by omega) hb (by omega)) (Ev.ifT rfl (Ev.ifT rfl (Ev.ifT rfl ?_))))
  have e : putB (a % 100000 + 128 * (b % 1000)).toNat l = putB (a % 100000).toNat l := by
    unfold putB
    rw [show (a % 100000 + 128 * (b % 1000)).toNat % 128 = (a % 100000).toNat % 128 by omega]
  refine Ev.ifT (by rw [e]) ?_
  have hlen := put_length (a % 100000).toNat l
  rw [w64 (n := (l.length : Int) + 7) (by omega) (by omega), w64 (n := (l.length : Int) / 121) (by omega) (by omega), w64 (n := (l.length : Int) / 121 + 2) (by omega) (by omega),
    w64 (n := 7 * ((l.length : Int) / 121 + 2)) (by omega) (by omega), w64 (n := (l.length : Int) + 7 * ((l.length : Int) / 121 + 2)) (by omega) (by omega), w64 (n := (l.length : Int) + 7 * ((l.length : Int) / 121 + 2) + 6) (by omega) (by omega)]
  refine Ev.ifT (by show ((putB (a % 100000).toNat l).length : Int) ≥ _; omega) ?_
  rw [decide_eq_true (show ((putB (a % 100000).toNat l).length : Int) ≤ _ by omega)]
  exact Ev.now _
theorem places_j1 (a b : Int) (l : List Int) (hb : IsB l) (hl : l.length ≤ 140737488351232) (ha : 0 ≤ a) (hb0 : 0 ≤ b) : Ev (fun k => staddlelaw09_WalPlaces.j1 k a b l true) true := by
  by_cases h : 100000 < l.length
  · refine Ev.step (fun k => ?_) (places_fin a b (l.take 100000) (hb.take _) (by rw [List.length_take]; omega) ha hb0)
    simp only [staddlelaw09_WalPlaces.j1]
    rw [if_pos (by omega), if_pos (by omega)]
  · refine Ev.step (fun k => ?_) (places_fin a b l hb (by omega) ha hb0)
    simp only [staddlelaw09_WalPlaces.j1]
    rw [if_neg (by omega)]
theorem neg_wrap (a : Int) (h0 : -9223372036854775808 ≤ a) (h : a < 0) : wrap64 (-(wrap64 (a + 1))) = -(a + 1) := by
  rw [w64 (n := a + 1) (by omega) (by omega)]
  exact w64 (by omega) (by omega)
theorem WalPlaces : staddlelaw09_WalPlaces.Pure := by
  intro a b l wa wb _ hl hw
  have hb := IsB.of_wf hw
  have ha := wf_i64 wa
  have hb2 := wf_i64 wb
  have j0 : ∀ a : Int, 0 ≤ a → Ev (fun k => staddlelaw09_WalPlaces.j0 k a b l true) true := by
    intro a ha0
    by_cases h : b < 0
    · refine Ev.step (fun k => ?_) (places_j1 a (-(b + 1)) l hb (by omega) ha0 (by omega))
      simp only [staddlelaw09_WalPlaces.j0]
      rw [if_pos h, neg_wrap b hb2.1 h]
    · refine Ev.step (fun k => ?_) (places_j1 a b l hb (by omega) ha0 (by omega))
      simp only [staddlelaw09_WalPlaces.j0]
      rw [if_neg h]
  have h : Ev (fun k => staddlelaw09_WalPlaces.f k a b l) true := by
    unfold staddlelaw09_WalPlaces.f
    refine Ev.bind awake_ev ?_
    by_cases h : a < 0
    · refine Ev.ifT h ?_
      rw [neg_wrap a ha.1 h]
      exact j0 _ (by omega)
    · exact Ev.ifF h (j0 _ (by omega))
  exact h.rounds
end Go.Proofs.Ytejhmfimfgjmhaa.Pure
