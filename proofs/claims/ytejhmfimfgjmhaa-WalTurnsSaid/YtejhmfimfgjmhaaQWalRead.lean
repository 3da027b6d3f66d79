/- What wal's Read comes to: piece by piece. -/
import Derived.Test.YtejhmfimfgjmhaaP8
import Derived.Test.YtejhmfimfgjmhaaP1
import Derived.Test.YtejhmfimfgjmhaaQWalPut
namespace Go.Proofs.Ytejhmfimfgjmhaa.Q
open Go.RowKit Go.Proofs.YtejhmfimfgjmhaaW.PrintWords Go.Proofs.YtejhmfimfgjmhaaW.PrintLast Go.Proofs.YtejhmfimfgjmhaaW.PrintMore Go.Proofs.Ytejhmfimfgjmhaa.P Go.Proofs.Ytejhmfimfgjmhaa.M
set_option linter.unusedVariables false

theorem walr_at_eq (a : Nat) : walr_at a = a + pad a := by unfold walr_at pad; split <;> rfl
theorem walr_left_eq (a : Nat) : walr_left a = wal_left a := rfl
/-- what stands at a place: 0: a piece that is read; its kind, its bytes, where it ends; else how the reading ends (1: clean, 2: torn, 3: corrupt) -/
def lookp (b : List Int) (begun : Bool) (p lf : Nat) : Nat × Int × List Int × Nat :=
  if b.length ≤ p then (if begun = true then 2 else 1, 0, [], 0) else
  if b.length < p + 7 then (2, 0, [], 0) else
  if lf < 7 + fxd ((b.drop (p + 4)).take 2) then (3, 0, [], 0) else
  if b.length < p + 7 + fxd ((b.drop (p + 4)).take 2) then (2, 0, [], 0) else
  if fxd ((b.drop p).take 4) = psum (rd b (p + 6 : Nat)) ((b.drop (p + 7)).take (fxd ((b.drop (p + 4)).take 2))) then
    (if rd b (p + 6 : Nat) < 1 ∨ 4 < rd b (p + 6 : Nat) ∨ begun = decide (rd b (p + 6 : Nat) ≤ 2) then (3, 0, [], 0)
     else (0, rd b (p + 6 : Nat), (b.drop (p + 7)).take (fxd ((b.drop (p + 4)).take 2)), p + 7 + fxd ((b.drop (p + 4)).take 2)))
  else (if p + 7 + fxd ((b.drop (p + 4)).take 2) = b.length then 2 else 3, 0, [], 0)
def look (b : List Int) (begun : Bool) (a : Nat) : Nat × Int × List Int × Nat := lookp b begun (a + pad a) (wal_left a)
/-- what is read -/
def reads : Nat → List Int → List (List Int) → Nat → List Int → Bool → Nat → List (List Int) × Nat × Nat
  | 0, _, recs, size, _, _, _ => (recs, size, 0)
  | d + 1, b, recs, size, now, begun, a =>
    if (look b begun a).1 = 0 then
      (if (look b begun a).2.1 = 2 ∨ (look b begun a).2.1 = 3 then reads d b recs size (now ++ (look b begun a).2.2.1) true (look b begun a).2.2.2
       else reads d b (recs ++ [now ++ (look b begun a).2.2.1]) (look b begun a).2.2.2 [] false (look b begun a).2.2.2)
    else (recs, size, (look b begun a).1 - 1)
def readB (b : List Int) : List (List Int) × Nat × Nat := reads (b.length + 1) b [] 0 [] false 0
theorem rd_nat (l : List Int) (i : Nat) : rd l (i : Int) = l.getD i 0 := by unfold rd; rw [Int.toNat_natCast]
theorem rd_drop (l : List Int) (p i : Nat) : rd (l.drop p) (i : Int) = rd l ((p + i : Nat) : Int) := by
  rw [rd_nat, rd_nat, List.getD_eq_getElem?_getD, List.getD_eq_getElem?_getD, List.getElem?_drop]
theorem rd_byte (l : List Int) (hb : IsB l) (i : Int) : 0 ≤ rd l i ∧ rd l i < 256 := by
  unfold rd
  rw [List.getD_eq_getElem?_getD]
  by_cases h : i.toNat < l.length
  · rw [List.getElem?_eq_getElem h]
    exact hb _ (List.getElem_mem h)
  · rw [List.getElem?_eq_none (by omega)]
    exact ⟨by decide, by decide⟩
theorem look_ok {b : List Int} {begun : Bool} {a : Nat} (hb : IsB b) (h : (look b begun a).1 = 0) :
    a + 7 ≤ (look b begun a).2.2.2 ∧ (look b begun a).2.2.2 ≤ b.length ∧ (look b begun a).2.2.1.length ≤ 121 ∧ IsB (look b begun a).2.2.1 ∧ a + (look b begun a).2.2.1.length < (look b begun a).2.2.2 ∧ 1 ≤ (look b begun a).2.1 ∧ (look b begun a).2.1 ≤ 4 ∧ begun = decide (2 < (look b begun a).2.1) := by
  have hlf := left_le a
  unfold look lookp at *
  split at h
  · split at h <;> cases h
  split at h
  · cases h
  split at h
  · cases h
  split at h
  · cases h
  split at h
  · split at h
    · cases h
    · rename_i c1 c2 c3 c4 c5 c6
      rw [if_neg c1, if_neg c2, if_neg c3, if_neg c4, if_pos c5, if_neg c6]
      have hk : 1 ≤ rd b ((a + pad a + 6 : Nat) : Int) ∧ rd b ((a + pad a + 6 : Nat) : Int) ≤ 4 := ⟨by rcases Int.lt_or_le (rd b ((a + pad a + 6 : Nat) : Int)) 1 with h | h; exact absurd (.inl h) c6; exact h, by rcases Int.lt_or_le 4 (rd b ((a + pad a + 6 : Nat) : Int)) with h | h; exact absurd (.inr (.inl h)) c6; exact h⟩
      refine ⟨?_, ?_, ?_, ?_, ?_, hk.1, hk.2, ?_⟩
      · show a + 7 ≤ a + pad a + 7 + _; omega
      · show a + pad a + 7 + _ ≤ b.length; omega
      · show ((b.drop (a + pad a + 7)).take _).length ≤ 121; rw [List.length_take]; omega
      · exact (hb.drop _).take _
      · show a + ((b.drop (a + pad a + 7)).take _).length < a + pad a + 7 + _; rw [List.length_take]; omega
      · show begun = decide (2 < rd b ((a + pad a + 6 : Nat) : Int))
        have h3 : ¬ begun = decide (rd b ((a + pad a + 6 : Nat) : Int) ≤ 2) := fun e => c6 (.inr (.inr e))
        generalize rd b ((a + pad a + 6 : Nat) : Int) = x at *
        by_cases hx : x ≤ 2
        · rw [decide_eq_true hx] at h3
          rw [decide_eq_false (by omega)]
          cases begun
          · rfl
          · exact absurd rfl h3
        · rw [decide_eq_false hx] at h3
          rw [decide_eq_true (by omega)]
          cases begun
          · exact absurd rfl h3
          · rfl
  · split at h <;> cases h
theorem reads_mono : ∀ (d : Nat) (b : List Int) (recs : List (List Int)) (size : Nat) (now : List Int) (begun : Bool) (a : Nat), recs.length ≤ (reads d b recs size now begun a).1.length
  | 0, _, _, _, _, _, _ => Nat.le_refl _
  | d + 1, b, recs, size, now, begun, a => by
    unfold reads
    split
    · split
      · exact reads_mono d ..
      · refine Nat.le_trans ?_ (reads_mono d ..)
        rw [List.length_append]
        omega
    · exact Nat.le_refl _
theorem Read_l (b : List Int) (hb : IsB b) (hl : b.length < 140737488355328) : ∀ (d : Nat) (recs : List (List Int)) (size : Nat) (now : List Int) (begun : Bool) (a : Nat), a ≤ b.length → b.length < a + d → now.length ≤ a → (reads d b recs size now begun a).1.length < 5864062014805 →
    Ev (fun k => wal_Read.l k b recs size now begun a) ((reads d b recs size now begun a).1, ((reads d b recs size now begun a).2.1 : Int), ((reads d b recs size now begun a).2.2 : Int))
  | 0, _, _, _, _, _, _, h, _, _ => by omega
  | d + 1, recs, size, now, begun, a, ha, hd, h2, hN => by
    have hlf := left_le a
    have hp := pad_le a
    have hlook := @look_ok b begun a hb
    have hR : recs.length < 5864062014805 := Nat.lt_of_le_of_lt (reads_mono (d + 1) b recs size now begun a) hN
    unfold reads at hN ⊢
    unfold look lookp at *
    by_cases c1 : b.length ≤ a + pad a
    · rw [if_pos c1] at hlook hN ⊢
      refine Ev.step (f := fun _ => some (recs, (size : Int), if begun = true then 1 else 0)) (fun k => ?_) ?_
      · rw [wal_Read.l, if_pos ⟨hl, ha⟩, walr_at_eq, if_pos c1]
      · cases begun
        · exact Ev.now _
        · exact Ev.now _
    rw [if_neg c1] at hlook hN ⊢
    by_cases c2 : b.length < a + pad a + 7
    · rw [if_pos c2] at hlook hN ⊢
      refine Ev.step (f := fun _ => some (recs, (size : Int), 1)) (fun k => ?_) (Ev.now _)
      rw [wal_Read.l, if_pos ⟨hl, ha⟩, walr_at_eq, if_neg c1, if_pos (by rw [List.length_drop]; omega)]
    rw [if_neg c2] at hlook hN ⊢
    obtain ⟨n, hn⟩ : ∃ n, fxd ((b.drop (a + pad a + 4)).take 2) = n := ⟨_, rfl⟩
    have hn2 : n < 65536 := by
      have := fxd_lt ((b.drop (a + pad a + 4)).take 2) ((hb.drop _).take _)
      rw [hn] at this
      have h2 : ((b.drop (a + pad a + 4)).take 2).length ≤ 2 := by rw [List.length_take]; omega
      exact Nat.lt_of_lt_of_le this (Nat.pow_le_pow_right (n := 256) (by omega) h2)
    have hkb := rd_byte b hb ((a + pad a + 6 : Nat) : Int)
    have hf2 : Ev (fun k => codec_Fixed.f k ((b.drop (a + pad a)).drop 4) 2) ((n : Int), 0) := by
      have := Fixed_ev ((b.drop (a + pad a)).drop 4) ((hb.drop _).drop _) 2 (by omega) (by omega)
      rw [if_neg (by simp only [List.length_drop]; omega), List.drop_drop, hn] at this
      rw [List.drop_drop]
      exact this
    have hf4 : Ev (fun k => codec_Fixed.f k (b.drop (a + pad a)) 4) ((fxd ((b.drop (a + pad a)).take 4) : Int), 0) := by
      have := Fixed_ev (b.drop (a + pad a)) (hb.drop _) 4 (by omega) (by omega)
      rw [if_neg (by simp only [List.length_drop]; omega)] at this
      exact this
    rw [hn] at hlook hN ⊢
    have hkd : rd (b.drop (a + pad a)) 6 = rd b ((a + pad a + 6 : Nat) : Int) := rd_drop b (a + pad a) 6
    have hdata : ((b.drop (a + pad a)).take (7 + n)).drop 7 = (b.drop (a + pad a + 7)).take n := by
      rw [List.drop_take, List.drop_drop, show 7 + n - 7 = n by omega]
    have hstep : ∀ r : List (List Int) × Int × Int, Ev (fun k => (codec_Fixed.f k ((b.drop (a + pad a)).drop 4) 2).bind fun q =>
        if 0 ≤ q.1 ∧ q.1 < 1000000 then
          if wal_left a < 7 + q.1.toNat then some (recs, (size : Int), 2) else
          if (b.drop (a + pad a)).length < 7 + q.1.toNat then some (recs, (size : Int), 1) else
          ((codec_Fixed.f k (b.drop (a + pad a)) 4).bind fun q4 =>
            ((wal_sum.f (rd (b.drop (a + pad a)) 6) (((b.drop (a + pad a)).take (7 + q.1.toNat)).drop 7)).bind fun sm =>
              if q4.1 = IntKind.u64.wrap sm then
                if rd (b.drop (a + pad a)) 6 < 1 ∨ 4 < rd (b.drop (a + pad a)) 6 ∨ begun = decide (rd (b.drop (a + pad a)) 6 ≤ 2) then some (recs, (size : Int), 2) else
                if now.length + (((b.drop (a + pad a)).take (7 + q.1.toNat)).drop 7).length < 140737488355328 ∧ recs.length < 5864062014805 then
                  if rd (b.drop (a + pad a)) 6 = 2 ∨ rd (b.drop (a + pad a)) 6 = 3 then wal_Read.l k b recs size (now ++ ((b.drop (a + pad a)).take (7 + q.1.toNat)).drop 7) true (a + pad a + (7 + q.1.toNat))
                  else wal_Read.l k b (recs ++ [now ++ ((b.drop (a + pad a)).take (7 + q.1.toNat)).drop 7]) (a + pad a + (7 + q.1.toNat)) [] false (a + pad a + (7 + q.1.toNat))
                else none
              else some (recs, (size : Int), if 7 + q.1.toNat = (b.drop (a + pad a)).length then 1 else 2)))
        else none) r → Ev (fun k => wal_Read.l k b recs size now begun a) r := by
      intro r hr
      refine Ev.step (fun k => ?_) hr
      rw [wal_Read.l, if_pos ⟨hl, ha⟩, walr_at_eq, if_neg c1, if_neg (by rw [List.length_drop]; omega)]
      rfl
    by_cases c3 : wal_left a < 7 + n
    · rw [if_pos c3] at hlook hN ⊢
      exact hstep _ (Ev.bind hf2 (Ev.ifT ⟨by show 0 ≤ (n : Int); omega, by show (n : Int) < 1000000; omega⟩ (Ev.ifT (by show wal_left a < 7 + (n : Int).toNat; omega) (Ev.now _))))
    rw [if_neg c3] at hlook hN ⊢
    by_cases c4 : b.length < a + pad a + 7 + n
    · rw [if_pos c4] at hlook hN ⊢
      exact hstep _ (Ev.bind hf2 (Ev.ifT ⟨by show 0 ≤ (n : Int); omega, by show (n : Int) < 1000000; omega⟩ (Ev.ifF (by show ¬ wal_left a < 7 + (n : Int).toNat; omega) (Ev.ifT (by show (b.drop (a + pad a)).length < 7 + (n : Int).toNat; rw [List.length_drop]; omega) (Ev.now _)))))
    rw [if_neg c4] at hlook hN ⊢
    -- the sum
    have hsum : wal_sum.f (rd b ((a + pad a + 6 : Nat) : Int)) ((b.drop (a + pad a + 7)).take n) = some ((psum (rd b ((a + pad a + 6 : Nat) : Int)) ((b.drop (a + pad a + 7)).take n) : Nat) : Int) :=
      sum_eq _ _ hkb.1 hkb.2 ((hb.drop _).take _) (by rw [List.length_take]; omega)
    have key : ∀ (r : List (List Int) × Int × Int),
        (fxd ((b.drop (a + pad a)).take 4) = psum (rd b ((a + pad a + 6 : Nat) : Int)) ((b.drop (a + pad a + 7)).take n) → Ev (fun k => if rd b ((a + pad a + 6 : Nat) : Int) < 1 ∨ 4 < rd b ((a + pad a + 6 : Nat) : Int) ∨ begun = decide (rd b ((a + pad a + 6 : Nat) : Int) ≤ 2) then some (recs, (size : Int), 2) else
                if now.length + ((b.drop (a + pad a + 7)).take n).length < 140737488355328 ∧ recs.length < 5864062014805 then
                  if rd b ((a + pad a + 6 : Nat) : Int) = 2 ∨ rd b ((a + pad a + 6 : Nat) : Int) = 3 then wal_Read.l k b recs size (now ++ (b.drop (a + pad a + 7)).take n) true (a + pad a + (7 + n))
                  else wal_Read.l k b (recs ++ [now ++ (b.drop (a + pad a + 7)).take n]) (a + pad a + (7 + n)) [] false (a + pad a + (7 + n))
                else none) r) →
        (¬ fxd ((b.drop (a + pad a)).take 4) = psum (rd b ((a + pad a + 6 : Nat) : Int)) ((b.drop (a + pad a + 7)).take n) → r = (recs, (size : Int), if a + pad a + 7 + n = b.length then 1 else 2)) →
        Ev (fun k => wal_Read.l k b recs size now begun a) r := by
      intro r hA hB
      have hp4 := psum_lt (rd b ((a + pad a + 6 : Nat) : Int)) ((b.drop (a + pad a + 7)).take n)
      have hwr : IntKind.u64.wrap ((psum (rd b ((a + pad a + 6 : Nat) : Int)) ((b.drop (a + pad a + 7)).take n) : Nat) : Int) = ((psum (rd b ((a + pad a + 6 : Nat) : Int)) ((b.drop (a + pad a + 7)).take n) : Nat) : Int) := wU64 (by omega) (by omega)
      refine hstep _ (Ev.bind hf2 (Ev.ifT ⟨by show 0 ≤ (n : Int); omega, by show (n : Int) < 1000000; omega⟩ (Ev.ifF (by show ¬ wal_left a < 7 + (n : Int).toNat; omega) (Ev.ifF (by show ¬ (b.drop (a + pad a)).length < 7 + (n : Int).toNat; rw [List.length_drop]; omega) (Ev.bind hf4 ?_)))))
      · simp only [Int.toNat_natCast]
        rw [hdata, hkd, hsum]
        refine Ev.some_ ?_
        rw [hwr]
        by_cases c5 : fxd ((b.drop (a + pad a)).take 4) = psum (rd b ((a + pad a + 6 : Nat) : Int)) ((b.drop (a + pad a + 7)).take n)
        · exact Ev.ifT (by rw [c5]) (hA c5)
        · refine Ev.ifF (by omega) ?_
          rw [hB c5]
          have e : (7 + n = (b.drop (a + pad a)).length) ↔ (a + pad a + 7 + n = b.length) := by rw [List.length_drop]; omega
          by_cases c6 : a + pad a + 7 + n = b.length
          · rw [if_pos c6, if_pos (e.2 c6)]
            exact Ev.now _
          · rw [if_neg c6, if_neg (fun h => c6 (e.1 h))]
            exact Ev.now _
    refine key _ ?_ ?_
    · intro c5
      rw [if_pos c5] at hlook hN ⊢
      by_cases c6 : rd b ((a + pad a + 6 : Nat) : Int) < 1 ∨ 4 < rd b ((a + pad a + 6 : Nat) : Int) ∨ begun = decide (rd b ((a + pad a + 6 : Nat) : Int) ≤ 2)
      · rw [if_pos c6] at hlook hN ⊢
        exact Ev.ifT c6 (Ev.now _)
      · rw [if_neg c6] at hlook hN ⊢
        have hlook := hlook rfl
        simp only at hlook
        obtain ⟨g1, g2, g3, g4, g5, g6, g7, g8⟩ := hlook
        have e7 : a + pad a + (7 + n) = a + pad a + 7 + n := by omega
        refine Ev.ifF c6 (Ev.ifT ⟨by omega, by omega⟩ ?_)
        rw [e7, if_pos rfl]
        rw [if_pos rfl] at hN
        simp only at hN ⊢
        by_cases c7 : rd b ((a + pad a + 6 : Nat) : Int) = 2 ∨ rd b ((a + pad a + 6 : Nat) : Int) = 3
        · rw [if_pos c7] at hN ⊢
          refine Ev.ifT c7 ?_
          exact Read_l b hb hl d _ _ _ _ _ g2 (by omega) (by rw [List.length_append]; omega) hN
        · rw [if_neg c7] at hN ⊢
          refine Ev.ifF c7 ?_
          exact Read_l b hb hl d _ _ _ _ _ g2 (by omega) (Nat.zero_le _) hN
    · intro c5
      rw [if_neg c5]
      by_cases c6 : a + pad a + 7 + n = b.length
      · rw [if_pos c6, if_pos c6]; rfl
      · rw [if_neg c6, if_neg c6]; rfl
theorem Read_ev (b : List Int) (hb : IsB b) (hl : b.length < 140737488355328) (hN : (readB b).1.length < 5864062014805) : Ev (fun k => wal_Read.f k b) ((readB b).1, ((readB b).2.1 : Int), ((readB b).2.2 : Int)) :=
  Read_l b hb hl (b.length + 1) [] 0 [] false 0 (by omega) (by omega) (by simp) hN
theorem reads_few (b : List Int) (hb : IsB b) : ∀ (d : Nat) (recs : List (List Int)) (size : Nat) (now : List Int) (begun : Bool) (a : Nat), recs.length ≤ a → a ≤ b.length → (reads d b recs size now begun a).1.length ≤ b.length
  | 0, recs, size, now, begun, a, h, h2 => by show recs.length ≤ b.length; omega
  | d + 1, recs, size, now, begun, a, h, h2 => by
    unfold reads
    split
    · rename_i hk
      have hk := look_ok hb hk
      split
      · exact reads_few b hb d _ _ _ _ _ (by omega) (by omega)
      · exact reads_few b hb d _ _ _ _ _ (by rw [List.length_append, List.length_singleton]; omega) (by omega)
    · show recs.length ≤ b.length
      omega
theorem readB_few (b : List Int) (hb : IsB b) : (readB b).1.length ≤ b.length := reads_few b hb _ _ _ _ _ _ (by simp) (by omega)
end Go.Proofs.Ytejhmfimfgjmhaa.Q
