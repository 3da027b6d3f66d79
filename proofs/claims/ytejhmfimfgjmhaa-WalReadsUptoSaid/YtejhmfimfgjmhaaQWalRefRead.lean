/- What the document's Read comes to: what the program's Read reads. -/
import Derived.Test.YtejhmfimfgjmhaaP12
import Derived.Test.YtejhmfimfgjmhaaP13
import Derived.Test.YtejhmfimfgjmhaaQWalRead
namespace Go.Proofs.Ytejhmfimfgjmhaa.Q
open Go.RowKit Go.Proofs.YtejhmfimfgjmhaaW.PrintWords Go.Proofs.YtejhmfimfgjmhaaW.PrintLast Go.Proofs.YtejhmfimfgjmhaaW.PrintMore Go.Proofs.Ytejhmfimfgjmhaa.P Go.Proofs.Ytejhmfimfgjmhaa.M
set_option linter.unusedVariables false

theorem rw_left (a : Nat) (h : a < 1000000000000000) : (wrap64 (128 - (Int.tmod (a : Int) 128))) = ((128 - a % 128 : Nat) : Int) := by
  rw [Int.tmod_eq_emod_of_nonneg (by omega)]
  unfold wrap64
  omega
theorem rw_add (a m : Nat) (h : a + m < 1000000000000000) : wrap64 ((a : Int) + (m : Int)) = ((a + m : Nat) : Int) := by unfold wrap64; omega
theorem rw_id (m : Nat) (h : m < 1000000000000000) : wrap64 (m : Int) = (m : Int) := by unfold wrap64; omega
theorem rw_sub (a b : Nat) (h : b ≤ a) (h2 : a < 1000000000000000) : wrap64 ((a : Int) - (b : Int)) = ((a - b : Nat) : Int) := by unfold wrap64; omega
theorem rw_a4 (a : Nat) (h : a < 999999999999999) : wrap64 ((a : Int) + 4) = ((a + 4 : Nat) : Int) := by unfold wrap64; omega
theorem rw_a6 (a : Nat) (h : a < 999999999999999) : wrap64 ((a : Int) + 6) = ((a + 6 : Nat) : Int) := by unfold wrap64; omega
theorem rw_a7 (a : Nat) (h : a < 999999999999999) : wrap64 ((a : Int) + 7) = ((a + 7 : Nat) : Int) := by unfold wrap64; omega
theorem rw_a1 (a : Nat) (h : a < 999999999999999) : wrap64 ((a : Int) + 1) = ((a + 1 : Nat) : Int) := by unfold wrap64; omega
theorem rw_s7 (a : Nat) (h : 7 ≤ a) (h2 : a ≤ 128) : wrap64 ((a : Int) - 7) = ((a - 7 : Nat) : Int) := by unfold wrap64; omega
theorem refRead_l (b : List Int) (hb : IsB b) (hl : b.length < 140737488355328) : ∀ (d : Nat) (recs : List (List Int)) (size : Nat) (now now' : List Int) (begun : Bool) (a : Nat), a ≤ b.length → b.length < a + d → now.length ≤ a → now'.length ≤ a → (begun = true → now' = now) → (begun = false → now = []) → (reads d b recs size now begun a).1.length < 5864062014805 →
    Ev (fun k => staddleref09_Read.l0 k b recs now' begun (size : Int) (a : Int)) ((reads d b recs size now begun a).1, ((reads d b recs size now begun a).2.1 : Int), ((reads d b recs size now begun a).2.2 : Int))
  | 0, _, _, _, _, _, _, _, h, _, _, _, _, _ => by omega
  | d + 1, recs, size, now, now', begun, a, ha, hd, h2, h3, hn1, hn0, hN => by
    have hlf := left_le a
    have hp := pad_le a
    have hlook := @look_ok b begun a hb
    have hR : recs.length < 5864062014805 := Nat.lt_of_le_of_lt (reads_mono (d + 1) b recs size now begun a) hN
    -- the place
    have hj1 : ∀ r, Ev (fun k => staddleref09_Read.j1 k b recs now' begun (size : Int) ((a + pad a : Nat) : Int) ((wal_left a : Nat) : Int)) r → Ev (fun k => staddleref09_Read.l0 k b recs now' begun (size : Int) (a : Int)) r := by
      intro r hr
      refine Ev.step (fun k => ?_) hr
      simp only [staddleref09_Read.l0]
      rw [rw_left a (by omega)]
      by_cases h7 : 128 - a % 128 < 7
      · have ep : pad a = 128 - a % 128 := by unfold pad; rw [if_pos h7]
        have el : wal_left a = 128 := by unfold wal_left; rw [if_pos h7]
        rw [if_pos (by omega), rw_add a _ (by omega), ep, el]
        rfl
      · have ep : pad a = 0 := by unfold pad; rw [if_neg h7]
        have el : wal_left a = 128 - a % 128 := by unfold wal_left; rw [if_neg h7]
        rw [if_neg (by omega), ep, el, Nat.add_zero]
    refine hj1 _ ?_
    clear hj1
    unfold reads at hN ⊢
    unfold look lookp at *
    by_cases c1 : b.length ≤ a + pad a
    · rw [if_pos c1] at hlook hN ⊢
      refine Ev.step (f := fun k => staddleref09_Read.j2 k b recs now' begun (size : Int) ((a + pad a : Nat) : Int) ((wal_left a : Nat) : Int) (!begun)) (fun k => ?_) ?_
      · simp only [staddleref09_Read.j1]
        rw [if_pos (by omega)]
      · cases hbg : begun
        · refine Ev.step (f := fun _ => some (recs, (size : Int), 0)) (fun k => ?_) (Ev.now _)
          simp only [staddleref09_Read.j2]
          rw [if_pos (by decide)]
        · refine Ev.step (f := fun k => staddleref09_Read.j3 k b recs now' true (size : Int) ((a + pad a : Nat) : Int) ((wal_left a : Nat) : Int) true) (fun k => ?_) ?_
          · simp only [staddleref09_Read.j2]
            rw [if_neg (by decide), if_pos (by omega)]
          · refine Ev.step (f := fun _ => some (recs, (size : Int), 1)) (fun k => ?_) (Ev.now _)
            simp only [staddleref09_Read.j3]
            rw [if_pos trivial]
    rw [if_neg c1] at hlook hN ⊢
    have hj2 : ∀ r, Ev (fun k => staddleref09_Read.j3 k b recs now' begun (size : Int) ((a + pad a : Nat) : Int) ((wal_left a : Nat) : Int) (decide (((b.length - (a + pad a) : Nat) : Int) < 7))) r → Ev (fun k => staddleref09_Read.j1 k b recs now' begun (size : Int) ((a + pad a : Nat) : Int) ((wal_left a : Nat) : Int)) r := by
      intro r hr
      refine Ev.step (f := fun k => staddleref09_Read.j2 k b recs now' begun (size : Int) ((a + pad a : Nat) : Int) ((wal_left a : Nat) : Int) false) (fun k => ?_) ?_
      · simp only [staddleref09_Read.j1]
        rw [if_neg (by omega)]
      · refine Ev.step (fun k => ?_) hr
        simp only [staddleref09_Read.j2]
        rw [if_neg (by decide), if_neg (by omega), rw_sub b.length (a + pad a) (by omega) (by omega)]
    refine hj2 _ ?_
    clear hj2
    by_cases c2 : b.length < a + pad a + 7
    · rw [if_pos c2] at hlook hN ⊢
      rw [decide_eq_true (show ((b.length - (a + pad a) : Nat) : Int) < 7 by omega)]
      refine Ev.step (f := fun _ => some (recs, (size : Int), 1)) (fun k => ?_) (Ev.now _)
      simp only [staddleref09_Read.j3]
      rw [if_pos trivial]
    rw [if_neg c2] at hlook hN ⊢
    rw [decide_eq_false (show ¬ ((b.length - (a + pad a) : Nat) : Int) < 7 by omega)]
    obtain ⟨p, hpd⟩ : ∃ p, a + pad a = p := ⟨_, rfl⟩
    rw [hpd] at c1 c2 hlook hN ⊢
    obtain ⟨lf, hlfd⟩ : ∃ lf, wal_left a = lf := ⟨_, rfl⟩
    rw [hlfd] at hlf hlook hN ⊢
    obtain ⟨n, hn⟩ : ∃ n, fxd ((b.drop (p + 4)).take 2) = n := ⟨_, rfl⟩
    have hn2 : n < 65536 := by
      have := fxd_lt ((b.drop (p + 4)).take 2) ((hb.drop _).take _)
      rw [hn] at this
      have h2 : ((b.drop (p + 4)).take 2).length ≤ 2 := by rw [List.length_take]; omega
      exact Nat.lt_of_lt_of_le this (Nat.pow_le_pow_right (n := 256) (by omega) h2)
    have hkb := rd_byte b hb ((p + 6 : Nat) : Int)
    obtain ⟨q, hq⟩ : ∃ q, fxd ((b.drop p).take 4) = q := ⟨_, rfl⟩
    have hf2 : Ev (fun k => staddleref01_Fixed.f k (b.drop (p + 4)) 2) ((n : Int), 0) := by
      have := refFixed_ev (b.drop (p + 4)) (hb.drop _) 2 (by omega) (by omega)
      rw [if_neg (by simp only [List.length_drop]; omega), hn] at this
      exact this
    have hf4 : Ev (fun k => staddleref01_Fixed.f k (b.drop p) 4) ((q : Int), 0) := by
      have := refFixed_ev (b.drop p) (hb.drop _) 4 (by omega) (by omega)
      rw [if_neg (by simp only [List.length_drop]; omega), hq] at this
      exact this
    rw [hn, hq] at hlook hN ⊢
    obtain ⟨kd, hkd⟩ : ∃ kd, rd b ((p + 6 : Nat) : Int) = kd := ⟨_, rfl⟩
    rw [hkd] at hkb hlook hN ⊢
    obtain ⟨dt, hdt⟩ : ∃ dt, (b.drop (p + 7)).take n = dt := ⟨_, rfl⟩
    have hdb : IsB dt := by rw [← hdt]; exact (hb.drop _).take _
    have hdl : dt.length ≤ n := by rw [← hdt, List.length_take]; omega
    rw [hdt] at hlook hN ⊢
    have hcut : (b.take (p + 7 + n)).drop (p + 7) = dt := by rw [← hdt, List.drop_take, show p + 7 + n - (p + 7) = n by omega]
    have hj3 : ∀ r : List (List Int) × Int × Int, Ev (fun k => if (n : Int) > ((lf - 7 : Nat) : Int) then some (recs, (size : Int), 2) else (if ((p + 7 + n : Nat) : Int) > (b.length : Int) then some (recs, (size : Int), 1) else
        ((staddleref01_Crc.f k (kd :: dt)).bind fun t270 => ((staddleref01_Mask.f t270).bind fun t271 => (if (IntKind.u64.wrap (t271)) = (q : Int) then (if kd < 1 then (staddleref09_Read.j4 k b recs now' (size : Int) kd ((p + 7 + n : Nat) : Int) dt true) else (if kd > 4 then (staddleref09_Read.j4 k b recs now' (size : Int) kd ((p + 7 + n : Nat) : Int) dt true) else (staddleref09_Read.j4 k b recs now' (size : Int) kd ((p + 7 + n : Nat) : Int) dt ((decide (kd < 3)) == begun)))) else (if ((p + 7 + n : Nat) : Int) = (b.length : Int) then (some (recs, (size : Int), 1)) else (some (recs, (size : Int), 2)))))))) r →
        Ev (fun k => staddleref09_Read.j3 k b recs now' begun (size : Int) (p : Int) (lf : Int) false) r := by
      intro r hr
      refine Ev.step (f := fun k => (if 0 ≤ (p : Int) then (if (p : Int) ≤ (b.length : Int) then ((staddleref01_Fixed.f k (b.drop p) 4).bind fun bt257 => (if 0 ≤ ((p + 4 : Nat) : Int) then (if ((p + 4 : Nat) : Int) ≤ (b.length : Int) then ((staddleref01_Fixed.f k (b.drop (p + 4)) 2).bind fun bt260 => (if 0 ≤ ((p + 6 : Nat) : Int) then (if ((p + 6 : Nat) : Int) < (b.length : Int) then (if (wrap64 (bt260.1)) > ((lf - 7 : Nat) : Int) then (some (recs, (size : Int), 2)) else (if (wrap64 (((p + 7 : Nat) : Int) + (wrap64 (bt260.1)))) > (b.length : Int) then (some (recs, (size : Int), 1)) else (if 0 ≤ ((p + 7 : Nat) : Int) then (if ((p + 7 : Nat) : Int) ≤ (wrap64 (((p + 7 : Nat) : Int) + (wrap64 (bt260.1)))) then (if (wrap64 (((p + 7 : Nat) : Int) + (wrap64 (bt260.1)))) ≤ (b.length : Int) then ((some (([kd] : List Int) : List Int)).bind fun y264 => (if y264.length + ((b.take (wrap64 (((p + 7 : Nat) : Int) + (wrap64 (bt260.1)))).toNat).drop (p + 7)).length < 140737488355328 then ((staddleref01_Crc.f k (y264 ++ ((b.take (wrap64 (((p + 7 : Nat) : Int) + (wrap64 (bt260.1)))).toNat).drop (p + 7)))).bind fun t270 => ((staddleref01_Mask.f t270).bind fun t271 => (if (IntKind.u64.wrap (t271)) = bt257.1 then (if kd < 1 then (staddleref09_Read.j4 k b recs now' (size : Int) kd (wrap64 (((p + 7 : Nat) : Int) + (wrap64 (bt260.1)))) ((b.take (wrap64 (((p + 7 : Nat) : Int) + (wrap64 (bt260.1)))).toNat).drop (p + 7)) true) else (if kd > 4 then (staddleref09_Read.j4 k b recs now' (size : Int) kd (wrap64 (((p + 7 : Nat) : Int) + (wrap64 (bt260.1)))) ((b.take (wrap64 (((p + 7 : Nat) : Int) + (wrap64 (bt260.1)))).toNat).drop (p + 7)) true) else (staddleref09_Read.j4 k b recs now' (size : Int) kd (wrap64 (((p + 7 : Nat) : Int) + (wrap64 (bt260.1)))) ((b.take (wrap64 (((p + 7 : Nat) : Int) + (wrap64 (bt260.1)))).toNat).drop (p + 7)) ((decide (kd < 3)) == begun)))) else (if (wrap64 (((p + 7 : Nat) : Int) + (wrap64 (bt260.1)))) = (b.length : Int) then (some (recs, (size : Int), 1)) else (some (recs, (size : Int), 2)))))) else (none))) else (none)) else (none)) else (none)))) else (none)) else (none))) else (none)) else (none))) else (none)) else (none))) (fun k => ?_) ?_
      · simp only [staddleref09_Read.j3]
        rw [rw_a4 p (by omega), rw_a6 p (by omega), rw_a7 p (by omega), rw_s7 lf (by omega) (by omega), hkd]
        rfl
      · refine Ev.ifT (by omega) (Ev.ifT (by omega) (Ev.bind hf4 (Ev.ifT (by omega) (Ev.ifT (by omega) (Ev.bind hf2 (Ev.ifT (by omega) (Ev.ifT (by omega) ?_)))))))
        simp only
        rw [rw_id n (by omega), rw_add (p + 7) n (by omega), Int.toNat_natCast, hcut]
        refine Ev.congr (fun k => ?_) hr
        by_cases x1 : (n : Int) > ((lf - 7 : Nat) : Int)
        · rw [if_pos x1, if_pos x1]
        rw [if_neg x1, if_neg x1]
        by_cases x2 : ((p + 7 + n : Nat) : Int) > (b.length : Int)
        · rw [if_pos x2, if_pos x2]
        rw [if_neg x2, if_neg x2, if_pos (by omega), if_pos (by omega), if_pos (by omega), Option.bind_some, if_pos (by simp only [List.length_cons, List.length_nil]; omega)]
        rfl
    refine hj3 _ ?_
    clear hj3
    by_cases c3 : lf < 7 + n
    · rw [if_pos c3] at hlook hN ⊢
      exact Ev.ifT (by omega) (Ev.now _)
    rw [if_neg c3] at hlook hN ⊢
    refine Ev.ifF (by omega) ?_
    by_cases c4 : b.length < p + 7 + n
    · rw [if_pos c4] at hlook hN ⊢
      exact Ev.ifT (by omega) (Ev.now _)
    rw [if_neg c4] at hlook hN ⊢
    refine Ev.ifF (by omega) ?_
    have hcr := crc_range (kd :: dt)
    refine Ev.bind (refCrc_spec (kd :: dt) (IsB.cons hkb.1 hkb.2 hdb) (by simp only [List.length_cons]; omega)) ?_
    rw [refMask_eq _ hcr.1 hcr.2]
    refine Ev.some_ ?_
    have hmr := mask_range (crc (kd :: dt))
    rw [wU64 hmr.1 (by omega), ← psum_int]
    by_cases c5 : q = psum kd dt
    · rw [if_pos c5] at hlook hN ⊢
      refine Ev.ifT (by rw [c5]) ?_
      by_cases c6 : kd < 1 ∨ 4 < kd ∨ begun = decide (kd ≤ 2)
      · rw [if_pos c6] at hlook hN ⊢
        have hbad : ∀ x, x = true → Ev (fun k => staddleref09_Read.j4 k b recs now' (size : Int) kd ((p + 7 + n : Nat) : Int) dt x) (recs, (size : Int), 2) := by
          intro x hx
          subst hx
          refine Ev.step (f := fun _ => some (recs, (size : Int), 2)) (fun k => ?_) (Ev.now _)
          simp only [staddleref09_Read.j4]
          rw [if_pos trivial]
        by_cases k1 : kd < 1
        · exact Ev.ifT k1 (hbad _ rfl)
        refine Ev.ifF k1 ?_
        by_cases k2 : kd > 4
        · exact Ev.ifT k2 (hbad _ rfl)
        refine Ev.ifF k2 (hbad _ ?_)
        rcases c6 with c6 | c6 | c6
        · exact absurd c6 k1
        · exact absurd c6 k2
        · rw [c6, beq_iff_eq, decide_eq_decide]
          omega
      · rw [if_neg c6] at hlook hN ⊢
        have hlook := hlook rfl
        simp only at hlook
        obtain ⟨g1, g2, g3, g4, g5, g6, g7, g8⟩ := hlook
        have k3 : ¬ begun = decide (kd ≤ 2) := fun e => c6 (.inr (.inr e))
        have hbf : ((decide (kd < 3)) == begun) = false := by
          rw [beq_eq_false_iff_ne]
          intro e
          apply k3
          rw [← e, decide_eq_decide]
          omega
        refine Ev.ifF (by omega) (Ev.ifF (by omega) ?_)
        rw [hbf, if_pos rfl]
        rw [if_pos rfl] at hN
        simp only at hN ⊢
        -- what is added
        have hnow : (if kd < 3 then ([] : List Int) ++ dt else now' ++ dt) = now ++ dt := by
          by_cases k4 : kd < 3
          · rw [if_pos k4, hn0 (by rw [g8, decide_eq_false (by omega)])]
          · rw [if_neg k4, hn1 (by rw [g8, decide_eq_true (by omega)])]
        by_cases c7 : kd = 2 ∨ kd = 3
        · rw [if_pos c7] at hN ⊢
          have ih := refRead_l b hb hl d recs size (now ++ dt) (now ++ dt) true (p + 7 + n) g2 (by omega) (by rw [List.length_append]; omega) (by rw [List.length_append]; omega) (fun _ => rfl) (fun e => by cases e) hN
          refine Ev.step (fun k => ?_) ih
          simp only [staddleref09_Read.j4]
          rw [if_neg (by decide)]
          by_cases k4 : kd < 3
          · rw [if_pos k4] at hnow
            have k2 : kd = 2 := by omega
            rw [if_pos k4, if_pos (by simp only [List.length_nil]; omega), Option.bind_some, if_pos k2, hnow]
          · rw [if_neg k4] at hnow
            have k2 : kd = 3 := by omega
            have hl' : now'.length + dt.length < 140737488355328 := by omega
            rw [if_neg k4, if_pos hl', Option.bind_some, if_neg (by omega), if_pos k2, hnow, k2]
            rfl
        · rw [if_neg c7] at hN ⊢
          have ih := refRead_l b hb hl d (recs ++ [now ++ dt]) (p + 7 + n) [] (now ++ dt) false (p + 7 + n) g2 (by omega) (by simp) (by rw [List.length_append]; omega) (fun e => by cases e) (fun _ => rfl) hN
          refine Ev.step (fun k => ?_) ih
          have k5 : ¬ kd = 2 := fun e => c7 (.inl e)
          have k6 : ¬ kd = 3 := fun e => c7 (.inr e)
          have k6b : (kd == 3) = false := beq_eq_false_iff_ne.mpr k6
          have hlen : (now ++ dt).length < 140737488355328 := by rw [List.length_append]; omega
          simp only [staddleref09_Read.j4]
          rw [if_neg (by decide)]
          by_cases k4 : kd < 3
          · rw [if_pos k4] at hnow
            rw [if_pos k4, if_pos (by simp only [List.length_nil]; omega), Option.bind_some, if_neg k5, if_neg k6, Option.bind_some, hnow, if_pos (by simp only [List.length_nil]; omega), if_pos hR, k6b]
            rfl
          · rw [if_neg k4] at hnow
            have hl' : now'.length + dt.length < 140737488355328 := by omega
            rw [if_neg k4, if_pos hl', Option.bind_some, if_neg k5, if_neg k6, Option.bind_some, hnow, if_pos (by simp only [List.length_nil]; omega), if_pos hR, k6b]
            rfl
    · rw [if_neg c5] at hlook hN ⊢
      refine Ev.ifF (by omega) ?_
      by_cases c6 : p + 7 + n = b.length
      · rw [if_pos c6]
        exact Ev.ifT (by omega) (Ev.now _)
      · rw [if_neg c6]
        exact Ev.ifF (by omega) (Ev.now _)
theorem refRead_ev (b : List Int) (hb : IsB b) (hl : b.length < 140737488355328) (hN : (readB b).1.length < 5864062014805) : Ev (fun k => staddleref09_Read.f k b) ((readB b).1, ((readB b).2.1 : Int), ((readB b).2.2 : Int)) :=
  refRead_l b hb hl (b.length + 1) [] 0 [] [] false 0 (by omega) (by omega) (by simp) (by simp) (fun _ => rfl) (fun _ => rfl) hN
theorem Same_l0 (x y : List (List Int)) (hl : x.length = y.length) (hs : x.length < 5864062014805) : ∀ (d i : Nat), i + d = x.length → (∀ j, i ≤ j → j < x.length → rd_L3 x (j : Int) = rd_L3 y (j : Int)) → Ev (fun k => staddleref09_Same.l0 k x y (i : Int)) true
  | 0, i, hi, _ => by
    refine Ev.step (f := fun _ => some true) (fun k => ?_) (Ev.now _)
    simp only [staddleref09_Same.l0]
    rw [if_neg (by omega)]
  | d + 1, i, hi, h => by
    refine Ev.step (fun k => ?_) (Same_l0 x y hl hs d (i + 1) (by omega) (fun j h1 h2 => h j (by omega) h2))
    simp only [staddleref09_Same.l0]
    rw [if_pos (by omega), if_pos (by omega), if_pos (by omega), if_pos (by rw [h i (Nat.le_refl _) (by omega)]), rw_a1 i (by omega)]
theorem Same_refl (x : List (List Int)) (hs : x.length < 5864062014805) : Ev (fun k => staddleref09_Same.f k x x) true := by
  unfold staddleref09_Same.f
  exact Ev.ifT rfl (Same_l0 x x rfl hs x.length 0 (by omega) (fun _ _ _ => rfl))
end Go.Proofs.Ytejhmfimfgjmhaa.Q
