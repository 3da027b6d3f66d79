/- What the document's Put comes to: what the program's Put lays. -/
import Derived.Test.YtejhmfimfgjmhaaQWalPut
namespace Go.Proofs.Ytejhmfimfgjmhaa.Q
open Go.RowKit Go.Proofs.YtejhmfimfgjmhaaW.PrintWords Go.Proofs.YtejhmfimfgjmhaaW.PrintLast Go.Proofs.YtejhmfimfgjmhaaW.PrintMore Go.Proofs.Ytejhmfimfgjmhaa.P Go.Proofs.Ytejhmfimfgjmhaa.M
set_option linter.unusedVariables false

theorem refLeft (x0 m : Nat) (h : x0 + m < 1000000000) : (wrap64 (128 - (Int.tmod (wrap64 ((x0 : Int) + (m : Int))) 128))) = ((128 - (x0 + m) % 128 : Nat) : Int) := by
  have e1 : wrap64 ((x0 : Int) + (m : Int)) = ((x0 + m : Nat) : Int) := by unfold wrap64; omega
  rw [e1, Int.tmod_eq_emod_of_nonneg (by omega)]
  clear e1
  unfold wrap64
  omega
theorem w7 (x : Nat) (h : 7 ≤ x) (h2 : x ≤ 128) : wrap64 ((x : Int) - 7) = ((x - 7 : Nat) : Int) := by unfold wrap64; omega
theorem refPut_l0 : ∀ (d x0 : Nat) (out r : List Int) (first : Bool), IsB r → x0 < 128 → mu (x0 + out.length) r.length (!first) < d → x0 + out.length + 14 * mu (x0 + out.length) r.length (!first) < 900000000 →
    Ev (fun k => staddleref09_Put.l0 k (x0 : Int) out r first) (out ++ lay d (x0 + out.length) r (!first), 0)
  | 0, _, _, _, _, _, _, h, _ => by omega
  | d + 1, x0, out, r, first, hb, hx, hd, ha => by
    obtain ⟨a, hA⟩ : ∃ a, x0 + out.length = a := ⟨_, rfl⟩
    by_cases hc : (!first) = true ∧ r.length = 0
    · obtain ⟨hc1, hc2⟩ := hc
      have hf : first = false := by cases first <;> simp_all
      subst hf
      refine Ev.step (f := fun k => staddleref09_Put.j1 k (x0 : Int) out r false false) (fun k => ?_) ?_
      · simp only [staddleref09_Put.l0]
        rw [if_neg (by decide), decide_eq_false (show ¬ ((r.length : Int) > 0) by omega)]
      · refine Ev.step (f := fun _ => some (out, 0)) (fun k => ?_) ?_
        · simp only [staddleref09_Put.j1]
          rw [if_neg (by decide)]
        · unfold lay
          rw [if_pos ⟨rfl, hc2⟩, List.append_nil]
          exact Ev.now _
    · have hm := mu_step (x0 + out.length) r.length (!first) hc
      have hn := n_le (x0 + out.length) r.length
      have hn2 := n_small (x0 + out.length) r.length
      have hp := pad_le (x0 + out.length)
      have hlf := left_le (x0 + out.length)
      have hmu : 2 * r.length ≤ mu (x0 + out.length) r.length (!first) := by unfold mu; omega
      have hk := kind_range (!first) (wal_n (x0 + out.length) r.length) r.length
      have hl : (r.take (wal_n (x0 + out.length) r.length)).length = wal_n (x0 + out.length) r.length := by rw [List.length_take]; omega
      have hpl := pc_length (wal_kind (!first) (wal_n (x0 + out.length) r.length) r.length) (r.take (wal_n (x0 + out.length) r.length))
      rw [hl] at hpl
      have hlen : x0 + (out ++ List.replicate (pad (x0 + out.length)) 0 ++ pc (wal_kind (!first) (wal_n (x0 + out.length) r.length) r.length) (r.take (wal_n (x0 + out.length) r.length))).length = x0 + out.length + pad (x0 + out.length) + (7 + wal_n (x0 + out.length) r.length) := by
        simp only [List.length_append, List.length_replicate, hpl]
        omega
      have ih := refPut_l0 d x0 (out ++ List.replicate (pad (x0 + out.length)) 0 ++ pc (wal_kind (!first) (wal_n (x0 + out.length) r.length) r.length) (r.take (wal_n (x0 + out.length) r.length))) (r.drop (wal_n (x0 + out.length) r.length)) false (hb.drop _) hx
        (by rw [hlen, List.length_drop]; exact Nat.lt_of_lt_of_le (Nat.lt_of_lt_of_le (Nat.lt_succ_self _) hm.1) (Nat.le_of_lt_succ hd)) (by rw [hlen, List.length_drop]; show _ + 14 * mu _ _ true < _; omega)
      rw [hlen] at ih
      have hlay : lay (d + 1) (x0 + out.length) r (!first) = List.replicate (pad (x0 + out.length)) 0 ++ pc (wal_kind (!first) (wal_n (x0 + out.length) r.length) r.length) (r.take (wal_n (x0 + out.length) r.length)) ++ lay d (x0 + out.length + pad (x0 + out.length) + (7 + wal_n (x0 + out.length) r.length)) (r.drop (wal_n (x0 + out.length) r.length)) true := by
        rw [lay, if_neg hc]
      have hres : (out ++ lay (d + 1) (x0 + out.length) r (!first)) = out ++ List.replicate (pad (x0 + out.length)) 0 ++ pc (wal_kind (!first) (wal_n (x0 + out.length) r.length) r.length) (r.take (wal_n (x0 + out.length) r.length)) ++ lay d (x0 + out.length + pad (x0 + out.length) + (7 + wal_n (x0 + out.length) r.length)) (r.drop (wal_n (x0 + out.length) r.length)) (!false) := by
        rw [hlay, Bool.not_false]
        simp only [List.append_assoc]
      rw [hres]
      clear hres hlay
      have eL := refLeft x0 out.length (by omega)
      have hpiece : ∀ kd : Int, kd = wal_kind (!first) (wal_n (x0 + out.length) r.length) r.length → Ev (fun k => if 0 ≤ ((wal_n (x0 + out.length) r.length : Nat) : Int) then (if ((wal_n (x0 + out.length) r.length : Nat) : Int) ≤ (r.length : Int) then ((staddleref09_piece.f k kd (r.take ((wal_n (x0 + out.length) r.length : Nat) : Int).toNat)).bind fun t181 => (if (out ++ List.replicate (pad (x0 + out.length)) 0).length + t181.length < 140737488355328 then (staddleref09_Put.l0 k (x0 : Int) ((out ++ List.replicate (pad (x0 + out.length)) 0) ++ t181) (r.drop ((wal_n (x0 + out.length) r.length : Nat) : Int).toNat) false) else (none))) else (none)) else (none))
          (out ++ List.replicate (pad (x0 + out.length)) 0 ++ pc (wal_kind (!first) (wal_n (x0 + out.length) r.length) r.length) (r.take (wal_n (x0 + out.length) r.length)) ++ lay d (x0 + out.length + pad (x0 + out.length) + (7 + wal_n (x0 + out.length) r.length)) (r.drop (wal_n (x0 + out.length) r.length)) (!false), 0) := by
        intro kd hkd
        subst hkd
        refine Ev.ifT (by omega) (Ev.ifT (by omega) ?_)
        rw [Int.toNat_natCast]
        refine Ev.bind (refpiece_ev _ _ (by omega) (by omega) (hb.take _) (by omega)) ?_
        refine Ev.ifT (by simp only [List.length_append, List.length_replicate, hpl]; omega) ?_
        exact ih
      clear ih hlen
      -- the kind
      have h3 : Ev (fun k => staddleref09_Put.j3 k (x0 : Int) (out ++ List.replicate (pad (x0 + out.length)) 0) r first ((wal_n (x0 + out.length) r.length : Nat) : Int))
          (out ++ List.replicate (pad (x0 + out.length)) 0 ++ pc (wal_kind (!first) (wal_n (x0 + out.length) r.length) r.length) (r.take (wal_n (x0 + out.length) r.length)) ++ lay d (x0 + out.length + pad (x0 + out.length) + (7 + wal_n (x0 + out.length) r.length)) (r.drop (wal_n (x0 + out.length) r.length)) (!false), 0) := by
        generalize wal_n (x0 + out.length) r.length = n at *
        cases hfirst : first
        · subst hfirst
          refine Ev.step (f := fun k => staddleref09_Put.j4 k (x0 : Int) (out ++ List.replicate (pad (x0 + out.length)) 0) r false (n : Int) 3 false) (fun k => ?_) ?_
          · simp only [staddleref09_Put.j3]
            rw [if_neg (by decide)]
          · by_cases hn3 : n = r.length
            · refine Ev.step (fun k => ?_) (hpiece 4 (by unfold wal_kind; rw [Bool.not_false, if_neg (by decide), if_pos hn3]))
              simp only [staddleref09_Put.j4]
              rw [if_neg (by decide), if_neg (by decide), if_pos (show (n : Int) = (r.length : Int) by omega)]
            · refine Ev.step (fun k => ?_) (hpiece 3 (by unfold wal_kind; rw [Bool.not_false, if_neg (by decide), if_neg hn3]))
              simp only [staddleref09_Put.j4]
              rw [if_neg (by decide), if_neg (by decide), if_neg (show ¬ (n : Int) = (r.length : Int) by omega)]
        · subst hfirst
          by_cases hn3 : n = r.length
          · refine Ev.step (f := fun k => staddleref09_Put.j4 k (x0 : Int) (out ++ List.replicate (pad (x0 + out.length)) 0) r true (n : Int) 3 true) (fun k => ?_) ?_
            · simp only [staddleref09_Put.j3]
              rw [if_pos trivial, show ((n : Int) == (r.length : Int)) = true from beq_iff_eq.mpr (by omega)]
            · refine Ev.step (fun k => ?_) (hpiece 1 (by unfold wal_kind; rw [Bool.not_true, if_pos rfl, if_pos hn3]))
              simp only [staddleref09_Put.j4]
              rw [if_pos trivial]
          · refine Ev.step (f := fun k => staddleref09_Put.j4 k (x0 : Int) (out ++ List.replicate (pad (x0 + out.length)) 0) r true (n : Int) 3 false) (fun k => ?_) ?_
            · simp only [staddleref09_Put.j3]
              rw [if_pos trivial, show ((n : Int) == (r.length : Int)) = false from beq_eq_false_iff_ne.mpr (by omega)]
            · refine Ev.step (fun k => ?_) (hpiece 2 (by unfold wal_kind; rw [Bool.not_true, if_pos rfl, if_neg hn3]))
              simp only [staddleref09_Put.j4]
              rw [if_neg (by decide), if_pos trivial]
      have h2 : Ev (fun k => staddleref09_Put.j2 k (x0 : Int) (out ++ List.replicate (pad (x0 + out.length)) 0) r first ((wal_left (x0 + out.length) : Nat) : Int))
          (out ++ List.replicate (pad (x0 + out.length)) 0 ++ pc (wal_kind (!first) (wal_n (x0 + out.length) r.length) r.length) (r.take (wal_n (x0 + out.length) r.length)) ++ lay d (x0 + out.length + pad (x0 + out.length) + (7 + wal_n (x0 + out.length) r.length)) (r.drop (wal_n (x0 + out.length) r.length)) (!false), 0) := by
        refine Ev.step (fun k => ?_) h3
        have e7 := w7 (wal_left (x0 + out.length)) hlf.1 hlf.2
        simp only [staddleref09_Put.j2]
        rw [e7]
        clear e7
        by_cases hgt : (r.length : Int) > ((wal_left (x0 + out.length) - 7 : Nat) : Int)
        · rw [if_pos hgt, show wal_n (x0 + out.length) r.length = wal_left (x0 + out.length) - 7 from by unfold wal_n; rw [if_neg (by omega)]]
        · rw [if_neg hgt, show wal_n (x0 + out.length) r.length = r.length from by unfold wal_n; split <;> omega]
      have h1 : Ev (fun k => staddleref09_Put.j1 k (x0 : Int) out r first true)
          (out ++ List.replicate (pad (x0 + out.length)) 0 ++ pc (wal_kind (!first) (wal_n (x0 + out.length) r.length) r.length) (r.take (wal_n (x0 + out.length) r.length)) ++ lay d (x0 + out.length + pad (x0 + out.length) + (7 + wal_n (x0 + out.length) r.length)) (r.drop (wal_n (x0 + out.length) r.length)) (!false), 0) := by
        refine Ev.step (fun k => ?_) h2
        simp only [staddleref09_Put.j1]
        rw [if_pos trivial, eL]
        clear eL
        by_cases h7 : 128 - (x0 + out.length) % 128 < 7
        · have ep : pad (x0 + out.length) = 128 - (x0 + out.length) % 128 := by unfold pad; rw [if_pos h7]
          have el : wal_left (x0 + out.length) = 128 := by unfold wal_left; rw [if_pos h7]
          rw [if_pos (by omega), if_pos (by omega), Int.toNat_natCast, if_pos (by omega), ep, el]
          rfl
        · have ep : pad (x0 + out.length) = 0 := by unfold pad; rw [if_neg h7]
          have el : wal_left (x0 + out.length) = 128 - (x0 + out.length) % 128 := by unfold wal_left; rw [if_neg h7]
          rw [if_neg (by omega), ep, el, List.replicate_zero, List.append_nil]
      refine Ev.step (fun k => ?_) h1
      simp only [staddleref09_Put.l0]
      cases hfirst : first
      · subst hfirst
        rw [if_neg (by decide)]
        have : r.length ≠ 0 := fun e => hc ⟨rfl, e⟩
        rw [decide_eq_true (show (r.length : Int) > 0 by omega)]
      · subst hfirst
        rw [if_pos rfl]
theorem refPut_ev (a : Int) (r : List Int) (ha : 0 ≤ a) (hb : IsB r) (hl : r.length ≤ 131072) : Ev (fun k => staddleref09_Put.f k a r) (putB a.toNat r, 0) := by
  unfold staddleref09_Put.f
  have e : Int.tmod a 128 = ((a.toNat % 128 : Nat) : Int) := by rw [Int.tmod_eq_emod_of_nonneg ha]; omega
  rw [e]
  refine Ev.ifF (by omega) (Ev.ifF (by omega) ?_)
  have hmu := mu_put (a.toNat % 128) r
  have h := refPut_l0 (2 * r.length + 4) (a.toNat % 128) [] r true hb (by omega) (by simpa using hmu) (by simp only [List.length_nil, Nat.add_zero, Bool.not_true]; omega)
  rw [List.nil_append] at h
  exact h
theorem refPut_neg (a : Int) (r : List Int) (ha : a < 0) : Ev (fun k => staddleref09_Put.f k a r) ([], 1) := by
  unfold staddleref09_Put.f
  exact Ev.ifT ha (Ev.now _)
theorem refPut_long (a : Int) (r : List Int) (ha : 0 ≤ a) (hl : 131072 < r.length) : Ev (fun k => staddleref09_Put.f k a r) ([], 90) := by
  unfold staddleref09_Put.f
  exact Ev.ifF (by omega) (Ev.ifT (by omega) (Ev.now _))
end Go.Proofs.Ytejhmfimfgjmhaa.Q
