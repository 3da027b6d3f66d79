/- What is proved: for all records and any cut staddlelaw09.WalBack answers true. No condition but that the argument can stand in memory. -/
import Derived.Test.YtejhmfimfgjmhaaBackA
import Derived.Test.YtejhmfimfgjmhaaQWalLog
import Derived.Test.YtejhmfimfgjmhaaQAwake09
namespace Go.Proofs.Ytejhmfimfgjmhaa.Pure
open Go.RowKit Go.Proofs.YtejhmfimfgjmhaaW.PrintWords Go.Proofs.YtejhmfimfgjmhaaW.PrintLast Go.Proofs.YtejhmfimfgjmhaaW.PrintMore Go.Proofs.Ytejhmfimfgjmhaa.P Go.Proofs.Ytejhmfimfgjmhaa.M Go.Proofs.Ytejhmfimfgjmhaa.Q
set_option linter.unusedVariables false
theorem wb1 (n : Nat) (h : n < 999999999999999) : wrap64 ((n : Int) + 1) = ((n + 1 : Nat) : Int) := by unfold wrap64; omega
theorem fit_take {rs : List (List Int)} (h : allFit rs = true) (j : Nat) : allFit (rs.take j) = true := allFit_iff.2 fun r hr => allFit_iff.1 h r (List.mem_of_mem_take hr)
theorem back_body (rs : List (List Int)) (hb : ∀ r ∈ rs, IsB r) (hf : allFit rs = true) (hl : rs.length ≤ 30) (x : Int) (hx : 0 ≤ x) :
    Ev (fun k => if (wrap64 (((layAll 0 rs).length : Int) + 1)) = 0 then (none) else ((some (([] : List Int) : List Int)).bind fun y340 => (if 0 ≤ (Int.tmod x (wrap64 (((layAll 0 rs).length : Int) + 1))) then (if (Int.tmod x (wrap64 (((layAll 0 rs).length : Int) + 1))) ≤ ((layAll 0 rs).length : Int) then ((some ((layAll 0 rs).take ((Int.tmod x (wrap64 (((layAll 0 rs).length : Int) + 1))) : Int).toNat : List Int)).bind fun y343 => (if y340.length + y343.length < 140737488355328 then ((wal_Read.f k (y340 ++ y343)).bind fun bt350 => (if (bt350.1.length : Int) > (rs.length : Int) then (some false) else (if bt350.2.1 > (Int.tmod x (wrap64 (((layAll 0 rs).length : Int) + 1))) then (some false) else (if bt350.2.2 = 2 then (some false) else (if 0 ≤ (bt350.1.length : Int) then (if (bt350.1.length : Int) ≤ (rs.length : Int) then ((staddleref09_Same.f k bt350.1 (rs.take ((bt350.1.length : Int) : Int).toNat)).bind fun t359 => ((staddlelaw09_laid.f k (rs.take ((bt350.1.length : Int) : Int).toNat)).bind fun bt364 => (if ((bt350.1.length : Int) = (rs.length : Int)) then (if true = true then (if t359 = true then (if (bt364.1.length : Int) = bt350.2.1 then (some ((bt350.1.length : Int) == (rs.length : Int))) else (some false)) else (some false)) else (some false)) else (if 0 ≤ (wrap64 ((bt350.1.length : Int) + 1)) then (if (wrap64 ((bt350.1.length : Int) + 1)) ≤ (rs.length : Int) then ((staddlelaw09_laid.f k (rs.take ((wrap64 ((bt350.1.length : Int) + 1)) : Int).toNat)).bind fun bt372 => (if true = true then (if t359 = true then (if (bt364.1.length : Int) = bt350.2.1 then (some (decide ((bt372.1.length : Int) > (Int.tmod x (wrap64 (((layAll 0 rs).length : Int) + 1)))))) else (some false)) else (some false)) else (some false))) else (none)) else (none))))) else (none)) else (none)))))) else (none))) else (none)) else (none)))) true := by
  have hL := layAll_len rs 0 (allFit_iff.1 hf)
  have hLb := layAll_IsB rs 0 hb
  have hc0 := hx
  rw [wb1 _ (by omega)]
  have hm : Int.tmod x (((layAll 0 rs).length + 1 : Nat) : Int) = x % (((layAll 0 rs).length + 1 : Nat) : Int) := Int.tmod_eq_emod_of_nonneg hx
  rw [hm]
  have h0 : 0 ≤ x % (((layAll 0 rs).length + 1 : Nat) : Int) := Int.emod_nonneg _ (by omega)
  have h1 : x % (((layAll 0 rs).length + 1 : Nat) : Int) < (((layAll 0 rs).length + 1 : Nat) : Int) := Int.emod_lt_of_pos _ (by omega)
  generalize x % (((layAll 0 rs).length + 1 : Nat) : Int) = cc at *
  obtain ⟨c, rfl⟩ := Int.eq_ofNat_of_zero_le h0
  clear hm hx
  obtain ⟨j, e, hj, he, hr, hle, hlt⟩ := read_cut rs c hLb
  have htl : (rs.take j).length = j := by rw [List.length_take]; omega
  refine Ev.ifF (by omega) (Ev.some_ (Ev.ifT (by omega) (Ev.ifT (by omega) (Ev.some_ (Ev.ifT ?_ ?_)))))
  · rw [Int.toNat_natCast, List.length_take, List.length_nil]; omega
  rw [Int.toNat_natCast, List.nil_append]
  have hrd := Read_ev ((layAll 0 rs).take c) (hLb.take _) (by rw [List.length_take]; omega) (by rw [hr, htl]; omega)
  rw [hr] at hrd
  refine Ev.bind hrd ?_
  simp only [htl]
  refine Ev.ifF (by omega) (Ev.ifF (by omega) (Ev.ifF (by omega) (Ev.ifT (by omega) (Ev.ifT (by omega) ?_))))
  rw [Int.toNat_natCast]
  refine Ev.bind (Same_refl (rs.take j) (by omega)) ?_
  have hlaid := laid_ev (rs.take j) (fun r h => hb r (List.mem_of_mem_take h)) (by omega)
  rw [if_pos (fit_take hf j)] at hlaid
  refine Ev.bind hlaid ?_
  by_cases hje : j = rs.length
  · refine Ev.ifT (by omega) (Ev.ifT trivial (Ev.ifT rfl (Ev.ifT rfl ?_)))
    rw [show ((j : Int) == (rs.length : Int)) = true from beq_iff_eq.mpr (by omega)]
    exact Ev.now _
  · have hlaid2 := laid_ev (rs.take (j + 1)) (fun r h => hb r (List.mem_of_mem_take h)) (by rw [List.length_take]; omega)
    rw [if_pos (fit_take hf (j + 1))] at hlaid2
    have hlt := hlt (by omega)
    rw [wb1 j (by omega)]
    refine Ev.ifF (by omega) (Ev.ifT (by omega) (Ev.ifT (by omega) ?_))
    rw [Int.toNat_natCast]
    refine Ev.bind hlaid2 (Ev.ifT trivial (Ev.ifT rfl (Ev.ifT rfl ?_)))
    rw [decide_eq_true (show (((layAll 0 (rs.take (j + 1))).length : Int) > (c : Int)) by omega)]
    exact Ev.now _
theorem back_j1 (rs : List (List Int)) (hb : ∀ r ∈ rs, IsB r) (hf : allFit rs = true) (hl : rs.length ≤ 30) (x : Int) (hx : 0 ≤ x) : Ev (fun k => staddlelaw09_WalBack.j1 k rs x true (layAll 0 rs)) true := Ev.step (fun k => rfl) (back_body rs hb hf hl x hx)
theorem back_j3 (rs : List (List Int)) (hb : ∀ r ∈ rs, IsB r) (hf : allFit rs = true) (hl : rs.length ≤ 30) (x : Int) (hx : 0 ≤ x) : Ev (fun k => staddlelaw09_WalBack.j3 k rs x true (layAll 0 rs)) true := Ev.step (fun k => rfl) (back_body rs hb hf hl x hx)
theorem wneg (a : Int) (h0 : -9223372036854775808 ≤ a) (h : a < 0) : wrap64 (-(wrap64 (a + 1))) = -(a + 1) := by
  rw [w64 (n := a + 1) (by omega) (by omega)]
  exact w64 (by omega) (by omega)
theorem back_j0 (rs : List (List Int)) (hb : ∀ r ∈ rs, IsB r) (hf : allFit rs = true) (hl : rs.length ≤ 30) (x : Int) (hx : -9223372036854775808 ≤ x) : Ev (fun k => staddlelaw09_WalBack.j0 k rs x true (layAll 0 rs) false) true := by
  by_cases h : x < 0
  · refine Ev.step (fun k => ?_) (back_j1 rs hb hf hl (-(x + 1)) (by omega))
    simp only [staddlelaw09_WalBack.j0]
    rw [if_neg (by decide), if_pos h, wneg x hx h]
  · refine Ev.step (fun k => ?_) (back_j1 rs hb hf hl x (by omega))
    simp only [staddlelaw09_WalBack.j0]
    rw [if_neg (by decide), if_neg h]
theorem back_j2 (rs : List (List Int)) (hb : ∀ r ∈ rs, IsB r) (hf : allFit rs = true) (hl : rs.length ≤ 30) (x : Int) (hx : -9223372036854775808 ≤ x) : Ev (fun k => staddlelaw09_WalBack.j2 k rs x true (layAll 0 rs) false) true := by
  by_cases h : x < 0
  · refine Ev.step (fun k => ?_) (back_j3 rs hb hf hl (-(x + 1)) (by omega))
    simp only [staddlelaw09_WalBack.j2]
    rw [if_neg (by decide), if_pos h, wneg x hx h]
  · refine Ev.step (fun k => ?_) (back_j3 rs hb hf hl x (by omega))
    simp only [staddlelaw09_WalBack.j2]
    rw [if_neg (by decide), if_neg h]
theorem WalBackS (l0 : List (List Int)) (a1 : Int) (w0 : ∀ r ∈ l0, ∀ y ∈ r, (Lit.int .u8 y).wf = true) (w1 : (Lit.int .i64 a1).wf = true) : ∃ k, staddlelaw09_WalBack.f k l0 a1 = some true := by
  have hb : ∀ r ∈ l0, IsB r := fun r hr => IsB.of_wf (w0 r hr)
  have ha := wf_i64 w1
  have h : Ev (fun k => staddlelaw09_WalBack.f k l0 a1) true := by
    unfold staddlelaw09_WalBack.f
    refine Ev.bind awake_ev ?_
    by_cases hl : 30 < l0.length
    · refine Ev.ifT (by omega) (Ev.ifT (by omega) (Ev.some_ ?_))
      have hb2 : ∀ r ∈ l0.take 30, IsB r := fun r h => hb r (List.mem_of_mem_take h)
      have hl2 : (l0.take 30).length ≤ 30 := by rw [List.length_take]; omega
      generalize l0.take 30 = rs at *
      have hlaid := laid_ev rs hb2 (by omega)
      by_cases hf : allFit rs = true
      · rw [if_pos hf] at hlaid
        have hr := read_all rs (layAll_IsB rs 0 hb2)
        have hL := layAll_len rs 0 (allFit_iff.1 hf)
        have hrd := Read_ev (layAll 0 rs) (layAll_IsB rs 0 hb2) (by omega) (by rw [hr]; show rs.length < _; omega)
        rw [hr] at hrd
        refine Ev.bind hlaid (Ev.ifT rfl (Ev.bind hrd (Ev.bind (Same_refl rs (by omega)) (Ev.ifT rfl (Ev.ifT rfl ?_)))))
        exact back_j0 rs hb2 hf hl2 a1 ha.1
      · rw [if_neg hf] at hlaid
        exact Ev.bind hlaid (Ev.ifF (by decide) (Ev.now _))
    · refine Ev.ifF (by omega) ?_
      have hl2 : l0.length ≤ 30 := by omega
      have hlaid := laid_ev l0 hb (by omega)
      by_cases hf : allFit l0 = true
      · rw [if_pos hf] at hlaid
        have hr := read_all l0 (layAll_IsB l0 0 hb)
        have hL := layAll_len l0 0 (allFit_iff.1 hf)
        have hrd := Read_ev (layAll 0 l0) (layAll_IsB l0 0 hb) (by omega) (by rw [hr]; show l0.length < _; omega)
        rw [hr] at hrd
        refine Ev.bind hlaid (Ev.ifT rfl (Ev.bind hrd (Ev.bind (Same_refl l0 (by omega)) (Ev.ifT rfl (Ev.ifT rfl ?_)))))
        exact back_j2 l0 hb hf hl2 a1 ha.1
      · rw [if_neg hf] at hlaid
        exact Ev.bind hlaid (Ev.ifF (by decide) (Ev.now _))
  exact h.rounds
end Go.Proofs.Ytejhmfimfgjmhaa.Pure
