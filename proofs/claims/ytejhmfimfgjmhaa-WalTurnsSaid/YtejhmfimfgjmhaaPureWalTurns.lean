/- What is proved: for all records, any bit and all that may follow staddlelaw09.WalTurns answers true. No condition but that the arguments can stand in memory. -/
import Derived.Test.YtejhmfimfgjmhaaP16
import Derived.Test.YtejhmfimfgjmhaaQWalLog
import Derived.Test.YtejhmfimfgjmhaaQAwake09
namespace Go.Proofs.Ytejhmfimfgjmhaa.Pure
open Go.RowKit Go.Proofs.YtejhmfimfgjmhaaW.PrintWords Go.Proofs.YtejhmfimfgjmhaaW.PrintLast Go.Proofs.YtejhmfimfgjmhaaW.PrintMore Go.Proofs.Ytejhmfimfgjmhaa.P Go.Proofs.Ytejhmfimfgjmhaa.M Go.Proofs.Ytejhmfimfgjmhaa.Q
set_option linter.unusedVariables false
theorem turn_byte (c : Int) (j : Nat) (h0 : 0 ≤ c) (h1 : c < 256) (hj : j < 8) : Go.bits .xor .u8 c (shl .u8 1 (j : Int)) ≠ c ∧ 0 ≤ Go.bits .xor .u8 c (shl .u8 1 (j : Int)) ∧ Go.bits .xor .u8 c (shl .u8 1 (j : Int)) < 256 := by
  obtain ⟨n, rfl⟩ := Int.eq_ofNat_of_zero_le h0
  have hn : n < 256 := by omega
  have hs : ∀ j : Fin 8, shl .u8 1 (j.val : Int) = ((2 ^ j.val : Nat) : Int) := by decide
  have hx : ∀ j : Fin 8, (2 ^ j.val : Nat) < 256 := by decide
  have hs' := hs ⟨j, hj⟩
  have hx' := hx ⟨j, hj⟩
  simp only at hs' hx'
  rw [hs', u8_xor_nat n (2 ^ j) hn hx']
  have hlt : n ^^^ 2 ^ j < 256 := Nat.xor_lt_two_pow (n := 8) hn hx'
  refine ⟨?_, by omega, by omega⟩
  intro h
  have h2 : n ^^^ 2 ^ j = n := by omega
  have h3 := congrArg (fun x => n ^^^ x) h2
  simp only [← Nat.xor_assoc, Nat.xor_self, Nat.zero_xor] at h3
  have := Nat.two_pow_pos j
  omega
theorem set_ne {l : List Int} {i : Nat} {d : Int} (hi : i < l.length) (h : d ≠ l[i]) : l.set i d ≠ l := by
  intro e
  apply h
  have h2 := List.getElem_set_self (a := d) (by simpa using hi : i < (l.set i d).length)
  rw [← h2]
  congr 1
theorem crc_set {l : List Int} (hB : IsB l) {i : Nat} {d : Int} (hi : i < l.length) (h0 : 0 ≤ d) (h1 : d < 256) (hne : d ≠ l[i]) : crc (l.set i d) ≠ crc l := by
  obtain ⟨c, hc⟩ : ∃ c, l[i] = c := ⟨_, rfl⟩
  have hcb := hB c (by rw [← hc]; exact List.getElem_mem hi)
  rw [hc] at hne
  have hl : l = l.take i ++ c :: l.drop (i + 1) := by rw [← hc, ← List.drop_eq_getElem_cons hi, List.take_append_drop]
  have hset : l.set i d = l.take i ++ d :: l.drop (i + 1) := List.set_eq_take_append_cons_drop .. |>.trans (by rw [if_pos hi])
  rw [hset]
  intro h
  have h2 : crc (l.take i ++ d :: l.drop (i + 1)) = crc (l.take i ++ c :: l.drop (i + 1)) := by rw [← hl]; exact h
  exact crc_turn _ _ d c h0 h1 hcb.1 hcb.2 hne h2
theorem look_bad {B q more : List Int} {a n : Nat} (hq : q.length = 7 + n) (hB : B.drop (a + pad a) = q ++ more) (hn : fxd ((q.drop 4).take 2) = n) (hs : fxd (q.take 4) ≠ psum (rd q (6 : Nat)) (q.drop 7)) :
    (Q.look B false a).1 = 2 ∨ (Q.look B false a).1 = 3 := by
  unfold Q.look lookp
  generalize a + pad a = p at *
  have hlen : B.length - p = 7 + n + more.length := by rw [← List.length_drop, hB, List.length_append, hq]
  have h2 : (B.drop (p + 4)).take 2 = (q.drop 4).take 2 := by
    rw [← List.drop_drop, hB, List.drop_append_of_le_length (by omega), List.take_append_of_le_length (by rw [List.length_drop]; omega)]
  have h4 : (B.drop p).take 4 = q.take 4 := by rw [hB, List.take_append_of_le_length (by omega)]
  have h6 : rd B ((p + 6 : Nat) : Int) = rd q (6 : Nat) := by
    rw [← rd_drop B p 6, hB, rd_nat, rd_nat, List.getD_eq_getElem?_getD, List.getD_eq_getElem?_getD, List.getElem?_append_left (by omega)]
  have h7 : (B.drop (p + 7)).take n = q.drop 7 := by
    rw [← List.drop_drop, hB, List.drop_append_of_le_length (by omega), List.take_left' (by rw [List.length_drop]; omega)]
  rw [h2, hn, h4, h6, h7, if_neg (by omega), if_neg (by omega)]
  by_cases c3 : wal_left a < 7 + n
  · rw [if_pos c3]; right; rfl
  · rw [if_neg c3, if_neg (show ¬ B.length < p + 7 + n by omega), if_neg hs]
    split
    · left; rfl
    · right; rfl
theorem drop6 (l : List Int) : l.drop 6 = (l.drop 4).drop 2 := by rw [List.drop_drop]
theorem drop7 (l : List Int) : l.drop 7 = (l.drop 6).drop 1 := by rw [List.drop_drop]
/-- a piece in which a byte of its sum, of its kind or of what it has is another -/
theorem pc_turned {r : List Int} {v : Nat} {d : Int} (hr : IsB r) (hl : r.length < 65536) (hv : v < 7 + r.length) (hv4 : v ≠ 4) (hv5 : v ≠ 5) (h0 : 0 ≤ d) (h1 : d < 256) (hne : d ≠ rd (pc 1 r) (v : Nat)) :
    fxd ((((pc 1 r).set v d).drop 4).take 2) = r.length ∧ fxd (((pc 1 r).set v d).take 4) ≠ psum (rd ((pc 1 r).set v d) (6 : Nat)) (((pc 1 r).set v d).drop 7) := by
  have hpc : pc 1 r = fx 4 (psum 1 r) ++ (fx 2 r.length ++ (1 :: r)) := by have := pc_parts 1 r []; rwa [List.append_nil, List.append_nil] at this
  have hlen := pc_length 1 r
  have hps := psum_lt 1 r
  have hkr : IsB (1 :: r) := IsB.cons (by decide) (by decide) hr
  have hvl : v < (pc 1 r).length := by rw [hlen]; exact hv
  have hg : rd (pc 1 r) (v : Nat) = (pc 1 r)[v]'hvl := by rw [rd_nat, List.getD_eq_getElem?_getD, List.getElem?_eq_getElem (by omega)]; rfl
  rw [hg] at hne
  have e2 : fxd (fx 2 r.length) = r.length := fxd_two hl
  by_cases hv6 : v < 4
  · have hv4' : v < (fx 4 (psum 1 r)).length := by rw [fx_length]; exact hv6
    have hs : (pc 1 r).set v d = (fx 4 (psum 1 r)).set v d ++ (fx 2 r.length ++ (1 :: r)) := by rw [hpc, List.set_append_left _ _ hv4']
    have hs4 : ((fx 4 (psum 1 r)).set v d).length = 4 := by rw [List.length_set, fx_length]
    have hne' : d ≠ (fx 4 (psum 1 r))[v] := by
      intro e
      apply hne
      rw [e]
      have : (pc 1 r)[v]? = (fx 4 (psum 1 r))[v]? := by rw [hpc, List.getElem?_append_left hv4']
      rw [List.getElem?_eq_getElem (by omega), List.getElem?_eq_getElem hv4'] at this
      exact (Option.some.inj this).symm
    rw [hs]
    have hd4 : ((fx 4 (psum 1 r)).set v d ++ (fx 2 r.length ++ (1 :: r))).drop 4 = fx 2 r.length ++ (1 :: r) := List.drop_left' hs4
    have hd6 : ((fx 4 (psum 1 r)).set v d ++ (fx 2 r.length ++ (1 :: r))).drop 6 = 1 :: r := by rw [drop6, hd4, List.drop_left' (fx_length _ _)]
    have hd7 : ((fx 4 (psum 1 r)).set v d ++ (fx 2 r.length ++ (1 :: r))).drop 7 = r := by rw [drop7, hd6]; rfl
    have hr6 : rd ((fx 4 (psum 1 r)).set v d ++ (fx 2 r.length ++ (1 :: r))) (6 : Nat) = 1 := by
      have := rd_drop ((fx 4 (psum 1 r)).set v d ++ (fx 2 r.length ++ (1 :: r))) 6 0
      rw [hd6, rd_zero] at this
      exact this.symm
    rw [hd4, List.take_left' (fx_length _ _), List.take_left' hs4, hd7, hr6]
    refine ⟨e2, fun e => ?_⟩
    have hB : IsB ((fx 4 (psum 1 r)).set v d) := fun x hx => by
      rcases List.mem_or_eq_of_mem_set hx with h | h
      · exact fx_IsB _ _ x h
      · rw [h]; exact ⟨h0, h1⟩
    have h3 := fx_fxd _ hB
    rw [hs4, e] at h3
    exact set_ne hv4' hne' h3.symm
  · have h46 : 6 ≤ v := by omega
    have hs4 : ((pc 1 r).set v d).take 4 = fx 4 (psum 1 r) := by rw [List.take_set_of_le (by omega), hpc, List.take_left' (fx_length _ _)]
    have hd4 : (((pc 1 r).set v d).drop 4).take 2 = fx 2 r.length := by
      rw [List.drop_set, if_neg (by omega), List.take_set_of_le (by omega), hpc, List.drop_left' (fx_length _ _), List.take_left' (fx_length _ _)]
    have hp6 : (pc 1 r).drop 6 = 1 :: r := by rw [hpc, drop6, List.drop_left' (fx_length _ _), List.drop_left' (fx_length _ _)]
    have hd6 : ((pc 1 r).set v d).drop 6 = (1 :: r).set (v - 6) d := by rw [List.drop_set, if_neg (by omega), hp6]
    have hk : (1 :: r).set (v - 6) d = rd ((pc 1 r).set v d) (6 : Nat) :: ((pc 1 r).set v d).drop 7 := by
      have hlt : 6 < ((pc 1 r).set v d).length := by rw [List.length_set]; omega
      rw [← hd6, List.drop_eq_getElem_cons hlt, rd_nat, List.getD_eq_getElem?_getD, List.getElem?_eq_getElem hlt]
      rfl
    rw [hs4, hd4, e2]
    refine ⟨rfl, fun e => ?_⟩
    rw [fxd_four hps] at e
    have hi : v - 6 < (1 :: r).length := by rw [List.length_cons]; omega
    have hne' : d ≠ (1 :: r)[v - 6] := by
      intro e
      apply hne
      rw [e]
      have h5 : ((pc 1 r).drop 6)[v - 6]? = (pc 1 r)[v]? := by rw [List.getElem?_drop, show 6 + (v - 6) = v by omega]
      rw [hp6, List.getElem?_eq_getElem hi, List.getElem?_eq_getElem (by omega)] at h5
      exact Option.some.inj h5
    have hcs := crc_set hkr hi h0 h1 hne'
    apply hcs
    rw [hk]
    have hr1 := crc_range (1 :: r)
    have hr2 := crc_range (rd ((pc 1 r).set v d) (6 : Nat) :: ((pc 1 r).set v d).drop 7)
    refine mask_inj hr2.1 hr2.2 hr1.1 hr1.2 ?_
    rw [← psum_int, ← psum_int, e]
theorem put_one {a : Nat} {r : List Int} (h : a % 128 + 7 + r.length ≤ 128) : putB a r = pc 1 r := by
  have hp : pad a = 0 := by unfold pad; rw [if_neg (by omega)]
  have hlf : wal_left a = 128 - a % 128 := by unfold wal_left; rw [if_neg (by omega)]
  have hn : wal_n a r.length = r.length := by unfold wal_n; rw [hlf]; split <;> omega
  rw [putB_lay, show 2 * r.length + 4 = (2 * r.length + 3) + 1 by omega, lay_one (fun h => by cases h.1), hp, hn, List.drop_length, lay_done, List.take_length, List.append_nil]
  have : wal_kind false r.length r.length = 1 := by unfold wal_kind; rw [if_pos rfl, if_pos rfl]
  rw [this]
  rfl
theorem two (l0 l1 : List Int) (h0 : l0.length ≤ 40) (h1 : l1.length ≤ 40) : layAll 0 [l0, l1] = pc 1 l0 ++ pc 1 l1 := by
  show putB 0 l0 ++ (putB (0 + (putB 0 l0).length) l1 ++ []) = _
  rw [List.append_nil, put_one (a := 0) (by omega), pc_length, put_one (by omega)]
theorem turned_read (l0 l1 l3 : List Int) (hb0 : IsB l0) (hb1 : IsB l1) (hb3 : IsB l3) (h0 : l0.length ≤ 40) (h1 : l1.length ≤ 40) (v : Nat) (d : Int) (hv : v < 7 + l1.length) (hv4 : v ≠ 4) (hv5 : v ≠ 5) (hd0 : 0 ≤ d) (hd1 : d < 256) (hne : d ≠ rd (pc 1 l1) (v : Nat)) :
    ∃ e, (e = 1 ∨ e = 2) ∧ readB ((layAll 0 [l0, l1]).set (7 + l0.length + v) d ++ l3) = ([l0], 7 + l0.length, e) := by
  have hset : (layAll 0 [l0, l1]).set (7 + l0.length + v) d = pc 1 l0 ++ (pc 1 l1).set v d := by
    rw [two l0 l1 h0 h1, List.set_append_right _ _ (by rw [pc_length]; omega), pc_length, show 7 + l0.length + v - (7 + l0.length) = v by omega]
  rw [hset]
  have hqb : IsB ((pc 1 l1).set v d) := fun x hx => by
    rcases List.mem_or_eq_of_mem_set hx with h | h
    · exact pc_IsB (by decide) (by decide) hb1 x h
    · rw [h]; exact ⟨hd0, hd1⟩
  have hB : IsB (pc 1 l0 ++ (pc 1 l1).set v d ++ l3) := ((pc_IsB (by decide) (by decide) hb0).append hqb).append hb3
  have e1 : putB 0 l0 = pc 1 l0 := put_one (a := 0) (by omega)
  have hr := RR_lay (2 * l0.length + 4) 0 l0 false [] (pc 1 l0 ++ (pc 1 l1).set v d ++ l3) [] 0 ((pc 1 l1).set v d ++ l3) hB (mu_put' 0 l0) (fun h => by cases h.1) (by rw [← putB_lay, e1, List.append_assoc]; rfl) (Nat.zero_le _)
  rw [← putB_lay, e1, pc_length, Nat.zero_add, List.nil_append, List.nil_append] at hr
  show ∃ e, (e = 1 ∨ e = 2) ∧ RR (pc 1 l0 ++ (pc 1 l1).set v d ++ l3) [] 0 [] false 0 = _
  rw [hr]
  have hq := pc_turned hb1 (by omega) hv hv4 hv5 hd0 hd1 hne
  have hlq : ((pc 1 l1).set v d).length = 7 + l1.length := by rw [List.length_set, pc_length]
  have hp : pad (7 + l0.length) = 0 := by unfold pad; rw [if_neg (by omega)]
  have hlk := look_bad (a := 7 + l0.length) hlq (B := pc 1 l0 ++ (pc 1 l1).set v d ++ l3) (more := l3) (by rw [hp, Nat.add_zero, List.append_assoc, List.drop_left' (pc_length _ _)]) hq.1 hq.2
  rw [RR_step _ hB _ _ _ _ _ (by simp only [List.length_append, pc_length]; omega), if_neg (by omega)]
  exact ⟨_, by omega, rfl⟩
theorem turns_body (l0 l1 l3 : List Int) (hb0 : IsB l0) (hb1 : IsB l1) (hb3 : IsB l3) (h0 : l0.length ≤ 40) (h1 : l1.length ≤ 40) (hl3 : l3.length ≤ 140737488351232) (x : Int) (hx : 0 ≤ x) (bb : List Int) (hbb : bb = layAll 0 [l0, l1]) :
    Ev (fun k => (if (wrap64 (8 * (wrap64 (7 + (l1.length : Int))))) = 0 then (none) else (if (wrap64 (Int.tdiv (Int.tmod x (wrap64 (8 * (wrap64 (7 + (l1.length : Int)))))) 8)) = 4 then (some true) else (if (wrap64 (Int.tdiv (Int.tmod x (wrap64 (8 * (wrap64 (7 + (l1.length : Int)))))) 8)) = 5 then (some true) else (if 0 ≤ (wrap64 ((wrap64 (7 + (l0.length : Int))) + (wrap64 (Int.tdiv (Int.tmod x (wrap64 (8 * (wrap64 (7 + (l1.length : Int)))))) 8)))) then (if (wrap64 ((wrap64 (7 + (l0.length : Int))) + (wrap64 (Int.tdiv (Int.tmod x (wrap64 (8 * (wrap64 (7 + (l1.length : Int)))))) 8)))) < (bb.length : Int) then (if 0 ≤ (IntKind.u64.wrap (Int.tmod (Int.tmod x (wrap64 (8 * (wrap64 (7 + (l1.length : Int)))))) 8)) then ((some (bb.set ((wrap64 ((wrap64 (7 + (l0.length : Int))) + (wrap64 (Int.tdiv (Int.tmod x (wrap64 (8 * (wrap64 (7 + (l1.length : Int)))))) 8)))) : Int).toNat (Go.bits .xor .u8 (rd bb (wrap64 ((wrap64 (7 + (l0.length : Int))) + (wrap64 (Int.tdiv (Int.tmod x (wrap64 (8 * (wrap64 (7 + (l1.length : Int)))))) 8))))) (shl .u8 1 (IntKind.u64.wrap (Int.tmod (Int.tmod x (wrap64 (8 * (wrap64 (7 + (l1.length : Int)))))) 8)))) : List Int)).bind fun y439 => (if y439.length + l3.length < 140737488355328 then ((wal_Read.f k (y439 ++ l3)).bind fun bt443 => (if true = true then (if (bt443.1.length : Int) = 1 then (if 0 < (bt443.1.length : Int) then (if (strOfNums (rd_L4 bt443.1 0)).toList = (strOfNums l0).toList then (if bt443.2.1 = (wrap64 (7 + (l0.length : Int))) then (some (bt443.2.2 != 0)) else (some false)) else (some false)) else (none)) else (some false)) else (some false))) else (none))) else (none)) else (none)) else (none)))))) true := by
  rw [w64 (n := 7 + (l1.length : Int)) (by omega) (by omega), w64 (n := 8 * (7 + (l1.length : Int))) (by omega) (by omega), w64 (n := 7 + (l0.length : Int)) (by omega) (by omega)]
  have hm : Int.tmod x (8 * (7 + (l1.length : Int))) = x % (8 * (7 + (l1.length : Int))) := Int.tmod_eq_emod_of_nonneg hx
  rw [hm]
  have hu0 : 0 ≤ x % (8 * (7 + (l1.length : Int))) := Int.emod_nonneg _ (by omega)
  have hu1 : x % (8 * (7 + (l1.length : Int))) < 8 * (7 + (l1.length : Int)) := Int.emod_lt_of_pos _ (by omega)
  generalize x % (8 * (7 + (l1.length : Int))) = u at *
  clear hm hx
  obtain ⟨u, rfl⟩ := Int.eq_ofNat_of_zero_le hu0
  have hd : Int.tdiv (u : Int) 8 = ((u / 8 : Nat) : Int) := by rw [Int.tdiv_eq_ediv_of_nonneg (by omega)]; omega
  have hmo : Int.tmod (u : Int) 8 = ((u % 8 : Nat) : Int) := by rw [Int.tmod_eq_emod_of_nonneg (by omega)]; omega
  rw [hd, hmo]
  obtain ⟨v, hv⟩ : ∃ v, u / 8 = v := ⟨_, rfl⟩
  obtain ⟨s, hs⟩ : ∃ s, u % 8 = s := ⟨_, rfl⟩
  rw [hv, hs]
  have hv1 : v < 7 + l1.length := by omega
  have hs1 : s < 8 := by omega
  clear hd hmo hu0 hu1 hv hs
  rw [w64 (n := (v : Int)) (by omega) (by omega), wU64 (n := (s : Int)) (by omega) (by omega), w64 (n := 7 + (l0.length : Int) + (v : Int)) (by omega) (by omega)]
  refine Ev.ifF (by omega) ?_
  by_cases hv4 : v = 4
  · exact Ev.ifT (by omega) (Ev.now _)
  refine Ev.ifF (by omega) ?_
  by_cases hv5 : v = 5
  · exact Ev.ifT (by omega) (Ev.now _)
  refine Ev.ifF (by omega) ?_
  have hbl : bb.length = 14 + l0.length + l1.length := by rw [hbb, two l0 l1 h0 h1, List.length_append, pc_length, pc_length]; omega
  have ep : 7 + (l0.length : Int) + (v : Int) = ((7 + l0.length + v : Nat) : Int) := by omega
  rw [ep]
  have hrd : rd bb ((7 + l0.length + v : Nat) : Int) = rd (pc 1 l1) (v : Nat) := by
    rw [hbb, two l0 l1 h0 h1, rd_nat, rd_nat, List.getD_eq_getElem?_getD, List.getD_eq_getElem?_getD, List.getElem?_append_right (by rw [pc_length]; omega), pc_length, show 7 + l0.length + v - (7 + l0.length) = v by omega]
  have hrb : 0 ≤ rd (pc 1 l1) (v : Nat) ∧ rd (pc 1 l1) (v : Nat) < 256 := rd_byte _ (pc_IsB (by decide) (by decide) hb1) _
  obtain ⟨hne, hd0, hd1⟩ := turn_byte (rd (pc 1 l1) (v : Nat)) s hrb.1 hrb.2 hs1
  rw [hrd]
  generalize Go.bits .xor .u8 (rd (pc 1 l1) (v : Nat)) (shl .u8 1 (s : Int)) = d at *
  obtain ⟨e, he, hread⟩ := turned_read l0 l1 l3 hb0 hb1 hb3 h0 h1 v d hv1 hv4 hv5 hd0 hd1 hne
  refine Ev.ifT (by omega) (Ev.ifT (by omega) (Ev.ifT (by omega) (Ev.some_ (Ev.ifT (by rw [List.length_set]; omega) ?_))))
  rw [Int.toNat_natCast]
  have hBB : IsB (bb.set (7 + l0.length + v) d ++ l3) := by
    refine IsB.append (fun y hy => ?_) hb3
    rcases List.mem_or_eq_of_mem_set hy with h | h
    · rw [hbb, two l0 l1 h0 h1] at h
      exact ((pc_IsB (by decide) (by decide) hb0).append (pc_IsB (by decide) (by decide) hb1)) y h
    · rw [h]; exact ⟨hd0, hd1⟩
  rw [← hbb] at hread
  have hrv := Read_ev (bb.set (7 + l0.length + v) d ++ l3) hBB (by rw [List.length_append, List.length_set]; omega) (by rw [hread]; show 1 < 5864062014805; decide)
  rw [hread] at hrv
  refine Ev.bind hrv (Ev.ifT rfl (Ev.ifT rfl (Ev.ifT (by show (0 : Int) < ((1 : Nat) : Int); decide) (Ev.ifT rfl (Ev.ifT (by show ((7 + l0.length : Nat) : Int) = 7 + (l0.length : Int); omega) ?_)))))
  rw [show (((e : Nat) : Int) != 0) = true from bne_iff_ne.mpr (by omega)]
  exact Ev.now _
theorem turns_j0 (l0 l1 l3 : List Int) (a2 : Int) (hb0 : IsB l0) (hb1 : IsB l1) (hb3 : IsB l3) (h0 : l0.length ≤ 40) (h1 : l1.length ≤ 40) (hl3 : l3.length ≤ 140737488351232) (ha : -9223372036854775808 ≤ a2) : Ev (fun k => staddlelaw09_WalTurns.j0 k l0 l1 a2 l3 true false) true := by
  have hl : Ev (fun k => laid2.f k l0 l1) (layAll 0 [l0, l1], true) := by
    have h := laid_ev [l0, l1] (fun r hr => by
      rcases List.mem_cons.1 hr with h | h
      · rw [h]; exact hb0
      · rw [List.mem_singleton.1 h]; exact hb1) (by simp)
    rw [if_pos (by unfold allFit; simp only [List.all_cons, List.all_nil, Bool.and_true, Bool.and_eq_true, decide_eq_true_eq]; omega)] at h
    exact h
  have hbl : (layAll 0 [l0, l1]).length = 14 + l0.length + l1.length := by rw [two l0 l1 h0 h1, List.length_append, pc_length, pc_length]; omega
  refine Ev.step (fun k => by simp only [staddlelaw09_WalTurns.j0]; rw [if_neg (by decide)]) ?_
  refine Ev.bind hl (Ev.ifT rfl (Ev.ifT ?_ ?_))
  · show ((layAll 0 [l0, l1]).length : Int) = _
    rw [w64 (n := 7 + (l0.length : Int)) (by omega) (by omega), w64 (n := 7 + (l0.length : Int) + 7) (by omega) (by omega), w64 (n := 7 + (l0.length : Int) + 7 + (l1.length : Int)) (by omega) (by omega), hbl]
    omega
  · by_cases h : a2 < 0
    · refine Ev.ifT h ?_
      rw [w64 (n := a2 + 1) (by omega) (by omega), w64 (n := -(a2 + 1)) (by omega) (by omega)]
      exact turns_body l0 l1 l3 hb0 hb1 hb3 h0 h1 hl3 (-(a2 + 1)) (by omega) _ rfl
    · refine Ev.ifF h ?_
      exact turns_body l0 l1 l3 hb0 hb1 hb3 h0 h1 hl3 a2 (by omega) _ rfl
theorem WalTurns : staddlelaw09_WalTurns.Pure := by
  intro l0 l1 a2 l3 _ _ w0 _ _ w1 wa _ y3 w3
  have hb0 := IsB.of_wf w0
  have hb1 := IsB.of_wf w1
  have hb3 := IsB.of_wf w3
  have ha := wf_i64 wa
  have hout : ∀ b : Bool, b = true → Ev (fun k => staddlelaw09_WalTurns.j0 k l0 l1 a2 l3 true b) true := by
    intro b hb
    subst hb
    refine Ev.step (f := fun _ => some true) (fun k => ?_) (Ev.now _)
    simp only [staddlelaw09_WalTurns.j0]
    rw [if_pos trivial]
  have h : Ev (fun k => staddlelaw09_WalTurns.f k l0 l1 a2 l3) true := by
    unfold staddlelaw09_WalTurns.f
    refine Ev.bind awake_ev ?_
    by_cases h0 : 40 < l0.length
    · exact Ev.ifT (by omega) (hout _ rfl)
    · refine Ev.ifF (by omega) ?_
      by_cases h1 : 40 < l1.length
      · exact hout _ (decide_eq_true (by omega))
      · rw [decide_eq_false (show ¬ ((l1.length : Int) > 40) by omega)]
        exact turns_j0 l0 l1 l3 a2 hb0 hb1 hb3 (by omega) (by omega) (by omega) ha.1
  exact h.rounds
end Go.Proofs.Ytejhmfimfgjmhaa.Pure
