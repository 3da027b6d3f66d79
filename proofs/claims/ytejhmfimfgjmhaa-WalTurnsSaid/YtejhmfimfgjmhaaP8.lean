-- By this session's wip/hprint.py: the kit's print.py with functions by hand beside it. Not trusted: Lean checks it.
import Derived.Test.YtejhmfimfgjmhaaP0
import Derived.Test.YtejhmfimfgjmhaaP1
import Derived.Test.YtejhmfimfgjmhaaP3
namespace Go.Proofs.Ytejhmfimfgjmhaa.P
open Go.RowKit Go.Proofs.YtejhmfimfgjmhaaW.PrintWords Go.Proofs.YtejhmfimfgjmhaaW.PrintLast Go.Proofs.YtejhmfimfgjmhaaW.PrintMore
attribute [local go_sem] max2_int min2_int max_two min_two max_three min_three max_four min_four   -- for this text's walks alone
set_option linter.unusedVariables false
set_option linter.unusedSimpArgs false

/-! ### wal_Read: function 12 -/
def walr_at (at_ : Nat) : Nat := if 128 - at_ % 128 < 7 then at_ + (128 - at_ % 128) else at_
def walr_left (at_ : Nat) : Nat := if 128 - at_ % 128 < 7 then 128 else 128 - at_ % 128
def wal_Read.l : Nat → List Int → List (List Int) → Nat → List Int → Bool → Nat → Option (List (List Int) × Int × Int)
  | 0, _, _, _, _, _, _ => none
  | k + 1, b, recs, size, now, begun, a =>
    if b.length < 140737488355328 ∧ a ≤ b.length then
      if b.length ≤ walr_at a then some (recs, (size : Int), if begun = true then 1 else 0) else
      if (b.drop (walr_at a)).length < 7 then some (recs, (size : Int), 1) else
      ((codec_Fixed.f k ((b.drop (walr_at a)).drop 4) 2).bind fun q =>
        if 0 ≤ q.1 ∧ q.1 < 1000000 then
          if walr_left a < 7 + q.1.toNat then some (recs, (size : Int), 2) else
          if (b.drop (walr_at a)).length < 7 + q.1.toNat then some (recs, (size : Int), 1) else
          ((codec_Fixed.f k (b.drop (walr_at a)) 4).bind fun q4 =>
            ((wal_sum.f (rd (b.drop (walr_at a)) 6) (((b.drop (walr_at a)).take (7 + q.1.toNat)).drop 7)).bind fun sm =>
              if q4.1 = IntKind.u64.wrap sm then
                if rd (b.drop (walr_at a)) 6 < 1 ∨ 4 < rd (b.drop (walr_at a)) 6 ∨ begun = decide (rd (b.drop (walr_at a)) 6 ≤ 2) then some (recs, (size : Int), 2) else
                if now.length + (((b.drop (walr_at a)).take (7 + q.1.toNat)).drop 7).length < 140737488355328 ∧ recs.length < 5864062014805 then
                  if rd (b.drop (walr_at a)) 6 = 2 ∨ rd (b.drop (walr_at a)) 6 = 3 then wal_Read.l k b recs size (now ++ ((b.drop (walr_at a)).take (7 + q.1.toNat)).drop 7) true (walr_at a + (7 + q.1.toNat))
                  else wal_Read.l k b (recs ++ [now ++ ((b.drop (walr_at a)).take (7 + q.1.toNat)).drop 7]) (walr_at a + (7 + q.1.toNat)) [] false (walr_at a + (7 + q.1.toNat))
                else none
              else some (recs, (size : Int), if 7 + q.1.toNat = (b.drop (walr_at a)).length then 1 else 2)))
        else none)
    else none
def wal_Read.f (k : Nat) (l0 : List Int) : Option (List (List Int) × Int × Int) := wal_Read.l k l0 [] 0 [] false 0
theorem walr_w (n : Nat) (h : n ≤ 9223372036854775807) : wrap64 (n : Int) = (n : Int) := by unfold wrap64; omega
theorem walr_w2 (a b n : Nat) (e : a + b = n) (h : n ≤ 9223372036854775807) : wrap64 ((a : Int) + (b : Int)) = (n : Int) := by subst e; unfold wrap64; omega
theorem wal_Read.l_mono : ∀ k b recs size now begun a, LeO (wal_Read.l k b recs size now begun a) (wal_Read.l (k + 1) b recs size now begun a) := by
  intro k
  induction k with
  | zero => intro b recs size now begun a r h; simp [wal_Read.l] at h
  | succ k ih =>
    intro b recs size now begun a r h
    unfold wal_Read.l at h ⊢
    split at h
    · rename_i h1
      rw [if_pos h1]
      split at h
      · rename_i h2; rw [if_pos h2]; exact h
      · rename_i h2
        rw [if_neg h2]
        split at h
        · rename_i h3; rw [if_pos h3]; exact h
        · rename_i h3
          rw [if_neg h3]
          obtain ⟨q, e1, h⟩ := Option.bind_eq_some_iff.mp h
          rw [codec_Fixed.mono _ _ _ _ e1, Option.bind_some]
          split at h
          · rename_i h4
            rw [if_pos h4]
            split at h
            · rename_i h5; rw [if_pos h5]; exact h
            · rename_i h5
              rw [if_neg h5]
              split at h
              · rename_i h6; rw [if_pos h6]; exact h
              · rename_i h6
                rw [if_neg h6]
                obtain ⟨q4, e2, h⟩ := Option.bind_eq_some_iff.mp h
                rw [codec_Fixed.mono _ _ _ _ e2, Option.bind_some]
                obtain ⟨sm, e3, h⟩ := Option.bind_eq_some_iff.mp h
                rw [e3, Option.bind_some]
                split at h
                · rename_i h7
                  rw [if_pos h7]
                  split at h
                  · rename_i h8; rw [if_pos h8]; exact h
                  · rename_i h8
                    rw [if_neg h8]
                    split at h
                    · rename_i h9
                      rw [if_pos h9]
                      split at h
                      · rename_i h10; rw [if_pos h10]; exact ih _ _ _ _ _ _ _ h
                      · rename_i h10; rw [if_neg h10]; exact ih _ _ _ _ _ _ _ h
                    · cases h
                · rename_i h7; rw [if_neg h7]; exact h
          · cases h
    · cases h
theorem wal_Read.mono : ∀ a0 k, LeO (wal_Read.f k a0) (wal_Read.f (k + 1) a0) := fun a0 k => wal_Read.l_mono k a0 [] 0 [] false 0
set_option maxRecDepth 100000 in
set_option maxHeartbeats 4000000 in
theorem wal_Read.calls (k : Nat) (A0 : Option Addr) (c0 : Nat) (l0 : List Int) (r1 : List (List Int)) (r2 r3 : Int) (w : World) (hr0 : Kd.C (Kd.int .u8) w A0 l0.length l0) (hc0 : l0.length ≤ c0) (h : wal_Read.f k l0 = some (r1, r2, r3)) :
    Calls Try.prog 12 #[.slice A0 l0.length c0] w fun e w' => ∃ v0_ : Value, e = .returned (.tuple #[v0_, .int .i64 r2, .int .i64 r3]) ∧ Kd.S (Kd.slice 5 (Kd.int .u8)) 23 w' w.heap.size (fun _ => True) v0_ r1 ∧ Below w.heap.size w w' := by
  have HR0 := Aside0.mk hr0
  have HC0 := Aside0.mk hc0
  have HF := Aside0.mk h
  have HB := Aside0.mk (Below.refl w.heap.size w)
  clear hr0 hc0 h
  go_enter Try.func12, Try.ntmps12
  go_wp2_with fail
  refine wp_scope_straight ?_
  go_wp2_with fail
  refine wp_label ?_
  go_wp2
  go_loopg [2, 3, 4, 5, 6, 7] k (fun g v2 v3 v4 v5 v6 v7 wx => ∃ (recs : List (List Int)) (size : Nat) (now : List Int) (begun : Bool) (a : Nat), v3 = .int .i64 (size : Int) ∧ v4 = .int .i64 0 ∧ v6 = .bool begun ∧ v7 = .int .i64 (a : Int) ∧ Aside0 (wal_Read.l g l0 recs size now begun a = some (r1, r2, r3)) ∧
    Aside0 (Kd.S (Kd.slice 5 (Kd.int .u8)) 23 wx w.heap.size (fun k_ => some k_ ≠ (v5 : Value).ownBlock) v2 recs) ∧ Aside0 (Kd.R (Kd.int .u8) 5 wx w.heap.size (fun _ => True) v5 now) ∧ Aside0 (Below w.heap.size w wx))
  case atStart => exact ⟨[], 0, [], false, 0, rfl, rfl, rfl, rfl, HF, ⟨Kd.S_nil _ _ _ _ _⟩, ⟨Kd.R_nil _ _ _ _ _⟩, HB⟩
  case round =>
    obtain ⟨recs, size, now, begun, a, rfl, rfl, rfl, rfl, HF, HS, HO, HB⟩ := hrel
    cases gk with
    | zero => exact absurd HF.out (by simp [wal_Read.l])
    | succ g =>
      have H := HF.out
      clear HF
      simp only [wal_Read.l] at H
      rename_i hHand
      obtain ⟨lf, hlf⟩ : ∃ x, walr_left a = x := ⟨_, rfl⟩
      obtain ⟨a1, ha1⟩ : ∃ x, walr_at a = x := ⟨_, rfl⟩
      rw [hlf, ha1] at H
      have hl2 : lf = (if 128 - a % 128 < 7 then 128 else 128 - a % 128) := by rw [← hlf]; rfl
      have ha2 : a1 = (if 128 - a % 128 < 7 then a + (128 - a % 128) else a) := by rw [← ha1]; rfl
      clear hlf ha1
      by_cases hb : l0.length < 140737488355328 ∧ a ≤ l0.length
      rotate_left
      · rw [if_neg hb] at H
        cases H
      rw [if_pos hb] at H
      have HH := Aside0.mk H
      clear H
      obtain ⟨hb1, hb2⟩ := hb
      have hlf7 : 7 ≤ lf ∧ lf ≤ 128 := by rw [hl2]; split <;> omega
      have ha7 : a1 ≤ a + 6 := by rw [ha2]; split <;> omega
      have HN := Aside0.mk (And.intro hb1 (And.intro hb2 (And.intro hlf7 ha7)))
      have hm128 : Int.tmod (a : Int) 128 = ((a % 128 : Nat) : Int) := by rw [Int.tmod_eq_emod_of_nonneg (by omega)]; omega
      clear hlf7 ha7
      go_upto_if 21 with fail
      go_cut [7, 8] (fun v7 v8 wc => v7 = .int .i64 (a1 : Int) ∧ v8 = .int .i64 (lf : Int) ∧ Aside0 (Kd.S (Kd.slice 5 (Kd.int .u8)) 23 wc w.heap.size (fun k_ => some k_ ≠ (u5 : Value).ownBlock) u2 recs) ∧ Aside0 (Kd.R (Kd.int .u8) 5 wc w.heap.size (fun _ => True) u5 now) ∧ Aside0 (Below w.heap.size w wc))
      case first =>
        by_cases h7 : 128 - a % 128 < 7
        · have h7b : decide (128 - (a : Int) % 128 < 7) = true := decide_eq_true (by omega)
          have ea : (a : Int) + (128 - (a : Int) % 128) = (a1 : Int) := by rw [ha2, if_pos h7]; omega
          have el : lf = 128 := by rw [hl2, if_pos h7]
          go_wp2
          go_meet
          case rel => exact ⟨by first | (simp [ea]; done) | (congr 1; rw [ha2, if_pos h7]; omega), by rw [el]; rfl, HS, HO, HB⟩
        · have h7b : decide (128 - (a : Int) % 128 < 7) = false := decide_eq_false (by omega)
          have ea : a1 = a := by rw [ha2, if_neg h7]
          have el : (128 - (a : Int) % 128) = (lf : Int) := by rw [hl2, if_neg h7]; omega
          go_wp2
          go_meet
          case rel => exact ⟨by rw [ea], by simp [el], HS, HO, HB⟩
      clear HS HO HB hl2 ha2 hm128 hb1 hb2
      obtain ⟨rfl, rfl, HS, HO, HB⟩ := hcut
      by_cases c1 : l0.length ≤ a1
      · have H := HH.out
        clear HH
        rw [if_pos c1] at H
        have c1b : decide ((l0.length : Int) ≤ (a1 : Int)) = true := decide_eq_true (by omega)
        have c1c : decide (l0.length ≤ a1) = true := decide_eq_true c1
        clear c1
        cases begun
        · simp only [Option.some.injEq, Prod.mk.injEq] at H
          obtain ⟨rfl, rfl, rfl⟩ := H
          go_wp2
          try dsimp only [Exit.noGoto]
          go_ret3
          exact ⟨_, by first | rfl | simp, Kd.S_mono HS.out (fun _ hk => trivial), HB.out⟩
        · simp only [Option.some.injEq, Prod.mk.injEq] at H
          obtain ⟨rfl, rfl, rfl⟩ := H
          go_wp2
          try dsimp only [Exit.noGoto]
          go_ret3
          exact ⟨_, by first | rfl | simp, Kd.S_mono HS.out (fun _ hk => trivial), HB.out⟩
      have c1b : decide ((l0.length : Int) ≤ (a1 : Int)) = false := decide_eq_false (by omega)
      have c1c : decide (l0.length ≤ a1) = false := decide_eq_false c1
      replace HH := Aside0.mk ((if_neg c1).symm.trans HH.out)
      obtain ⟨i5, hi5, _, hs5, _⟩ := info_parts info5
      obtain ⟨A2, hcut2, hrd2, hcp2⟩ := print_drop_of (P := Try.prog) (Value.int .u8) (0 : Int) 23 5 .i64 Try.underlying23 hi5 hs5 A0 c0 l0 (a1 : Int) (by omega) (by omega) HC0.out
      rw [Int.toNat_natCast] at hcut2 hrd2 hcp2
      have HRD := Aside0.mk (show Kd.C (Kd.int .u8) w A2 (l0.drop a1).length (l0.drop a1) from Kd.C_of_reads (h1 := fun _ => rfl) (hrd2 _ (Kd.reads_of_C HR0.out)))
      have HLD := Aside0.mk (show (l0.drop a1).length = l0.length - a1 from List.length_drop)
      obtain ⟨D, hD⟩ : ∃ x, l0.drop a1 = x := ⟨_, rfl⟩
      rw [hD] at HRD HH hcut2 hcp2 HLD
      clear hrd2 hD
      have HCD := Aside0.mk hcp2
      have HC1 := Aside0.mk c1
      clear hcp2 c1 hi5 hs5
      by_cases c2 : D.length < 7
      · have H := HH.out
        clear HH
        rw [if_pos c2] at H
        have c2b : decide ((D.length : Int) < 7) = true := decide_eq_true (by omega)
        have c2c : decide (D.length < 7) = true := decide_eq_true c2
        simp only [Option.some.injEq, Prod.mk.injEq] at H
        obtain ⟨rfl, rfl, rfl⟩ := H
        go_wp2
        try dsimp only [Exit.noGoto]
        go_ret3
        exact ⟨_, by first | rfl | simp, Kd.S_mono HS.out (fun _ hk => trivial), HB.out⟩
      have c2b : decide ((D.length : Int) < 7) = false := decide_eq_false (by omega)
      have c2c : decide (D.length < 7) = false := decide_eq_false c2
      replace HH := Aside0.mk ((if_neg c2).symm.trans HH.out)
      obtain ⟨i5, hi5, _, hs5, _⟩ := info_parts info5
      obtain ⟨A4, hcut4, hrd4, hcp4⟩ := print_drop_of (P := Try.prog) (Value.int .u8) (0 : Int) 23 5 .i64 Try.underlying23 hi5 hs5 A2 (c0 - a1) D 4 (by decide) (by omega) HCD.out
      replace hcut4 := hcut4
      have HRE := Aside0.mk (show Kd.C (Kd.int .u8) w A4 (D.drop 4).length (D.drop 4) from Kd.C_of_reads (h1 := fun _ => rfl) (hrd4 _ (Kd.reads_of_C HRD.out)))
      obtain ⟨E, hE⟩ : ∃ x, D.drop 4 = x := ⟨_, rfl⟩
      have HLE := Aside0.mk (show E.length = D.length - 4 from by rw [← hE]; exact List.length_drop)
      have hDE : D.length - 4 = E.length := by rw [← hE]; exact List.length_drop.symm
      rw [hE] at HRE HH
      rw [show (4 : Int).toNat = 4 from rfl, hE] at hcut4 hcp4
      have HCE := Aside0.mk hcp4
      have HC2 := Aside0.mk c2
      clear hcp4 c2 hi5 hs5 hrd4 hE
      obtain ⟨⟨q1, qe⟩, hq, H⟩ := Option.bind_eq_some_iff.mp HH.out
      dsimp only at H
      clear HH
      have HQ := Aside0.mk hq
      clear hq
      by_cases hn : 0 ≤ q1 ∧ q1 < 1000000
      rotate_left
      · rw [if_neg hn] at H
        cases H
      rw [if_pos hn] at H
      obtain ⟨n, hn1⟩ : ∃ n : Nat, q1 = (n : Int) := ⟨q1.toNat, by omega⟩
      subst hn1
      rw [Int.toNat_natCast] at H
      have hn2 : n < 1000000 := by omega
      obtain ⟨m, hm⟩ : ∃ m : Nat, 7 + n = m := ⟨_, rfl⟩
      rw [hm] at H
      have HH := Aside0.mk H
      have HNM := Aside0.mk (And.intro hn2 hm)
      have hw1 : wrap64 (n : Int) = (n : Int) := walr_w n (by omega)
      have hw2 : wrap64 (7 + (n : Int)) = (m : Int) := walr_w2 7 n m hm (by omega)
      have hw1' : IntKind.i64.wrap (n : Int) = (n : Int) := (i64_w _).trans hw1
      have hw2' : IntKind.i64.wrap (7 + (n : Int)) = (m : Int) := (i64_w _).trans hw2
      clear H hn hn2 hm
      go_upto_if 47 with (first
        | (go_at_call 18; first | rw [hDE] | skip; with_reducible refine (codec_Fixed.calls g A4 _ E 2 (n : Int) qe _ (Kd.C_below HRE.out HB.out) HCE.out HQ.out).mono ?_; rintro ex w2 ⟨rfl, ⟨nd, rfl⟩⟩))
      obtain ⟨W2, hW2⟩ : ∃ x, wc.drewN nd = x := ⟨_, rfl⟩
      replace HS := Aside0.mk (Kd.S_drewN HS.out nd)
      replace HO := Aside0.mk (Kd.R_drewN HO.out nd)
      replace HB := Aside0.mk (pw_below_drewN HB.out nd)
      rw [hW2] at HS HO HB ⊢
      clear hW2 hw1 hw1' hw2 hw2' hcut4 hcut2
      by_cases c3 : lf < m
      · have H := HH.out
        clear HH
        rw [if_pos c3] at H
        have c3b : decide ((lf : Int) < (m : Int)) = true := decide_eq_true (by omega)
        have c3c : decide (lf < m) = true := decide_eq_true c3
        rw [c3c]
        simp only [Option.some.injEq, Prod.mk.injEq] at H
        obtain ⟨rfl, rfl, rfl⟩ := H
        go_wp2
        try dsimp only [Exit.noGoto]
        go_ret3
        exact ⟨_, by first | rfl | simp, Kd.S_mono HS.out (fun _ hk => trivial), HB.out⟩
      have c3b : decide ((lf : Int) < (m : Int)) = false := decide_eq_false (by omega)
      have c3c : decide (lf < m) = false := decide_eq_false c3
      rw [c3c]
      replace HH := Aside0.mk ((if_neg c3).symm.trans HH.out)
      have HC3 := Aside0.mk c3
      clear c3
      by_cases c4 : D.length < m
      · have H := HH.out
        clear HH
        rw [if_pos c4] at H
        have c4b : decide ((D.length : Int) < (m : Int)) = true := decide_eq_true (by omega)
        have c4c : decide (D.length < m) = true := decide_eq_true c4
        simp only [Option.some.injEq, Prod.mk.injEq] at H
        obtain ⟨rfl, rfl, rfl⟩ := H
        go_wp2
        try dsimp only [Exit.noGoto]
        go_ret3
        exact ⟨_, by first | rfl | simp, Kd.S_mono HS.out (fun _ hk => trivial), HB.out⟩
      have c4b : decide ((D.length : Int) < (m : Int)) = false := decide_eq_false (by omega)
      have c4c : decide (D.length < m) = false := decide_eq_false c4
      replace HH := Aside0.mk ((if_neg c4).symm.trans HH.out)
      have HC4 := Aside0.mk c4
      clear c4
      obtain ⟨i5, hi5, _, hs5, _⟩ := info_parts info5
      obtain ⟨A5, hcut5, hrd5, hcp5⟩ := print_mid_of (P := Try.prog) (Value.int .u8) (0 : Int) 23 5 .i64 .i64 Try.underlying23 hi5 hs5 A2 (c0 - a1) D 7 (m : Int) (by decide) (by have := HNM.out.2; omega) (by have := HC4.out; omega) HCD.out
      rw [show (7 : Int).toNat = 7 from rfl, Int.toNat_natCast] at hcut5 hrd5 hcp5
      have HRT := Aside0.mk (show Kd.C (Kd.int .u8) w A5 ((D.take m).drop 7).length ((D.take m).drop 7) from Kd.C_of_reads (h1 := fun _ => rfl) (hrd5 _ (Kd.reads_of_C HRD.out)))
      have HLT := Aside0.mk (show ((D.take m).drop 7).length = n from by have h1 := HNM.out.2; have h2 := HC4.out; rw [List.length_drop, List.length_take]; omega)
      obtain ⟨T, hT⟩ : ∃ x, (D.take m).drop 7 = x := ⟨_, rfl⟩
      rw [hT] at HRT HH hcut5 hcp5 HLT
      have HCT := Aside0.mk hcp5
      clear hcp5 hi5 hs5 hrd5 hT
      obtain ⟨ad, eA, hcell⟩ := Kd.at_int (Kd.C_below HRD.out HB.out) 6 (by decide) (by have := HC2.out; omega)
      subst eA
      obtain ⟨κ, hκ⟩ : ∃ x, rd D 6 = x := ⟨_, rfl⟩
      rw [hκ] at HH hcell
      have hcell6 : W2.cell? ⟨ad.block, ad.off + 6, none⟩ = some (.int .u8 κ) := by simpa [Addr.add] using hcell
      obtain ⟨⟨q4, qe4⟩, hq, H⟩ := Option.bind_eq_some_iff.mp HH.out
      dsimp only at H
      clear HH
      have HQ4 := Aside0.mk hq
      clear hq
      obtain ⟨sm, hsm, H⟩ := Option.bind_eq_some_iff.mp H
      have HSM := Aside0.mk hsm
      have HH := Aside0.mk H
      clear H hsm hκ
      have c2e : decide (6 < D.length) = true := decide_eq_true (by have := HC2.out; omega)
      have c2f : decide (6 < (D.length : Int)) = true := decide_eq_true (by have := HC2.out; omega)
      have c2g : 6 < D.length := by have := HC2.out; omega
      go_wp2_with fail
      go_quiet (fail)
      replace HS := Aside0.mk (Kd.S_drewN HS.out nq)
      replace HO := Aside0.mk (Kd.R_drewN HO.out nq)
      replace HB := Aside0.mk (pw_below_drewN HB.out nq)
      obtain ⟨W3, hW3⟩ : ∃ x, W2.drewN nq = x := ⟨_, rfl⟩
      rw [hW3] at HS HO HB ⊢
      clear hW3 hcell hcell6 hcut5 c2e c2f c2g
      go_upto_if 68 with (first
        | (go_at_call 18; with_reducible refine (codec_Fixed.calls g (some ad) _ D 4 q4 qe4 _ (Kd.C_below HRD.out HB.out) HCD.out HQ4.out).mono ?_; rintro ex w3 ⟨rfl, ⟨nd3, rfl⟩⟩)
        | (go_at_call 19; with_reducible refine (wal_sum.calls κ A5 _ T sm _ (Kd.C_drewN (Kd.C_below HRT.out HB.out) _) HCT.out HSM.out).mono ?_; rintro e w4 ⟨rfl, hb4⟩))
      replace HS := Aside0.mk (Kd.S_below (Kd.S_drewN HS.out nd3) hb4)
      replace HO := Aside0.mk (Kd.R_below (Kd.R_drewN HO.out nd3) hb4)
      replace HB := Aside0.mk (below_step (pw_below_drewN HB.out nd3) hb4)
      clear hb4
      by_cases c5 : q4 = IntKind.u64.wrap sm
      rotate_left
      · have H := HH.out
        clear HH
        rw [if_neg c5] at H
        have c5b : (q4 != IntKind.u64.wrap sm) = true := bne_iff_ne.mpr c5
        rw [c5b]
        by_cases c6 : m = D.length
        · rw [if_pos c6] at H
          have c6b : ((m : Int) == (D.length : Int)) = true := beq_iff_eq.mpr (by omega)
          have c6c : (m == D.length) = true := beq_iff_eq.mpr c6
          simp only [Option.some.injEq, Prod.mk.injEq] at H
          obtain ⟨rfl, rfl, rfl⟩ := H
          clear c6
          go_wp2
          try dsimp only [Exit.noGoto]
          go_ret3
          exact ⟨_, by first | rfl | simp, Kd.S_mono HS.out (fun _ hk => trivial), HB.out⟩
        · rw [if_neg c6] at H
          have c6b : ((m : Int) == (D.length : Int)) = false := beq_eq_false_iff_ne.mpr (by omega)
          have c6c : (m == D.length) = false := beq_eq_false_iff_ne.mpr c6
          simp only [Option.some.injEq, Prod.mk.injEq] at H
          obtain ⟨rfl, rfl, rfl⟩ := H
          clear c6
          go_wp2
          try dsimp only [Exit.noGoto]
          go_ret3
          exact ⟨_, by first | rfl | simp, Kd.S_mono HS.out (fun _ hk => trivial), HB.out⟩
      replace HH := Aside0.mk ((if_pos c5).symm.trans HH.out)
      have c5b : (q4 != IntKind.u64.wrap sm) = false := bne_eq_false_iff_eq.mpr c5
      rw [c5b]
      clear c5 c5b
      by_cases k0 : κ < 1 ∨ 4 < κ ∨ begun = decide (κ ≤ 2)
      · have H := HH.out
        clear HH
        rw [if_pos k0] at H
        simp only [Option.some.injEq, Prod.mk.injEq] at H
        obtain ⟨rfl, rfl, rfl⟩ := H
        by_cases k1 : κ < 1
        · have k1b : decide (κ < 1) = true := decide_eq_true k1
          clear k0
          go_wp2
          try dsimp only [Exit.noGoto]
          go_ret3
          exact ⟨_, by first | rfl | simp, Kd.S_mono HS.out (fun _ hk => trivial), HB.out⟩
        have k1b : decide (κ < 1) = false := decide_eq_false k1
        by_cases k2 : 4 < κ
        · have k2b : decide (4 < κ) = true := decide_eq_true k2
          clear k0
          go_wp2
          try dsimp only [Exit.noGoto]
          go_ret3
          exact ⟨_, by first | rfl | simp, Kd.S_mono HS.out (fun _ hk => trivial), HB.out⟩
        have k2b : decide (4 < κ) = false := decide_eq_false k2
        replace k0 := (k0.resolve_left k1).resolve_left k2
        cases begun
        · have k3b : decide (κ ≤ 2) = false := k0.symm
          clear k0 k1 k2
          go_wp2
          try dsimp only [Exit.noGoto]
          go_ret3
          exact ⟨_, by first | rfl | simp, Kd.S_mono HS.out (fun _ hk => trivial), HB.out⟩
        · have k3b : decide (κ ≤ 2) = true := k0.symm
          clear k0 k1 k2
          go_wp2
          try dsimp only [Exit.noGoto]
          go_ret3
          exact ⟨_, by first | rfl | simp, Kd.S_mono HS.out (fun _ hk => trivial), HB.out⟩
      have hk4 : (κ = 1 ∧ begun = false) ∨ (κ = 2 ∧ begun = false) ∨ (κ = 3 ∧ begun = true) ∨ (κ = 4 ∧ begun = true) := by
        cases begun
        · have h3 : ¬ (false = decide (κ ≤ 2)) := fun h => k0 (.inr (.inr h))
          have h4 : κ ≤ 2 := by
            by_cases h : κ ≤ 2
            · exact h
            · exact absurd (decide_eq_false h).symm h3
          have : ¬ κ < 1 := fun h => k0 (.inl h)
          have : κ = 1 ∨ κ = 2 := by omega
          simpa using this
        · have h3 : ¬ (true = decide (κ ≤ 2)) := fun h => k0 (.inr (.inr h))
          have h4 : ¬ κ ≤ 2 := fun h => h3 (decide_eq_true h).symm
          have : ¬ 4 < κ := fun h => k0 (.inr (.inl h))
          have : κ = 3 ∨ κ = 4 := by omega
          simpa using this
      clear k0
      have HW := Aside0.mk (walr_w2 a1 m (a1 + m) rfl (by have h0 := HC1.out; have h1 := HC4.out; have h2 := HLD.out; have h3 := HN.out.1; omega))
      have hw9 := HW.out
      have hw9' : IntKind.i64.wrap ((a1 : Int) + (m : Int)) = ((a1 + m : Nat) : Int) := (i64_w _).trans hw9
      rcases hk4 with ⟨hk, hbeg⟩ | ⟨hk, hbeg⟩ | ⟨hk, hbeg⟩ | ⟨hk, hbeg⟩
      · subst hk
        subst hbeg
        have H := HH.out
        clear HH
        rw [if_neg (by decide)] at H
        by_cases c7 : now.length + T.length < 140737488355328 ∧ recs.length < 5864062014805
        rotate_left
        · rw [if_neg c7] at H
          cases H
        rw [if_pos c7, if_neg (by decide)] at H
        have HLL := Aside0.mk c7
        have HLL := Aside0.mk c7
        obtain ⟨N, hN⟩ : ∃ x, now ++ T = x := ⟨_, rfl⟩
        have HNL := Aside0.mk (show N.length = now.length + T.length from by rw [← hN, List.length_append])
        have HNT := Aside0.mk hN
        rw [hN] at H
        have HH := Aside0.mk H
        clear H c7 hN
        (go_wp2_with (first
            | ((with_reducible refine gate_builtin (b := .append) (xs := #[.tmp 85, .tmp 86]) rfl ?_); (try (refine gate_guard (by rfl) ?_; dsimp only)); at_builtin; refine Kd.R_append_rows (Kd.int .u8) (w0 := w) w.heap.size rfl (.tmp 85) (.tmp 86) 23 5 (.int .u8 0) 1 rfl Try.underlying23 info5 rfl (by decide) (by omega) u5 now T _ _ _ (fun _ => True) (fun _ => False) rfl rfl ?aO ?aR (fun _ _ h => h) (fun _ h => h.elim) ?aF ?aB ?aS ?aL ?_; (case aR => exact Kd.C_below HRT.out HB.out); (case aB => exact HB.out); (case aF => exact (fun _ _ => trivial)); (case aO => exact HO.out); (case aS => exact below_size HB.out); (case aL => have := HLL.out.1; omega); intro v88 w88 ho hb hg hat; rw [HNT.out] at ho; have n0_ := Aside0.mk (Kd.S_after (ok := (fun _ => True)) (Kd.S_mono HS.out (fun _ hk => ⟨trivial, hk⟩)) hg hat); clear HS HB HO; have HS := n0_; have HB := Aside0.mk hb; have HO := Aside0.mk ho; clear n0_ ho hb hg hat)
            | ((with_reducible refine gate_dst (N := 100) rfl ?_); (try (refine gate_guard (by rfl) ?_; dsimp only)); refine Kd.R_lit (Kd.int .u8) _ 5 ?hg (N := 100) ?hd (xs := ([] : List Int)) (inner := []) (ok := fun _ => True) (okp := fun _ => True) ?hr ?hp (fun _ hk => hk) trivial (Below.refl _ _) (Nat.le_refl _) (by simp) ?_; (case hd => rfl); (case hg => rfl); (case hr => first | (go_simp; done) | (go_simp; rfl)); (case hp => exact (Reps.none _ _)); intro v100 w100 ho1 hb hg_ hnew_; clear hg_ hnew_; have n0_ := Aside0.mk (Kd.S_elder' HS.out (Kd.R_base ho1) hb); have n1_ := Aside0.mk (Kd.R_elder' HO.out (Kd.R_base ho1) hb); have n2_ := Aside0.mk (Kd.R_lower (Kd.R_new' ho1 (Kd.R_lt HO.out)) (below_size HB.out)); have n3_ := Aside0.mk (below_step HB.out hb); clear HS HO HB; have HS := n0_; have HO := n1_; have HO2 := n2_; have HB := n3_; clear n0_ n1_ n2_ n3_; clear hb ho1; obtain ⟨Ao71, co71, eo71⟩ := Kd.R_slice HO.out; subst eo71)
            | ((with_reducible refine gate_builtin (b := .append) (xs := #[.tmp 100, .tmp 101]) rfl ?_); (try (refine gate_guard (by rfl) ?_; dsimp only)); at_builtin; refine Kd.R_append_rows (Kd.int .u8) (w0 := w) w.heap.size rfl (.tmp 100) (.tmp 101) 23 5 (.int .u8 0) 1 rfl Try.underlying23 info5 rfl (by decide) (by omega) v100 [] N _ _ _ (fun k_ => some k_ ≠ (.slice Ao71 N.length co71 : Value).ownBlock) (fun _ => False) rfl rfl ?aO ?aR (fun _ _ h => h) (fun _ h => h.elim) ?aF ?aB ?aS ?aL ?_; (case aR => exact (Kd.R_reads' HO.out).2.2); (case aB => exact HB.out); (case aF => exact (fun k_ hk => Kd.fresh' (Kd.R_lt HO.out) k_ hk)); (case aO => exact Kd.R_mono HO2.out (fun _ hk => hk.2)); (case aS => exact below_size HB.out); (case aL => have := HLL.out.1; have := HNL.out; simp only [List.length_nil]; omega); intro v102 w102 ho hb hg hat; rw [List.nil_append] at ho; have n0_ := Aside0.mk (Kd.S_after (ok := (fun k_ => some k_ ≠ (.slice Ao71 N.length co71 : Value).ownBlock)) (Kd.S_mono HS.out (fun _ hk => ⟨hk.1.2, hk.2⟩)) hg hat); have n1_ := Aside0.mk (Kd.R_after (ok := (fun _ => True)) HO.out hg hat); clear HS HO HB HO2; have HS := n0_; have HO := n1_; have HB := Aside0.mk hb; have HO3 := Aside0.mk ho; clear n0_ n1_; clear ho hb hg hat; obtain ⟨Ao73, co73, eo73⟩ := Kd.R_slice HO3.out; subst eo73)
            | ((with_reducible refine gate_builtin (b := .append) (xs := #[.tmp 99, .tmp 103]) rfl ?_); (try (refine gate_guard (by rfl) ?_; dsimp only)); at_builtin; refine Kd.S_append (Kd.slice 5 (Kd.int .u8)) (w0 := w) w.heap.size rfl (.tmp 99) (.tmp 103) 28 23 (.slice none 0 0) 24 rfl Try.underlying28 info23 rfl (by decide) (by omega) u2 recs N [.slice Ao73 N.length co73] (fun k_ => some k_ ≠ (.slice Ao71 N.length co71 : Value).ownBlock) (fun k_ => some k_ = (.slice Ao73 N.length co73 : Value).ownBlock) rfl rfl ?aP (fun k_ hk_ => ((Kd.R_mono (ok' := fun k_ => ((fun k_ => some k_ ≠ (.slice Ao71 N.length co71 : Value).ownBlock)) k_ ∧ some k_ ≠ (u2 : Value).ownBlock) (Kd.R_apart' (HO3.out) (Kd.S_typed HS.out) (by decide)) (fun k_ hk => ⟨hk.1, hk.2⟩))).1 k_ hk_.symm) ?aF ?aO ?aB ?aS ?aL ?_; (case aP => exact Kd.M_row (Kd.R_mono (Kd.R_tight rfl (Kd.R_mono (ok' := fun k_ => ((fun k_ => some k_ ≠ (.slice Ao71 N.length co71 : Value).ownBlock)) k_ ∧ some k_ ≠ (u2 : Value).ownBlock) (Kd.R_apart' (HO3.out) (Kd.S_typed HS.out) (by decide)) (fun k_ hk => ⟨hk.1, hk.2⟩))) (fun _ h_ => h_))); (case aB => exact HB.out); (case aF => exact (fun k_ hk => Kd.fresh' (Kd.R_lt HO.out) k_ hk)); (case aO => exact Kd.S_mono HS.out (fun k_ hk => ⟨hk.1, fun e_ => hk.2 e_⟩)); (case aS => exact below_size HB.out); (case aL => have := HLL.out.2; omega); intro v104 w104 ho hb hg hat; have n0_ := Aside0.mk (Kd.R_over' HO.out (Kd.S_typed HS.out) (by decide) hg); clear HO HB HS HO3; have HO := n0_; have HB := Aside0.mk hb; have HS := Aside0.mk ho; clear n0_; clear ho hb hg hat)))
        go_roundg g
        case measure => omega
        case rel =>
          exact ⟨_, _, _, _, a1 + m, rfl, rfl, rfl, by rw [Int.natCast_add], HH, ⟨Kd.S_mono HS.out (fun _ hk => by simp [Value.ownBlock])⟩, ⟨Kd.R_nil _ _ _ _ _⟩, HB⟩
      · subst hk
        subst hbeg
        have H := HH.out
        clear HH
        rw [if_neg (by decide)] at H
        by_cases c7 : now.length + T.length < 140737488355328 ∧ recs.length < 5864062014805
        rotate_left
        · rw [if_neg c7] at H
          cases H
        rw [if_pos c7, if_pos (by decide)] at H
        have HLL := Aside0.mk c7
        have HLL := Aside0.mk c7
        obtain ⟨N, hN⟩ : ∃ x, now ++ T = x := ⟨_, rfl⟩
        have HNL := Aside0.mk (show N.length = now.length + T.length from by rw [← hN, List.length_append])
        have HNT := Aside0.mk hN
        rw [hN] at H
        have HH := Aside0.mk H
        clear H c7 hN
        (go_wp2_with (first
            | ((with_reducible refine gate_builtin (b := .append) (xs := #[.tmp 85, .tmp 86]) rfl ?_); (try (refine gate_guard (by rfl) ?_; dsimp only)); at_builtin; refine Kd.R_append_rows (Kd.int .u8) (w0 := w) w.heap.size rfl (.tmp 85) (.tmp 86) 23 5 (.int .u8 0) 1 rfl Try.underlying23 info5 rfl (by decide) (by omega) u5 now T _ _ _ (fun _ => True) (fun _ => False) rfl rfl ?aO ?aR (fun _ _ h => h) (fun _ h => h.elim) ?aF ?aB ?aS ?aL ?_; (case aR => exact Kd.C_below HRT.out HB.out); (case aB => exact HB.out); (case aF => exact (fun _ _ => trivial)); (case aO => exact HO.out); (case aS => exact below_size HB.out); (case aL => have := HLL.out.1; omega); intro v88 w88 ho hb hg hat; rw [HNT.out] at ho; have n0_ := Aside0.mk (Kd.S_after (ok := (fun _ => True)) (Kd.S_mono HS.out (fun _ hk => ⟨trivial, hk⟩)) hg hat); clear HS HB HO; have HS := n0_; have HB := Aside0.mk hb; have HO := Aside0.mk ho; clear n0_ ho hb hg hat)
            | ((with_reducible refine gate_dst (N := 100) rfl ?_); (try (refine gate_guard (by rfl) ?_; dsimp only)); refine Kd.R_lit (Kd.int .u8) _ 5 ?hg (N := 100) ?hd (xs := ([] : List Int)) (inner := []) (ok := fun _ => True) (okp := fun _ => True) ?hr ?hp (fun _ hk => hk) trivial (Below.refl _ _) (Nat.le_refl _) (by simp) ?_; (case hd => rfl); (case hg => rfl); (case hr => first | (go_simp; done) | (go_simp; rfl)); (case hp => exact (Reps.none _ _)); intro v100 w100 ho1 hb hg_ hnew_; clear hg_ hnew_; have n0_ := Aside0.mk (Kd.S_elder' HS.out (Kd.R_base ho1) hb); have n1_ := Aside0.mk (Kd.R_elder' HO.out (Kd.R_base ho1) hb); have n2_ := Aside0.mk (Kd.R_lower (Kd.R_new' ho1 (Kd.R_lt HO.out)) (below_size HB.out)); have n3_ := Aside0.mk (below_step HB.out hb); clear HS HO HB; have HS := n0_; have HO := n1_; have HO2 := n2_; have HB := n3_; clear n0_ n1_ n2_ n3_; clear hb ho1; obtain ⟨Ao71, co71, eo71⟩ := Kd.R_slice HO.out; subst eo71)
            | ((with_reducible refine gate_builtin (b := .append) (xs := #[.tmp 100, .tmp 101]) rfl ?_); (try (refine gate_guard (by rfl) ?_; dsimp only)); at_builtin; refine Kd.R_append_rows (Kd.int .u8) (w0 := w) w.heap.size rfl (.tmp 100) (.tmp 101) 23 5 (.int .u8 0) 1 rfl Try.underlying23 info5 rfl (by decide) (by omega) v100 [] N _ _ _ (fun k_ => some k_ ≠ (.slice Ao71 N.length co71 : Value).ownBlock) (fun _ => False) rfl rfl ?aO ?aR (fun _ _ h => h) (fun _ h => h.elim) ?aF ?aB ?aS ?aL ?_; (case aR => exact (Kd.R_reads' HO.out).2.2); (case aB => exact HB.out); (case aF => exact (fun k_ hk => Kd.fresh' (Kd.R_lt HO.out) k_ hk)); (case aO => exact Kd.R_mono HO2.out (fun _ hk => hk.2)); (case aS => exact below_size HB.out); (case aL => have := HLL.out.1; have := HNL.out; simp only [List.length_nil]; omega); intro v102 w102 ho hb hg hat; rw [List.nil_append] at ho; have n0_ := Aside0.mk (Kd.S_after (ok := (fun k_ => some k_ ≠ (.slice Ao71 N.length co71 : Value).ownBlock)) (Kd.S_mono HS.out (fun _ hk => ⟨hk.1.2, hk.2⟩)) hg hat); have n1_ := Aside0.mk (Kd.R_after (ok := (fun _ => True)) HO.out hg hat); clear HS HO HB HO2; have HS := n0_; have HO := n1_; have HB := Aside0.mk hb; have HO3 := Aside0.mk ho; clear n0_ n1_; clear ho hb hg hat; obtain ⟨Ao73, co73, eo73⟩ := Kd.R_slice HO3.out; subst eo73)
            | ((with_reducible refine gate_builtin (b := .append) (xs := #[.tmp 99, .tmp 103]) rfl ?_); (try (refine gate_guard (by rfl) ?_; dsimp only)); at_builtin; refine Kd.S_append (Kd.slice 5 (Kd.int .u8)) (w0 := w) w.heap.size rfl (.tmp 99) (.tmp 103) 28 23 (.slice none 0 0) 24 rfl Try.underlying28 info23 rfl (by decide) (by omega) u2 recs N [.slice Ao73 N.length co73] (fun k_ => some k_ ≠ (.slice Ao71 N.length co71 : Value).ownBlock) (fun k_ => some k_ = (.slice Ao73 N.length co73 : Value).ownBlock) rfl rfl ?aP (fun k_ hk_ => ((Kd.R_mono (ok' := fun k_ => ((fun k_ => some k_ ≠ (.slice Ao71 N.length co71 : Value).ownBlock)) k_ ∧ some k_ ≠ (u2 : Value).ownBlock) (Kd.R_apart' (HO3.out) (Kd.S_typed HS.out) (by decide)) (fun k_ hk => ⟨hk.1, hk.2⟩))).1 k_ hk_.symm) ?aF ?aO ?aB ?aS ?aL ?_; (case aP => exact Kd.M_row (Kd.R_mono (Kd.R_tight rfl (Kd.R_mono (ok' := fun k_ => ((fun k_ => some k_ ≠ (.slice Ao71 N.length co71 : Value).ownBlock)) k_ ∧ some k_ ≠ (u2 : Value).ownBlock) (Kd.R_apart' (HO3.out) (Kd.S_typed HS.out) (by decide)) (fun k_ hk => ⟨hk.1, hk.2⟩))) (fun _ h_ => h_))); (case aB => exact HB.out); (case aF => exact (fun k_ hk => Kd.fresh' (Kd.R_lt HO.out) k_ hk)); (case aO => exact Kd.S_mono HS.out (fun k_ hk => ⟨hk.1, fun e_ => hk.2 e_⟩)); (case aS => exact below_size HB.out); (case aL => have := HLL.out.2; omega); intro v104 w104 ho hb hg hat; have n0_ := Aside0.mk (Kd.R_over' HO.out (Kd.S_typed HS.out) (by decide) hg); clear HO HB HS HO3; have HO := n0_; have HB := Aside0.mk hb; have HS := Aside0.mk ho; clear n0_; clear ho hb hg hat)))
        go_roundg g
        case measure => omega
        case rel =>
          exact ⟨_, _, _, _, a1 + m, rfl, rfl, rfl, by rw [Int.natCast_add], HH, ⟨Kd.S_mono HS.out (fun _ hk => by first | exact hk | exact hk.2)⟩, HO, HB⟩
      · subst hk
        subst hbeg
        have H := HH.out
        clear HH
        rw [if_neg (by decide)] at H
        by_cases c7 : now.length + T.length < 140737488355328 ∧ recs.length < 5864062014805
        rotate_left
        · rw [if_neg c7] at H
          cases H
        rw [if_pos c7, if_pos (by decide)] at H
        have HLL := Aside0.mk c7
        have HLL := Aside0.mk c7
        obtain ⟨N, hN⟩ : ∃ x, now ++ T = x := ⟨_, rfl⟩
        have HNL := Aside0.mk (show N.length = now.length + T.length from by rw [← hN, List.length_append])
        have HNT := Aside0.mk hN
        rw [hN] at H
        have HH := Aside0.mk H
        clear H c7 hN
        (go_wp2_with (first
            | ((with_reducible refine gate_builtin (b := .append) (xs := #[.tmp 85, .tmp 86]) rfl ?_); (try (refine gate_guard (by rfl) ?_; dsimp only)); at_builtin; refine Kd.R_append_rows (Kd.int .u8) (w0 := w) w.heap.size rfl (.tmp 85) (.tmp 86) 23 5 (.int .u8 0) 1 rfl Try.underlying23 info5 rfl (by decide) (by omega) u5 now T _ _ _ (fun _ => True) (fun _ => False) rfl rfl ?aO ?aR (fun _ _ h => h) (fun _ h => h.elim) ?aF ?aB ?aS ?aL ?_; (case aR => exact Kd.C_below HRT.out HB.out); (case aB => exact HB.out); (case aF => exact (fun _ _ => trivial)); (case aO => exact HO.out); (case aS => exact below_size HB.out); (case aL => have := HLL.out.1; omega); intro v88 w88 ho hb hg hat; rw [HNT.out] at ho; have n0_ := Aside0.mk (Kd.S_after (ok := (fun _ => True)) (Kd.S_mono HS.out (fun _ hk => ⟨trivial, hk⟩)) hg hat); clear HS HB HO; have HS := n0_; have HB := Aside0.mk hb; have HO := Aside0.mk ho; clear n0_ ho hb hg hat)
            | ((with_reducible refine gate_dst (N := 100) rfl ?_); (try (refine gate_guard (by rfl) ?_; dsimp only)); refine Kd.R_lit (Kd.int .u8) _ 5 ?hg (N := 100) ?hd (xs := ([] : List Int)) (inner := []) (ok := fun _ => True) (okp := fun _ => True) ?hr ?hp (fun _ hk => hk) trivial (Below.refl _ _) (Nat.le_refl _) (by simp) ?_; (case hd => rfl); (case hg => rfl); (case hr => first | (go_simp; done) | (go_simp; rfl)); (case hp => exact (Reps.none _ _)); intro v100 w100 ho1 hb hg_ hnew_; clear hg_ hnew_; have n0_ := Aside0.mk (Kd.S_elder' HS.out (Kd.R_base ho1) hb); have n1_ := Aside0.mk (Kd.R_elder' HO.out (Kd.R_base ho1) hb); have n2_ := Aside0.mk (Kd.R_lower (Kd.R_new' ho1 (Kd.R_lt HO.out)) (below_size HB.out)); have n3_ := Aside0.mk (below_step HB.out hb); clear HS HO HB; have HS := n0_; have HO := n1_; have HO2 := n2_; have HB := n3_; clear n0_ n1_ n2_ n3_; clear hb ho1; obtain ⟨Ao71, co71, eo71⟩ := Kd.R_slice HO.out; subst eo71)
            | ((with_reducible refine gate_builtin (b := .append) (xs := #[.tmp 100, .tmp 101]) rfl ?_); (try (refine gate_guard (by rfl) ?_; dsimp only)); at_builtin; refine Kd.R_append_rows (Kd.int .u8) (w0 := w) w.heap.size rfl (.tmp 100) (.tmp 101) 23 5 (.int .u8 0) 1 rfl Try.underlying23 info5 rfl (by decide) (by omega) v100 [] N _ _ _ (fun k_ => some k_ ≠ (.slice Ao71 N.length co71 : Value).ownBlock) (fun _ => False) rfl rfl ?aO ?aR (fun _ _ h => h) (fun _ h => h.elim) ?aF ?aB ?aS ?aL ?_; (case aR => exact (Kd.R_reads' HO.out).2.2); (case aB => exact HB.out); (case aF => exact (fun k_ hk => Kd.fresh' (Kd.R_lt HO.out) k_ hk)); (case aO => exact Kd.R_mono HO2.out (fun _ hk => hk.2)); (case aS => exact below_size HB.out); (case aL => have := HLL.out.1; have := HNL.out; simp only [List.length_nil]; omega); intro v102 w102 ho hb hg hat; rw [List.nil_append] at ho; have n0_ := Aside0.mk (Kd.S_after (ok := (fun k_ => some k_ ≠ (.slice Ao71 N.length co71 : Value).ownBlock)) (Kd.S_mono HS.out (fun _ hk => ⟨hk.1.2, hk.2⟩)) hg hat); have n1_ := Aside0.mk (Kd.R_after (ok := (fun _ => True)) HO.out hg hat); clear HS HO HB HO2; have HS := n0_; have HO := n1_; have HB := Aside0.mk hb; have HO3 := Aside0.mk ho; clear n0_ n1_; clear ho hb hg hat; obtain ⟨Ao73, co73, eo73⟩ := Kd.R_slice HO3.out; subst eo73)
            | ((with_reducible refine gate_builtin (b := .append) (xs := #[.tmp 99, .tmp 103]) rfl ?_); (try (refine gate_guard (by rfl) ?_; dsimp only)); at_builtin; refine Kd.S_append (Kd.slice 5 (Kd.int .u8)) (w0 := w) w.heap.size rfl (.tmp 99) (.tmp 103) 28 23 (.slice none 0 0) 24 rfl Try.underlying28 info23 rfl (by decide) (by omega) u2 recs N [.slice Ao73 N.length co73] (fun k_ => some k_ ≠ (.slice Ao71 N.length co71 : Value).ownBlock) (fun k_ => some k_ = (.slice Ao73 N.length co73 : Value).ownBlock) rfl rfl ?aP (fun k_ hk_ => ((Kd.R_mono (ok' := fun k_ => ((fun k_ => some k_ ≠ (.slice Ao71 N.length co71 : Value).ownBlock)) k_ ∧ some k_ ≠ (u2 : Value).ownBlock) (Kd.R_apart' (HO3.out) (Kd.S_typed HS.out) (by decide)) (fun k_ hk => ⟨hk.1, hk.2⟩))).1 k_ hk_.symm) ?aF ?aO ?aB ?aS ?aL ?_; (case aP => exact Kd.M_row (Kd.R_mono (Kd.R_tight rfl (Kd.R_mono (ok' := fun k_ => ((fun k_ => some k_ ≠ (.slice Ao71 N.length co71 : Value).ownBlock)) k_ ∧ some k_ ≠ (u2 : Value).ownBlock) (Kd.R_apart' (HO3.out) (Kd.S_typed HS.out) (by decide)) (fun k_ hk => ⟨hk.1, hk.2⟩))) (fun _ h_ => h_))); (case aB => exact HB.out); (case aF => exact (fun k_ hk => Kd.fresh' (Kd.R_lt HO.out) k_ hk)); (case aO => exact Kd.S_mono HS.out (fun k_ hk => ⟨hk.1, fun e_ => hk.2 e_⟩)); (case aS => exact below_size HB.out); (case aL => have := HLL.out.2; omega); intro v104 w104 ho hb hg hat; have n0_ := Aside0.mk (Kd.R_over' HO.out (Kd.S_typed HS.out) (by decide) hg); clear HO HB HS HO3; have HO := n0_; have HB := Aside0.mk hb; have HS := Aside0.mk ho; clear n0_; clear ho hb hg hat)))
        go_roundg g
        case measure => omega
        case rel =>
          exact ⟨_, _, _, _, a1 + m, rfl, rfl, rfl, by rw [Int.natCast_add], HH, ⟨Kd.S_mono HS.out (fun _ hk => by first | exact hk | exact hk.2)⟩, HO, HB⟩
      · subst hk
        subst hbeg
        have H := HH.out
        clear HH
        rw [if_neg (by decide)] at H
        by_cases c7 : now.length + T.length < 140737488355328 ∧ recs.length < 5864062014805
        rotate_left
        · rw [if_neg c7] at H
          cases H
        rw [if_pos c7, if_neg (by decide)] at H
        have HLL := Aside0.mk c7
        have HLL := Aside0.mk c7
        obtain ⟨N, hN⟩ : ∃ x, now ++ T = x := ⟨_, rfl⟩
        have HNL := Aside0.mk (show N.length = now.length + T.length from by rw [← hN, List.length_append])
        have HNT := Aside0.mk hN
        rw [hN] at H
        have HH := Aside0.mk H
        clear H c7 hN
        (go_wp2_with (first
            | ((with_reducible refine gate_builtin (b := .append) (xs := #[.tmp 85, .tmp 86]) rfl ?_); (try (refine gate_guard (by rfl) ?_; dsimp only)); at_builtin; refine Kd.R_append_rows (Kd.int .u8) (w0 := w) w.heap.size rfl (.tmp 85) (.tmp 86) 23 5 (.int .u8 0) 1 rfl Try.underlying23 info5 rfl (by decide) (by omega) u5 now T _ _ _ (fun _ => True) (fun _ => False) rfl rfl ?aO ?aR (fun _ _ h => h) (fun _ h => h.elim) ?aF ?aB ?aS ?aL ?_; (case aR => exact Kd.C_below HRT.out HB.out); (case aB => exact HB.out); (case aF => exact (fun _ _ => trivial)); (case aO => exact HO.out); (case aS => exact below_size HB.out); (case aL => have := HLL.out.1; omega); intro v88 w88 ho hb hg hat; rw [HNT.out] at ho; have n0_ := Aside0.mk (Kd.S_after (ok := (fun _ => True)) (Kd.S_mono HS.out (fun _ hk => ⟨trivial, hk⟩)) hg hat); clear HS HB HO; have HS := n0_; have HB := Aside0.mk hb; have HO := Aside0.mk ho; clear n0_ ho hb hg hat)
            | ((with_reducible refine gate_dst (N := 100) rfl ?_); (try (refine gate_guard (by rfl) ?_; dsimp only)); refine Kd.R_lit (Kd.int .u8) _ 5 ?hg (N := 100) ?hd (xs := ([] : List Int)) (inner := []) (ok := fun _ => True) (okp := fun _ => True) ?hr ?hp (fun _ hk => hk) trivial (Below.refl _ _) (Nat.le_refl _) (by simp) ?_; (case hd => rfl); (case hg => rfl); (case hr => first | (go_simp; done) | (go_simp; rfl)); (case hp => exact (Reps.none _ _)); intro v100 w100 ho1 hb hg_ hnew_; clear hg_ hnew_; have n0_ := Aside0.mk (Kd.S_elder' HS.out (Kd.R_base ho1) hb); have n1_ := Aside0.mk (Kd.R_elder' HO.out (Kd.R_base ho1) hb); have n2_ := Aside0.mk (Kd.R_lower (Kd.R_new' ho1 (Kd.R_lt HO.out)) (below_size HB.out)); have n3_ := Aside0.mk (below_step HB.out hb); clear HS HO HB; have HS := n0_; have HO := n1_; have HO2 := n2_; have HB := n3_; clear n0_ n1_ n2_ n3_; clear hb ho1; obtain ⟨Ao71, co71, eo71⟩ := Kd.R_slice HO.out; subst eo71)
            | ((with_reducible refine gate_builtin (b := .append) (xs := #[.tmp 100, .tmp 101]) rfl ?_); (try (refine gate_guard (by rfl) ?_; dsimp only)); at_builtin; refine Kd.R_append_rows (Kd.int .u8) (w0 := w) w.heap.size rfl (.tmp 100) (.tmp 101) 23 5 (.int .u8 0) 1 rfl Try.underlying23 info5 rfl (by decide) (by omega) v100 [] N _ _ _ (fun k_ => some k_ ≠ (.slice Ao71 N.length co71 : Value).ownBlock) (fun _ => False) rfl rfl ?aO ?aR (fun _ _ h => h) (fun _ h => h.elim) ?aF ?aB ?aS ?aL ?_; (case aR => exact (Kd.R_reads' HO.out).2.2); (case aB => exact HB.out); (case aF => exact (fun k_ hk => Kd.fresh' (Kd.R_lt HO.out) k_ hk)); (case aO => exact Kd.R_mono HO2.out (fun _ hk => hk.2)); (case aS => exact below_size HB.out); (case aL => have := HLL.out.1; have := HNL.out; simp only [List.length_nil]; omega); intro v102 w102 ho hb hg hat; rw [List.nil_append] at ho; have n0_ := Aside0.mk (Kd.S_after (ok := (fun k_ => some k_ ≠ (.slice Ao71 N.length co71 : Value).ownBlock)) (Kd.S_mono HS.out (fun _ hk => ⟨hk.1.2, hk.2⟩)) hg hat); have n1_ := Aside0.mk (Kd.R_after (ok := (fun _ => True)) HO.out hg hat); clear HS HO HB HO2; have HS := n0_; have HO := n1_; have HB := Aside0.mk hb; have HO3 := Aside0.mk ho; clear n0_ n1_; clear ho hb hg hat; obtain ⟨Ao73, co73, eo73⟩ := Kd.R_slice HO3.out; subst eo73)
            | ((with_reducible refine gate_builtin (b := .append) (xs := #[.tmp 99, .tmp 103]) rfl ?_); (try (refine gate_guard (by rfl) ?_; dsimp only)); at_builtin; refine Kd.S_append (Kd.slice 5 (Kd.int .u8)) (w0 := w) w.heap.size rfl (.tmp 99) (.tmp 103) 28 23 (.slice none 0 0) 24 rfl Try.underlying28 info23 rfl (by decide) (by omega) u2 recs N [.slice Ao73 N.length co73] (fun k_ => some k_ ≠ (.slice Ao71 N.length co71 : Value).ownBlock) (fun k_ => some k_ = (.slice Ao73 N.length co73 : Value).ownBlock) rfl rfl ?aP (fun k_ hk_ => ((Kd.R_mono (ok' := fun k_ => ((fun k_ => some k_ ≠ (.slice Ao71 N.length co71 : Value).ownBlock)) k_ ∧ some k_ ≠ (u2 : Value).ownBlock) (Kd.R_apart' (HO3.out) (Kd.S_typed HS.out) (by decide)) (fun k_ hk => ⟨hk.1, hk.2⟩))).1 k_ hk_.symm) ?aF ?aO ?aB ?aS ?aL ?_; (case aP => exact Kd.M_row (Kd.R_mono (Kd.R_tight rfl (Kd.R_mono (ok' := fun k_ => ((fun k_ => some k_ ≠ (.slice Ao71 N.length co71 : Value).ownBlock)) k_ ∧ some k_ ≠ (u2 : Value).ownBlock) (Kd.R_apart' (HO3.out) (Kd.S_typed HS.out) (by decide)) (fun k_ hk => ⟨hk.1, hk.2⟩))) (fun _ h_ => h_))); (case aB => exact HB.out); (case aF => exact (fun k_ hk => Kd.fresh' (Kd.R_lt HO.out) k_ hk)); (case aO => exact Kd.S_mono HS.out (fun k_ hk => ⟨hk.1, fun e_ => hk.2 e_⟩)); (case aS => exact below_size HB.out); (case aL => have := HLL.out.2; omega); intro v104 w104 ho hb hg hat; have n0_ := Aside0.mk (Kd.R_over' HO.out (Kd.S_typed HS.out) (by decide) hg); clear HO HB HS HO3; have HO := n0_; have HB := Aside0.mk hb; have HS := Aside0.mk ho; clear n0_; clear ho hb hg hat)))
        go_roundg g
        case measure => omega
        case rel =>
          exact ⟨_, _, _, _, a1 + m, rfl, rfl, rfl, by rw [Int.natCast_add], HH, ⟨Kd.S_mono HS.out (fun _ hk => by simp [Value.ownBlock])⟩, ⟨Kd.R_nil _ _ _ _ _⟩, HB⟩

end Go.Proofs.Ytejhmfimfgjmhaa.P
