/- The document's bloom Build: what it comes to. The document's Build of a block: what it comes to. The document's Build of a table: what it comes to. The walk of SstableBuilds. The document's check sum, bit by bit with the highest power first, is the other one, its bits in the other order. Plain Lean. The document's check sum and its mask are the fold of MCrc. What the document's own PutFixed, PutUvarint, Check, Encode, Compare, and its Build of a block (TQ), come to: MNum's words. Plain Lean. The document's bloom: its Hash, its bits, its Build come to what the program's come to. Plain Lean. The document's Build of a table comes to what the program's comes to. Plain Lean. What SstableBuilds wants. Plain Lean. -/
import Derived.Test.YthdemdjobgbpdaaCB
import Derived.Test.YthdemdjobgbpdaaP14
import Derived.WalkSpells
import Derived.Test.YthdemdjobgbpdaaP17
import Derived.Test.YthdemdjobgbpdaaP15
import Derived.Test.YthdemdjobgbpdaaP18
import Derived.OneCell
import Derived.RangeFuncBox
import Derived.Test.YthdemdjobgbpdaaP20
import Derived.Deep.CutRange
import Derived.Test.YthdemdjobgbpdaaCD
import Derived.Test.YthdemdjobgbpdaaCQ
set_option linter.unusedVariables false
set_option linter.unusedSimpArgs false
namespace Go.Proofs.Ythdemdjobgbpdaa.T
open Go.RowKit Go.Shelf Go.Proofs.YthdemdjobgbpdaaW.PrintWords Go.Proofs.YthdemdjobgbpdaaW.PrintLast Go.Proofs.YthdemdjobgbpdaaW.PrintMore Go.Proofs.Ythdemdjobgbpdaa.P Go.Proofs.Ythdemdjobgbpdaa.B Go.Proofs.Ythdemdjobgbpdaa.Q
attribute [local go_sem] Oper.semAt_some
set_option linter.unusedVariables false
set_option linter.unusedSimpArgs false
/-- a bit that is not set is set -/
def bitOn (L : List Int) (x : Int) : List Int :=
  if rdOf 0 L (x / 8) / 2 ^ (x % 8).toNat % 2 = 0 then L.set (x / 8).toNat ((rdOf 0 L (x / 8) + 2 ^ (x % 8).toNat) % 256) else L
def rbits (n : Nat) : List Int → List Int → Option (List Int)
  | [], L => some L
  | x :: t, L => if 0 ≤ x ∧ x < 8 * (n : Int) then if 0 ≤ rdOf 0 L (x / 8) ∧ rdOf 0 L (x / 8) < 256 then rbits n t (bitOn L x) else none else none
def rrowsB (k n : Nat) (probes : Int) : List ByteArray → List Int → Option (List Int)
  | [], L => some L
  | s :: t, L => (staddleref10_places.f k s (8 * (n : Int)) probes).bind fun l => if l.length < 300 then (rbits n l L).bind fun L2 => rrowsB k n probes t L2 else none
def rbloomB (k : Nat) (keys : List ByteArray) (b : Nat) : Option (List Int × Int) :=
  if okBits b = true then
    if keys.length ≤ 300 then (fIntOf b 4604390187031047700).bind fun p => (fIntOf b (floatOfInt .f64 (keys.length : Int))).bind fun s =>
      if (0 ≤ p ∧ p < 256) ∧ 0 ≤ s ∧ s < 65536 then
        (rrowsB k ((max 64 s + 7) / 8).toNat (max 1 p) keys (List.replicate (((max 64 s + 7) / 8).toNat + 1) 0)).map fun L => (L.set ((max 64 s + 7) / 8).toNat (max 1 p), 0)
      else none
    else none
  else some ([], 100)
theorem mk_row2 (w : World) (n : Nat) (h : n < 100000) : Sem.run Try.prog (Instr.makeSlice 27 (.int .i64 ((n : Int) + 1)) (.int .i64 ((n : Int) + 1))) w = .ok (.slice (some ⟨w.heap.size, 0, none⟩) (n + 1) (n + 1)) (w.alloc (.cells (madeCells #[.int .u8 0] (n + 1)) 5)) := by
  obtain ⟨i5, hi5, hz5, hs5, hb5⟩ := info_parts info5
  have h := run_makeSlice (P := Try.prog) (w := w) 27 5 i5 _ Try.underlying27 hi5 hz5 .i64 .i64 ((n : Int) + 1) ((n : Int) + 1) (by omega) (by omega) (by rw [hs5]; omega) (by rw [hb5]; omega) (by omega)
  rw [hs5] at h
  have e1 : ((n : Int) + 1).toNat = n + 1 := by omega
  rw [e1, Nat.mul_one] at h
  exact h
theorem made_R2 (w : World) (n : Nat) (h : n < 100000) : Kd.R (Kd.int .u8) 5 (w.alloc (.cells (madeCells #[.int .u8 0] (n + 1)) 5)) w.heap.size (fun _ => True) (.slice (some ⟨w.heap.size, 0, none⟩) (List.replicate (n + 1) (0 : Int)).length (n + 1)) (List.replicate (n + 1) 0) := by
  refine Kd.R_of_own ?_ (fun _ _ => trivial)
  rw [List.length_replicate]
  refine ⟨by simp [encs], .inr ⟨w.heap.size, n + 1, _, rfl, Nat.le_refl _, blk_new w _, by omega, by simp [maxLen]; omega, by simp [size_madeCells], ?_⟩⟩
  simp [madeCells, encs]
  apply List.ext_getElem
  · simp
  · intro i h1 h2
    simp [Nat.mod_one]
theorem tr_w8 (n : Nat) (h : n < 10000) : wrap64 (8 * (n : Int)) = 8 * (n : Int) := by unfold wrap64; omega
theorem tr_w1 (i : Nat) (h : i ≤ 300) : wrap64 ((i : Int) + 1) = ((i + 1 : Nat) : Int) := by unfold wrap64; omega
theorem tr_x (x : Int) (n : Nat) (h0 : 0 ≤ x) (h1 : x < 8 * (n : Int)) (hn : n < 10000) : x.tdiv 8 = x / 8 ∧ wrap64 (x / 8) = x / 8 ∧ x.tmod 8 = x % 8 ∧ wrap64 (x % 8) = x % 8 ∧ wrap64 (x.tdiv 8) = x / 8 := by
  have h : x.tdiv 8 = x / 8 := Int.tdiv_eq_ediv_of_nonneg h0
  refine ⟨h, by unfold wrap64; omega, Int.tmod_eq_emod_of_nonneg h0, by unfold wrap64; omega, by rw [h]; unfold wrap64; omega⟩
theorem tr_bit (y : Int) (e : Nat) (h : 0 ≤ y) : (y / 2 ^ e).tmod 2 = y / 2 ^ e % 2 := Int.tmod_eq_emod_of_nonneg (Int.ediv_nonneg h (Int.pow_nonneg (by decide)))
theorem sz_w2 (s : Int) (h0 : 0 ≤ s) (h1 : s < 65536) : ∃ (n : Nat) (m : Int), (max 64 s + 7) / 8 = (n : Int) ∧ n < 10000 ∧ 0 < n ∧ (if s < 64 then 64 else s) = m ∧ wrap64 (m + 7) = m + 7 ∧ (m + 7).tdiv 8 = (n : Int) ∧ wrap64 (n : Int) = (n : Int) := by
  refine ⟨((max 64 s + 7) / 8).toNat, max 64 s, by omega, by omega, by omega, by split <;> omega, by unfold wrap64; omega, ?_, by unfold wrap64; omega⟩
  rw [Int.tdiv_eq_ediv_of_nonneg (by omega)]
  omega
set_option maxRecDepth 100000 in
set_option maxHeartbeats 4000000 in
theorem rbuild_calls (k : Nat) (A0 : Option Addr) (c0 : Nat) (keys : List ByteArray) (b : Nat) (r : List Int × Int) (w : World) (hr0 : Kd.C Kd.string w A0 keys.length keys) (hc0 : keys.length ≤ c0) (hf : rbloomB k keys b = some r) :
    Calls Try.prog 24 #[.slice A0 keys.length c0, .float .f64 b] w fun e w' => ∃ v, e = .returned (.tuple #[v, .int .i64 r.2]) ∧ Kd.R (Kd.int .u8) 5 w' w.heap.size (fun _ => True) v r.1 ∧ Below w.heap.size w w' := by
  have HR0 := Aside0.mk hr0
  have HC0 := Aside0.mk hc0
  clear hr0 hc0
  unfold rbloomB at hf
  by_cases hok : okBits b = true
  case neg =>
    rw [if_neg hok] at hf
    injection hf with hf
    subst hf
    unfold okBits at hok
    by_cases hg : (FloatKind.f64.format.order b 0 == some .gt) = true
    · rw [hg, Bool.true_and] at hok
      have hl : (FloatKind.f64.format.order b 4632233691727265792 == some .lt || FloatKind.f64.format.order b 4632233691727265792 == some .eq) = false := by simpa using hok
      clear hok
      go_enter Try.func24, Try.ntmps24
      go_wp2
      go_ret2
      exact ⟨_, rfl, Kd.R_nil _ _ _ _ _, Below.refl _ _⟩
    · have hg : (FloatKind.f64.format.order b 0 == some .gt) = false := by simpa using hg
      clear hok
      go_enter Try.func24, Try.ntmps24
      go_wp2
      go_ret2
      exact ⟨_, rfl, Kd.R_nil _ _ _ _ _, Below.refl _ _⟩
  case pos =>
  rw [if_pos hok] at hf
  unfold okBits at hok
  rw [Bool.and_eq_true] at hok
  obtain ⟨hg, hl⟩ := hok
  split at hf
  case isFalse => cases hf
  rename_i hk300
  obtain ⟨p, hp, hf⟩ := Option.bind_eq_some_iff.mp hf
  obtain ⟨s, hs, hf⟩ := Option.bind_eq_some_iff.mp hf
  split at hf
  case isFalse => cases hf
  rename_i hb
  obtain ⟨⟨hp0, hp1⟩, hs0, hs1⟩ := hb
  obtain ⟨L, hL, hf⟩ := Option.map_eq_some_iff.1 hf
  subst hf
  rename_i hfa hfb
  clear hfa hfb
  obtain ⟨r1, h1, h2⟩ := fIntOf_some hp
  obtain ⟨r2, h3, h4⟩ := fIntOf_some hs
  obtain ⟨n, m, hn1, hn2, hn3, hn4, hn5, hn6, hn7⟩ := sz_w2 s hs0 hs1
  simp only [hn1, Int.toNat_natCast] at hL ⊢
  obtain ⟨pr, hpr⟩ : ∃ y, max 1 p = y := ⟨_, rfl⟩
  rw [hpr] at hL ⊢
  have hpr2 : pr < 256 ∧ 0 < pr := by clear hn4 hn5 hn6 hn7; omega
  have hm1 : (if p < 1 then 1 else p) = pr := by clear hn4 hn5 hn6 hn7; split <;> omega
  have h5 := mk_row2 (n := n) (h := Nat.lt_trans hn2 (by decide))
  have h7 := cv_len keys.length
  have h8 : Sem.run Try.prog (binOp .mul 24 (.float .f64 b) (.float .f64 (floatOfInt .f64 (keys.length : Int)))) w = .ok (.float .f64 r2) w := h3 _ _
  obtain ⟨fb, hfb⟩ : ∃ x, floatOfInt .f64 (keys.length : Int) = x := ⟨_, rfl⟩
  rw [hfb] at h7 h8 h3
  clear h8 hfb
  have h6 : wrap64 ((n : Int) + 1) = (n : Int) + 1 := by clear hn4 hn5 hn6 hn7; unfold wrap64; omega
  have HN := Aside0.mk hn2
  have HN3 := Aside0.mk hn3
  have HPR := Aside0.mk hpr2
  have HK3 := Aside0.mk hk300
  have HL := Aside0.mk hL
  have HM1 := Aside0.mk hm1
  have HN4 := Aside0.mk hn4
  have H5 := Aside0.mk hn5
  have H6 := Aside0.mk hn6
  have H7 := Aside0.mk hn7
  have HH6 := Aside0.mk h6
  clear hp hs hn1 hp0 hp1 hs0 hs1 hn2 hn3 hpr2 hk300 hL hf hpr hm1 hn4 hn5 hn6 hn7 h6
  go_enter Try.func24, Try.ntmps24
  go_upto_if 27 with fail
  go_cut [7] (fun v7 wc => v7 = .int .i64 pr ∧ w = wc)
  case first =>
    by_cases c : p < 1
    · have c1 : decide (p < 1) = true := decide_eq_true c
      go_wp2
      go_meet
      case rel => exact ⟨by rw [← HM1.out, if_pos c], rfl⟩
    · have c1 : decide (p < 1) = false := decide_eq_false c
      go_wp2
      go_meet
      case rel => exact ⟨by rw [← HM1.out, if_neg (by omega)], rfl⟩
  case rest =>
  obtain ⟨rfl, rfl⟩ := hcut
  go_upto_if 35 with fail
  go_cut [8] (fun v8 wc => v8 = .int .i64 m ∧ w = wc)
  case first =>
    by_cases c : s < 64
    · have c1 : decide (s < 64) = true := decide_eq_true c
      go_wp2
      go_meet
      case rel => exact ⟨by rw [← HN4.out, if_pos c], rfl⟩
    · have c1 : decide (s < 64) = false := decide_eq_false c
      go_wp2
      go_meet
      case rel => exact ⟨by rw [← HN4.out, if_neg (by omega)], rfl⟩
  case rest =>
  obtain ⟨rfl, rfl⟩ := hcut
  go_upto_region 11 with fail
  simp only [H5.out, H6.out, H7.out]
  have h6 := HH6.out
  go_upto_region 12 with fail
  obtain ⟨W, hW⟩ : ∃ W, (w.alloc (.cells (madeCells #[.int .u8 0] (n + 1)) 5)) = W := ⟨_, rfl⟩
  have HO := made_R2 w n (Nat.lt_trans HN.out (by decide))
  rw [List.length_replicate] at HO
  have HO := Aside0.mk HO
  have HB : Aside0 (Below w.heap.size w W) := ⟨by rw [← hW]; exact below_alloc (Below.refl _ _) _⟩
  have HS : Aside0 (w.heap.size < W.heap.size) := ⟨by rw [← hW]; simp⟩
  have HL1 : Aside0 ((List.replicate (n + 1) (0 : Int)).length = n + 1) := ⟨List.length_replicate⟩
  rw [hW] at HO ⊢
  clear hW h1 h2 h3 h4 h5 h6 h7 hg hl
  go_wp2_with fail
  go_loopg [11] (keys.length + 1) (fun gf v11 wx => ∃ (i : Nat) (L1 : List Int), v11 = .int .i64 (i : Int) ∧ Aside0 (gf + i = keys.length + 1 ∧ i ≤ keys.length) ∧ Aside0 (rrowsB k n pr (keys.drop i) L1 = some L) ∧ Aside0 (L1.length = n + 1) ∧ Aside0 (Kd.R (Kd.int .u8) 5 wx w.heap.size (fun _ => True) (.slice (some ⟨w.heap.size, 0, none⟩) (n + 1) (n + 1)) L1) ∧ Aside0 (Below w.heap.size w wx) ∧ Aside0 (w.heap.size < wx.heap.size))
  case atStart => exact ⟨0, _, rfl, ⟨by omega, by omega⟩, HL, HL1, HO, HB, HS⟩
  case round =>
    clear HO HB HS HL HL1
    obtain ⟨i, L1, rfl, HI, HL, HL1, HO, HB, HS⟩ := hrel
    cases gk with
    | zero => exact absurd HI.out.1 (by have := HI.out.2; omega)
    | succ g_ =>
      by_cases ci : i < keys.length
      · have d1 : decide ((i : Int) < (keys.length : Int)) = true := decide_eq_true (by omega)
        have d1b : decide (i < keys.length) = true := decide_eq_true ci
        have d2 := eq_true (show (i : Int) < (keys.length : Int) by omega)
        have d3 := eq_true (show (0 : Int) ≤ (i : Int) by omega)
        obtain ⟨ad, eA, hc⟩ := Kd.at_string (Kd.C_below HR0.out HB.out) (i : Int) (by omega) (by omega)
        subst eA
        rw [Int.toNat_natCast] at hc
        obtain ⟨ks, hks⟩ : ∃ x, rdOf ByteArray.empty keys (i : Int) = x := ⟨_, rfl⟩
        rw [hks] at hc
        have hdrop : keys.drop i = ks :: keys.drop (i + 1) := by
          rw [List.drop_eq_getElem_cons ci, ← hks]
          simp [rdOf, ci]
        have hL := HL.out
        rw [hdrop] at hL
        unfold rrowsB at hL
        obtain ⟨l, hpl, hL⟩ := Option.bind_eq_some_iff.mp hL
        split at hL
        case isFalse => cases hL
        rename_i hl300
        obtain ⟨L2, hrb, hL⟩ := Option.bind_eq_some_iff.mp hL
        have HPL := Aside0.mk hpl
        have HL3 := Aside0.mk hl300
        have HRB := Aside0.mk hrb
        have HLN := Aside0.mk hL
        have HCI := Aside0.mk ci
        have hw8 := tr_w8 n HN.out
        clear hdrop hL hpl hl300 hrb hks ci HL
        go_upto_region 16 with (first
          | (go_at_call 49; (with_reducible refine (staddleref10_places.calls k ks (8 * (n : Int)) pr l _ HPL.out).mono ?_; rintro e w2 ⟨vl, rfl, hob, hb⟩)
             obtain ⟨Al, cl, e4⟩ := Kd.R_slice hob
             subst e4
             have HO2 := Aside0.mk (Kd.R_below HO.out hb)
             have HB2 := Aside0.mk (below_step HB.out hb)
             have HS2 : Aside0 (w.heap.size < w2.heap.size) := ⟨Nat.lt_of_lt_of_le HS.out hb.size⟩
             have HV2 : Aside0 (Kd.R (Kd.int .i64) 3 w2 w.heap.size (fun q => q ≠ w.heap.size) (.slice Al l.length cl) l) := ⟨Kd.R_lower (Kd.R_mono (Kd.R_bound hob) (fun q hq => by have := hq.2.1; have := HS.out; omega)) (Nat.le_of_lt HS.out)⟩
             clear hob hb))
        clear hw8 hc d1 d1b d2 d3
        go_wp2_with fail
        go_loopg [13] (l.length + 1) (fun gf v13 wy => ∃ (j : Nat) (L3 : List Int), v13 = .int .i64 (j : Int) ∧ Aside0 (gf + j = l.length + 1 ∧ j ≤ l.length) ∧ Aside0 (rbits n (l.drop j) L3 = some L2) ∧ Aside0 (L3.length = n + 1) ∧ Aside0 (Kd.R (Kd.int .u8) 5 wy w.heap.size (fun _ => True) (.slice (some ⟨w.heap.size, 0, none⟩) (n + 1) (n + 1)) L3) ∧ Aside0 (Kd.R (Kd.int .i64) 3 wy w.heap.size (fun q => q ≠ w.heap.size) (.slice Al l.length cl) l) ∧ Aside0 (Below w.heap.size w wy) ∧ Aside0 (w.heap.size < wy.heap.size))
        case atStart => exact ⟨0, _, rfl, ⟨by omega, by omega⟩, HRB, HL1, HO2, HV2, HB2, HS2⟩
        case round =>
          clear HRB HO2 HV2 HB2 HS2 HO HB HS
          obtain ⟨j, L3, rfl, HJ, HRB, HL3l, HO, HV, HB, HS⟩ := hrel
          cases gk with
          | zero => exact absurd HJ.out.1 (by have := HJ.out.2; omega)
          | succ g2_ =>
            by_cases cj : j < l.length
            · have d1 : decide ((j : Int) < (l.length : Int)) = true := decide_eq_true (by omega)
              have d1b : decide (j < l.length) = true := decide_eq_true cj
              have d2 := eq_true (show (j : Int) < (l.length : Int) by omega)
              have d3 := eq_true (show (0 : Int) ≤ (j : Int) by omega)
              obtain ⟨al, eA, hc⟩ := Kd.at_int (Kd.R_reads' HV.out).2.2 (j : Int) (by omega) (by omega)
              subst eA
              rw [Int.toNat_natCast] at hc
              obtain ⟨x, hx⟩ : ∃ x, rd l (j : Int) = x := ⟨_, rfl⟩
              rw [hx] at hc
              have hdrop : l.drop j = x :: l.drop (j + 1) := by
                rw [List.drop_eq_getElem_cons cj, ← hx]
                simp [rd, cj]
              have hR := HRB.out
              rw [hdrop] at hR
              unfold rbits at hR
              split at hR
              case isFalse => cases hR
              rename_i hx01
              split at hR
              case isFalse => cases hR
              rename_i hby
              have HRN := Aside0.mk hR
              have hq0 : 0 ≤ x / 8 := by omega
              have hq1 : x / 8 < ((n + 1 : Nat) : Int) := by omega
              obtain ⟨hcl, hfz⟩ := Kd.R_celln (0 : Int) HO.out (x / 8) hq0 hq1
              have hb1 : decide (x / 8 < ((n + 1 : Nat) : Int)) = true := decide_eq_true hq1
              have hb2 : decide (0 ≤ x / 8) = true := decide_eq_true hq0
              have hb3 := eq_true hq1
              have hb4 := eq_true hq0
              have hb5 := eq_true hx01.1
              have HBy := Aside0.mk hby
              have HX := Aside0.mk hx01
              obtain ⟨t1, t2, t3, t4, t5⟩ := tr_x x n hx01.1 hx01.2 HN.out
              clear hR hdrop hx hx01 hby HRB
              go_upto_if 76 with fail
              simp only [tr_bit _ _ HBy.out.1]
              have w1 := tr_w1 j (by have := HL3.out; omega)
              clear hc d1 d1b d2 d3
              by_cases cb : rdOf 0 L3 (x / 8) / 2 ^ (x % 8).toNat % 2 = 0
              · have cb1 : (rdOf 0 L3 (x / 8) / 2 ^ (x % 8).toNat % 2 == 0) = true := by rw [cb]; rfl
                have hbo : bitOn L3 x = L3.set (x / 8).toNat ((rdOf 0 L3 (x / 8) + 2 ^ (x % 8).toNat) % 256) := by unfold bitOn; rw [if_pos cb]
                rw [hbo] at HRN
                clear hbo
                go_wp2
                have HO5 := Aside0.mk (Kd.R_putn HO.out (x / 8) ((rdOf 0 L3 (x / 8) + 2 ^ (x % 8).toNat) % 256))
                have HV5 := Aside0.mk (Kd.R_far HV.out (p := ⟨w.heap.size, (x / 8).toNat, none⟩) (fun q hq => hq) (.int .u8 ((rdOf 0 L3 (x / 8) + 2 ^ (x % 8).toNat) % 256)))
                have HB5 := Aside0.mk (below_set (j := (x / 8).toNat) (v := .int .u8 ((rdOf 0 L3 (x / 8) + 2 ^ (x % 8).toNat) % 256)) HB.out (Nat.le_refl _))
                have HL5 : Aside0 ((L3.set (x / 8).toNat ((rdOf 0 L3 (x / 8) + 2 ^ (x % 8).toNat) % 256)).length = n + 1) := ⟨by rw [List.length_set]; exact HL3l.out⟩
                have HS5 : Aside0 (w.heap.size < (wr.setCell ⟨w.heap.size, (x / 8).toNat, none⟩ (.int .u8 ((rdOf 0 L3 (x / 8) + 2 ^ (x % 8).toNat) % 256))).heap.size) := ⟨Nat.lt_of_lt_of_le HS.out (Kd.R_putg HO.out (x / 8) ((rdOf 0 L3 (x / 8) + 2 ^ (x % 8).toNat) % 256)).2.size⟩
                rw [w1]
                clear w1 t1 t2 t3 t4 t5 cb1 cb hb1 hb2 hb3 hb4 hb5 hq0 hq1
                go_roundg g2_
                case measure => omega
                case rel => exact ⟨j + 1, _, rfl, ⟨by have := HJ.out.1; omega, cj⟩, HRN, HL5, HO5, HV5, HB5, HS5⟩
              · have cb1 : (rdOf 0 L3 (x / 8) / 2 ^ (x % 8).toNat % 2 == 0) = false := beq_eq_false_iff_ne.mpr cb
                have hbo : bitOn L3 x = L3 := by unfold bitOn; rw [if_neg cb]
                rw [hbo] at HRN
                clear hbo
                go_wp2
                rw [w1]
                clear w1 t1 t2 t3 t4 t5 cb1 cb hb1 hb2 hb3 hb4 hb5 hq0 hq1
                go_roundg g2_
                case measure => omega
                case rel => exact ⟨j + 1, L3, rfl, ⟨by have := HJ.out.1; omega, cj⟩, HRN, HL3l, HO, HV, HB, HS⟩
            · have d1 : decide ((j : Int) < (l.length : Int)) = false := decide_eq_false (by omega)
              have d1b : decide (j < l.length) = false := decide_eq_false cj
              have hj : j = l.length := by have := HJ.out.2; omega
              have hL2 : L3 = L2 := by
                have := HRB.out
                rw [hj, List.drop_length] at this
                exact Option.some.inj this
              have HLL := Aside0.mk hL2
              have w1 := tr_w1 i (by have := HK3.out; have := HCI.out; clear d1 d1b; omega)
              clear hj hL2 cj
              go_wp2
              rw [w1]
              clear w1 d1 d1b
              go_roundg g_
              case measure => omega
              case rel => exact ⟨i + 1, L3, rfl, ⟨by have := HI.out.1; omega, HCI.out⟩, by rw [HLL.out]; exact HLN, HL3l, HO, HB, HS⟩
      · have d1 : decide ((i : Int) < (keys.length : Int)) = false := decide_eq_false (by omega)
        have d1b : decide (i < keys.length) = false := decide_eq_false ci
        have hi : i = keys.length := by have := HI.out.2; omega
        have hLL : L1 = L := by
          have := HL.out
          rw [hi, List.drop_length] at this
          exact Option.some.inj this
        have hw8 : IntKind.u8.wrap pr = pr := by have := HPR.out; simp [IntKind.wrap, IntKind.bits, IntKind.signed]; omega
        obtain ⟨hcl, hfz⟩ := Kd.R_celln (0 : Int) HO.out (n : Int) (by omega) (by omega)
        rw [Int.toNat_natCast] at hcl hfz
        have HO5 := Kd.R_putn HO.out (n : Int) pr
        rw [Int.toNat_natCast] at HO5
        have HO5 := Aside0.mk HO5
        have HB5 := Aside0.mk (below_set (j := n) (v := .int .u8 pr) HB.out (Nat.le_refl _))
        have HLL := Aside0.mk hLL
        clear hLL hi
        go_wp2
        go_ret2
        exact ⟨_, rfl, by rw [← HLL.out]; exact HO5.out, HB5.out⟩
end Go.Proofs.Ythdemdjobgbpdaa.T
namespace Go.Proofs.Ythdemdjobgbpdaa.T
open Go.RowKit Go.Shelf Go.Proofs.YthdemdjobgbpdaaW.PrintWords Go.Proofs.YthdemdjobgbpdaaW.PrintLast Go.Proofs.YthdemdjobgbpdaaW.PrintMore Go.Proofs.Ythdemdjobgbpdaa.P Go.Proofs.Ythdemdjobgbpdaa.B Go.Proofs.Ythdemdjobgbpdaa.Q
attribute [local go_sem] Oper.semAt_some
set_option linter.unusedVariables false
set_option linter.unusedSimpArgs false
/-- what is wrong with entries -/
def rck (k : Nat) : Option S47 → List S47 → Option Int
  | _, [] => some 0
  | p, x :: t => (staddleref02_Check.f x.f0.f0 x.f0.f1 x.f0.f2).bind fun e => if e ≠ 0 then some e else if 1000 < (x.f1.size : Int) then some 31 else
      match p with
      | none => rck k (some x) t
      | some y => (staddleref02_Compare.f k y.f0.f0 y.f0.f1 y.f0.f2 x.f0.f0 x.f0.f1 x.f0.f2).bind fun c => if 0 ≤ c then some 110 else rck k (some x) t
def rck_f (k : Nat) (l : List S47) : Option Int := if l.length < 1000000000 then rck k none l else none
/-- one entry -/
def rbk_row (k n : Nat) (key : List Int) (v : ByteArray) (out : List Int) : Option (List Int) :=
  (staddleref01_PutUvarint.f k [] (IntKind.u64.wrap (n : Int))).bind fun p1 => (staddleref01_PutUvarint.f k [] (IntKind.u64.wrap ((key.length - n : Nat) : Int))).bind fun p2 => (staddleref01_PutUvarint.f k [] (IntKind.u64.wrap (v.size : Int))).bind fun p3 =>
    if out.length + p1.length + p2.length + p3.length + key.length + v.size < 1000000000000 then some (out ++ p1 ++ p2 ++ p3 ++ key.drop n ++ bytesOf v) else none
/-- all entries, and the marks -/
def rbk_l (k iv : Nat) : List S47 → Nat → List Int → List Int → List Int → Option (List Int × List Int)
  | [], _, out, ms, _ => some (out, ms)
  | x :: t, i, out, ms, last => (staddleref02_Encode.f k x.f0.f0 x.f0.f1 x.f0.f2).bind fun key => (staddleref11_shared.f k last key.1).bind fun s =>
      if (0 ≤ s ∧ s ≤ (key.1.length : Int)) ∧ key.1.length < 1000000000 ∧ ms.length < 1000000000 then
        (rbk_row k (if i % iv = 0 then 0 else s.toNat) key.1 x.f1 out).bind fun out2 => rbk_l k iv t (i + 1) out2 (if i % iv = 0 then ms ++ [(out.length : Int)] else ms) key.1
      else none
def rbk_m (k : Nat) : List Int → List Int → Option (List Int)
  | [], out => some out
  | m :: t, out => (staddleref01_PutFixed.f k [] (IntKind.u64.wrap m) 4).bind fun p => if out.length + p.length < 1000000000000 then rbk_m k t (out ++ p) else none
def rbk_f (k : Nat) (l : List S47) (iv : Int) : Option (List Int × Int) :=
  if iv < 1 then some ([], 1) else if 16 < iv then some ([], 1) else (rck_f k l).bind fun e => if e ≠ 0 then some ([], e) else
    if l.length < 1000000000 then (rbk_l k iv.toNat l 0 [] [] []).bind fun om => if om.2.length < 1000000000 then (rbk_m k om.2 om.1).bind fun o =>
      if o.length < 1000000000000 then (staddleref01_PutFixed.f k (o ++ [iv]) (IntKind.u64.wrap (om.2.length : Int)) 4).map fun z => (z, 0) else none else none else none
/-- what holds while entries are laid -/
structure RkI (w wx : World) (vo : Value) (out : List Int) (vm : Value) (ms : List Int) : Prop where
  ro : Kd.R (Kd.int .u8) 5 wx w.heap.size (fun _ => True) vo out
  rm : Kd.R (Kd.int .i64) 3 wx w.heap.size (fun _ => True) vm ms
  hb : Below w.heap.size w wx
theorem ty5 {e' : Nat} (h : 5 ≠ e') : ∀ q, q ∈ 5 :: (Kd.int .u8).E → q ≠ e' := ty_u8 h
theorem ty3 {e' : Nat} (h : 3 ≠ e') : ∀ q, q ∈ 3 :: (Kd.int .i64).E → q ≠ e' := by
  intro q hq
  rcases List.mem_cons.1 hq with rfl | hq
  · exact h
  · exact absurd hq (by simp [Kd.int, Kd.scalar])
theorem RkI.below {w wx wy : World} {vo : Value} {out : List Int} {vm : Value} {ms : List Int} (h : RkI w wx vo out vm ms) (hb : Below wx.heap.size wx wy) : RkI w wy vo out vm ms :=
  ⟨Kd.R_below h.ro hb, Kd.R_below h.rm hb, below_step h.hb hb⟩
theorem RkI.app {w wx wy : World} {vo vo' : Value} {out out' : List Int} {vm : Value} {ms : List Int} (h : RkI w wx vo out vm ms) (ho : Kd.R (Kd.int .u8) 5 wy w.heap.size (fun _ => True) vo' out') (hb : Below w.heap.size w wy) (hg : wx.grownBy wy vo.ownBlock) : RkI w wy vo' out' vm ms :=
  ⟨ho, Kd.R_over h.rm h.ro (ty3 (by decide)) hg, hb⟩
theorem RkI.mark {w wx wy : World} {vo : Value} {out : List Int} {vm vm' : Value} {ms ms' : List Int} (h : RkI w wx vo out vm ms) (ho : Kd.R (Kd.int .i64) 3 wy w.heap.size (fun _ => True) vm' ms') (hb : Below w.heap.size w wy) (hg : wx.grownBy wy vm.ownBlock) : RkI w wy vo out vm' ms' :=
  ⟨Kd.R_over h.ro h.rm (ty5 (by decide)) hg, ho, hb⟩
/-- a row beside the one that grows -/
theorem rk_beside {wx wy : World} {b : Nat} {v vo vo' : Value} {xs : List Int} (h : Kd.R (Kd.int .u8) 5 wx b (fun q => some q ≠ vo.ownBlock) v xs) (hg : wx.grownBy wy vo.ownBlock) (hat : vo'.ownBlock = vo.ownBlock ∨ ∃ q, vo'.ownBlock = some q ∧ wx.heap.size ≤ q) : Kd.R (Kd.int .u8) 5 wy b (fun q => some q ≠ vo'.ownBlock) v xs :=
  Kd.R_mono (Kd.R_grown (Kd.R_bound h) hg (fun q hq => hq.1)) (fun q hq => by
    rcases hat with e | ⟨z, e, hz⟩
    · rw [e]; exact hq.1
    · rw [e]; intro h2; injection h2 with h2; have := hq.2.2.1; omega)
theorem cutU (A : Option Addr) (c : Nat) (l : List Int) (m : Nat) (hm : m ≤ l.length) (hc : l.length ≤ c) :
    ∃ (A' : Option Addr) (c' : Nat), (∀ W : World, (Instr.slice 27 (.slice A l.length c) (some (.int .i64 (m : Int))) none none).run Try.prog W = .ok (.slice A' (l.drop m).length c') W) ∧
      (∀ W : World, Kd.C (Kd.int .u8) W A l.length l → Kd.C (Kd.int .u8) W A' (l.drop m).length (l.drop m)) ∧ (l.drop m).length ≤ c' := by
  obtain ⟨i5, hi5, _, hs5, _⟩ := info_parts info5
  have h := cut_from (P := Try.prog) 27 5 .i64 Try.underlying27 hi5 1 hs5 A l.length c (m : Int) (by omega) (by omega)
  simp only [Int.toNat_natCast] at h
  refine ⟨_, c - m, fun W => (h W).trans (by rw [List.length_drop]; rfl), fun W hC => Kd.C_drop hC hm hc, by rw [List.length_drop]; omega⟩
theorem tq_w1 (n : Nat) (h : n < 1000000000) : wrap64 ((n : Int) + 1) = ((n + 1 : Nat) : Int) := by unfold wrap64; omega
theorem tq_sub (a n : Nat) (h : n ≤ a) (ha : a < 1000000000) : wrap64 ((a : Int) - (n : Int)) = ((a - n : Nat) : Int) := by unfold wrap64; omega
theorem tq_mod (i iv : Nat) (h : iv < 1000) : Int.tmod (i : Int) (iv : Int) = ((i % iv : Nat) : Int) := by
  rw [Int.tmod_eq_emod_of_nonneg (by omega)]
  rfl
def prevOf (l : List S47) (i : Nat) : Option S47 := if i = 0 then none else some (rd_T47 l ((i - 1 : Nat) : Int))
theorem tq_m1 (n : Nat) (h : n < 1000000000) (h0 : 0 < n) : wrap64 ((n : Int) - 1) = ((n - 1 : Nat) : Int) := by unfold wrap64; omega
set_option maxRecDepth 100000 in
set_option maxHeartbeats 4000000 in
theorem rcheck_calls (k : Nat) (A0 : Option Addr) (c0 : Nat) (l : List S47) (r : Int) (w : World) (hr0 : Kd.C k47 w A0 l.length l) (hc0 : l.length ≤ c0) (hf : rck_f k l = some r) :
    Calls Try.prog 25 #[.slice A0 l.length c0] w fun e w' => e = .returned (.int .i64 r) ∧ Below w.heap.size w w' := by
  have HR0 := Aside0.mk hr0
  have HC0 := Aside0.mk hc0
  unfold rck_f at hf
  split at hf
  case isFalse => cases hf
  rename_i hln
  have HLN := Aside0.mk hln
  have HL : Aside0 (rck k (prevOf l 0) (l.drop 0) = some r) := ⟨hf⟩
  have HB : Aside0 (Below w.heap.size w w) := ⟨Below.refl _ _⟩
  clear hr0 hc0 hf hln
  go_enter Try.func25, Try.ntmps25
  go_wp2_with fail
  go_loopg [3] (l.length + 1) (fun gf v3 wx => ∃ i : Nat, v3 = .int .i64 (i : Int) ∧ Aside0 (gf + i = l.length + 1 ∧ i ≤ l.length) ∧ Aside0 (rck k (prevOf l i) (l.drop i) = some r) ∧ Aside0 (Below w.heap.size w wx))
  case atStart => exact ⟨0, rfl, ⟨by omega, by omega⟩, HL, HB⟩
  case round =>
    clear HL HB
    obtain ⟨i, rfl, HI, HL, HB⟩ := hrel
    cases gk with
    | zero => exact absurd HI.out.1 (by have := HI.out.2; omega)
    | succ g1 =>
      by_cases c : i < l.length
      · have c1b : decide ((i : Int) < (l.length : Int)) = true := decide_eq_true (by omega)
        have c1d := eq_true (show (i : Int) < (l.length : Int) by omega)
        have c1e := eq_true (show (0 : Int) ≤ (i : Int) by omega)
        obtain ⟨X, hX⟩ : ∃ x, rd_T47 l (i : Int) = x := ⟨_, rfl⟩
        have hdrop : l.drop i = X :: l.drop (i + 1) := by
          rw [List.drop_eq_getElem_cons c, ← hX]
          simp [rd_T47, c]
        have hlp := HL.out
        rw [hdrop] at hlp
        unfold rck at hlp
        obtain ⟨ce, hce, hlp⟩ := Option.bind_eq_some_iff.mp hlp
        have HCE := Aside0.mk hce
        have HLP := Aside0.mk hlp
        have HPN : Aside0 (prevOf l (i + 1) = some X) := ⟨by unfold prevOf; rw [if_neg (by omega), Nat.add_sub_cancel, hX]⟩
        have HCI := Aside0.mk c
        obtain ⟨al, eA, j1, j2, j3, j4⟩ := at_T47 HR0.out (i : Int) (Int.natCast_nonneg i) (by omega)
        subst eA
        rw [Int.toNat_natCast] at j1 j2 j3 j4
        rw [hX] at j1 j2 j3 j4
        have J1 := Aside0.mk j1
        have J2 := Aside0.mk j2
        have J3 := Aside0.mk j3
        have J4 := Aside0.mk j4
        have k1 := (HB.out.cell (World.block_lt_of_cell? _ _ j1)).trans j1
        have k2 := (HB.out.cell (World.block_lt_of_cell? _ _ j2)).trans j2
        have k3 := (HB.out.cell (World.block_lt_of_cell? _ _ j3)).trans j3
        have HW1 := Aside0.mk (tq_w1 i (by have := HLN.out; omega))
        clear hce hlp c hdrop HL hX j1 j2 j3 j4
        go_upto_region 5 with (first
          | (go_at_call 50; (with_reducible refine (staddleref02_Check.calls X.f0.f0 X.f0.f1 X.f0.f2 ce _ HCE.out).mono ?_; rintro ex w2 ⟨rfl, hb⟩)
             have HB2 := Aside0.mk (below_step HB.out hb)
             clear hb))
        clear k1 k2 k3
        by_cases hbe : ce = 0
        case neg =>
          have e1 : (ce != 0) = true := bne_iff_ne.mpr hbe
          have hf := HLP.out
          rw [if_pos hbe] at hf
          obtain rfl := Option.some.inj hf
          clear hbe hf
          go_wp2
          go_ret
          exact ⟨rfl, HB2.out⟩
        case pos =>
        subst hbe
        have hlp := HLP.out
        rw [if_neg (by simp)] at hlp
        have k4 := (HB2.out.cell (World.block_lt_of_cell? _ _ J4.out)).trans J4.out
        by_cases hv : 1000 < (X.f1.size : Int)
        case pos =>
          have e1 : decide (1000 < (X.f1.size : Int)) = true := decide_eq_true hv
          have e2 : decide (1000 < X.f1.size) = true := decide_eq_true (by omega)
          rw [if_pos hv] at hlp
          obtain rfl := Option.some.inj hlp
          clear hv hlp
          go_wp2
          go_ret
          exact ⟨rfl, HB2.out⟩
        case neg =>
        rw [if_neg hv] at hlp
        have e1 : decide (1000 < (X.f1.size : Int)) = false := decide_eq_false hv
        have e2 : decide (1000 < X.f1.size) = false := decide_eq_false (by omega)
        have HLQ := Aside0.mk hlp
        clear hv hlp
        go_upto_region 9 with fail
        clear k4 e1 e2
        go_wp2_with fail
        by_cases hi0 : i = 0
        · subst hi0
          have hlq := HLQ.out
          have hp0 : prevOf l 0 = none := rfl
          rw [hp0] at hlq
          have HLR := Aside0.mk hlq
          have d1 : decide (((0 : Nat) : Int) > 0) = false := by decide
          have d2 : decide (((0 : Nat) : Int) < 0) = false := by decide
          clear hlq hp0
          refine start_ (n := 17) (S := fun w' => True) (ds := []) #[false, false, false, false, false, false, false, false, false, false, false, false, false, false, false, false, false] (by kernel_rfl) rfl rfl trivial (fun hHeld => ?_)
          refine pure_ (i := 0) (N := some 27) (v := ?_) (a' := ?_) #[true, false, false, false, false, false, false, false, false, false, false, false, false, false, false, false, false] rfl rfl (by kernel_rfl) (fun _ _ _ h => h) (Or.inl ⟨by rfl, ?_⟩) ?_ ?_
          rotate_left
          · intro w'
            go_simp
            with_reducible rfl
          rotate_left
          · simp only [Act.put, List.setIfInBounds_toArray, List.set_cons_zero, List.set_cons_succ, i64_w, i32_w]
            rfl
          refine pure_ (i := 1) (N := some 28) (v := ?_) (a' := ?_) #[true, true, false, false, false, false, false, false, false, false, false, false, false, false, false, false, false] rfl rfl (by kernel_rfl) (fun _ _ _ h => h) (Or.inl ⟨by rfl, ?_⟩) ?_ ?_
          rotate_left
          · intro w'
            go_simp
            with_reducible rfl
          rotate_left
          · simp only [Act.put, List.setIfInBounds_toArray, List.set_cons_zero, List.set_cons_succ, i64_w, i32_w]
            rfl
          refine pure_ (i := 2) (N := some 29) (v := ?_) (a' := ?_) #[true, true, true, false, false, false, false, false, false, false, false, false, false, false, false, false, false] rfl rfl (by kernel_rfl) (fun _ _ _ h => h) (Or.inl ⟨by rfl, ?_⟩) ?_ ?_
          rotate_left
          · intro w'
            go_simp
            with_reducible rfl
          rotate_left
          · simp only [Act.put, List.setIfInBounds_toArray, List.set_cons_zero, List.set_cons_succ, i64_w, i32_w]
            rfl
          refine pure_ (i := 3) (N := some 30) (v := undef) (a' := ?_) #[true, true, true, true, false, false, false, false, false, false, false, false, false, false, false, false, false] rfl rfl (by kernel_rfl) (fun _ _ _ h => h) (Or.inr ⟨by rfl, rfl⟩) ?_ ?_
          rotate_left
          · simp only [Act.put, List.setIfInBounds_toArray, List.set_cons_zero, List.set_cons_succ, i64_w, i32_w]
            rfl
          refine pure_ (i := 4) (N := some 31) (v := undef) (a' := ?_) #[true, true, true, true, true, false, false, false, false, false, false, false, false, false, false, false, false] rfl rfl (by kernel_rfl) (fun _ _ _ h => h) (Or.inr ⟨by rfl, rfl⟩) ?_ ?_
          rotate_left
          · simp only [Act.put, List.setIfInBounds_toArray, List.set_cons_zero, List.set_cons_succ, i64_w, i32_w]
            rfl
          refine pure_ (i := 5) (N := some 32) (v := undef) (a' := ?_) #[true, true, true, true, true, true, false, false, false, false, false, false, false, false, false, false, false] rfl rfl (by kernel_rfl) (fun _ _ _ h => h) (Or.inr ⟨by rfl, rfl⟩) ?_ ?_
          rotate_left
          · simp only [Act.put, List.setIfInBounds_toArray, List.set_cons_zero, List.set_cons_succ, i64_w, i32_w]
            rfl
          refine pure_ (i := 6) (N := some 33) (v := undef) (a' := ?_) #[true, true, true, true, true, true, true, false, false, false, false, false, false, false, false, false, false] rfl rfl (by kernel_rfl) (fun _ _ _ h => h) (Or.inr ⟨by rfl, rfl⟩) ?_ ?_
          rotate_left
          · simp only [Act.put, List.setIfInBounds_toArray, List.set_cons_zero, List.set_cons_succ, i64_w, i32_w]
            rfl
          refine pure_ (i := 7) (N := some 34) (v := undef) (a' := ?_) #[true, true, true, true, true, true, true, true, false, false, false, false, false, false, false, false, false] rfl rfl (by kernel_rfl) (fun _ _ _ h => h) (Or.inr ⟨by rfl, rfl⟩) ?_ ?_
          rotate_left
          · simp only [Act.put, List.setIfInBounds_toArray, List.set_cons_zero, List.set_cons_succ, i64_w, i32_w]
            rfl
          refine pure_ (i := 8) (N := some 35) (v := undef) (a' := ?_) #[true, true, true, true, true, true, true, true, true, false, false, false, false, false, false, false, false] rfl rfl (by kernel_rfl) (fun _ _ _ h => h) (Or.inr ⟨by rfl, rfl⟩) ?_ ?_
          rotate_left
          · simp only [Act.put, List.setIfInBounds_toArray, List.set_cons_zero, List.set_cons_succ, i64_w, i32_w]
            rfl
          refine pure_ (i := 9) (N := some 36) (v := undef) (a' := ?_) #[true, true, true, true, true, true, true, true, true, true, false, false, false, false, false, false, false] rfl rfl (by kernel_rfl) (fun _ _ _ h => h) (Or.inr ⟨by rfl, rfl⟩) ?_ ?_
          rotate_left
          · simp only [Act.put, List.setIfInBounds_toArray, List.set_cons_zero, List.set_cons_succ, i64_w, i32_w]
            rfl
          refine pure_ (i := 10) (N := some 37) (v := undef) (a' := ?_) #[true, true, true, true, true, true, true, true, true, true, true, false, false, false, false, false, false] rfl rfl (by kernel_rfl) (fun _ _ _ h => h) (Or.inr ⟨by rfl, rfl⟩) ?_ ?_
          rotate_left
          · simp only [Act.put, List.setIfInBounds_toArray, List.set_cons_zero, List.set_cons_succ, i64_w, i32_w]
            rfl
          refine pure_ (i := 11) (N := some 38) (v := undef) (a' := ?_) #[true, true, true, true, true, true, true, true, true, true, true, true, false, false, false, false, false] rfl rfl (by kernel_rfl) (fun _ _ _ h => h) (Or.inr ⟨by rfl, rfl⟩) ?_ ?_
          rotate_left
          · simp only [Act.put, List.setIfInBounds_toArray, List.set_cons_zero, List.set_cons_succ, i64_w, i32_w]
            rfl
          refine pure_ (i := 12) (N := some 39) (v := undef) (a' := ?_) #[true, true, true, true, true, true, true, true, true, true, true, true, true, false, false, false, false] rfl rfl (by kernel_rfl) (fun _ _ _ h => h) (Or.inr ⟨by rfl, rfl⟩) ?_ ?_
          rotate_left
          · simp only [Act.put, List.setIfInBounds_toArray, List.set_cons_zero, List.set_cons_succ, i64_w, i32_w]
            rfl
          refine pure_ (i := 13) (N := some 40) (v := undef) (a' := ?_) #[true, true, true, true, true, true, true, true, true, true, true, true, true, true, false, false, false] rfl rfl (by kernel_rfl) (fun _ _ _ h => h) (Or.inr ⟨by rfl, rfl⟩) ?_ ?_
          rotate_left
          · simp only [Act.put, List.setIfInBounds_toArray, List.set_cons_zero, List.set_cons_succ, i64_w, i32_w]
            rfl
          refine pure_ (i := 14) (N := some 41) (v := undef) (a' := ?_) #[true, true, true, true, true, true, true, true, true, true, true, true, true, true, true, false, false] rfl rfl (by kernel_rfl) (fun _ _ _ h => h) (Or.inr ⟨by rfl, rfl⟩) ?_ ?_
          rotate_left
          · simp only [Act.put, List.setIfInBounds_toArray, List.set_cons_zero, List.set_cons_succ, i64_w, i32_w]
            rfl
          refine pure_ (i := 15) (N := some 42) (v := undef) (a' := ?_) #[true, true, true, true, true, true, true, true, true, true, true, true, true, true, true, true, false] rfl rfl (by kernel_rfl) (fun _ _ _ h => h) (Or.inr ⟨by rfl, rfl⟩) ?_ ?_
          rotate_left
          · simp only [Act.put, List.setIfInBounds_toArray, List.set_cons_zero, List.set_cons_succ, i64_w, i32_w]
            rfl
          refine pure_ (i := 16) (N := some 43) (v := ?_) (a' := ?_) #[true, true, true, true, true, true, true, true, true, true, true, true, true, true, true, true, true] rfl rfl (by kernel_rfl) (fun _ _ _ h => h) (Or.inl ⟨by rfl, ?_⟩) ?_ ?_
          rotate_left
          · intro w'
            go_simp
            with_reducible rfl
          rotate_left
          · simp only [Act.put, List.setIfInBounds_toArray, List.set_cons_zero, List.set_cons_succ, i64_w, i32_w]
            rfl
          refine done_ (by kernel_rfl) ?_
          have HB3 := Aside0.mk (below_drew1 HB2.out)
          go_wp2
          try simp only [HW1.out]
          go_roundg g1
          case measure => omega
          case rel => exact ⟨0 + 1, rfl, ⟨by have := HI.out.1; omega, by have := HCI.out; omega⟩, by rw [HPN.out]; exact HLR, HB3⟩
        · obtain ⟨z, hz⟩ : ∃ y, i - 1 = y := ⟨_, rfl⟩
          have hwz : wrap64 ((i : Int) - 1) = (z : Int) := by rw [← hz]; exact tq_m1 i (by have := HLN.out; have := HCI.out; omega) (by omega)
          obtain ⟨Y, hY⟩ : ∃ y, rd_T47 l (z : Int) = y := ⟨_, rfl⟩
          have hp0 : prevOf l i = some Y := by unfold prevOf; rw [if_neg hi0, hz, hY]
          have hlq := HLQ.out
          rw [hp0] at hlq
          obtain ⟨cv, hcv, hlq⟩ := Option.bind_eq_some_iff.mp hlq
          have HCV := Aside0.mk hcv
          have HLR := Aside0.mk hlq
          have hzl : z < l.length := by have := HCI.out; omega
          have d1 : decide ((i : Int) > 0) = true := decide_eq_true (by omega)
          have d2 : decide (0 < (i : Int)) = true := decide_eq_true (by omega)
          have d2b : decide (0 < i) = true := decide_eq_true (by omega)
          have d3 := eq_true (show (z : Int) < (l.length : Int) by omega)
          have d4 := eq_true (show (0 : Int) ≤ (z : Int) by omega)
          obtain ⟨al2, eA2, m1, m2, m3, m4⟩ := at_T47 HR0.out (z : Int) (Int.natCast_nonneg z) (by omega)
          obtain rfl := Option.some.inj eA2
          rw [Int.toNat_natCast] at m1 m2 m3
          rw [hY] at m1 m2 m3
          have hbD := below_drew1 HB2.out
          have k1 := (hbD.cell (World.block_lt_of_cell? _ _ J1.out)).trans J1.out
          have k2 := (hbD.cell (World.block_lt_of_cell? _ _ J2.out)).trans J2.out
          have k3 := (hbD.cell (World.block_lt_of_cell? _ _ J3.out)).trans J3.out
          have k5 := (hbD.cell (World.block_lt_of_cell? _ _ m1)).trans m1
          have k6 := (hbD.cell (World.block_lt_of_cell? _ _ m2)).trans m2
          have k7 := (hbD.cell (World.block_lt_of_cell? _ _ m3)).trans m3
          have HBD := Aside0.mk hbD
          clear hlq hp0 hcv hzl hz hi0 m1 m2 m3 m4 eA2 hY hbD
          refine start_ (n := 17) (S := fun w' => w'.cell? (al.add (i * 4)) = some (.string X.f0.f0) ∧ w'.cell? ⟨(al.add (i * 4)).block, (al.add (i * 4)).off + 1, none⟩ = some (.int .u64 X.f0.f1) ∧ w'.cell? ⟨(al.add (i * 4)).block, (al.add (i * 4)).off + 2, none⟩ = some (.int .i64 X.f0.f2) ∧ w'.cell? (al.add (z * 4)) = some (.string Y.f0.f0) ∧ w'.cell? ⟨(al.add (z * 4)).block, (al.add (z * 4)).off + 1, none⟩ = some (.int .u64 Y.f0.f1) ∧ w'.cell? ⟨(al.add (z * 4)).block, (al.add (z * 4)).off + 2, none⟩ = some (.int .i64 Y.f0.f2)) (ds := []) #[false, false, false, false, false, false, false, false, false, false, false, false, false, false, false, false, false] (by kernel_rfl) rfl rfl ⟨(by exact k1), (by exact k2), (by exact k3), (by exact k5), (by exact k6), (by exact k7)⟩ (fun hHeld => ?_)
          refine pure_ (i := 0) (N := some 27) (v := ?_) (a' := ?_) #[true, false, false, false, false, false, false, false, false, false, false, false, false, false, false, false, false] rfl rfl (by kernel_rfl) (fun _ _ _ h => h) (Or.inl ⟨by rfl, ?_⟩) ?_ ?_
          rotate_left
          · intro w'
            go_simp
            with_reducible rfl
          rotate_left
          · simp only [Act.put, List.setIfInBounds_toArray, List.set_cons_zero, List.set_cons_succ, i64_w, i32_w]
            rfl
          refine pure_ (i := 1) (N := some 28) (v := ?_) (a' := ?_) #[true, true, false, false, false, false, false, false, false, false, false, false, false, false, false, false, false] rfl rfl (by kernel_rfl) (fun _ _ _ h => h) (Or.inl ⟨by rfl, ?_⟩) ?_ ?_
          rotate_left
          · intro w'
            go_simp
            with_reducible rfl
          rotate_left
          · simp only [Act.put, List.setIfInBounds_toArray, List.set_cons_zero, List.set_cons_succ, i64_w, i32_w]
            rfl
          refine pure_ (i := 2) (N := some 29) (v := ?_) (a' := ?_) #[true, true, true, false, false, false, false, false, false, false, false, false, false, false, false, false, false] rfl rfl (by kernel_rfl) (fun _ _ _ h => h) (Or.inl ⟨by rfl, ?_⟩) ?_ ?_
          rotate_left
          · intro w'
            go_simp
            with_reducible rfl
          rotate_left
          · simp only [Act.put, List.setIfInBounds_toArray, List.set_cons_zero, List.set_cons_succ, i64_w, i32_w]
            rfl
          refine pure_ (i := 3) (N := some 30) (v := ?_) (a' := ?_) #[true, true, true, true, false, false, false, false, false, false, false, false, false, false, false, false, false] rfl rfl (by kernel_rfl) (fun _ _ _ h => h) (Or.inl ⟨by rfl, ?_⟩) ?_ ?_
          rotate_left
          · intro w'
            go_simp
            with_reducible rfl
          rotate_left
          · simp only [Act.put, List.setIfInBounds_toArray, List.set_cons_zero, List.set_cons_succ, i64_w, i32_w]
            rfl
          refine pure_ (i := 4) (N := some 31) (v := ?_) (a' := ?_) #[true, true, true, true, true, false, false, false, false, false, false, false, false, false, false, false, false] rfl rfl (by kernel_rfl) (fun _ _ _ h => h) (Or.inl ⟨by rfl, ?_⟩) ?_ ?_
          rotate_left
          · intro w'
            go_simp
            with_reducible rfl
          rotate_left
          · simp only [Act.put, List.setIfInBounds_toArray, List.set_cons_zero, List.set_cons_succ, i64_w, i32_w]
            rfl
          refine pure_ (i := 5) (N := some 32) (v := ?_) (a' := ?_) #[true, true, true, true, true, true, false, false, false, false, false, false, false, false, false, false, false] rfl rfl (by kernel_rfl) (fun _ _ _ h => h) (Or.inl ⟨by rfl, ?_⟩) ?_ ?_
          rotate_left
          · intro w'
            go_simp
            with_reducible rfl
          rotate_left
          · simp only [Act.put, List.setIfInBounds_toArray, List.set_cons_zero, List.set_cons_succ, i64_w, i32_w]
            rfl
          refine pure_ (i := 6) (N := some 33) (v := ?_) (a' := ?_) #[true, true, true, true, true, true, true, false, false, false, false, false, false, false, false, false, false] rfl rfl (by kernel_rfl) (fun _ _ _ h => h) (Or.inl ⟨by rfl, ?_⟩) ?_ ?_
          rotate_left
          · intro w'
            go_simp
            with_reducible rfl
          rotate_left
          · simp only [Act.put, List.setIfInBounds_toArray, List.set_cons_zero, List.set_cons_succ, i64_w, i32_w]
            rfl
          refine pure_ (i := 7) (N := some 34) (v := ?_) (a' := ?_) #[true, true, true, true, true, true, true, true, false, false, false, false, false, false, false, false, false] rfl rfl (by kernel_rfl) (fun _ _ _ h => h) (Or.inl ⟨by rfl, ?_⟩) ?_ ?_
          rotate_left
          · intro w'
            go_simp
            with_reducible rfl
          rotate_left
          · simp only [Act.put, List.setIfInBounds_toArray, List.set_cons_zero, List.set_cons_succ, i64_w, i32_w]
            rfl
          refine pure_ (i := 9) (N := some 36) (v := ?_) (a' := ?_) #[true, true, true, true, true, true, true, true, false, true, false, false, false, false, false, false, false] rfl rfl (by kernel_rfl) (fun _ _ _ h => h) (Or.inl ⟨by rfl, ?_⟩) ?_ ?_
          rotate_left
          · intro w'
            go_simp
            with_reducible rfl
          rotate_left
          · simp only [Act.put, List.setIfInBounds_toArray, List.set_cons_zero, List.set_cons_succ, i64_w, i32_w]
            rfl
          refine pure_ (i := 10) (N := some 37) (v := ?_) (a' := ?_) #[true, true, true, true, true, true, true, true, false, true, true, false, false, false, false, false, false] rfl rfl (by kernel_rfl) (fun _ _ _ h => h) (Or.inl ⟨by rfl, ?_⟩) ?_ ?_
          rotate_left
          · intro w'
            go_simp
            with_reducible rfl
          rotate_left
          · simp only [Act.put, List.setIfInBounds_toArray, List.set_cons_zero, List.set_cons_succ, i64_w, i32_w]
            rfl
          refine pure_ (i := 11) (N := some 38) (v := ?_) (a' := ?_) #[true, true, true, true, true, true, true, true, false, true, true, true, false, false, false, false, false] rfl rfl (by kernel_rfl) (fun _ _ _ h => h) (Or.inl ⟨by rfl, ?_⟩) ?_ ?_
          rotate_left
          · intro w'
            go_simp
            with_reducible rfl
          rotate_left
          · simp only [Act.put, List.setIfInBounds_toArray, List.set_cons_zero, List.set_cons_succ, i64_w, i32_w]
            rfl
          refine pure_ (i := 12) (N := some 39) (v := ?_) (a' := ?_) #[true, true, true, true, true, true, true, true, false, true, true, true, true, false, false, false, false] rfl rfl (by kernel_rfl) (fun _ _ _ h => h) (Or.inl ⟨by rfl, ?_⟩) ?_ ?_
          rotate_left
          · intro w'
            go_simp
            with_reducible rfl
          rotate_left
          · simp only [Act.put, List.setIfInBounds_toArray, List.set_cons_zero, List.set_cons_succ, i64_w, i32_w]
            rfl
          refine take_ (i := 8) (N := some 35) (v := ?_) (a' := ?_) #[true, true, true, true, true, true, true, true, true, true, true, true, true, false, false, false, false] rfl rfl (by kernel_rfl) (fun _ _ _ h => h) (Or.inl ⟨by rfl, ?_⟩) hHeld ?_ ?_
          rotate_left
          · rintro w' ⟨s0, s1, s2, s3, s4, s5⟩
            go_simp
            with_reducible rfl
          rotate_left
          · simp only [Act.put, List.setIfInBounds_toArray, List.set_cons_zero, List.set_cons_succ, i64_w, i32_w]
            rfl
          refine take_ (i := 13) (N := some 40) (v := ?_) (a' := ?_) #[true, true, true, true, true, true, true, true, true, true, true, true, true, true, false, false, false] rfl rfl (by kernel_rfl) (fun _ _ _ h => h) (Or.inl ⟨by rfl, ?_⟩) hHeld ?_ ?_
          rotate_left
          · rintro w' ⟨s0, s1, s2, s3, s4, s5⟩
            go_simp
            with_reducible rfl
          rotate_left
          · simp only [Act.put, List.setIfInBounds_toArray, List.set_cons_zero, List.set_cons_succ, i64_w, i32_w]
            rfl
          refine one_ (i := 14) (N := some 41) #[true, true, true, true, true, true, true, true, true, true, true, true, true, true, true, false, false] rfl rfl (by kernel_rfl) (by decide) (fun K hK => ?_)
          refine goes_ Try.func51 (by kernel_rfl) rfl #[.agg #[.string Y.f0.f0, .int .u64 Y.f0.f1, .int .i64 Y.f0.f2], .agg #[.string X.f0.f0, .int .u64 X.f0.f1, .int .i64 X.f0.f2]] (by rfl) rfl rfl (by simp only [List.map_toArray, List.map_cons, List.map_nil]; rfl) ?_
          with_reducible refine (staddleref02_Compare.calls k Y.f0.f0 Y.f0.f1 Y.f0.f2 X.f0.f0 X.f0.f1 X.f0.f2 cv _ HCV.out).mono ?_
          rintro ex w9 ⟨rfl, hb⟩
          refine ⟨_, rfl, ?_⟩
          have HB9 := Aside0.mk (below_step HBD.out hb)
          refine hK.out _ _ ⟨(hb.cell (World.block_lt_of_cell? _ _ hHeld.1)).trans hHeld.1, (hb.cell (World.block_lt_of_cell? _ _ hHeld.2.1)).trans hHeld.2.1, (hb.cell (World.block_lt_of_cell? _ _ hHeld.2.2.1)).trans hHeld.2.2.1, (hb.cell (World.block_lt_of_cell? _ _ hHeld.2.2.2.1)).trans hHeld.2.2.2.1, (hb.cell (World.block_lt_of_cell? _ _ hHeld.2.2.2.2.1)).trans hHeld.2.2.2.2.1, (hb.cell (World.block_lt_of_cell? _ _ hHeld.2.2.2.2.2)).trans hHeld.2.2.2.2.2⟩ (fun hHeld => ?_)
          clear hK K
          refine norm_ (a' := ?_) ?_ ?_
          rotate_left
          · show Act.put _ (some 41) _ = _
            simp only [Act.put, List.setIfInBounds_toArray, List.set_cons_zero, List.set_cons_succ, i64_w, i32_w]
            rfl
          refine pure_ (i := 15) (N := some 42) (v := ?_) (a' := ?_) #[true, true, true, true, true, true, true, true, true, true, true, true, true, true, true, true, false] rfl rfl (by kernel_rfl) (fun _ _ _ h => h) (Or.inl ⟨by rfl, ?_⟩) ?_ ?_
          rotate_left
          · intro w'
            go_simp
            with_reducible rfl
          rotate_left
          · simp only [Act.put, List.setIfInBounds_toArray, List.set_cons_zero, List.set_cons_succ, i64_w, i32_w]
            rfl
          refine pure_ (i := 16) (N := some 43) (v := ?_) (a' := ?_) #[true, true, true, true, true, true, true, true, true, true, true, true, true, true, true, true, true] rfl rfl (by kernel_rfl) (fun _ _ _ h => h) (Or.inl ⟨by rfl, ?_⟩) ?_ ?_
          rotate_left
          · intro w'
            go_simp
            with_reducible rfl
          rotate_left
          · simp only [Act.put, List.setIfInBounds_toArray, List.set_cons_zero, List.set_cons_succ, i64_w, i32_w]
            rfl
          refine done_ (by kernel_rfl) ?_
          clear k1 k2 k3 k5 k6 k7 d1 d2 d2b d3 d4 hwz
          by_cases hc : 0 ≤ cv
          · have e1 : decide (0 ≤ cv) = true := decide_eq_true hc
            have e1b : decide (cv ≥ 0) = true := decide_eq_true hc
            have e1c := eq_true hc
            have e1d := eq_false (show ¬ cv < 0 by omega)
            have hlr := HLR.out
            rw [if_pos hc] at hlr
            obtain rfl := Option.some.inj hlr
            clear hlr e1 e1b e1c e1d
            have HC := Aside0.mk hc
            clear hc
            go_wp2
            all_goals try (exfalso; have := HC.out; omega)
            go_ret
            exact ⟨rfl, HB9.out⟩
          · have e1 : decide (0 ≤ cv) = false := decide_eq_false hc
            have e1b : decide (cv ≥ 0) = false := decide_eq_false hc
            have e1c := eq_false hc
            have e1d := eq_true (show cv < 0 by omega)
            have hlr := HLR.out
            rw [if_neg hc] at hlr
            have HLS := Aside0.mk hlr
            clear hlr e1 e1b e1c e1d
            have HC := Aside0.mk hc
            clear hc
            go_wp2
            all_goals try (exfalso; have := HC.out; omega)
            simp only [HW1.out]
            go_roundg g1
            case measure => omega
            case rel => exact ⟨i + 1, rfl, ⟨by have := HI.out.1; omega, HCI.out⟩, by rw [HPN.out]; exact HLS, HB9⟩
      · have c1b : decide ((i : Int) < (l.length : Int)) = false := decide_eq_false (by omega)
        have c1c : decide (i < l.length) = false := decide_eq_false c
        have hil : i = l.length := by have := HI.out.2; omega
        have hlp := HL.out
        rw [hil, List.drop_length] at hlp
        unfold rck at hlp
        obtain rfl := Option.some.inj hlp
        clear c hil hlp HL
        go_wp2
        go_ret
        exact ⟨rfl, HB.out⟩
theorem rpu_nil (k : Nat) (a1 : Int) (r : List Int) (w : World) (h : staddleref01_PutUvarint.f k [] a1 = some r) :
    Calls Try.prog 27 #[.slice none 0 0, .int .u64 a1] w fun e w' => ∃ v0_ : Value, e = .returned (v0_) ∧ Kd.R (Kd.int .u8) 5 w' w.heap.size (fun _ => True) v0_ r ∧ Below w.heap.size w w' :=
  staddleref01_PutUvarint.calls k none 0 [] a1 r w (Kd.C_nil _ _) (Nat.le_refl _) h
theorem rpf_nil (k : Nat) (a1 : Int) (r : List Int) (w : World) (h : staddleref01_PutFixed.f k [] a1 4 = some r) :
    Calls Try.prog 29 #[.slice none 0 0, .int .u64 a1, .int .i64 4] w fun e w' => ∃ v0_ : Value, e = .returned (v0_) ∧ Kd.R (Kd.int .u8) 5 w' w.heap.size (fun _ => True) v0_ r ∧ Below w.heap.size w w' :=
  staddleref01_PutFixed.calls k none 0 [] a1 4 r w (Kd.C_nil _ _) (Nat.le_refl _) h
set_option maxRecDepth 100000 in
set_option maxHeartbeats 4000000 in
theorem rblock_calls (k : Nat) (A0 : Option Addr) (c0 : Nat) (l : List S47) (iv : Int) (r1 : List Int) (r2 : Int) (w : World) (hr0 : Kd.C k47 w A0 l.length l) (hc0 : l.length ≤ c0) (hf : rbk_f k l iv = some (r1, r2)) :
    Calls Try.prog 26 #[.slice A0 l.length c0, .int .i64 iv] w fun e w' => ∃ v0_ : Value, e = .returned (.tuple #[v0_, .int .i64 r2]) ∧ Kd.R (Kd.int .u8) 5 w' w.heap.size (fun _ => True) v0_ r1 ∧ Below w.heap.size w w' := by
  have HR0 := Aside0.mk hr0
  have HC0 := Aside0.mk hc0
  clear hr0 hc0
  unfold rbk_f at hf
  go_enter Try.func26, Try.ntmps26
  by_cases c3 : iv < 1
  case pos =>
    rw [if_pos c3] at hf
    injection hf with hf
    injection hf with h1 h2
    subst h1 h2
    have d3 : decide (iv < 1) = true := decide_eq_true c3
    clear c3
    go_wp2
    go_ret2
    exact ⟨_, rfl, Kd.R_nil _ _ _ _ _, Below.refl _ _⟩
  case neg =>
  rw [if_neg c3] at hf
  have d3 : decide (iv < 1) = false := decide_eq_false c3
  by_cases c4 : 16 < iv
  case pos =>
    rw [if_pos c4] at hf
    injection hf with hf
    injection hf with h1 h2
    subst h1 h2
    have d4 : decide (16 < iv) = true := decide_eq_true c4
    clear c3 c4
    go_wp2
    go_ret2
    exact ⟨_, rfl, Kd.R_nil _ _ _ _ _, Below.refl _ _⟩
  case neg =>
  rw [if_neg c4] at hf
  have d4 : decide (16 < iv) = false := decide_eq_false c4
  obtain ⟨m, rfl⟩ := Int.eq_ofNat_of_zero_le (show 0 ≤ iv by omega)
  simp only [Int.toNat_natCast] at hf
  obtain ⟨ce, hce, hf⟩ := Option.bind_eq_some_iff.mp hf
  have HCE := Aside0.mk hce
  have HIV : Aside0 (1 ≤ m ∧ m ≤ 16) := ⟨by omega⟩
  clear hce c3 c4
  go_upto_region 4 with (first
    | (go_at_call 25; (with_reducible refine (rcheck_calls k A0 c0 l ce _ HR0.out HC0.out HCE.out).mono ?_; rintro ex w1 ⟨rfl, hb⟩)
       have HB1 := Aside0.mk hb
       clear hb))
  clear d3 d4
  by_cases hbe : ce = 0
  case neg =>
    have e1 : (ce != 0) = true := bne_iff_ne.mpr hbe
    rw [if_pos hbe] at hf
    injection hf with hf
    injection hf with h1 h2
    subst h1 h2
    clear hbe
    go_wp2
    go_ret2
    exact ⟨_, rfl, Kd.R_nil _ _ _ _ _, HB1.out⟩
  case pos =>
  subst hbe
  rw [if_neg (by simp)] at hf
  split at hf
  case isFalse => cases hf
  rename_i hln
  obtain ⟨⟨o1, m1⟩, hl, hf⟩ := Option.bind_eq_some_iff.mp hf
  dsimp only at hf
  split at hf
  case isFalse => cases hf
  rename_i hml
  obtain ⟨o2, hm, hf⟩ := Option.bind_eq_some_iff.mp hf
  split at hf
  case isFalse => cases hf
  rename_i hol
  obtain ⟨z, hz, hf⟩ := Option.map_eq_some_iff.1 hf
  injection hf with h1 h2
  subst h1 h2
  have HLN := Aside0.mk hln
  have HML := Aside0.mk hml
  have HOL := Aside0.mk hol
  have HL := Aside0.mk hl
  have HM := Aside0.mk hm
  have HZ := Aside0.mk hz
  have P1 : Aside0 (RkI w w1 (.slice none 0 0) [] (.slice none 0 0) []) := ⟨⟨Kd.R_nil _ _ _ _ _, Kd.R_nil _ _ _ _ _, HB1.out⟩⟩
  have RL1 : Aside0 (Kd.R (Kd.int .u8) 5 w1 w.heap.size (fun q => some q ≠ (Value.slice none 0 0).ownBlock) (.slice none 0 0) []) := ⟨Kd.R_nil _ _ _ _ _⟩
  clear hln hml hol hl hm hz HB1
  go_upto_region 9 with fail
  go_wp2_with fail
  go_loopg [7, 8, 9, 10] (l.length + 1) (fun gf v7 v8 v9 v10 wx => ∃ (i : Nat) (out ms last : List Int), v10 = .int .i64 (i : Int) ∧ Aside0 (gf + i = l.length + 1 ∧ i ≤ l.length) ∧ Aside0 (rbk_l k m (l.drop i) i out ms last = some (o1, m1)) ∧ Aside0 (RkI w wx v7 out v8 ms) ∧ Aside0 (Kd.R (Kd.int .u8) 5 wx w.heap.size (fun q => some q ≠ v7.ownBlock) v9 last))
  case atStart => exact ⟨0, [], [], [], rfl, ⟨by omega, by omega⟩, HL, P1, RL1⟩
  case round =>
    clear P1 RL1 HL
    obtain ⟨i, out, ms, last, rfl, HI, HL, P, RL⟩ := hrel
    cases gk with
    | zero => exact absurd HI.out.1 (by have := HI.out.2; omega)
    | succ g1 =>
      by_cases c : i < l.length
      · have c1b : decide ((i : Int) < (l.length : Int)) = true := decide_eq_true (by omega)
        have c1d := eq_true (show (i : Int) < (l.length : Int) by omega)
        have c1e := eq_true (show (0 : Int) ≤ (i : Int) by omega)
        obtain ⟨X, hX⟩ : ∃ x, rd_T47 l (i : Int) = x := ⟨_, rfl⟩
        have hdrop : l.drop i = X :: l.drop (i + 1) := by
          rw [List.drop_eq_getElem_cons c, ← hX]
          simp [rd_T47, c]
        have hlp := HL.out
        rw [hdrop] at hlp
        unfold rbk_l at hlp
        obtain ⟨⟨key, ke⟩, hkey, hlp⟩ := Option.bind_eq_some_iff.mp hlp
        obtain ⟨sh, hsh, hlp⟩ := Option.bind_eq_some_iff.mp hlp
        dsimp only at hsh hlp
        split at hlp
        case isFalse => cases hlp
        rename_i hgd
        obtain ⟨out2, hrow, hlp⟩ := Option.bind_eq_some_iff.mp hlp
        have HKEY := Aside0.mk hkey
        have HSH := Aside0.mk hsh
        have HGD := Aside0.mk hgd
        have HROW := Aside0.mk hrow
        have HLR := Aside0.mk hlp
        have HCI := Aside0.mk c
        obtain ⟨al, eA, j1, j2, j3, j4⟩ := at_T47 HR0.out (i : Int) (Int.natCast_nonneg i) (by omega)
        subst eA
        rw [Int.toNat_natCast] at j1 j2 j3 j4
        rw [hX] at j1 j2 j3 j4
        have HK0 := Aside0.mk j4
        have k1 := (P.out.hb.cell (World.block_lt_of_cell? _ _ j1)).trans j1
        have k2 := (P.out.hb.cell (World.block_lt_of_cell? _ _ j2)).trans j2
        have k3 := (P.out.hb.cell (World.block_lt_of_cell? _ _ j3)).trans j3
        have HVO := Aside0.mk (Kd.R_lt P.out.ro)
        obtain ⟨Ao, co, eo⟩ := Kd.R_slice P.out.ro
        subst eo
        obtain ⟨Al, cl, el⟩ := Kd.R_slice RL.out
        subst el
        clear hkey hsh hgd hrow hlp c hdrop HL hX j1 j2 j3 j4
        go_upto_region 14 with (first
          | (go_at_call 52; (with_reducible refine (staddleref02_Encode.calls k X.f0.f0 X.f0.f1 X.f0.f2 key ke _ HKEY.out).mono ?_; rintro ex w2 ⟨v2, rfl, hob, hb⟩)
             have P2 := Aside0.mk (P.out.below hb)
             have RL2 := Aside0.mk (Kd.R_below RL.out hb)
             have RK2 : Aside0 (Kd.R (Kd.int .u8) 5 w2 w.heap.size (fun q => some q ≠ (Value.slice Ao out.length co).ownBlock) v2 key) := ⟨Kd.R_mono (Kd.R_lower (Kd.R_bound hob) (below_size P.out.hb)) (fun q hq e => by have := HVO.out q e.symm; have := hq.2.1; omega)⟩
             obtain ⟨Ak, ck_, ek⟩ := Kd.R_slice hob
             subst ek
             clear hob hb)
          | (go_at_call 53; (with_reducible refine (staddleref11_shared.calls k Al cl last Ak ck_ key sh _ (Kd.R_reads' RL2.out).2.2 (Kd.R_reads' RL2.out).2.1 (Kd.R_reads' RK2.out).2.2 (Kd.R_reads' RK2.out).2.1 HSH.out).mono ?_; rintro ex w3 ⟨rfl, ⟨nd, hw3⟩⟩)
             have hb3 : Below w2.heap.size w2 w3 := by rw [hw3]; exact pw_below_drewN (Below.refl _ _) nd
             have P3 := Aside0.mk (P2.out.below hb3)
             have RK3 := Aside0.mk (Kd.R_below RK2.out hb3)
             clear hb3 hw3))
        clear k1 k2 k3
        obtain ⟨shn, hshn⟩ := Int.eq_ofNat_of_zero_le HGD.out.1.1
        subst hshn
        simp only [Int.toNat_natCast] at HROW
        obtain ⟨rm, hrm⟩ : ∃ y : Nat, i % m = y := ⟨_, rfl⟩
        rw [hrm] at HROW HLR
        have hmod : Int.tmod (i : Int) (m : Int) = (rm : Int) := by rw [← hrm]; exact tq_mod i m (by have := HIV.out; omega)
        have hmz : ((m : Int) == 0) = false := by rw [beq_eq_false_iff_ne]; have := HIV.out; omega
        have hmz2 : (m == 0) = false := by rw [beq_eq_false_iff_ne]; have := HIV.out; omega
        have hmz3 : ((m : Int) = 0) = False := eq_false (by have := HIV.out; omega)
        have hmz4 : (m = 0) = False := eq_false (by have := HIV.out; omega)
        obtain ⟨N, hN⟩ : ∃ y : Nat, (if rm = 0 then 0 else shn) = y := ⟨_, rfl⟩
        obtain ⟨ms2, hms2⟩ : ∃ y : List Int, (if rm = 0 then ms ++ [(out.length : Int)] else ms) = y := ⟨_, rfl⟩
        rw [hN] at HROW
        rw [hms2] at HLR
        have HNN := Aside0.mk hN
        have HM2 := Aside0.mk hms2
        have HNL : Aside0 (N ≤ key.length) := ⟨by have := HGD.out.1.2; rw [← hN]; split <;> omega⟩
        clear hrm hN hms2
        go_upto_if 47 with fail
        clear hmod hmz hmz2 hmz3 hmz4
        go_cut [8, 13] from 44 to 52 (fun v8 v13 wc => v13 = .int .i64 (N : Int) ∧ Aside0 (RkI w wc (.slice Ao out.length co) out v8 ms2) ∧ Aside0 (Kd.R (Kd.int .u8) 5 wc w.heap.size (fun q => some q ≠ (Value.slice Ao out.length co).ownBlock) (.slice Ak key.length ck_) key))
        case first =>
          by_cases cr : rm = 0
          · have cr1 : ((rm : Int) == 0) = true := by rw [cr]; rfl
            have cr2 : (rm == 0) = true := by rw [cr]; rfl
            have e1 : ms ++ [(out.length : Int)] = ms2 := by rw [← HM2.out, if_pos cr]
            have e2 : N = 0 := by rw [← HNN.out, if_pos cr]
            have HE1 := Aside0.mk e1
            have HE2 := Aside0.mk e2
            clear cr e1 e2
            go_wp2_with (first
              | ((with_reducible refine gate_builtin (b := .append) (xs := #[.tmp 48, .tmp 51]) rfl ?_); at_builtin; (refine Kd.R_append (Kd.int .i64) (w0 := w) w.heap.size rfl (.tmp 48) (.tmp 51) 94 3 (.int .i64 0) 8 rfl Try.underlying94 info3 rfl (by decide) (by omega) u8 ms (out.length : Int) [.int .i64 (out.length : Int)] (fun _ => True) (fun _ => False) rfl rfl rfl (fun _ hk => hk.elim) (fun _ _ => trivial) P3.out.rm P3.out.hb (below_size P3.out.hb) (by have := HGD.out.2.2; omega) ?_)
                 intro v8 w4 ho hb hg hat
                 rw [HE1.out] at ho
                 have P4 := Aside0.mk (P3.out.mark ho hb hg)
                 have RK4 := Aside0.mk (Kd.R_over RK3.out P3.out.rm (ty5 (by decide)) hg)
                 clear ho hb hg hat))
            go_meet
            case rel => exact ⟨by rw [HE2.out]; rfl, P4, RK4⟩
          · have cr1 : ((rm : Int) == 0) = false := by rw [beq_eq_false_iff_ne]; omega
            have cr2 : (rm == 0) = false := by rw [beq_eq_false_iff_ne]; omega
            go_wp2
            go_meet
            case rel => exact ⟨by rw [← HNN.out, if_neg cr], by rw [← HM2.out, if_neg cr]; exact P3, RK3⟩
        case rest =>
        obtain ⟨rfl, P4, RK4⟩ := hcut
        clear P3 RK3 P2 RK2 RL2 P RL
        have hrow := HROW.out
        unfold rbk_row at hrow
        obtain ⟨d, hd⟩ : ∃ y, key.length - N = y := ⟨_, rfl⟩
        rw [hd] at hrow
        obtain ⟨p1, h1, hrow⟩ := Option.bind_eq_some_iff.mp hrow
        obtain ⟨p2, h2, hrow⟩ := Option.bind_eq_some_iff.mp hrow
        obtain ⟨p3, h3, hrow⟩ := Option.bind_eq_some_iff.mp hrow
        split at hrow
        case isFalse => cases hrow
        rename_i hbd
        obtain ⟨M, hM⟩ : ∃ y, key.drop N = y := ⟨_, rfl⟩
        obtain ⟨Am, cm, hcut, hcd, hcl⟩ := cutU Ak ck_ key N HNL.out (Kd.R_reads' RK4.out).2.1
        rw [hM] at hrow hcut hcd hcl
        obtain ⟨oa, ha⟩ : ∃ y, out ++ p1 = y := ⟨_, rfl⟩
        rw [ha] at hrow
        obtain ⟨ob, hb_⟩ : ∃ y, oa ++ p2 = y := ⟨_, rfl⟩
        rw [hb_] at hrow
        obtain ⟨oc, hc⟩ : ∃ y, ob ++ p3 = y := ⟨_, rfl⟩
        rw [hc] at hrow
        obtain ⟨od, hd_⟩ : ∃ y, oc ++ M = y := ⟨_, rfl⟩
        rw [hd_] at hrow
        have EA := Aside0.mk ha
        have EB := Aside0.mk hb_
        have EC := Aside0.mk hc
        have ED := Aside0.mk hd_
        have EE := Aside0.mk (Option.some.inj hrow)
        have LA : Aside0 (oa.length = out.length + p1.length) := ⟨by rw [← ha, List.length_append]⟩
        have LB : Aside0 (ob.length = out.length + p1.length + p2.length) := ⟨by rw [← hb_, List.length_append, LA.out]⟩
        have LC : Aside0 (oc.length = out.length + p1.length + p2.length + p3.length) := ⟨by rw [← hc, List.length_append, LB.out]⟩
        have LM : Aside0 (M.length ≤ key.length) := ⟨by rw [← hM, List.length_drop]; omega⟩
        have LD : Aside0 (od.length = out.length + p1.length + p2.length + p3.length + M.length) := ⟨by rw [← hd_, List.length_append, LC.out]⟩
        have BD := Aside0.mk hbd
        have H1 := Aside0.mk h1
        have H2 := Aside0.mk h2
        have H3 := Aside0.mk h3
        have HCD := Aside0.mk hcd
        have HSUB : Aside0 (wrap64 ((key.length : Int) - (N : Int)) = (d : Int)) := ⟨by rw [← hd]; exact tq_sub _ _ HNL.out HGD.out.2.1⟩
        have HW1 := Aside0.mk (tq_w1 i (by have := HLN.out; have := HCI.out; omega))
        clear hrow h1 h2 h3 hbd hcd hM ha hb_ hc hd_ hd HROW
        go_wp2_with (first
                | (go_at_call 27; with_reducible refine (rpu_nil k (IntKind.u64.wrap ((N : Int))) p1 _ H1.out).mono ?_; rintro ex w5 ⟨v5, rfl, hob, hb⟩
                   have P5 := Aside0.mk (P4.out.below hb)
                   have RK5 := Aside0.mk (Kd.R_below RK4.out hb)
                   have RP1 := Aside0.mk hob
                   obtain ⟨Ap1, cp1, et⟩ := Kd.R_slice hob
                   subst et
                   clear hob hb)
                | ((with_reducible refine gate_builtin (b := .append) (xs := #[.tmp 53, .tmp 56]) rfl ?_); at_builtin; (refine Kd.R_append_rows (Kd.int .u8) (w0 := w) w.heap.size rfl (.tmp 53) (.tmp 56) 27 5 (.int .u8 0) 1 rfl Try.underlying27 info5 rfl (by decide) (by omega) (.slice Ao out.length co) out p1 _ _ _ (fun _ => True) (fun _ => False) rfl rfl P5.out.ro (Kd.R_reads' RP1.out).2.2 (fun _ _ h => h) (fun _ h => h.elim) (fun _ _ => trivial) P5.out.hb (below_size P5.out.hb) (by have := BD.out; omega) ?_)
                   intro v6 w6 ho hb hg hat
                   rw [EA.out] at ho
                   have P6 := Aside0.mk (P5.out.app ho hb hg)
                   have RK6 := Aside0.mk (rk_beside (vo := .slice Ao out.length co) (vo' := v6) RK5.out hg hat)
                   obtain ⟨Aa, ca, e6⟩ := Kd.R_slice ho
                   subst e6
                   have hsub := HSUB.out
                   clear ho hb hg hat)
                | (go_at_call 27; with_reducible refine (rpu_nil k (IntKind.u64.wrap ((d : Int))) p2 _ H2.out).mono ?_; rintro ex w7 ⟨v7, rfl, hob, hb⟩
                   clear hsub
                   have P7 := Aside0.mk (P6.out.below hb)
                   have RK7 := Aside0.mk (Kd.R_below RK6.out hb)
                   have RP2 := Aside0.mk hob
                   obtain ⟨Ap2, cp2, et⟩ := Kd.R_slice hob
                   subst et
                   clear hob hb)
                | ((with_reducible refine gate_builtin (b := .append) (xs := #[.tmp 58, .tmp 64]) rfl ?_); at_builtin; (refine Kd.R_append_rows (Kd.int .u8) (w0 := w) w.heap.size rfl (.tmp 58) (.tmp 64) 27 5 (.int .u8 0) 1 rfl Try.underlying27 info5 rfl (by decide) (by omega) (.slice Aa oa.length ca) oa p2 _ _ _ (fun _ => True) (fun _ => False) rfl rfl P7.out.ro (Kd.R_reads' RP2.out).2.2 (fun _ _ h => h) (fun _ h => h.elim) (fun _ _ => trivial) P7.out.hb (below_size P7.out.hb) (by have := LA.out; have := BD.out; omega) ?_)
                   intro v8 w8 ho hb hg hat
                   rw [EB.out] at ho
                   have P8 := Aside0.mk (P7.out.app ho hb hg)
                   have RK8 := Aside0.mk (rk_beside (vo := .slice Aa oa.length ca) (vo' := v8) RK7.out hg hat)
                   obtain ⟨Ab, cb, e8⟩ := Kd.R_slice ho
                   subst e8
                   have hk8 := (P8.out.hb.cell (World.block_lt_of_cell? _ _ HK0.out)).trans HK0.out
                   clear ho hb hg hat)
                | (go_at_call 27; with_reducible refine (rpu_nil k (IntKind.u64.wrap ((X.f1.size : Int))) p3 _ H3.out).mono ?_; rintro ex w9 ⟨v9, rfl, hob, hb⟩
                   have P9 := Aside0.mk (P8.out.below hb)
                   have RK9 := Aside0.mk (Kd.R_below RK8.out hb)
                   have RP3 := Aside0.mk hob
                   obtain ⟨Ap3, cp3, et⟩ := Kd.R_slice hob
                   subst et
                   clear hob hb)
                | ((with_reducible refine gate_builtin (b := .append) (xs := #[.tmp 66, .tmp 74]) rfl ?_); at_builtin; (refine Kd.R_append_rows (Kd.int .u8) (w0 := w) w.heap.size rfl (.tmp 66) (.tmp 74) 27 5 (.int .u8 0) 1 rfl Try.underlying27 info5 rfl (by decide) (by omega) (.slice Ab ob.length cb) ob p3 _ _ _ (fun _ => True) (fun _ => False) rfl rfl P9.out.ro (Kd.R_reads' RP3.out).2.2 (fun _ _ h => h) (fun _ h => h.elim) (fun _ _ => trivial) P9.out.hb (below_size P9.out.hb) (by have := LB.out; have := BD.out; omega) ?_)
                   intro v10 w10 ho hb hg hat
                   rw [EC.out] at ho
                   have P10 := Aside0.mk (P9.out.app ho hb hg)
                   have RK10 := Aside0.mk (rk_beside (vo := .slice Ab ob.length cb) (vo' := v10) RK9.out hg hat)
                   obtain ⟨Ac, cc, e10⟩ := Kd.R_slice ho
                   subst e10
                   clear ho hb hg hat)
                | ((with_reducible refine gate_builtin (b := .append) (xs := #[.tmp 76, .tmp 79]) rfl ?_); at_builtin; (refine Kd.R_append_rows (Kd.int .u8) (w0 := w) w.heap.size rfl (.tmp 76) (.tmp 79) 27 5 (.int .u8 0) 1 rfl Try.underlying27 info5 rfl (by decide) (by omega) (.slice Ac oc.length cc) oc M _ _ _ (fun _ => True) (fun _ => False) rfl rfl P10.out.ro (HCD.out _ (Kd.R_reads' RK10.out).2.2) (fun _ _ h => h) (fun _ h => h.elim) (fun _ _ => trivial) P10.out.hb (below_size P10.out.hb) (by have := LC.out; have := LM.out; have := BD.out; omega) ?_)
                   intro v11 w11 ho hb hg hat
                   rw [ED.out] at ho
                   have P11 := Aside0.mk (P10.out.app ho hb hg)
                   have RK11 := Aside0.mk (rk_beside (vo := .slice Ac oc.length cc) (vo' := v11) RK10.out hg hat)
                   obtain ⟨Ad, cd, e11⟩ := Kd.R_slice ho
                   subst e11
                   have hk11 := (P11.out.hb.cell (World.block_lt_of_cell? _ _ HK0.out)).trans HK0.out
                   clear ho hb hg hat)
                | ((with_reducible refine gate_dst (N := 87) rfl ?_); (refine kd_V_conv rfl (N := 87) rfl 9 27 5 _ rfl X.f1 rfl Try.underlying9 Try.underlying27 Try.underlying5 ?cL ?_)
                   (case cL => have := BD.out; omega)
                   intro v12 w12 hv hb _ _
                   have P12 := Aside0.mk (P11.out.below hb)
                   have RK12 := Aside0.mk (Kd.R_below RK11.out hb)
                   have RV12 := Aside0.mk hv
                   obtain ⟨Av, cv, ev⟩ := Kd.V_slice hv
                   subst ev
                   clear hv hb)
                | ((with_reducible refine gate_builtin (b := .append) (xs := #[.tmp 81, .tmp 87]) rfl ?_); at_builtin; (refine Kd.R_append_rows (Kd.int .u8) (w0 := w) w.heap.size rfl (.tmp 81) (.tmp 87) 27 5 (.int .u8 0) 1 rfl Try.underlying27 info5 rfl (by decide) (by omega) (.slice Ad od.length cd) od (bytesOf X.f1) _ _ _ (fun _ => True) (fun _ => False) rfl rfl P12.out.ro (Kd.V_reads' RV12.out).2.2 (fun _ _ h => h) (fun _ h => h.elim) (fun _ _ => trivial) P12.out.hb (below_size P12.out.hb) (by have := LD.out; have := LM.out; have := BD.out; have := bytesOf_length X.f1; rw [this]; omega) ?_)
                   intro v13 w13 ho hb hg hat
                   rw [EE.out] at ho
                   have P13 := Aside0.mk (P12.out.app ho hb hg)
                   have RK13 := Aside0.mk (rk_beside (vo := .slice Ad od.length cd) (vo' := v13) RK12.out hg hat)
                   obtain ⟨Ae, ce, e13⟩ := Kd.R_slice ho
                   subst e13
                   clear ho hb hg hat))
        simp only [HW1.out]
        clear hcut hcl
        go_roundg g1
        case measure => omega
        case rel => exact ⟨i + 1, out2, ms2, key, rfl, ⟨by have := HI.out.1; omega, HCI.out⟩, HLR, P13, RK13⟩
      · have c1b : decide ((i : Int) < (l.length : Int)) = false := decide_eq_false (by omega)
        have c1c : decide (i < l.length) = false := decide_eq_false c
        have hil : i = l.length := by have := HI.out.2; omega
        have hlp := HL.out
        rw [hil, List.drop_length] at hlp
        have hlp := Option.some.inj hlp
        rw [Prod.mk.injEq] at hlp
        obtain ⟨rfl, rfl⟩ := hlp
        obtain ⟨Am, cm, em⟩ := Kd.R_slice P.out.rm
        subst em
        clear c hil HI HL RL
        go_wp2_with fail
        clear c1b c1c
        go_loopg [7, 14] (ms.length + 1) (fun gf v7 v14 wx => ∃ (j : Nat) (oo : List Int), v14 = .int .i64 (j : Int) ∧ Aside0 (gf + j = ms.length + 1 ∧ j ≤ ms.length) ∧ Aside0 (rbk_m k (ms.drop j) oo = some o2) ∧ Aside0 (RkI w wx v7 oo (.slice Am ms.length cm) ms))
        case atStart => exact ⟨0, out, rfl, ⟨by omega, by omega⟩, HM, P⟩
        case round =>
          clear P HM
          obtain ⟨j, oo, rfl, HJ, HM, P⟩ := hrel
          obtain ⟨Ao, co, eo⟩ := Kd.R_slice P.out.ro
          subst eo
          cases gk with
          | zero => exact absurd HJ.out.1 (by have := HJ.out.2; omega)
          | succ g2 =>
            by_cases c : j < ms.length
            · have c1b : decide ((j : Int) < (ms.length : Int)) = true := decide_eq_true (by omega)
              have c1d := eq_true (show (j : Int) < (ms.length : Int) by omega)
              have c1e := eq_true (show (0 : Int) ≤ (j : Int) by omega)
              obtain ⟨am, eA, hc⟩ := Kd.at_int (Kd.R_reads' P.out.rm).2.2 (j : Int) (by omega) (by omega)
              subst eA
              rw [Int.toNat_natCast] at hc
              obtain ⟨x, hx⟩ : ∃ x, rd ms (j : Int) = x := ⟨_, rfl⟩
              rw [hx] at hc
              have hdrop : ms.drop j = x :: ms.drop (j + 1) := by
                rw [List.drop_eq_getElem_cons c, ← hx]
                simp [rd, c]
              have hm := HM.out
              rw [hdrop] at hm
              unfold rbk_m at hm
              obtain ⟨p, hp, hm⟩ := Option.bind_eq_some_iff.mp hm
              split at hm
              case isFalse => cases hm
              rename_i hbd
              have HPP := Aside0.mk hp
              have HBD := Aside0.mk hbd
              have HMR := Aside0.mk hm
              have HCJ := Aside0.mk c
              have HW1 := Aside0.mk (tq_w1 j (by have := HML.out; omega))
              clear hp hbd hm c hdrop hx HM
              go_wp2_with (first
                | (go_at_call 29; (with_reducible refine (rpf_nil k (IntKind.u64.wrap x) p _ HPP.out).mono ?_; rintro ex w5 ⟨v5, rfl, hob, hb⟩)
                   have P5 := Aside0.mk (P.out.below hb)
                   have RP5 := Aside0.mk hob
                   obtain ⟨Ap, cp, et⟩ := Kd.R_slice hob
                   subst et
                   clear hob hb)
                | ((with_reducible refine gate_builtin (b := .append) (xs := #[.tmp 96, .tmp 102]) rfl ?_); at_builtin; (refine Kd.R_append_rows (Kd.int .u8) (w0 := w) w.heap.size rfl (.tmp 96) (.tmp 102) 27 5 (.int .u8 0) 1 rfl Try.underlying27 info5 rfl (by decide) (by omega) (.slice Ao oo.length co) oo p _ _ _ (fun _ => True) (fun _ => False) rfl rfl P5.out.ro (Kd.R_reads' RP5.out).2.2 (fun _ _ h => h) (fun _ h => h.elim) (fun _ _ => trivial) P5.out.hb (below_size P5.out.hb) (by have := HBD.out; omega) ?_)
                   intro v6 w6 ho hb hg hat
                   have P6 := Aside0.mk (P5.out.app ho hb hg)
                   clear ho hb hg hat))
              simp only [HW1.out]
              go_roundg g2
              case measure => omega
              case rel => exact ⟨j + 1, oo ++ p, rfl, ⟨by have := HJ.out.1; omega, HCJ.out⟩, HMR, P6⟩
            · have c1b : decide ((j : Int) < (ms.length : Int)) = false := decide_eq_false (by omega)
              have c1c : decide (j < ms.length) = false := decide_eq_false c
              have hjl : j = ms.length := by have := HJ.out.2; omega
              have hm := HM.out
              rw [hjl, List.drop_length] at hm
              obtain rfl := Option.some.inj hm
              obtain ⟨oz, hoz⟩ : ∃ y, oo ++ [(m : Int)] = y := ⟨_, rfl⟩
              have hz := HZ.out
              rw [hoz] at hz
              have HOZ := Aside0.mk hoz
              have HZZ := Aside0.mk hz
              have hw8 : IntKind.u8.wrap (m : Int) = (m : Int) := by have := HIV.out; simp [IntKind.wrap, IntKind.bits, IntKind.signed]; omega
              clear c hjl hm hz hoz HM HJ
              go_wp2_with (first
                | ((with_reducible refine gate_builtin (b := .append) (xs := #[.tmp 104, .tmp 107]) rfl ?_); at_builtin; (refine Kd.R_append (Kd.int .u8) (w0 := w) w.heap.size rfl (.tmp 104) (.tmp 107) 27 5 (.int .u8 0) 1 rfl Try.underlying27 info5 rfl (by decide) (by omega) (.slice Ao oo.length co) oo (m : Int) [.int .u8 (m : Int)] (fun _ => True) (fun _ => False) rfl rfl rfl (fun _ hk => hk.elim) (fun _ _ => trivial) P.out.ro P.out.hb (below_size P.out.hb) (by have := HOL.out; omega) ?_)
                   intro v7 w7 ho hb hg hat
                   rw [HOZ.out] at ho
                   have RZ7 := Aside0.mk ho
                   have HB7 := Aside0.mk hb
                   obtain ⟨Az, cz, ez⟩ := Kd.R_slice ho
                   subst ez
                   clear ho hb hg hat)
                | (go_at_call 29; (with_reducible refine (staddleref01_PutFixed.calls k Az cz oz (IntKind.u64.wrap (ms.length : Int)) 4 z _ (Kd.R_reads' RZ7.out).2.2 (Kd.R_reads' RZ7.out).2.1 HZZ.out).mono ?_; rintro ex w8 ⟨v8, rfl, hob, hb⟩)
                   have R8 := Aside0.mk (Kd.R_lower hob (below_size HB7.out))
                   have HB8 := Aside0.mk (below_step HB7.out hb)
                   clear hob hb))
              go_ret2
              exact ⟨_, rfl, R8.out, HB8.out⟩
end Go.Proofs.Ythdemdjobgbpdaa.T
namespace Go.Proofs.Ythdemdjobgbpdaa.T
open Go.RowKit Go.Shelf Go.Proofs.YthdemdjobgbpdaaW.PrintWords Go.Proofs.YthdemdjobgbpdaaW.PrintLast Go.Proofs.YthdemdjobgbpdaaW.PrintMore Go.Proofs.Ythdemdjobgbpdaa.P Go.Proofs.Ythdemdjobgbpdaa.B Go.Proofs.Ythdemdjobgbpdaa.Q
attribute [local go_sem] Oper.semAt_some
set_option linter.unusedVariables false
set_option linter.unusedSimpArgs false
/-- entry by entry: what is laid, and the index -/
def rtab_l (k : Nat) (l : List S47) (blk iv : Int) : List S47 → Nat → Nat → List Int → List S47 → Option (List Int × List S47)
  | [], _, _, out, idx => some (out, idx)
  | x :: t, i, fr, out, idx => if fr ≤ i then (rbk_f k ((l.take (i + 1)).drop fr) iv).bind fun b =>
      if blk ≤ (b.1.length : Int) ∨ i + 1 = l.length then
        if idx.length < 1000 then (staddleref01_PutUvarint.f k [] (IntKind.u64.wrap (out.length : Int))).bind fun p1 => (staddleref01_PutUvarint.f k p1 (IntKind.u64.wrap (b.1.length : Int))).bind fun p2 =>
          (staddleref12_summed.f k b.1).bind fun s => if out.length + s.length < 1000000000000 then rtab_l k l blk iv t (i + 1) (i + 1) (out ++ s) (idx ++ [⟨x.f0, strOfNums p2⟩]) else none
        else none
      else rtab_l k l blk iv t (i + 1) fr out idx
    else none
def wordL : List Int := [115, 116, 97, 100, 100, 108, 101, 49]
/-- what stands behind the blocks -/
def rtab_e (k : Nat) (n : Nat) (out fl x : List Int) : Option (List Int) :=
  (staddleref01_PutFixed.f k [] (IntKind.u64.wrap (out.length : Int)) 4).bind fun t1 => (staddleref01_PutFixed.f k t1 (IntKind.u64.wrap (fl.length : Int)) 4).bind fun t2 =>
  (staddleref12_summed.f k fl).bind fun s1 => if out.length + s1.length < 1000000000000 then
    (staddleref01_PutFixed.f k t2 (IntKind.u64.wrap ((out ++ s1).length : Int)) 4).bind fun t3 => (staddleref01_PutFixed.f k t3 (IntKind.u64.wrap (x.length : Int)) 4).bind fun t4 =>
    (staddleref12_summed.f k x).bind fun s2 => if (out ++ s1).length + s2.length < 1000000000000 then
      (staddleref01_PutFixed.f k t4 (IntKind.u64.wrap (n : Int)) 4).bind fun t5 => if (out ++ s1 ++ s2).length + t5.length < 1000000000000 then some (out ++ s1 ++ s2 ++ t5 ++ wordL) else none
    else none
  else none
def rtab_f (k : Nat) (l : List S47) (blk iv : Int) (fb : Nat) : Option (List Int × Int) :=
  if blk < 1 then some ([], 1) else if 65536 < blk then some ([], 1) else if iv < 1 then some ([], 1) else if 16 < iv then some ([], 1) else
  if l.length ≤ 300 then (rbloomB k (l.map fun x => x.f0.f0) fb).bind fun f => if f.2 ≠ 0 then some ([], f.2) else if l.length = 0 then some ([], 120) else
    (rck_f k l).bind fun e => if e ≠ 0 then some ([], e) else
    (rtab_l k l blk iv l 0 0 [] []).bind fun oi => (rbk_f k oi.2 1).bind fun x => (rtab_e k l.length oi.1 f.1 x.1).map fun o => (o, 0)
  else none
/-- what holds while the blocks are laid -/
structure RbI (B z : Nat) (w : World) (opt : Obj) (vf : Value) (fl : List Int) (wx : World) (vo : Value) (out : List Int) (vi : Value) (idx : List S47) : Prop where
  box : wx.heap[B]? = some opt
  rf : Kd.R (Kd.int .u8) 5 wx B (fun q => q < z) vf fl
  ro : Kd.R (Kd.int .u8) 5 wx B (fun q => z ≤ q) vo out
  ri : Kd.R k47 47 wx B (fun q => z ≤ q) vi idx
  hb : Below B w wx
  hz : z ≤ wx.heap.size
theorem RbI.below {z : Nat} {w : World} {opt : Obj} {vf : Value} {fl : List Int} {wx wy : World} {vo : Value} {out : List Int} {vi : Value} {idx : List S47} (h : RbI w.heap.size z w opt vf fl wx vo out vi idx) (hb : Below wx.heap.size wx wy) : RbI w.heap.size z w opt vf fl wy vo out vi idx :=
  ⟨blk_below h.box hb, Kd.R_below h.rf hb, Kd.R_below h.ro hb, Kd.R_below h.ri hb, below_step h.hb hb, Nat.le_trans h.hz hb.size⟩
theorem RbI.app_out {z : Nat} {w : World} {cells : Array Value} {vf : Value} {fl : List Int} {wx wy : World} {vo vo' : Value} {out out' : List Int} {vi : Value} {idx : List S47} (h : RbI w.heap.size z w (.cells cells 26 (0, 0)) vf fl wx vo out vi idx) (ho : Kd.R (Kd.int .u8) 5 wy w.heap.size (fun q => z ≤ q) vo' out') (hb : Below w.heap.size w wy) (hg : wx.grownBy wy vo.ownBlock) : RbI w.heap.size z w (.cells cells 26 (0, 0)) vf fl wy vo' out' vi idx :=
  ⟨(hg.block _ (blk_lt2 h.box) (Kd.R_ne h.ro h.box (by decide))).trans h.box, Kd.R_grown h.rf hg (fun q hq e => absurd (h.ro.1 q e.symm) (by omega)), ho, Kd.R_over h.ri h.ro (ty_k47 (by decide)) hg, hb, Nat.le_trans h.hz hg.size⟩
theorem RbI.app_idx {z : Nat} {w : World} {cells : Array Value} {vf : Value} {fl : List Int} {wx wy : World} {vo : Value} {out : List Int} {vi vi' : Value} {idx idx' : List S47} (h : RbI w.heap.size z w (.cells cells 26 (0, 0)) vf fl wx vo out vi idx) (ho : Kd.R k47 47 wy w.heap.size (fun q => z ≤ q) vi' idx') (hb : Below w.heap.size w wy) (hg : wx.grownBy wy vi.ownBlock) : RbI w.heap.size z w (.cells cells 26 (0, 0)) vf fl wy vo out vi' idx' :=
  ⟨(hg.block _ (blk_lt2 h.box) (Kd.R_ne h.ri h.box (by decide))).trans h.box, Kd.R_over h.rf h.ri (ty_u8 (by decide)) hg, Kd.R_over h.ro h.ri (ty_u8 (by decide)) hg, ho, hb, Nat.le_trans h.hz hg.size⟩
theorem rputf_in (k : Nat) (A : Option Addr) (c : Nat) (l0 : List Int) (a1 : Int) (r : List Int) (w : World) {m : Nat} {ok : Nat → Prop} (hr0 : Kd.R (Kd.int .u8) 5 w m ok (.slice A l0.length c) l0) (h : staddleref01_PutFixed.f k l0 a1 4 = some r) :
    Calls Try.prog 29 #[.slice A l0.length c, .int .u64 a1, .int .i64 4] w fun e w' => ∃ v0_ : Value, e = .returned (v0_) ∧ Kd.R (Kd.int .u8) 5 w' w.heap.size (fun _ => True) v0_ r ∧ Below w.heap.size w w' :=
  staddleref01_PutFixed.calls k A c l0 a1 4 r w (Kd.R_reads' hr0).2.2 (Kd.R_reads' hr0).2.1 h
theorem rsummed_in (k : Nat) (A : Option Addr) (c : Nat) (l0 : List Int) (r : List Int) (w : World) {m : Nat} {ok : Nat → Prop} (hr0 : Kd.R (Kd.int .u8) 5 w m ok (.slice A l0.length c) l0) (h : staddleref12_summed.f k l0 = some r) :
    Calls Try.prog 28 #[.slice A l0.length c] w fun e w' => ∃ v0_ : Value, e = .returned (v0_) ∧ Kd.R (Kd.int .u8) 5 w' w.heap.size (fun _ => True) v0_ r ∧ Below w.heap.size w w' :=
  staddleref12_summed.calls k A c l0 r w (Kd.R_reads' hr0).2.2 (Kd.R_reads' hr0).2.1 h
theorem rputu_nil (k : Nat) (a1 : Int) (r : List Int) (w : World) (h : staddleref01_PutUvarint.f k [] a1 = some r) :
    Calls Try.prog 27 #[.slice none 0 0, .int .u64 a1] w fun e w' => ∃ v0_ : Value, e = .returned (v0_) ∧ Kd.R (Kd.int .u8) 5 w' w.heap.size (fun _ => True) v0_ r ∧ Below w.heap.size w w' :=
  staddleref01_PutUvarint.calls k none 0 [] a1 r w (Kd.C_nil _ _) (Nat.le_refl _) h
theorem rputf_nil (k : Nat) (a1 : Int) (r : List Int) (w : World) (h : staddleref01_PutFixed.f k [] a1 4 = some r) :
    Calls Try.prog 29 #[.slice none 0 0, .int .u64 a1, .int .i64 4] w fun e w' => ∃ v0_ : Value, e = .returned (v0_) ∧ Kd.R (Kd.int .u8) 5 w' w.heap.size (fun _ => True) v0_ r ∧ Below w.heap.size w w' :=
  staddleref01_PutFixed.calls k none 0 [] a1 4 r w (Kd.C_nil _ _) (Nat.le_refl _) h
theorem keep_far {W W' : World} {base : Nat} {v : Value} {xs : List Int} {row : Option Nat} (h : Kd.R (Kd.int .u8) 5 W base (fun _ => True) v xs) (hg : W.grownBy W' row) (hne : ∀ q, row = some q → q < base) : Kd.R (Kd.int .u8) 5 W' base (fun _ => True) v xs :=
  Kd.R_mono (Kd.R_grown (Kd.R_bound h) hg (fun q hq e => by have := hne q e.symm; have := hq.2.1; omega)) (fun _ _ => trivial)
theorem ts_w1 (n : Nat) (h : n ≤ 1000) : wrap64 ((n : Int) + 1) = ((n + 1 : Nat) : Int) := by unfold wrap64; omega
theorem ts_m1 (n : Nat) (h : n ≤ 1000) (h0 : 0 < n) : wrap64 ((n : Int) - 1) = ((n - 1 : Nat) : Int) := by unfold wrap64; omega
set_option maxRecDepth 100000 in
set_option maxHeartbeats 4000000 in
theorem rtab_calls (k : Nat) (A0 : Option Addr) (c0 : Nat) (l : List S47) (blk iv : Int) (fb : Nat) (r : List Int × Int) (w : World) (hr0 : Kd.C k47 w A0 l.length l) (hc0 : l.length ≤ c0) (hf : rtab_f k l blk iv fb = some r) :
    Calls Try.prog 11 #[.slice A0 l.length c0, .agg #[.int .i64 blk, .int .i64 iv, .float .f64 fb]] w fun e w' => ∃ v, e = .returned (.tuple #[v, .int .i64 r.2]) ∧ Kd.R (Kd.int .u8) 5 w' w.heap.size (fun _ => True) v r.1 ∧ Below w.heap.size w w' := by
  have HR0 := Aside0.mk hr0
  have HC0 := Aside0.mk hc0
  clear hr0 hc0
  obtain ⟨W1, hW1⟩ : ∃ W1, w.alloc (.cells #[.int .i64 blk, .int .i64 iv, .float .f64 fb] 26) = W1 := ⟨_, rfl⟩
  have HO1 : Aside0 (W1.heap[w.heap.size]? = some (.cells #[.int .i64 blk, .int .i64 iv, .float .f64 fb] 26 (0, 0))) := ⟨by rw [← hW1]; exact blk_new w _⟩
  have HB1 : Aside0 (Below w.heap.size w W1) := ⟨by rw [← hW1]; exact below_alloc (Below.refl _ _) _⟩
  have q0 : W1.cell? ⟨w.heap.size, 0, none⟩ = some (.int .i64 blk) := (blk_cell HO1.out 0).trans rfl
  have q1 : W1.cell? ⟨w.heap.size, 1, none⟩ = some (.int .i64 iv) := (blk_cell HO1.out 1).trans rfl
  unfold rtab_f at hf
  go_enter Try.func11, Try.ntmps11
  go_upto_region 1 with fail
  clear hW1
  by_cases c1 : blk < 1
  case pos =>
    rw [if_pos c1] at hf
    obtain rfl := Option.some.inj hf
    have d1 : decide (blk < 1) = true := decide_eq_true c1
    clear c1 hf
    go_wp2
    go_ret2
    exact ⟨_, rfl, Kd.R_nil _ _ _ _ _, HB1.out⟩
  case neg =>
  rw [if_neg c1] at hf
  have d1 : decide (blk < 1) = false := decide_eq_false c1
  by_cases c2 : 65536 < blk
  case pos =>
    rw [if_pos c2] at hf
    obtain rfl := Option.some.inj hf
    have d2 : decide (65536 < blk) = true := decide_eq_true c2
    clear c2 hf
    go_wp2
    go_ret2
    exact ⟨_, rfl, Kd.R_nil _ _ _ _ _, HB1.out⟩
  case neg =>
  rw [if_neg c2] at hf
  have d2 : decide (65536 < blk) = false := decide_eq_false c2
  by_cases c3 : iv < 1
  case pos =>
    rw [if_pos c3] at hf
    obtain rfl := Option.some.inj hf
    have d3 : decide (iv < 1) = true := decide_eq_true c3
    clear c3 hf
    go_wp2
    go_ret2
    exact ⟨_, rfl, Kd.R_nil _ _ _ _ _, HB1.out⟩
  case neg =>
  rw [if_neg c3] at hf
  have d3 : decide (iv < 1) = false := decide_eq_false c3
  by_cases c4 : 16 < iv
  case pos =>
    rw [if_pos c4] at hf
    obtain rfl := Option.some.inj hf
    have d4 : decide (16 < iv) = true := decide_eq_true c4
    clear c4 hf
    go_wp2
    go_ret2
    exact ⟨_, rfl, Kd.R_nil _ _ _ _ _, HB1.out⟩
  case neg =>
  rw [if_neg c4] at hf
  have d4 : decide (16 < iv) = false := decide_eq_false c4
  split at hf
  case isFalse => cases hf
  rename_i hl3
  have HL3 := Aside0.mk hl3
  have HF := Aside0.mk hf
  clear c1 c2 c3 c4 hf hl3
  go_upto_region 4 with fail
  clear q0 q1 d1 d2 d3 d4
  go_wp2_with fail
  go_loopg [6, 7] (l.length + 1) (fun gf v6 v7 wx => ∃ i : Nat, v7 = .int .i64 (i : Int) ∧ Aside0 (gf + i = l.length + 1 ∧ i ≤ l.length) ∧ Aside0 (Kd.R Kd.string 9 wx w.heap.size (fun k_ => k_ ≠ w.heap.size) v6 ((l.take i).map fun x => x.f0.f0)) ∧ Aside0 (wx.heap[w.heap.size]? = some (.cells #[.int .i64 blk, .int .i64 iv, .float .f64 fb] 26 (0, 0))) ∧ Aside0 (Below w.heap.size w wx))
  case atStart => exact ⟨0, rfl, ⟨by omega, by omega⟩, ⟨Kd.R_nil _ _ _ _ _⟩, HO1, HB1⟩
  case round =>
    clear HO1 HB1
    obtain ⟨i, rfl, HI, HU, HO1, HB1⟩ := hrel
    cases gk with
    | zero => exact absurd HI.out.1 (by have := HI.out.2; omega)
    | succ g1 =>
      by_cases c : i < l.length
      · have c1b : decide ((i : Int) < (l.length : Int)) = true := decide_eq_true (by omega)
        have c1d := eq_true (show (i : Int) < (l.length : Int) by omega)
        have c1e := eq_true (show (0 : Int) ≤ (i : Int) by omega)
        obtain ⟨al, eA, k1, k2, k3, k4⟩ := at_T47 (Kd.C_below HR0.out HB1.out) (i : Int) (Int.natCast_nonneg i) (by omega)
        subst eA
        rw [Int.toNat_natCast] at k1
        obtain ⟨X, hX⟩ : ∃ x, rd_T47 l (i : Int) = x := ⟨_, rfl⟩
        rw [hX] at k1
        have HX := Aside0.mk hX
        have HCI := Aside0.mk c
        clear hX c k2 k3 k4
        have HW1 := Aside0.mk (ts_w1 i (by have := HL3.out; have := HI.out; omega))
        go_wp2_with (first
          | ((with_reducible refine gate_builtin (b := .append) (xs := #[.tmp 45, .tmp 52]) rfl ?_); at_builtin; refine Kd.R_append Kd.string (w0 := w) w.heap.size rfl (.tmp 45) (.tmp 52) 53 9 (.string ⟨#[]⟩) 16 rfl Try.underlying53 info9 rfl (by decide) (by decide) u6 ((l.take i).map fun x => x.f0.f0) X.f0.f0 [.string X.f0.f0] (fun k_ => k_ ≠ w.heap.size) (fun _ => False) rfl rfl rfl (fun _ hk => hk.elim) ?aF HU.out HB1.out (below_size HB1.out) ?aL ?_
             (case aF => exact fun k_ hk => by have := blk_lt2 HO1.out; omega)
             (case aL => have := HL3.out; have := HI.out.2; rw [List.length_map, List.length_take]; omega)
             intro v5 w5 ho hb hg hat
             have HU5 := Aside0.mk ho
             have HB5 := Aside0.mk hb
             have HO5 := Aside0.mk ((hg.block _ (blk_lt2 HO1.out) (Kd.R_away HU.out (fun k_ hk => hk))).trans HO1.out)
             clear ho hb hg hat))
        simp only [HW1.out]
        go_roundg g1
        case measure => omega
        case rel => exact ⟨i + 1, rfl, ⟨by have := HI.out.1; omega, HCI.out⟩, ⟨by rw [← users_take l i HCI.out, HX.out]; exact HU5.out⟩, HO5, HB5⟩
      · have c1b : decide ((i : Int) < (l.length : Int)) = false := decide_eq_false (by omega)
        have c1c : decide (i < l.length) = false := decide_eq_false c
        have hil : i = l.length := by have := HI.out.2; omega
        rw [hil, List.take_length] at HU
        have HF0 := HF.out
        obtain ⟨us, hus⟩ : ∃ x, (l.map fun x => x.f0.f0) = x := ⟨_, rfl⟩
        rw [hus] at HU HF0
        obtain ⟨Au, cu, eu⟩ := Kd.R_slice HU.out
        subst eu
        obtain ⟨⟨fl, fe⟩, hfl, hf⟩ := Option.bind_eq_some_iff.mp HF0
        dsimp only at hfl hf
        have HFL := Aside0.mk hfl
        have p2 : wr.cell? ⟨w.heap.size, 2, none⟩ = some (.float .f64 fb) := (blk_cell HO1.out 2).trans rfl
        replace HF := Aside0.mk hf
        clear c hil hfl hf HI HF0 hus
        go_upto_region 9 with (first
          | (go_at_call 24; (with_reducible refine (rbuild_calls k Au cu us fb (fl, fe) _ (Kd.R_reads' HU.out).2.2 (Kd.R_reads' HU.out).2.1 HFL.out).mono ?_; rintro ex w2 ⟨vf, rfl, hob, hb2⟩)
             have HB2 := Aside0.mk (below_step HB1.out hb2)
             have HO2 := Aside0.mk (blk_below HO1.out hb2)
             have HFR := Aside0.mk (Kd.R_lower hob (below_size HB1.out))
             obtain ⟨Af, cf, ef⟩ := Kd.R_slice hob
             subst ef
             clear hob hb2))
        clear HO1 HB1 HU p2
        try dsimp only at HFR
        by_cases hfe : fe = 0
        case neg =>
          have e1 : (fe != 0) = true := bne_iff_ne.mpr hfe
          have hf := HF.out
          rw [if_pos hfe] at hf
          obtain rfl := Option.some.inj hf
          clear hfe hf HF
          go_wp2
          go_ret2
          exact ⟨_, rfl, Kd.R_nil _ _ _ _ _, HB2.out⟩
        case pos =>
        subst hfe
        have hf := HF.out
        rw [if_neg (by simp)] at hf
        by_cases hl0 : l.length = 0
        case pos =>
          rw [if_pos hl0] at hf
          obtain rfl := Option.some.inj hf
          have e2 : ((l.length : Int) == 0) = true := by rw [hl0]; rfl
          have e3 : (l.length == 0) = true := by rw [hl0]; rfl
          clear hl0 hf HF
          go_wp2
          go_ret2
          exact ⟨_, rfl, Kd.R_nil _ _ _ _ _, HB2.out⟩
        case neg =>
        rw [if_neg hl0] at hf
        have e2 : ((l.length : Int) == 0) = false := by rw [beq_eq_false_iff_ne]; omega
        have e3 : (l.length == 0) = false := by rw [beq_eq_false_iff_ne]; omega
        obtain ⟨ce, hce, hf⟩ := Option.bind_eq_some_iff.mp hf
        have HCE := Aside0.mk hce
        replace HF := Aside0.mk hf
        have HL0 := Aside0.mk hl0
        clear hl0 hce hf
        go_upto_region 14 with (first
          | (go_at_call 25; (with_reducible refine (rcheck_calls k A0 c0 l ce _ (Kd.C_below HR0.out HB2.out) HC0.out HCE.out).mono ?_; rintro ex w3 ⟨rfl, hb3⟩)
             have HB3 := Aside0.mk (below_step HB2.out hb3)
             have HO3 := Aside0.mk (blk_below HO2.out hb3)
             have HFR3 := Aside0.mk (Kd.R_below HFR.out hb3)
             clear hb3))
        clear HO2 HB2 HFR e2 e3
        by_cases hbe : ce = 0
        case neg =>
          have e1 : (ce != 0) = true := bne_iff_ne.mpr hbe
          have hf := HF.out
          rw [if_pos hbe] at hf
          obtain rfl := Option.some.inj hf
          clear hbe hf HF
          go_wp2
          go_ret2
          exact ⟨_, rfl, Kd.R_nil _ _ _ _ _, HB3.out⟩
        case pos =>
        subst hbe
        have hf := HF.out
        rw [if_neg (by simp)] at hf
        obtain ⟨⟨o1, i1⟩, hlp, hf⟩ := Option.bind_eq_some_iff.mp hf
        obtain ⟨⟨xb, xe⟩, hxb, hf⟩ := Option.bind_eq_some_iff.mp hf
        obtain ⟨oo, hoo, hf⟩ := Option.map_eq_some_iff.1 hf
        dsimp only at hxb hoo
        subst hf
        have HLP := Aside0.mk hlp
        have HXB := Aside0.mk hxb
        have HOO := Aside0.mk hoo
        clear hlp hxb hoo HF
        have P3 : Aside0 (RbI w.heap.size w3.heap.size w (.cells #[.int .i64 blk, .int .i64 iv, .float .f64 fb] 26 (0, 0)) (.slice Af fl.length cf) fl w3 (.slice none 0 0) [] (.slice none 0 0) []) :=
          ⟨HO3.out, Kd.R_mono (Kd.R_bound HFR3.out) (fun q hq => hq.2.2.1), Kd.R_nil _ _ _ _ _, Kd.R_nil _ _ _ _ _, HB3.out, Nat.le_refl _⟩
        clear HO3 HB3 HFR3
        go_wp2_with fail
        go_loopg [11, 12, 13, 14] (l.length + 1) (fun gf v11 v12 v13 v14 wx => ∃ (i fr : Nat) (out : List Int) (idx : List S47), v13 = .int .i64 (fr : Int) ∧ v14 = .int .i64 (i : Int) ∧ Aside0 (gf + i = l.length + 1 ∧ i ≤ l.length) ∧ Aside0 (rtab_l k l blk iv (l.drop i) i fr out idx = some (o1, i1)) ∧ Aside0 (RbI w.heap.size w3.heap.size w (.cells #[.int .i64 blk, .int .i64 iv, .float .f64 fb] 26 (0, 0)) (.slice Af fl.length cf) fl wx v11 out v12 idx))
        case atStart => exact ⟨0, 0, [], [], rfl, rfl, ⟨by omega, by omega⟩, HLP, P3⟩
        case round =>
          clear P3 HLP
          obtain ⟨i, fr, out, idx, rfl, rfl, HI, HLP, P⟩ := hrel
          cases gk with
          | zero => exact absurd HI.out.1 (by have := HI.out.2; omega)
          | succ g1 =>
            by_cases c : i < l.length
            · have c1b : decide ((i : Int) < (l.length : Int)) = true := decide_eq_true (by omega)
              have c1d := eq_true (show (i : Int) < (l.length : Int) by omega)
              have c1e := eq_true (show (0 : Int) ≤ (i : Int) by omega)
              obtain ⟨X, hX⟩ : ∃ x, rd_T47 l (i : Int) = x := ⟨_, rfl⟩
              have hdrop : l.drop i = X :: l.drop (i + 1) := by
                rw [List.drop_eq_getElem_cons c, ← hX]
                simp [rd_T47, c]
              have hlp := HLP.out
              rw [hdrop] at hlp
              unfold rtab_l at hlp
              split at hlp
              case isFalse => cases hlp
              rename_i hfi
              obtain ⟨⟨bs, er⟩, hb, hlp⟩ := Option.bind_eq_some_iff.mp hlp
              dsimp only at hb hlp
              obtain ⟨A2, c2', hcut, hrd, hcp⟩ := cutK A0 c0 l fr (i + 1) (by omega) (by omega) HC0.out
              obtain ⟨hi, hhi⟩ : ∃ y, i + 1 = y := ⟨_, rfl⟩
              have hw1 : wrap64 ((i : Int) + 1) = (hi : Int) := by rw [← hhi]; exact ts_w1 i (by have := HL3.out; omega)
              rw [hhi] at hb hcut hrd hcp hlp
              obtain ⟨M, hM⟩ : ∃ x, (l.take hi).drop fr = x := ⟨_, rfl⟩
              rw [hM] at hb hcut hrd hcp
              obtain ⟨n1, hn1⟩ : ∃ y, l.length - 1 = y := ⟨_, rfl⟩
              have hwn : wrap64 ((l.length : Int) - 1) = (n1 : Int) := by rw [← hn1]; exact ts_m1 l.length (by have := HL3.out; omega) (by omega)
              have HRD := Aside0.mk hrd
              have HCP := Aside0.mk hcp
              have HBD := Aside0.mk hb
              have HLQ := Aside0.mk hlp
              have HN1 : Aside0 (n1 + 1 = l.length) := ⟨by omega⟩
              have HCI := Aside0.mk c
              have HX := Aside0.mk hX
              have HHI := Aside0.mk hhi
              have HW1 := Aside0.mk hw1
              have HWN := Aside0.mk hwn
              clear hrd hcp hb hlp hdrop hM hfi hX hhi HLP hn1 c hwn
              go_upto_region 22 with fail
              clear c1b
              go_wp2_with fail
              have PD := Aside0.mk (P.out.below (below_drew1 (Below.refl _ _)))
              refine start_ (n := 13) (S := fun w' => w'.cell? ⟨w.heap.size, 1, none⟩ = some (.int .i64 iv)) (ds := []) #[false, false, false, false, false, false, false, false, false, false, false, false, false] (by kernel_rfl) rfl rfl (((blk_cell PD.out.box 1).trans rfl)) (fun hHeld => ?_)
              generalize wr.drew = wd at PD hHeld ⊢
              refine pure_ (i := 0) (N := some 79) (v := ?_) (a' := ?_) #[true, false, false, false, false, false, false, false, false, false, false, false, false] rfl rfl (by kernel_rfl) (fun _ _ _ h => h) (Or.inl ⟨by rfl, ?_⟩) ?_ ?_
              rotate_left
              · intro w'
                go_simp
                with_reducible rfl
              rotate_left
              · simp only [Act.put, List.setIfInBounds_toArray, List.set_cons_zero, List.set_cons_succ, i64_w, i32_w]
                rfl
              refine pure_ (i := 1) (N := some 80) (v := ?_) (a' := ?_) #[true, true, false, false, false, false, false, false, false, false, false, false, false] rfl rfl (by kernel_rfl) (fun _ _ _ h => h) (Or.inl ⟨by rfl, ?_⟩) ?_ ?_
              rotate_left
              · intro w'
                go_simp
                with_reducible rfl
              rotate_left
              · simp only [Act.put, List.setIfInBounds_toArray, List.set_cons_zero, List.set_cons_succ, i64_w, i32_w]
                rfl
              refine pure_ (i := 2) (N := some 81) (v := ?_) (a' := ?_) #[true, true, true, false, false, false, false, false, false, false, false, false, false] rfl rfl (by kernel_rfl) (fun _ _ _ h => h) (Or.inl ⟨by rfl, ?_⟩) ?_ ?_
              rotate_left
              · intro w'
                go_simp
                with_reducible rfl
              rotate_left
              · simp only [Act.put, List.setIfInBounds_toArray, List.set_cons_zero, List.set_cons_succ, i64_w, i32_w]
                rfl
              refine pure_ (i := 3) (N := some 82) (v := ?_) (a' := ?_) #[true, true, true, true, false, false, false, false, false, false, false, false, false] rfl rfl (by kernel_rfl) (fun _ _ _ h => h) (Or.inl ⟨by rfl, ?_⟩) ?_ ?_
              rotate_left
              · intro w'
                go_simp
                with_reducible rfl
              rotate_left
              · simp only [Act.put, List.setIfInBounds_toArray, List.set_cons_zero, List.set_cons_succ, i64_w, i32_w]
                rfl
              refine pure_ (i := 4) (N := some 83) (v := ?_) (a' := ?_) #[true, true, true, true, true, false, false, false, false, false, false, false, false] rfl rfl (by kernel_rfl) (fun _ _ _ h => h) (Or.inl ⟨by rfl, ?_⟩) ?_ ?_
              rotate_left
              · intro w'
                go_simp
                with_reducible rfl
              rotate_left
              · simp only [Act.put, List.setIfInBounds_toArray, List.set_cons_zero, List.set_cons_succ, i64_w, i32_w]
                rfl
              refine pure_ (i := 5) (N := some 84) (v := ?_) (a' := ?_) #[true, true, true, true, true, true, false, false, false, false, false, false, false] rfl rfl (by kernel_rfl) (fun _ _ _ h => h) (Or.inl ⟨by rfl, ?_⟩) ?_ ?_
              rotate_left
              · intro w'
                go_simp
                with_reducible rfl
              rotate_left
              · simp only [Act.put, List.setIfInBounds_toArray, List.set_cons_zero, List.set_cons_succ, i64_w, i32_w]
                rfl
              refine take_ (i := 6) (N := some 85) (v := ?_) (a' := ?_) #[true, true, true, true, true, true, true, false, false, false, false, false, false] rfl rfl (by kernel_rfl) (fun _ _ _ h => h) (Or.inl ⟨by rfl, ?_⟩) hHeld ?_ ?_
              rotate_left
              · intro w' s0
                go_simp
                with_reducible rfl
              rotate_left
              · simp only [Act.put, List.setIfInBounds_toArray, List.set_cons_zero, List.set_cons_succ, i64_w, i32_w]
                rfl
              refine one_ (i := 7) (N := some 86) #[true, true, true, true, true, true, true, true, false, false, false, false, false] rfl rfl (by kernel_rfl) (by decide) (fun K hK => ?_)
              refine goes_ Try.func26 (by kernel_rfl) rfl #[.slice A2 M.length c2', .int .i64 iv] (by rfl) rfl rfl (by simp only [List.map_toArray, List.map_cons, List.map_nil]; rfl) ?_
              with_reducible refine (rblock_calls k A2 c2' M iv bs er _ (HRD.out _ (Kd.C_below HR0.out PD.out.hb)) HCP.out HBD.out).mono ?_
              rintro ex w2 ⟨vb, rfl, hob, hb2⟩
              refine ⟨_, rfl, ?_⟩
              have P2 := Aside0.mk (PD.out.below hb2)
              have HRB := Aside0.mk hob
              obtain ⟨Ab, cb, eb⟩ := Kd.R_slice hob
              subst eb
              clear hob hb2
              refine hK.out _ _ (((blk_cell P2.out.box 1).trans rfl)) (fun hHeld => ?_)
              clear hK K
              refine norm_ (a' := ?_) ?_ ?_
              rotate_left
              · show Act.put _ (some 86) _ = _
                simp only [Act.put, List.setIfInBounds_toArray, List.set_cons_zero, List.set_cons_succ, i64_w, i32_w]
                rfl
              refine pure_ (i := 8) (N := some 78) (v := ?_) (a' := ?_) #[true, true, true, true, true, true, true, true, true, false, false, false, false] rfl rfl (by kernel_rfl) (fun _ _ _ h => h) (Or.inl ⟨by rfl, ?_⟩) ?_ ?_
              rotate_left
              · intro w'
                go_simp
                with_reducible rfl
              rotate_left
              · simp only [Act.put, List.setIfInBounds_toArray, List.set_cons_zero, List.set_cons_succ, i64_w, i32_w]
                rfl
              refine pure_ (i := 9) (N := some 87) (v := ?_) (a' := ?_) #[true, true, true, true, true, true, true, true, true, true, false, false, false] rfl rfl (by kernel_rfl) (fun _ _ _ h => h) (Or.inl ⟨by rfl, ?_⟩) ?_ ?_
              rotate_left
              · intro w'
                go_simp
                with_reducible rfl
              rotate_left
              · simp only [Act.put, List.setIfInBounds_toArray, List.set_cons_zero, List.set_cons_succ, i64_w, i32_w]
                rfl
              refine pure_ (i := 10) (N := some 88) (v := ?_) (a' := ?_) #[true, true, true, true, true, true, true, true, true, true, true, false, false] rfl rfl (by kernel_rfl) (fun _ _ _ h => h) (Or.inl ⟨by rfl, ?_⟩) ?_ ?_
              rotate_left
              · intro w'
                go_simp
                with_reducible rfl
              rotate_left
              · simp only [Act.put, List.setIfInBounds_toArray, List.set_cons_zero, List.set_cons_succ, i64_w, i32_w]
                rfl
              refine pure_ (i := 11) (N := some 15) (v := ?_) (a' := ?_) #[true, true, true, true, true, true, true, true, true, true, true, true, false] rfl rfl (by kernel_rfl) (fun _ _ _ h => h) (Or.inl ⟨by rfl, ?_⟩) ?_ ?_
              rotate_left
              · intro w'
                go_simp
                with_reducible rfl
              rotate_left
              · simp only [Act.put, List.setIfInBounds_toArray, List.set_cons_zero, List.set_cons_succ, i64_w, i32_w]
                rfl
              refine pure_ (i := 12) (N := some 16) (v := ?_) (a' := ?_) #[true, true, true, true, true, true, true, true, true, true, true, true, true] rfl rfl (by kernel_rfl) (fun _ _ _ h => h) (Or.inl ⟨by rfl, ?_⟩) ?_ ?_
              rotate_left
              · intro w'
                go_simp
                with_reducible rfl
              rotate_left
              · simp only [Act.put, List.setIfInBounds_toArray, List.set_cons_zero, List.set_cons_succ, i64_w, i32_w]
                rfl
              refine done_ (by kernel_rfl) ?_
              clear hcut hw1
              go_upto_region 23 with fail
              have q0 : w2.cell? ⟨w.heap.size, 0, none⟩ = some (.int .i64 blk) := (blk_cell P2.out.box 0).trans rfl
              obtain ⟨q, hq⟩ : ∃ y : Bool, decide (blk ≤ (bs.length : Int) ∨ i = n1) = y := ⟨_, rfl⟩
              have HQ := Aside0.mk hq
              clear hq
              go_cut [100] from 89 to 100 (fun v100 wc => v100 = .bool q ∧ w2 = wc)
              case first =>
                by_cases cb1 : blk ≤ (bs.length : Int)
                · have cb2 : decide (blk ≤ (bs.length : Int)) = true := decide_eq_true cb1
                  go_wp2
                  go_meet
                  case rel => exact ⟨by rw [← HQ.out, decide_eq_true (.inl cb1)], rfl⟩
                · have cb2 : decide (blk ≤ (bs.length : Int)) = false := decide_eq_false cb1
                  have hwn := HWN.out
                  by_cases ci : i = n1
                  · have ci1 : ((i : Int) == (n1 : Int)) = true := by rw [ci]; exact beq_self_eq_true _
                    have ci2 : (i == n1) = true := by rw [ci]; exact beq_self_eq_true _
                    have HCI2 := Aside0.mk ci
                    clear ci
                    go_wp2
                    go_meet
                    case rel => exact ⟨by rw [← HQ.out, decide_eq_true (.inr HCI2.out)], rfl⟩
                  · have ci1 : ((i : Int) == (n1 : Int)) = false := by rw [beq_eq_false_iff_ne]; omega
                    have ci2 : (i == n1) = false := by rw [beq_eq_false_iff_ne]; omega
                    go_wp2
                    go_meet
                    case rel => exact ⟨by rw [← HQ.out, decide_eq_false (by rintro (h | h); exact absurd h (by omega); exact absurd h ci)], rfl⟩
              case rest =>
              obtain ⟨rfl, rfl⟩ := hcut
              clear q0
              cases q with
              | false =>
                have hn := of_decide_eq_false HQ.out
                have hlq := HLQ.out
                rw [if_neg (by rintro (h | h); exact hn (.inl h); exact hn (.inr (by have := HN1.out; have := HHI.out; omega)))] at hlq
                have HLR := Aside0.mk hlq
                clear hlq hn
                go_wp2
                simp only [HW1.out]
                go_roundg g1
                case measure => omega
                case rel => exact ⟨hi, fr, out, idx, rfl, rfl, ⟨by have := HI.out.1; have := HHI.out; omega, by have := HCI.out; have := HHI.out; omega⟩, HLR, P2⟩
              | true =>
                have hn := of_decide_eq_true HQ.out
                have hlq := HLQ.out
                rw [if_pos (by rcases hn with h | h; exact .inl h; exact .inr (by have := HN1.out; have := HHI.out; omega))] at hlq
                split at hlq
                case isFalse => cases hlq
                rename_i hlt
                obtain ⟨p1, hp1, hlq⟩ := Option.bind_eq_some_iff.mp hlq
                obtain ⟨p2, hp2, hlq⟩ := Option.bind_eq_some_iff.mp hlq
                obtain ⟨s, hs, hlq⟩ := Option.bind_eq_some_iff.mp hlq
                split at hlq
                case isFalse => cases hlq
                rename_i hos
                have HLT := Aside0.mk hlt
                have HP1 := Aside0.mk hp1
                have HP2 := Aside0.mk hp2
                have HSM := Aside0.mk hs
                have HOS := Aside0.mk hos
                have HLR := Aside0.mk hlq
                obtain ⟨Ao, co, eo⟩ := Kd.R_slice P2.out.ro
                subst eo
                clear hlq hn hlt hp1 hp2 hs hos
                go_upto_region 26 with (first
                  | (go_at_call 27; with_reducible refine (rputu_nil k (IntKind.u64.wrap (out.length : Int)) p1 _ HP1.out).mono ?_; rintro ex w4 ⟨v4, rfl, hob, hb⟩
                     have P4 := Aside0.mk (P2.out.below hb)
                     have RB4 := Aside0.mk (Kd.R_below HRB.out hb)
                     have RP4 := Aside0.mk hob
                     obtain ⟨Ap, cp, ep⟩ := Kd.R_slice hob
                     subst ep
                     clear hob hb)
                  | (go_at_call 27; with_reducible refine (staddleref01_PutUvarint.calls k Ap cp p1 (IntKind.u64.wrap (bs.length : Int)) p2 _ (Kd.R_reads' RP4.out).2.2 (Kd.R_reads' RP4.out).2.1 HP2.out).mono ?_; rintro ex w6 ⟨v6, rfl, hob, hb⟩
                     have P6 := Aside0.mk (P4.out.below hb)
                     have RB6 := Aside0.mk (Kd.R_below RB4.out hb)
                     have RQ6 := Aside0.mk hob
                     obtain ⟨Aq, cq, eq⟩ := Kd.R_slice hob
                     subst eq
                     clear hob hb))
                go_wp2_with fail
                have PDq := Aside0.mk (P6.out.below (below_drew1 (Below.refl _ _)))
                have RBD := Aside0.mk (Kd.R_drew RB6.out)
                have RQD := Aside0.mk (Kd.R_drew RQ6.out)
                obtain ⟨al, eA, k1, k2, k3, k4⟩ := at_T47 (Kd.C_below HR0.out PDq.out.hb) (i : Int) (Int.natCast_nonneg i) (by have := HCI.out; omega)
                subst eA
                rw [Int.toNat_natCast] at k1 k2 k3
                rw [HX.out] at k1 k2 k3
                clear k4
                refine start_ (n := 12) (S := fun w' => w'.cell? (al.add (i * 4)) = some (.string X.f0.f0) ∧ w'.cell? ⟨(al.add (i * 4)).block, (al.add (i * 4)).off + 1, none⟩ = some (.int .u64 X.f0.f1) ∧ w'.cell? ⟨(al.add (i * 4)).block, (al.add (i * 4)).off + 2, none⟩ = some (.int .i64 X.f0.f2) ∧ Sem.run Try.prog (convert 27 9 (.slice Aq p2.length cq)) w' = Result.ok (.string (strOfNums p2)) w') (ds := [10]) #[false, false, false, false, false, false, false, false, false, false, false, false] (by kernel_rfl) rfl rfl ⟨(by exact k1), (by exact k2), (by exact k3), Kd.C_string (P := Try.prog) (A := Aq) (c := cq) Try.underlying27 Try.underlying5 Try.underlying9 (Kd.R_reads' RQD.out).2.2⟩ (fun hHeld => ?_)
                generalize w6.drew = wq at PDq RBD RQD hHeld ⊢
                refine pure_ (i := 0) (N := some 110) (v := ?_) (a' := ?_) #[true, false, false, false, false, false, false, false, false, false, false, false] rfl rfl (by kernel_rfl) (fun _ _ _ h => h) (Or.inl ⟨by rfl, ?_⟩) ?_ ?_
                rotate_left
                · intro w'
                  go_simp
                  with_reducible rfl
                rotate_left
                · simp only [Act.put, List.setIfInBounds_toArray, List.set_cons_zero, List.set_cons_succ, i64_w, i32_w]
                  rfl
                refine pure_ (i := 1) (N := some 111) (v := ?_) (a' := ?_) #[true, true, false, false, false, false, false, false, false, false, false, false] rfl rfl (by kernel_rfl) (fun _ _ _ h => h) (Or.inl ⟨by rfl, ?_⟩) ?_ ?_
                rotate_left
                · intro w'
                  go_simp
                  with_reducible rfl
                rotate_left
                · simp only [Act.put, List.setIfInBounds_toArray, List.set_cons_zero, List.set_cons_succ, i64_w, i32_w]
                  rfl
                refine pure_ (i := 2) (N := some 112) (v := ?_) (a' := ?_) #[true, true, true, false, false, false, false, false, false, false, false, false] rfl rfl (by kernel_rfl) (fun _ _ _ h => h) (Or.inl ⟨by rfl, ?_⟩) ?_ ?_
                rotate_left
                · intro w'
                  go_simp
                  with_reducible rfl
                rotate_left
                · simp only [Act.put, List.setIfInBounds_toArray, List.set_cons_zero, List.set_cons_succ, i64_w, i32_w]
                  rfl
                refine pure_ (i := 3) (N := some 113) (v := ?_) (a' := ?_) #[true, true, true, true, false, false, false, false, false, false, false, false] rfl rfl (by kernel_rfl) (fun _ _ _ h => h) (Or.inl ⟨by rfl, ?_⟩) ?_ ?_
                rotate_left
                · intro w'
                  go_simp
                  with_reducible rfl
                rotate_left
                · simp only [Act.put, List.setIfInBounds_toArray, List.set_cons_zero, List.set_cons_succ, i64_w, i32_w]
                  rfl
                refine pure_ (i := 4) (N := some 114) (v := ?_) (a' := ?_) #[true, true, true, true, true, false, false, false, false, false, false, false] rfl rfl (by kernel_rfl) (fun _ _ _ h => h) (Or.inl ⟨by rfl, ?_⟩) ?_ ?_
                rotate_left
                · intro w'
                  go_simp
                  with_reducible rfl
                rotate_left
                · simp only [Act.put, List.setIfInBounds_toArray, List.set_cons_zero, List.set_cons_succ, i64_w, i32_w]
                  rfl
                refine pure_ (i := 6) (N := some 116) (v := ?_) (a' := ?_) #[true, true, true, true, true, false, true, false, false, false, false, false] rfl rfl (by kernel_rfl) (fun _ _ _ h => h) (Or.inl ⟨by rfl, ?_⟩) ?_ ?_
                rotate_left
                · intro w'
                  go_simp
                  with_reducible rfl
                rotate_left
                · simp only [Act.put, List.setIfInBounds_toArray, List.set_cons_zero, List.set_cons_succ, i64_w, i32_w]
                  rfl
                refine take_ (i := 5) (N := some 115) (v := ?_) (a' := ?_) #[true, true, true, true, true, true, true, false, false, false, false, false] rfl rfl (by kernel_rfl) (fun _ _ _ h => h) (Or.inl ⟨by rfl, ?_⟩) hHeld ?_ ?_
                rotate_left
                · rintro w' ⟨s0, s1, s2, s3⟩
                  go_simp
                  with_reducible rfl
                rotate_left
                · simp only [Act.put, List.setIfInBounds_toArray, List.set_cons_zero, List.set_cons_succ, i64_w, i32_w]
                  rfl
                refine take_ (i := 7) (N := some 117) (v := ?_) (a' := ?_) #[true, true, true, true, true, true, true, true, false, false, false, false] rfl rfl (by kernel_rfl) (fun _ _ _ h => h) (Or.inl ⟨by rfl, ?_⟩) hHeld ?_ ?_
                rotate_left
                · rintro w' ⟨s0, s1, s2, s3⟩
                  go_simp
                  with_reducible rfl
                rotate_left
                · simp only [Act.put, List.setIfInBounds_toArray, List.set_cons_zero, List.set_cons_succ, i64_w, i32_w]
                  rfl
                refine pure_ (i := 8) (N := some 118) (v := ?_) (a' := ?_) #[true, true, true, true, true, true, true, true, true, false, false, false] rfl rfl (by kernel_rfl) (fun _ _ _ h => h) (Or.inl ⟨by rfl, ?_⟩) ?_ ?_
                rotate_left
                · intro w'
                  go_simp
                  with_reducible rfl
                rotate_left
                · simp only [Act.put, List.setIfInBounds_toArray, List.set_cons_zero, List.set_cons_succ, i64_w, i32_w]
                  rfl
                refine one_ (i := 9) (N := some 119) #[true, true, true, true, true, true, true, true, true, true, false, false] rfl rfl (by kernel_rfl) (by decide) (fun K hK => ?_)
                refine value_ (w1 := ?_) (v := ?_) (by rfl) rfl ?_ ?_
                rotate_left 2
                · go_simp
                  constructor
                  · rfl
                  · rfl
                refine hK.out _ _ ⟨((below_alloc (Below.refl _ _) _).cell (World.block_lt_of_cell? _ _ hHeld.1)).trans hHeld.1, ((below_alloc (Below.refl _ _) _).cell (World.block_lt_of_cell? _ _ hHeld.2.1)).trans hHeld.2.1, ((below_alloc (Below.refl _ _) _).cell (World.block_lt_of_cell? _ _ hHeld.2.2.1)).trans hHeld.2.2.1, Kd.C_string (P := Try.prog) (A := Aq) (c := cq) Try.underlying27 Try.underlying5 Try.underlying9 (Kd.R_reads' (Kd.R_alloc RQD.out _)).2.2⟩ (fun hHeld => ?_)
                clear hK K
                refine norm_ (a' := ?_) ?_ ?_
                rotate_left
                · show Act.put _ (some 119) _ = _
                  simp only [Act.put, List.setIfInBounds_toArray, List.set_cons_zero, List.set_cons_succ, i64_w, i32_w]
                  rfl
                refine last_ (i := 10) (N := some 120) #[true, true, true, true, true, true, true, true, true, true, true, false] rfl rfl (by kernel_rfl) (by decide) (fun K hK => ?_)
                refine Kd.R_append_step k47 (w0 := w) w.heap.size (by rfl) (.tmp 110) (.tmp 119) 23 47 (.agg #[(.string ⟨#[]⟩), (.int .u64 0), (.int .i64 0), (.string ⟨#[]⟩)]) 48 rfl Try.underlying23 info47 rfl (by decide) (by decide) u12 idx (⟨X.f0, strOfNums p2⟩ : S47) [.string X.f0.f0, .int .u64 X.f0.f1, .int .i64 X.f0.f2, .string (strOfNums p2)] (fun q => w3.heap.size ≤ q) (fun _ => False) rfl rfl ?aP (fun _ hk => hk.elim) ?aF ?aO ?aB ?aS ?aL ?_
                (case aP => exact k47_mkM _ _ _ (⟨X.f0, strOfNums p2⟩ : S47))
                (case aB => exact PDq.out.hb)
                (case aF => exact (fun k_ hk => Nat.le_trans PDq.out.hz hk))
                (case aO => exact PDq.out.ri)
                (case aS => exact below_size PDq.out.hb)
                (case aL => have := HLT.out; omega)
                intro v12 w7 ho hb hg hat
                have P7 := Aside0.mk (PDq.out.app_idx ho hb hg)
                have RB7 := Aside0.mk (Kd.R_over RBD.out PDq.out.ri (ty_u8 (by decide)) hg)
                clear ho hb hg hat
                refine hK.out _ _ ?_
                clear hK K
                refine norm_ (a' := ?_) ?_ ?_
                rotate_left
                · show Act.put _ (some 120) _ = _
                  simp only [Act.put, List.setIfInBounds_toArray, List.set_cons_zero, List.set_cons_succ, i64_w, i32_w]
                  rfl
                refine pure_ (i := 11) (N := some 12) (v := ?_) (a' := ?_) #[true, true, true, true, true, true, true, true, true, true, true, true] rfl rfl (by kernel_rfl) (fun _ _ _ h => h) (Or.inl ⟨by rfl, ?_⟩) ?_ ?_
                rotate_left
                · intro w'
                  go_simp
                  with_reducible rfl
                rotate_left
                · simp only [Act.put, List.setIfInBounds_toArray, List.set_cons_zero, List.set_cons_succ, i64_w, i32_w]
                  rfl
                refine done_ (by kernel_rfl) ?_
                clear k1 k2 k3 PDq RBD RQD
                go_wp2_with (first
                  | (go_at_call 28; (with_reducible refine (rsummed_in k Ab cb bs s _ RB7.out HSM.out).mono ?_; rintro ex w8 ⟨v8, rfl, hob, hb⟩)
                     have P8 := Aside0.mk (P7.out.below hb)
                     have RS8 := Aside0.mk hob
                     obtain ⟨As, cs, es⟩ := Kd.R_slice hob
                     subst es
                     clear hob hb)
                  | ((with_reducible refine gate_builtin (b := .append) (xs := #[.tmp 121, .tmp 123]) rfl ?_); at_builtin; (refine Kd.R_append_rows (Kd.int .u8) (w0 := w) w.heap.size rfl (.tmp 121) (.tmp 123) 27 5 (.int .u8 0) 1 rfl Try.underlying27 info5 rfl (by decide) (by omega) (.slice Ao out.length co) out s _ _ _ (fun q => w3.heap.size ≤ q) (fun _ => False) rfl rfl P8.out.ro (Kd.R_reads' RS8.out).2.2 (fun _ _ h => h) (fun _ h => h.elim) (fun q hq => Nat.le_trans P8.out.hz hq) P8.out.hb (below_size P8.out.hb) (by have := HOS.out; omega) ?_)
                     intro v9 w9 ho hb hg hat
                     have P9 := Aside0.mk (P8.out.app_out ho hb hg)
                     clear ho hb hg hat))
                simp only [HW1.out]
                go_roundg g1
                case measure => omega
                case rel => exact ⟨hi, hi, out ++ s, _, rfl, rfl, ⟨by have := HI.out.1; have := HHI.out; omega, by have := HCI.out; have := HHI.out; omega⟩, HLR, P9⟩
            · have c1b : decide ((i : Int) < (l.length : Int)) = false := decide_eq_false (by omega)
              have c1c : decide (i < l.length) = false := decide_eq_false c
              have hil : i = l.length := by have := HI.out.2; omega
              have hlp := HLP.out
              rw [hil, List.drop_length] at hlp
              have hlp := Option.some.inj hlp
              rw [Prod.mk.injEq] at hlp
              obtain ⟨rfl, rfl⟩ := hlp
              have hoo := HOO.out
              unfold rtab_e at hoo
              obtain ⟨t1, h1, hoo⟩ := Option.bind_eq_some_iff.mp hoo
              obtain ⟨t2, h2, hoo⟩ := Option.bind_eq_some_iff.mp hoo
              obtain ⟨s1, h3, hoo⟩ := Option.bind_eq_some_iff.mp hoo
              split at hoo
              case isFalse => cases hoo
              rename_i hb1
              obtain ⟨o2, ho2⟩ : ∃ y, out ++ s1 = y := ⟨_, rfl⟩
              rw [ho2] at hoo
              obtain ⟨t3, h4, hoo⟩ := Option.bind_eq_some_iff.mp hoo
              obtain ⟨t4, h5, hoo⟩ := Option.bind_eq_some_iff.mp hoo
              obtain ⟨s2, h6, hoo⟩ := Option.bind_eq_some_iff.mp hoo
              split at hoo
              case isFalse => cases hoo
              rename_i hb2
              obtain ⟨o3, ho3⟩ : ∃ y, o2 ++ s2 = y := ⟨_, rfl⟩
              rw [ho3] at hoo
              obtain ⟨t5, h7, hoo⟩ := Option.bind_eq_some_iff.mp hoo
              split at hoo
              case isFalse => cases hoo
              rename_i hb3
              obtain ⟨o4, ho4⟩ : ∃ y, o3 ++ t5 = y := ⟨_, rfl⟩
              rw [ho4] at hoo
              have hb4 : o4.length < 1000000000000 := by rw [← ho4, List.length_append]; exact hb3
              have HR_ := Aside0.mk (Option.some.inj hoo)
              have H1 := Aside0.mk h1
              have H2 := Aside0.mk h2
              have H3 := Aside0.mk h3
              have H4 := Aside0.mk h4
              have H5 := Aside0.mk h5
              have H6 := Aside0.mk h6
              have H7 := Aside0.mk h7
              have HO2 := Aside0.mk ho2
              have HO3 := Aside0.mk ho3
              have HO4 := Aside0.mk ho4
              have BD1 := Aside0.mk hb1
              have BD2 := Aside0.mk hb2
              have BD3 := Aside0.mk hb3
              have BD4 := Aside0.mk hb4
              have HVO := Aside0.mk (Kd.R_lt P.out.ro)
              obtain ⟨Ao, co, eo⟩ := Kd.R_slice P.out.ro
              subst eo
              obtain ⟨Ai, ci, ei⟩ := Kd.R_slice P.out.ri
              subst ei
              clear c hil hoo h1 h2 h3 h4 h5 h6 h7 ho2 ho3 ho4 hb1 hb2 hb3 hb4 HI HLP HOO
              go_wp2_with (first
                | (go_at_call 26; (with_reducible refine (rblock_calls k Ai ci idx 1 xb xe _ (Kd.R_reads' P.out.ri).2.2 (Kd.R_reads' P.out.ri).2.1 HXB.out).mono ?_; rintro ex w20 ⟨vx, rfl, hob, hb⟩)
                   have HZ20 : Aside0 (wr.heap.size ≤ w20.heap.size) := ⟨hb.size⟩
                   have P20 := Aside0.mk (P.out.below hb)
                   have RX20 := Aside0.mk hob
                   obtain ⟨Ax, cx, ex⟩ := Kd.R_slice hob
                   subst ex
                   clear hob hb)
                | (go_at_call 29; with_reducible refine (rputf_nil k (IntKind.u64.wrap (out.length : Int)) t1 _ H1.out).mono ?_; rintro ex w21 ⟨v21, rfl, hob, hb⟩
                   have HZ21 : Aside0 (wr.heap.size ≤ w21.heap.size) := ⟨Nat.le_trans HZ20.out hb.size⟩
                   have P21 := Aside0.mk (P20.out.below hb)
                   have RX21 := Aside0.mk (Kd.R_below RX20.out hb)
                   have RT21 := Aside0.mk hob
                   obtain ⟨At1, ct1, et⟩ := Kd.R_slice hob
                   subst et
                   clear hob hb)
                | (go_at_call 29; with_reducible refine (rputf_in k At1 ct1 t1 (IntKind.u64.wrap (fl.length : Int)) t2 _ RT21.out H2.out).mono ?_; rintro ex w22 ⟨v22, rfl, hob, hb⟩
                   have P22 := Aside0.mk (P21.out.below hb)
                   have RX22 := Aside0.mk (Kd.R_below RX21.out hb)
                   have RT22 := Aside0.mk (Kd.R_lower hob HZ21.out)
                   obtain ⟨At2, ct2, et⟩ := Kd.R_slice hob
                   subst et
                   clear hob hb)
                | (go_at_call 28; with_reducible refine (rsummed_in k Af cf fl s1 _ P22.out.rf H3.out).mono ?_; rintro ex w23 ⟨v23, rfl, hob, hb⟩
                   have P23 := Aside0.mk (P22.out.below hb)
                   have RX23 := Aside0.mk (Kd.R_below RX22.out hb)
                   have RT23 := Aside0.mk (Kd.R_below RT22.out hb)
                   have RS23 := Aside0.mk hob
                   obtain ⟨As1, cs1, es⟩ := Kd.R_slice hob
                   subst es
                   clear hob hb)
                | ((with_reducible refine gate_builtin (b := .append) (xs := #[.tmp 141, .tmp 143]) rfl ?_); at_builtin; (refine Kd.R_append_rows (Kd.int .u8) (w0 := w) w.heap.size rfl (.tmp 141) (.tmp 143) 27 5 (.int .u8 0) 1 rfl Try.underlying27 info5 rfl (by decide) (by omega) (.slice Ao out.length co) out s1 _ _ _ (fun q => w3.heap.size ≤ q) (fun _ => False) rfl rfl P23.out.ro (Kd.R_reads' RS23.out).2.2 (fun _ _ h => h) (fun _ h => h.elim) (fun q hq => Nat.le_trans P23.out.hz hq) P23.out.hb (below_size P23.out.hb) (by have := BD1.out; omega) ?_)
                   intro v24 w24 ho hb hg hat
                   rw [HO2.out] at ho
                   have P24 := Aside0.mk (P23.out.app_out ho hb hg)
                   have RX24 := Aside0.mk (keep_far RX23.out hg HVO.out)
                   have RT24 := Aside0.mk (keep_far RT23.out hg HVO.out)
                   have HV24 := Aside0.mk (Kd.R_lt ho)
                   obtain ⟨Ao2, co2, e24⟩ := Kd.R_slice ho
                   subst e24
                   clear ho hb hg hat)
                | (go_at_call 29; with_reducible refine (rputf_in k At2 ct2 t2 (IntKind.u64.wrap (o2.length : Int)) t3 _ RT24.out H4.out).mono ?_; rintro ex w25 ⟨v25, rfl, hob, hb⟩
                   have HZ25 : Aside0 (w24.heap.size ≤ w25.heap.size) := ⟨hb.size⟩
                   have P25 := Aside0.mk (P24.out.below hb)
                   have RX25 := Aside0.mk (Kd.R_below RX24.out hb)
                   have RT25 := Aside0.mk hob
                   obtain ⟨At3, ct3, et⟩ := Kd.R_slice hob
                   subst et
                   clear hob hb)
                | (go_at_call 29; with_reducible refine (rputf_in k At3 ct3 t3 (IntKind.u64.wrap (xb.length : Int)) t4 _ RT25.out H5.out).mono ?_; rintro ex w26 ⟨v26, rfl, hob, hb⟩
                   have P26 := Aside0.mk (P25.out.below hb)
                   have RX26 := Aside0.mk (Kd.R_below RX25.out hb)
                   have RT26 := Aside0.mk (Kd.R_lower hob HZ25.out)
                   obtain ⟨At4, ct4, et⟩ := Kd.R_slice hob
                   subst et
                   clear hob hb)
                | (go_at_call 28; with_reducible refine (rsummed_in k Ax cx xb s2 _ RX26.out H6.out).mono ?_; rintro ex w27 ⟨v27, rfl, hob, hb⟩
                   have P27 := Aside0.mk (P26.out.below hb)
                   have RT27 := Aside0.mk (Kd.R_below RT26.out hb)
                   have RS27 := Aside0.mk hob
                   obtain ⟨As2, cs2, es⟩ := Kd.R_slice hob
                   subst es
                   clear hob hb)
                | ((with_reducible refine gate_builtin (b := .append) (xs := #[.tmp 155, .tmp 157]) rfl ?_); at_builtin; (refine Kd.R_append_rows (Kd.int .u8) (w0 := w) w.heap.size rfl (.tmp 155) (.tmp 157) 27 5 (.int .u8 0) 1 rfl Try.underlying27 info5 rfl (by decide) (by omega) (.slice Ao2 o2.length co2) o2 s2 _ _ _ (fun q => w3.heap.size ≤ q) (fun _ => False) rfl rfl P27.out.ro (Kd.R_reads' RS27.out).2.2 (fun _ _ h => h) (fun _ h => h.elim) (fun q hq => Nat.le_trans P27.out.hz hq) P27.out.hb (below_size P27.out.hb) (by have := BD2.out; omega) ?_)
                   intro v28 w28 ho hb hg hat
                   rw [HO3.out] at ho
                   have P28 := Aside0.mk (P27.out.app_out ho hb hg)
                   have RT28 := Aside0.mk (keep_far RT27.out hg HV24.out)
                   obtain ⟨Ao3, co3, e28⟩ := Kd.R_slice ho
                   subst e28
                   clear ho hb hg hat)
                | (go_at_call 29; with_reducible refine (rputf_in k At4 ct4 t4 (IntKind.u64.wrap (l.length : Int)) t5 _ RT28.out H7.out).mono ?_; rintro ex w29 ⟨v29, rfl, hob, hb⟩
                   have P29 := Aside0.mk (P28.out.below hb)
                   have RT29 := Aside0.mk hob
                   obtain ⟨At5, ct5, et⟩ := Kd.R_slice hob
                   subst et
                   clear hob hb)
                | ((with_reducible refine gate_builtin (b := .append) (xs := #[.tmp 164, .tmp 165]) rfl ?_); at_builtin; (refine Kd.R_append_rows (Kd.int .u8) (w0 := w) w.heap.size rfl (.tmp 164) (.tmp 165) 27 5 (.int .u8 0) 1 rfl Try.underlying27 info5 rfl (by decide) (by omega) (.slice Ao3 o3.length co3) o3 t5 _ _ _ (fun q => w3.heap.size ≤ q) (fun _ => False) rfl rfl P29.out.ro (Kd.R_reads' RT29.out).2.2 (fun _ _ h => h) (fun _ h => h.elim) (fun q hq => Nat.le_trans P29.out.hz hq) P29.out.hb (below_size P29.out.hb) (by have := BD3.out; omega) ?_)
                   intro v30 w30 ho hb hg hat
                   rw [HO4.out] at ho
                   have P30 := Aside0.mk (P29.out.app_out ho hb hg)
                   obtain ⟨Ao4, co4, e30⟩ := Kd.R_slice ho
                   subst e30
                   clear ho hb hg hat)
                | ((with_reducible refine gate_dst (N := 169) rfl ?_); (refine kd_V_blit (W := w30) rfl (N := 169) rfl 27 5 _ rfl wordL [.int .u8 115, .int .u8 116, .int .u8 97, .int .u8 100, .int .u8 100, .int .u8 108, .int .u8 101, .int .u8 49] 8 ?cC rfl ?cN Try.underlying27 Try.underlying5 ?cL ?_)
                   (case cC => rfl)
                   (case cN => rfl)
                   (case cL => decide)
                   intro v31 w31 hv hb _ _
                   have P31 := Aside0.mk (P30.out.below hb)
                   obtain ⟨Aw, cw, ew⟩ := Kd.V_slice hv
                   subst ew
                   have RW31 := Aside0.mk hv
                   clear hv hb)
                | ((with_reducible refine gate_builtin (b := .append) (xs := #[.tmp 167, .tmp 169]) rfl ?_); at_builtin; (refine Kd.R_append_rows (Kd.int .u8) (w0 := w) w.heap.size rfl (.tmp 167) (.tmp 169) 27 5 (.int .u8 0) 1 rfl Try.underlying27 info5 rfl (by decide) (by omega) (.slice Ao4 o4.length co4) o4 wordL _ _ _ (fun q => w3.heap.size ≤ q) (fun _ => False) rfl rfl P31.out.ro (Kd.V_reads' RW31.out).2.2 (fun _ _ h => h) (fun _ h => h.elim) (fun q hq => Nat.le_trans P31.out.hz hq) P31.out.hb (below_size P31.out.hb) (by have := BD4.out; show (o4.length + 8) * 1 ≤ _; omega) ?_)
                   intro v32 w32 ho hb hg hat
                   rw [HR_.out] at ho
                   have RO32 := Aside0.mk ho
                   have HB32 := Aside0.mk hb
                   clear ho hb hg hat))
              go_ret2
              exact ⟨_, rfl, Kd.R_mono RO32.out (fun _ _ => trivial), HB32.out⟩
end Go.Proofs.Ythdemdjobgbpdaa.T
namespace Go.Proofs.Ythdemdjobgbpdaa.T
open Go.RowKit Go.Shelf Go.Proofs.YthdemdjobgbpdaaW.PrintWords Go.Proofs.YthdemdjobgbpdaaW.PrintLast Go.Proofs.YthdemdjobgbpdaaW.PrintMore Go.Proofs.Ythdemdjobgbpdaa.P Go.Proofs.Ythdemdjobgbpdaa.B Go.Proofs.Ythdemdjobgbpdaa.Q
attribute [local go_sem] Oper.semAt_some
set_option linter.unusedVariables false
set_option linter.unusedSimpArgs false
def Builds (k : Nat) (l : List S47) (blk iv : Int) (fb : Nat) : Prop :=
  ∃ r, tab_f k 1000 (cut3h l) blk iv fb = some r ∧ rtab_f k (cut3h l) blk iv fb = some r ∧ staddleref08_Same.f k (cut3h l) (cut3h l) = some true
set_option maxRecDepth 100000 in
set_option maxHeartbeats 4000000 in
theorem builds_calls (k : Nat) (A0 : Option Addr) (c0 : Nat) (l0 : List S47) (b1 i1 : Int) (f1 : Nat) (w : World) (hr0 : Kd.C k47 w A0 l0.length l0) (hc0 : l0.length ≤ c0) (hf : Builds k l0 b1 i1 f1) :
    Calls Try.prog 4 #[.slice A0 l0.length c0, .agg #[.int .i64 b1, .int .i64 i1, .float .f64 f1]] w fun e w' => e = .returned (.bool true) ∧ Below w.heap.size w w' := by
  have HR0 := Aside0.mk hr0
  have HC0 := Aside0.mk hc0
  have HF := Aside0.mk hf
  have hK0 := Aside0.mk (cut3h_len l0)
  clear hr0 hc0 hf
  go_enter Try.func4, Try.ntmps4
  go_upto_region 1 with fail
  obtain ⟨w2, hw2⟩ : ∃ y, w.alloc (.cells #[.int .i64 b1, .int .i64 i1, .float .f64 f1] 26) = y := ⟨_, rfl⟩
  have HB2 : Aside0 (Below w.heap.size w w2) := ⟨by rw [← hw2]; exact below_alloc (Below.refl _ _) _⟩
  have BO2 : Aside0 (w2.heap[w.heap.size]? = some (.cells #[.int .i64 b1, .int .i64 i1, .float .f64 f1] 26 (0, 0))) := ⟨by rw [← hw2]; exact blk_new w _⟩
  rw [hw2]
  clear hw2
  go_upto_region 2 with (first
    | (go_at_call 9; with_reducible refine (awake_calls _).mono ?_; rintro e w3 ⟨rfl, hb⟩
       have BO3 := Aside0.mk (blk_below BO2.out hb)
       have HB3 := Aside0.mk (below_step HB2.out hb)
       clear hb))
  go_upto_if 15 with fail
  go_cut [0] (fun v0 wc => ∃ (c1 : Nat), v0 = .slice A0 (cut3h l0).length c1 ∧ Aside0 ((cut3h l0).length ≤ c1) ∧ Aside0 (Kd.C k47 wc A0 (cut3h l0).length (cut3h l0)) ∧ Aside0 (wc.heap[w.heap.size]? = some (.cells #[.int .i64 b1, .int .i64 i1, .float .f64 f1] 26 (0, 0))) ∧ Aside0 (Below w.heap.size w wc))
  case first =>
    by_cases c : 300 < l0.length
    · have hcut : cut3h l0 = l0.take 300 := by unfold cut3h; rw [if_pos c]
      have hlen : (l0.take 300).length = 300 := by rw [List.length_take]; omega
      have HRC : Aside0 (Kd.C k47 w3 A0 (l0.take 300).length (l0.take 300)) := ⟨Kd.C_take (Kd.C_below HR0.out HB3.out) (by omega)⟩
      have c4b0 : decide (300 < (l0.length : Int)) = true := decide_eq_true (by omega)
      have c4b1 : decide (300 < l0.length) = true := decide_eq_true c
      have c5b0 := eq_true (show 300 ≤ (l0.length : Int) by omega)
      have c5b1 : decide (300 ≤ (l0.length : Int)) = true := decide_eq_true (by omega)
      have c5b2 : (300 : Int) ≤ (c0 : Int) := by have := HC0.out; omega
      have c5b3 : 300 ≤ c0 := by have := HC0.out; omega
      (first | rw [c4b0] | rw [c4b1] | (simp only [i64_w, i32_w]; rw [c4b0]) | skip)
      go_wp2
      go_meet
      case rel =>
        refine ⟨c0, ?_, ⟨by rw [hcut, hlen]; exact c5b3⟩, ⟨by rw [hcut]; exact HRC.out⟩, BO3, HB3⟩
        rw [hcut, hlen]
    · have hcut : cut3h l0 = l0 := by unfold cut3h; rw [if_neg c]
      have c4b0 : decide (300 < (l0.length : Int)) = false := decide_eq_false (by omega)
      have c4b1 : decide (300 < l0.length) = false := decide_eq_false c
      have HRC : Aside0 (Kd.C k47 w3 A0 l0.length l0) := ⟨Kd.C_below HR0.out HB3.out⟩
      (first | rw [c4b0] | rw [c4b1] | (simp only [i64_w, i32_w]; rw [c4b0]) | skip)
      go_wp2
      go_meet
      case rel => exact ⟨c0, by rw [hcut], ⟨by rw [hcut]; exact HC0.out⟩, ⟨by rw [hcut]; exact HRC.out⟩, BO3, HB3⟩
  case rest =>
    clear HR0 HC0 BO2 BO3 HB2 HB3
    obtain ⟨c1, rfl, HC1, HR1, BO1, HB1⟩ := hcut
    obtain ⟨⟨bs, er⟩, ht, hrt, hsame⟩ := HF.out
    clear HF
    generalize cut3h l0 = L at *
    have HT := Aside0.mk ht
    have HRT := Aside0.mk hrt
    have HSM := Aside0.mk hsame
    clear ht hrt hsame
    go_upto_region 5 with (first
      | ((with_reducible refine gate_dst (N := 18) rfl ?_); (refine Kd.R_lit k47 _ 47 ?hg (N := 18) ?hd (xs := ([] : List S47)) (inner := []) (ok := fun _ => True) (okp := fun _ => False) ?hr ?hp (fun _ hk => hk.elim) trivial (Below.refl _ _) (Nat.le_refl _) (by simp) ?_)
         (case hd => rfl)
         (case hg => rfl)
         (case hr => first | (go_simp; done) | (go_simp; rfl))
         (case hp => exact (Reps.none _ _))
         intro v18 w4 ho hb hg hnew
         have HE4 := Aside0.mk ho
         have HB4 := Aside0.mk hb
         clear ho hb hg hnew)
      | ((with_reducible refine gate_builtin (b := .append) (xs := #[.tmp 18, .tmp 19]) rfl ?_); at_builtin; (refine Kd.R_append_rows k47 (w0 := wc) wc.heap.size rfl (.tmp 18) (.tmp 19) 23 47 (.agg #[(.string ⟨#[]⟩), (.int .u64 0), (.int .i64 0), (.string ⟨#[]⟩)]) 48 rfl Try.underlying23 info47 rfl (by decide) (by decide) v18 ([] : List S47) L _ _ _ (fun _ => True) (fun _ => False) rfl rfl HE4.out (Kd.C_below HR1.out HB4.out) (fun x cs h => by rw [k47_open h]; exact k47_mkM _ _ _ x) (fun _ h => h.elim) (fun _ _ => trivial) HB4.out (below_size HB4.out) (by have := hK0.out; simp only [List.length_nil]; omega) ?_)
         intro v20 w5 ho hb hg hat
         rw [List.nil_append] at ho
         have HE5 := Aside0.mk ho
         have HR5 := Aside0.mk (Kd.C_below HR1.out hb)
         have BO5 := Aside0.mk (blk_below BO1.out hb)
         have HB5 := Aside0.mk (below_step HB1.out hb)
         obtain ⟨Ae, ce, ee⟩ := Kd.R_slice ho
         subst ee
         have k0 := (blk_cell BO5.out 0).trans (show _ = some (Value.int .i64 b1) from rfl)
         have k1 := (blk_cell BO5.out 1).trans (show _ = some (Value.int .i64 i1) from rfl)
         have k2 := (blk_cell BO5.out 2).trans (show _ = some (Value.float .f64 f1) from rfl)
         clear ho hb hg hat))
    go_upto_region 6 with (first
      | (go_at_call 10; (with_reducible refine (tab_calls k 1000 Ae ce L b1 i1 f1 (bs, er) _ (Kd.R_reads' HE5.out).2.2 (Kd.R_reads' HE5.out).2.1 HT.out).mono ?_; rintro ex w6 ⟨va, rfl, hob, hb⟩)
         have HE6 := Aside0.mk (Kd.R_below HE5.out hb)
         have HR6 := Aside0.mk (Kd.C_below HR5.out hb)
         have BO6 := Aside0.mk (blk_below BO5.out hb)
         have HB6 := Aside0.mk (below_step HB5.out hb)
         have HA6 := Aside0.mk hob
         obtain ⟨Aa, ca, ea⟩ := Kd.R_slice hob
         subst ea
         clear hob hb))
    clear k0 k1 k2
    have k0 := (blk_cell BO6.out 0).trans (show _ = some (Value.int .i64 b1) from rfl)
    have k1 := (blk_cell BO6.out 1).trans (show _ = some (Value.int .i64 i1) from rfl)
    have k2 := (blk_cell BO6.out 2).trans (show _ = some (Value.float .f64 f1) from rfl)
    go_upto_region 8 with (first
      | (go_at_call 11; (with_reducible refine (rtab_calls k A0 c1 L b1 i1 f1 (bs, er) _ HR6.out HC1.out HRT.out).mono ?_; rintro ex w7 ⟨vb, rfl, hob, hb⟩)
         have HE7 := Aside0.mk (Kd.R_below HE6.out hb)
         have HR7 := Aside0.mk (Kd.C_below HR6.out hb)
         have HA7 := Aside0.mk (Kd.R_below HA6.out hb)
         have HB7 := Aside0.mk (below_step HB6.out hb)
         have HC7 := Aside0.mk hob
         obtain ⟨Ab, cb, eb⟩ := Kd.R_slice hob
         subst eb
         clear hob hb)
      | (go_at_call 12; (with_reducible refine (staddleref08_Same.calls k Ae ce L A0 c1 L true _ (Kd.R_reads' HE7.out).2.2 (Kd.R_reads' HE7.out).2.1 HR7.out HC1.out HSM.out).mono ?_; rintro ex w8 ⟨rfl, ⟨nd, hw8⟩⟩)
         have hb8 : Below w7.heap.size w7 w8 := by rw [hw8]; exact pw_below_drewN (Below.refl _ _) nd
         have HA8 := Aside0.mk (Kd.R_below HA7.out hb8)
         have HC8 := Aside0.mk (Kd.R_below HC7.out hb8)
         have HB8 := Aside0.mk (below_step HB7.out hb8)
         clear hb8 hw8))
    clear k0 k1 k2
    have hca := Kd.C_string (P := Try.prog) (A := Aa) (c := ca) Try.underlying27 Try.underlying5 Try.underlying9 (Kd.R_reads' HA8.out).2.2
    have hcb := Kd.C_string (P := Try.prog) (A := Ab) (c := cb) Try.underlying27 Try.underlying5 Try.underlying9 (Kd.R_reads' HC8.out).2.2
    obtain ⟨st, hst⟩ : ∃ y, strOfNums bs = y := ⟨_, rfl⟩
    rw [hst] at hca hcb
    clear hst
    go_wp2
    go_ret
    first
      | exact ⟨rfl, HB8.out⟩
      | (refine ⟨?_, HB8.out⟩; simp)
end Go.Proofs.Ythdemdjobgbpdaa.T
namespace Go.Proofs.Ythdemdjobgbpdaa.M
open Go.RowKit Go.Proofs.YthdemdjobgbpdaaW.PrintWords Go.Proofs.YthdemdjobgbpdaaW.PrintLast Go.Proofs.YthdemdjobgbpdaaW.PrintMore

/-- k bits of x in the other order, behind acc. -/
def rvN : Nat → Nat → Nat → Nat
  | 0, _, acc => acc
  | k + 1, x, acc => rvN k (x / 2) (acc * 2 + x % 2)
theorem bit0_add (a b : Nat) (hb : b < 2) (i : Nat) : (a * 2 + b).testBit i = if i = 0 then decide (b = 1) else a.testBit (i - 1) := by
  cases i with
  | zero =>
    rw [Nat.testBit_zero]
    simp
    omega
  | succ i =>
    rw [Nat.testBit_succ, if_neg (by omega)]
    congr 1
    omega
theorem rvN_bit : ∀ (k x acc i : Nat), (rvN k x acc).testBit i = if i < k then x.testBit (k - 1 - i) else acc.testBit (i - k)
  | 0, x, acc, i => by simp [rvN]
  | k + 1, x, acc, i => by
    rw [rvN, rvN_bit k]
    by_cases h : i < k
    · rw [if_pos h, if_pos (by omega)]
      rw [show k + 1 - 1 - i = (k - 1 - i) + 1 by omega, Nat.testBit_succ]
    · rw [if_neg h, bit0_add _ _ (Nat.mod_lt _ (by decide))]
      by_cases e : i - k = 0
      · rw [if_pos e, if_pos (by omega), show k + 1 - 1 - i = 0 by omega, Nat.testBit_zero]
      · rw [if_neg e, if_neg (by omega), show i - (k + 1) = i - k - 1 by omega]
theorem rvN_lt : ∀ (k x acc : Nat), rvN k x acc < (acc + 1) * 2 ^ k
  | 0, x, acc => by simp [rvN]
  | k + 1, x, acc => by
    have h := rvN_lt k (x / 2) (acc * 2 + x % 2)
    rw [rvN]
    have h2 : acc * 2 + x % 2 + 1 ≤ (acc + 1) * 2 := by have := Nat.mod_lt x (show 0 < 2 by decide); omega
    calc rvN k (x / 2) (acc * 2 + x % 2) < (acc * 2 + x % 2 + 1) * 2 ^ k := h
      _ ≤ (acc + 1) * 2 * 2 ^ k := Nat.mul_le_mul_right _ h2
      _ = (acc + 1) * 2 ^ (k + 1) := by rw [Nat.pow_succ, Nat.mul_assoc, Nat.mul_comm 2]

def rv (b : BitVec 32) : BitVec 32 := BitVec.ofNat 32 (rvN 32 b.toNat 0)
theorem rv_bit (b : BitVec 32) (i : Nat) : (rv b).getLsbD i = (decide (i < 32) && b.getLsbD (31 - i)) := by
  unfold rv
  rw [BitVec.getLsbD_ofNat, rvN_bit]
  by_cases h : i < 32
  · rw [if_pos h]; rfl
  · rw [if_neg h]; simp [h]
theorem rv_toNat (b : BitVec 32) : (rv b).toNat = rvN 32 b.toNat 0 := by
  unfold rv
  rw [BitVec.toNat_ofNat]
  have := rvN_lt 32 b.toNat 0
  exact Nat.mod_eq_of_lt (by simpa using this)
theorem rv_xor (a b : BitVec 32) : rv (a ^^^ b) = rv a ^^^ rv b := by
  apply BitVec.eq_of_getLsbD_eq
  intro i hi
  simp only [rv_bit, BitVec.getLsbD_xor]
  simp [hi]
theorem rv_rv (a : BitVec 32) : rv (rv a) = a := by
  apply BitVec.eq_of_getLsbD_eq
  intro i hi
  rw [rv_bit, rv_bit]
  simp only [hi, show 31 - i < 32 by omega, decide_true, Bool.true_and]
  congr 1
  omega
theorem rv_not (a : BitVec 32) : rv (~~~ a) = ~~~ (rv a) := by
  apply BitVec.eq_of_getLsbD_eq
  intro i hi
  rw [rv_bit, BitVec.getLsbD_not, BitVec.getLsbD_not, rv_bit]
  simp [hi]
  intro h; omega
def hS (m : BitVec 32) : BitVec 32 := (m <<< 1) ^^^ (if m.getLsbD 31 then 0x1EDC6F41#32 else 0#32)
def hSn : Nat → BitVec 32 → BitVec 32
  | 0, n => n
  | k + 1, n => hSn k (hS n)
theorem hS_rv (n : BitVec 32) : hS (rv n) = rv (cS n) := by
  apply BitVec.eq_of_getLsbD_eq
  intro i hi
  have hp : ∀ i : Fin 32, cP.getLsbD (31 - i.val) = (0x1EDC6F41#32).getLsbD i.val := by decide
  have hpi := hp ⟨i, hi⟩
  simp only at hpi
  unfold hS
  rw [rv_bit, BitVec.getLsbD_xor, BitVec.getLsbD_shiftLeft, rv_bit, rv_bit]
  unfold cS
  rw [BitVec.getLsbD_xor, BitVec.getLsbD_ushiftRight]
  simp only [hi, show (31 : Nat) < 32 by decide, decide_true, Bool.true_and, show 31 - 31 = 0 by decide]
  have h2 : ((if n.getLsbD 0 = true then cP else 0#32).getLsbD (31 - i)) = ((if n.getLsbD 0 = true then 0x1EDC6F41#32 else 0#32).getLsbD i) := by
    cases n.getLsbD 0 <;> simp [hpi]
  rw [h2]
  congr 1
  by_cases e : i = 0
  · subst e
    simp
  · have e1 : ¬ (i < 1) := by omega
    have e2 : i - 1 < 32 := by omega
    simp only [e1, e2, decide_false, decide_true, Bool.not_false, Bool.true_and]
    rw [show 31 - (i - 1) = 1 + (31 - i) by omega]
theorem hSn_rv : ∀ (k : Nat) (n : BitVec 32), hSn k (rv n) = rv (cSn k n)
  | 0, _ => rfl
  | k + 1, n => by rw [hSn, hS_rv, hSn_rv]; rfl
/-- a byte, its bits in the other order, moved to the top -/
theorem rv_byte (c : Nat) (hc : c < 256) : BitVec.ofNat 32 (rvN 8 c 0 * 16777216) = rv (BitVec.ofNat 32 c) := by
  apply BitVec.eq_of_getLsbD_eq
  intro i hi
  rw [rv_bit, BitVec.getLsbD_ofNat, BitVec.getLsbD_ofNat]
  rw [show (16777216 : Nat) = 2 ^ 24 from rfl, Nat.mul_comm, Nat.testBit_two_pow_mul, rvN_bit]
  simp only [hi, decide_true, Bool.true_and, show 31 - i < 32 by omega]
  by_cases h : 24 ≤ i
  · rw [if_pos (show i - 24 < 8 by omega)]
    simp only [ge_iff_le, h, decide_true, Bool.true_and]
    congr 1
    omega
  · simp only [ge_iff_le, h, decide_false, Bool.false_and]
    exact (Nat.testBit_lt_two_pow (Nat.lt_of_lt_of_le hc (Nat.pow_le_pow_right (show 0 < 2 by decide) (show 8 ≤ 31 - i by omega)))).symm
theorem rv_ones : rv (BitVec.allOnes 32) = BitVec.allOnes 32 := by
  apply BitVec.eq_of_getLsbD_eq
  intro i hi
  rw [rv_bit, BitVec.getLsbD_allOnes, BitVec.getLsbD_allOnes]
  simp [hi]
  omega
end Go.Proofs.Ythdemdjobgbpdaa.M
namespace Go.Proofs.Ythdemdjobgbpdaa.Q
open Go.RowKit Go.Proofs.YthdemdjobgbpdaaW.PrintWords Go.Proofs.YthdemdjobgbpdaaW.PrintLast Go.Proofs.YthdemdjobgbpdaaW.PrintMore Go.Proofs.Ythdemdjobgbpdaa.P Go.Proofs.Ythdemdjobgbpdaa.M

/-! ### The program's sum -/
theorem turned_ev : ∀ (d : Nat) (n x acc i : Nat), i + d = n → n ≤ 32 → x < 4294967296 → (acc + 1) * 2 ^ d ≤ 4294967296 →
    Ev (fun k => staddleref01_turned.l0 k (x : Int) (n : Int) (acc : Int) (i : Int)) (rvN d x acc : Int)
  | 0, n, x, acc, i, hi, _, _, _ => by
    obtain rfl : i = n := by omega
    refine Ev.step (f := fun _ => some (acc : Int)) (fun k => ?_) (Ev.now _)
    simp only [staddleref01_turned.l0]
    rw [if_neg (by omega)]
  | d + 1, n, x, acc, i, hi, hn, hx, ha => by
    have hp : 0 < 2 ^ d := Nat.two_pow_pos d
    have ha2 : (acc * 2 + x % 2 + 1) * 2 ^ d ≤ 4294967296 := by
      refine Nat.le_trans ?_ ha
      rw [Nat.pow_succ, Nat.mul_comm (2 ^ d) 2, ← Nat.mul_assoc]
      exact Nat.mul_le_mul_right _ (by omega)
    have ha3 : acc * 2 + x % 2 + 1 ≤ 4294967296 := Nat.le_trans (Nat.le_mul_of_pos_right _ hp) ha2
    have ih := turned_ev d n (x / 2) (acc * 2 + x % 2) (i + 1) (by omega) hn (by omega) ha2
    refine Ev.step (fun k => ?_) ih
    simp only [staddleref01_turned.l0]
    rw [if_pos (by omega)]
    have e1 : (Int.tdiv (x : Int) 2) % 4294967296 = ((x / 2 : Nat) : Int) := by
      rw [Int.tdiv_eq_ediv_of_nonneg (by omega)]; omega
    have e2 : ((((acc : Int) * 2) % 4294967296) + (Int.tmod (x : Int) 2)) % 4294967296 = ((acc * 2 + x % 2 : Nat) : Int) := by
      rw [Int.tmod_eq_emod_of_nonneg (by omega)]; omega
    have e3 : wrap64 ((i : Int) + 1) = ((i + 1 : Nat) : Int) := by unfold wrap64; omega
    rw [e1, e2, e3]
theorem turned_spec (n x : Nat) (hn : n ≤ 32) (hx : x < 4294967296) : Ev (fun k => staddleref01_turned.f k (x : Int) (n : Int)) (rvN n x 0 : Int) := by
  have hp : 2 ^ n ≤ 2 ^ 32 := Nat.pow_le_pow_right (by decide) hn
  exact turned_ev n n x 0 0 (by omega) hn hx (by omega)
theorem bit31 (m : BitVec 32) : (m.toNat : Int) / 2147483648 = 1 ↔ m.getLsbD 31 = true := by
  have h : m.getLsbD 31 = m.toNat.testBit 31 := rfl
  have hm := m.isLt
  rw [h, Nat.testBit_eq_decide_div_mod_eq]
  simp
  omega
theorem shl1 (m : BitVec 32) : (Int.ofNat m.toNat * (2 : Int)) % (4294967296 : Int) = Int.ofNat (m <<< 1).toNat := by
  rw [BitVec.toNat_shiftLeft, Nat.shiftLeft_eq]
  simp only [Int.ofNat_eq_natCast]
  omega
theorem refCrc_ev (l : List Int) (hb : ∀ x ∈ l, 0 ≤ x ∧ x < 256) (hl : l.length ≤ 9223372036854775806) (r : Int) : ∀ (d i : Nat) (s : BitVec 32), i + d = l.length →
    (Ev (fun k => staddleref01_turned.f k (((~~~ (rv (cF s (l.drop i)))).toNat : Nat) : Int) 32) r) →
    Ev (fun k => staddleref01_Crc.l0 k l ((rv s).toNat : Int) (i : Int)) r := by
  intro d
  induction d with
  | zero =>
    intro i s hi hr
    refine Ev.step (f := fun k => (staddleref01_turned.f k (Go.bits .xor .u32 4294967295 ((rv s).toNat : Int)) 32).bind fun t => some t) (fun k => ?_) ?_
    · simp only [staddleref01_Crc.l0]
      rw [if_neg (by omega)]
    · have hdrop : l.drop i = [] := by rw [List.drop_eq_nil_iff]; omega
      rw [hdrop, cF_nil] at hr
      have h1 : Go.bits .xor .u32 4294967295 ((rv s).toNat : Int) = ((~~~ (rv s)).toNat : Int) := by
        have h1 : (4294967295 : Int) = ((BitVec.allOnes 32).toNat : Int) := by decide
        rw [h1, bits_xor32, bv_toNat, bv_toNat, BitVec.allOnes_xor]
      rw [h1]
      exact Ev.bind hr (Ev.now r)
  | succ d ih =>
    intro i s hi hr
    have hlt : i < l.length := by omega
    obtain ⟨c, hc⟩ : ∃ c, l[i] = c := ⟨_, rfl⟩
    have hcb := hb c (by rw [← hc]; exact List.getElem_mem hlt)
    have hrd : rd l (i : Int) = c := by simp [rd, List.getD_eq_getElem?_getD, hlt, hc]
    have hdrop : l.drop i = c :: l.drop (i + 1) := by rw [List.drop_eq_getElem_cons hlt, hc]
    rw [hdrop, cF_cons] at hr
    obtain ⟨n, rfl⟩ := Int.eq_ofNat_of_zero_le hcb.1
    have hn : n < 256 := by omega
    have next := ih (i + 1) (cB s (bv n)) (by omega) hr
    -- the eight rounds
    have inner : ∀ (e j : Nat) (t : BitVec 32), j + e = 8 → hSn e t = rv (cB s (bv n)) → Ev (fun k => staddleref01_Crc.l1 k l (t.toNat : Int) (i : Int) (j : Int)) r := by
      intro e
      induction e with
      | zero =>
        intro j t hj ht
        rw [hSn] at ht
        subst ht
        refine Ev.step (fun k => ?_) next
        simp only [staddleref01_Crc.l1]
        rw [if_neg (by omega)]
        have e3 : wrap64 ((i : Int) + 1) = ((i + 1 : Nat) : Int) := by unfold wrap64; omega
        rw [e3]
      | succ e ihe =>
        intro j t hj ht
        rw [hSn] at ht
        have nx := ihe (j + 1) (hS t) (by omega) ht
        refine Ev.step (fun k => ?_) nx
        simp only [staddleref01_Crc.l1]
        rw [if_pos (by omega)]
        have e3 : wrap64 ((j : Int) + 1) = ((j + 1 : Nat) : Int) := by unfold wrap64; omega
        have e5 : ((t.toNat : Int) * (2 : Int)) % (4294967296 : Int) = ((t <<< 1).toNat : Int) := shl1 t
        rw [e3, e5]
        unfold hS
        by_cases h : t.getLsbD 31 = true
        · rw [if_pos ((bit31 t).mpr h), if_pos h, bits_xor32, bv_toNat]
          rfl
        · rw [if_neg (fun k => h ((bit31 t).mp k)), if_neg h, BitVec.xor_zero]
    have htn : hSn 8 ((rv s) ^^^ rv (BitVec.ofNat 32 n)) = rv (cB s (bv n)) := by
      rw [← rv_xor, hSn_rv]
      unfold cB bv
      rw [BitVec.ofInt_natCast]
    have hin := inner 8 0 _ (by omega) htn
    refine Ev.step (f := fun k => (staddleref01_turned.f k ((n : Int) % 4294967296) 8).bind fun t => staddleref01_Crc.l1 k l (Go.bits .xor .u32 ((rv s).toNat : Int) ((t * 16777216) % 4294967296)) (i : Int) 0) (fun k => ?_) ?_
    · simp only [staddleref01_Crc.l0]
      rw [if_pos (by omega), if_pos (by omega), hrd]
    · refine Ev.bind (a := (rvN 8 n 0 : Int)) ?_ ?_
      · rw [show ((n : Int) % 4294967296) = (n : Int) by omega]
        exact turned_spec 8 n (by decide) (by omega)
      · have h8 := rvN_lt 8 n 0
        have e4 : Go.bits .xor .u32 ((rv s).toNat : Int) (((rvN 8 n 0 : Int) * 16777216) % 4294967296) = (((rv s) ^^^ rv (BitVec.ofNat 32 n)).toNat : Int) := by
          rw [bits_xor32, bv_toNat, ← rv_byte n hn]
          have : (((rvN 8 n 0 : Int) * 16777216) % 4294967296) = ((rvN 8 n 0 * 16777216 : Nat) : Int) := by omega
          rw [this]
          unfold bv
          rw [BitVec.ofInt_natCast]
        rw [e4]
        exact hin
theorem refCrc_spec (l : List Int) (hb : ∀ x ∈ l, 0 ≤ x ∧ x < 256) (hl : l.length ≤ 9223372036854775806) : Ev (fun k => staddleref01_Crc.f k l) (crc l) := by
  have hlt := (~~~ (rv (cF (BitVec.allOnes 32) l))).isLt
  have h := turned_spec 32 (~~~ (rv (cF (BitVec.allOnes 32) l))).toNat (by decide) hlt
  have hv : (rvN 32 (~~~ (rv (cF (BitVec.allOnes 32) l))).toNat 0 : Int) = crc l := by
    rw [← rv_toNat, rv_not, rv_rv]
    rfl
  rw [hv] at h
  have h2 := refCrc_ev l hb hl (crc l) l.length 0 (BitVec.allOnes 32) (by omega) h
  rw [rv_ones] at h2
  exact h2

/-! ### Hidden sums -/
theorem refMask_eq (n : Int) (_h0 : 0 ≤ n) (_h1 : n < 4294967296) : staddleref01_Mask.f n = some (mask n) := by
  unfold staddleref01_Mask.f mask
  congr 1
  omega
end Go.Proofs.Ythdemdjobgbpdaa.Q
namespace Go.Proofs.Ythdemdjobgbpdaa.Q
open Go.RowKit Go.Proofs.YthdemdjobgbpdaaW.PrintWords Go.Proofs.YthdemdjobgbpdaaW.PrintLast Go.Proofs.YthdemdjobgbpdaaW.PrintMore Go.Proofs.Ythdemdjobgbpdaa.P Go.Proofs.Ythdemdjobgbpdaa.M Go.Proofs.Ythdemdjobgbpdaa.B Go.Proofs.Ythdemdjobgbpdaa.T
set_option linter.unusedSimpArgs false
set_option linter.unusedVariables false

theorem refPutFixed_l0 : ∀ (s i n : Nat) (l : List Int), n < 18446744073709551616 → i + s ≤ 8 → l.length + s ≤ 140737488355328 → Ev (fun k => staddleref01_PutFixed.l0 k (n : Int) ((i + s : Nat) : Int) l (i : Int)) (l ++ fx s n)
  | 0, i, n, l, hn, hi, hl => by
    refine Ev.step (f := fun _ => some (l ++ fx 0 n)) (fun k => ?_) (Ev.now _)
    simp only [staddleref01_PutFixed.l0]
    rw [if_neg (by omega), fx, List.append_nil]
  | s + 1, i, n, l, hn, hi, hl => by
    have ih := refPutFixed_l0 s (i + 1) (n / 256) (l ++ [((n % 256 : Nat) : Int)]) (by omega) (by omega) (by simp; omega)
    rw [List.append_assoc, List.singleton_append, ← fx_succ] at ih
    refine Ev.step (fun k => ?_) ih
    simp only [staddleref01_PutFixed.l0]
    have e1 : IntKind.u64.wrap (Int.tdiv (n : Int) 256) = ((n / 256 : Nat) : Int) := by
      rw [show Int.tdiv (n : Int) 256 = ((n / 256 : Nat) : Int) from rfl, wU64 (by omega) (by omega)]
    have e2 : (Int.tmod (n : Int) 256) % 256 = ((n % 256 : Nat) : Int) := by
      rw [show Int.tmod (n : Int) 256 = ((n % 256 : Nat) : Int) from rfl]
      omega
    have e3 : wrap64 ((i : Int) + 1) = ((i + 1 : Nat) : Int) := by rw [w64 (by omega) (by omega)]; rfl
    rw [if_pos (by omega), if_pos (by omega), e1, e2, e3]
    congr 1
    omega
theorem refPutFixed_ev (n s : Nat) (l : List Int) (hn : n < 18446744073709551616) (h1 : 1 ≤ s) (hs : s ≤ 8) (hl : l.length + 8 < 140737488355328) : Ev (fun k => staddleref01_PutFixed.f k l (n : Int) (s : Int)) (l ++ fx s n) := by
  have h := refPutFixed_l0 s 0 n l hn (by omega) (by omega)
  rw [Nat.zero_add] at h
  have hj : Ev (fun k => staddleref01_PutFixed.j0 k (n : Int) (s : Int) l false) (l ++ fx s n) := by
    refine Ev.step (fun k => ?_) h
    simp only [staddleref01_PutFixed.j0]
    rw [if_neg (by decide)]
    rfl
  refine Ev.congr (fun k => ?_) hj
  unfold staddleref01_PutFixed.f
  rw [Option.bind_some, if_pos (by simp only [List.length_nil]; omega), Option.bind_some, if_neg (by omega), List.nil_append]
  rw [decide_eq_false (show ¬ (s : Int) > 8 by omega)]
theorem refPutUvarint_l0 : ∀ (n : Nat) (acc : List Int), n < 18446744073709551616 → acc.length + (uv n).length ≤ 140737488355328 → Ev (fun k => staddleref01_PutUvarint.l0 k (n : Int) acc) (acc ++ uv n) := by
  intro n
  induction n using Nat.strongRecOn with
  | _ n ih =>
    intro acc hn hl
    by_cases h : n < 128
    · rw [uv_small h] at hl ⊢
      refine Ev.step (f := fun _ => some (acc ++ [(n : Int)])) (fun k => ?_) (Ev.now _)
      simp only [staddleref01_PutUvarint.l0]
      rw [if_neg (by omega), if_pos (by simp at hl; omega), show (n : Int) % 256 = (n : Int) by omega]
    · rw [uv_big h] at hl ⊢
      have := ih (n / 128) (by omega) (acc ++ [((n % 128 + 128 : Nat) : Int)]) (by omega) (by simp at hl ⊢; omega)
      rw [List.append_assoc] at this
      refine Ev.step (fun k => ?_) this
      simp only [staddleref01_PutUvarint.l0]
      have e1 : IntKind.u64.wrap (Int.tdiv (n : Int) 128) = ((n / 128 : Nat) : Int) := by
        rw [show Int.tdiv (n : Int) 128 = ((n / 128 : Nat) : Int) from rfl, wU64 (by omega) (by omega)]
      have e2 : (((Int.tmod (n : Int) 128) % 256) + 128) % 256 = ((n % 128 + 128 : Nat) : Int) := by
        rw [show Int.tmod (n : Int) 128 = ((n % 128 : Nat) : Int) from rfl]
        omega
      rw [if_pos (by omega), if_pos (by simp at hl; omega), e1, e2]
theorem refPutUvarint_ev (n : Nat) (l : List Int) (hn : n < 18446744073709551616) (hl : l.length + 10 < 140737488355328) : Ev (fun k => staddleref01_PutUvarint.f k l (n : Int)) (l ++ uv n) := by
  have h10 := uv_len64 hn
  refine Ev.congr (f := fun k => staddleref01_PutUvarint.l0 k (n : Int) l) (fun k => ?_) (refPutUvarint_l0 n l hn (by omega))
  unfold staddleref01_PutUvarint.f
  rw [Option.bind_some, if_pos (by simp only [List.length_nil]; omega), List.nil_append]
theorem refCheck_eq (s : ByteArray) (q d : Int) : staddleref02_Check.f s q d = some (chk s q d) := by
  unfold staddleref02_Check.f chk
  split
  · rfl
  · split
    · rfl
    · split
      · rfl
      · split <;> rfl
theorem refPutFixed8_l0 : ∀ (s i n : Nat) (l : List Int), n < 18446744073709551616 → i + s ≤ 8 → l.length + s ≤ 140737488355328 → Ev (fun k => staddleref01_PutFixed.l0 k (n : Int) ((i + s : Nat) : Int) l (i : Int)) (l ++ fx s n)
  | 0, i, n, l, hn, hi, hl => by
    refine Ev.step (f := fun _ => some (l ++ fx 0 n)) (fun k => ?_) (Ev.now _)
    simp only [staddleref01_PutFixed.l0]
    rw [if_neg (by omega), fx, List.append_nil]
  | s + 1, i, n, l, hn, hi, hl => by
    have ih := refPutFixed8_l0 s (i + 1) (n / 256) (l ++ [((n % 256 : Nat) : Int)]) (by omega) (by omega) (by simp; omega)
    rw [List.append_assoc, List.singleton_append, ← fx_succ] at ih
    refine Ev.step (fun k => ?_) ih
    simp only [staddleref01_PutFixed.l0]
    have e1 : IntKind.u64.wrap (Int.tdiv (n : Int) 256) = ((n / 256 : Nat) : Int) := by
      rw [show Int.tdiv (n : Int) 256 = ((n / 256 : Nat) : Int) from rfl, wU64 (by omega) (by omega)]
    have e2 : (Int.tmod (n : Int) 256) % 256 = ((n % 256 : Nat) : Int) := by
      rw [show Int.tmod (n : Int) 256 = ((n % 256 : Nat) : Int) from rfl]
      omega
    have e3 : wrap64 ((i : Int) + 1) = ((i + 1 : Nat) : Int) := by rw [w64 (by omega) (by omega)]; rfl
    rw [if_pos (by omega), if_pos (by omega), e1, e2, e3]
    congr 1
    omega
theorem refPutFixed8_ev (n : Nat) (l : List Int) (hn : n < 18446744073709551616) (hl : l.length + 8 < 140737488355328) : Ev (fun k => staddleref01_PutFixed.f k l (n : Int) 8) (l ++ fx 8 n) := by
  have h := refPutFixed8_l0 8 0 n l hn (by omega) (by omega)
  have hj : Ev (fun k => staddleref01_PutFixed.j0 k (n : Int) 8 l false) (l ++ fx 8 n) := by
    refine Ev.step (fun k => ?_) h
    simp only [staddleref01_PutFixed.j0]
    rw [if_neg (by decide)]
    rfl
  refine Ev.congr (fun k => ?_) hj
  unfold staddleref01_PutFixed.f
  rw [Option.bind_some, if_pos (by simp only [List.length_nil]; omega), Option.bind_some, if_neg (by decide), List.nil_append]
  rfl
theorem refEncode_ev (s : ByteArray) (q d : Int) (q0 : 0 ≤ q) : Ev (fun k => staddleref02_Encode.f k s q d) (enc s q d) := by
  unfold enc
  by_cases h : chk s q d = 0
  · rw [if_pos h]
    obtain ⟨h1, h2, h3⟩ := chk_zero h
    have hp := refPutFixed8_ev (q.toNat * 256 + d.toNat) (bytesOf s) (by omega) (by rw [bytesOf_length]; omega)
    refine Ev.congr (f := fun k => (staddleref01_PutFixed.f k (bytesOf s) ((q.toNat * 256 + d.toNat : Nat) : Int) 8).bind fun t112 => some (t112, 0)) (fun k => ?_) (Ev.bind hp (Ev.now _))
    unfold staddleref02_Encode.f
    have e : IntKind.u64.wrap ((IntKind.u64.wrap (q * 256)) + (IntKind.u64.wrap d)) = ((q.toNat * 256 + d.toNat : Nat) : Int) := by
      rw [wU64 (n := q * 256) (by omega) (by omega), wU64 (n := d) (by omega) (by omega), wU64 (by omega) (by omega)]
      omega
    rw [refCheck_eq, Option.bind_some, if_pos h, if_pos (by omega), e]
  · rw [if_neg h]
    refine Ev.congr (f := fun _ => some ([], chk s q d)) (fun k => ?_) (Ev.now _)
    unfold staddleref02_Encode.f
    rw [refCheck_eq, Option.bind_some, if_neg h]
theorem refCompare_ev (s1 : ByteArray) (q1 d1 : Int) (s2 : ByteArray) (q2 d2 : Int) : Ev (fun k => staddleref02_Compare.f k s1 q1 d1 s2 q2 d2) (kcmp s1 q1 d1 s2 q2 d2) := by
  have j (b : Bool) : Ev (fun k => staddleref02_Compare.j0 k b s1 q1 d1 s2 q2 d2) (if b = true then -1 else if q1 < q2 then 1 else if d1 < d2 then 1 else 0) := by
    refine Ev.step (f := fun _ => some (if b = true then -1 else if q1 < q2 then 1 else if d1 < d2 then 1 else 0)) (fun k => ?_) (Ev.now _)
    simp only [staddleref02_Compare.j0]
    split
    · rfl
    · split
      · rfl
      · split <;> rfl
  unfold kcmp
  rcases cmp_spec s1.data.toList s2.data.toList with ⟨e, h1, h2, h3⟩ | ⟨e, h1, h2, h3⟩ | ⟨e, h1, h2, h3⟩
  · rw [e, if_neg (by decide)]
    refine Ev.congr (f := fun _ => some (-1)) (fun k => ?_) (Ev.now _)
    unfold staddleref02_Compare.f
    rw [ByteArray.toList_eq, ByteArray.toList_eq, if_pos h1]
  · rw [e, if_neg (by decide)]
    refine Ev.congr (f := fun _ => some 1) (fun k => ?_) (Ev.now _)
    unfold staddleref02_Compare.f
    rw [ByteArray.toList_eq, ByteArray.toList_eq, h1, if_neg (by decide), if_pos h2]
  · rw [e, if_pos rfl]
    have hu : ∀ k, staddleref02_Compare.f k s1 q1 d1 s2 q2 d2 = if q1 > q2 then staddleref02_Compare.j0 k true s1 q1 d1 s2 q2 d2 else if q1 = q2 then staddleref02_Compare.j0 k (decide (d1 > d2)) s1 q1 d1 s2 q2 d2 else staddleref02_Compare.j0 k false s1 q1 d1 s2 q2 d2 := by
      intro k
      unfold staddleref02_Compare.f
      rw [ByteArray.toList_eq, ByteArray.toList_eq, h1, h2, if_neg (by decide), if_neg (by decide)]
    refine Ev.congr hu ?_
    rcases icmp_spec q2 q1 with ⟨f, g⟩ | ⟨f, g⟩ | ⟨f, g⟩
    · rw [f, if_neg (by decide)]
      have := j true
      rw [if_pos rfl] at this
      exact Ev.congr (fun k => by rw [if_pos (by omega)]) this
    · rw [f, if_neg (by decide)]
      have := j false
      rw [if_neg (by decide), if_pos (by omega)] at this
      exact Ev.congr (fun k => by rw [if_neg (by omega), if_neg (by omega)]) this
    · rw [f, if_pos rfl]
      have h := j (decide (d1 > d2))
      refine Ev.congr (fun k => by rw [if_neg (by omega), if_pos (by omega)]) ?_
      rcases icmp_spec d2 d1 with ⟨f2, g2⟩ | ⟨f2, g2⟩ | ⟨f2, g2⟩
      · rw [f2]
        rw [if_pos (by simp; omega)] at h
        exact h
      · rw [f2]
        rw [if_neg (by simp; omega), if_neg (by omega), if_pos (by omega)] at h
        exact h
      · rw [f2]
        rw [if_neg (by simp; omega), if_neg (by omega), if_neg (by omega)] at h
        exact h
end Go.Proofs.Ythdemdjobgbpdaa.Q
namespace Go.Proofs.Ythdemdjobgbpdaa.Q
open Go.RowKit Go.Proofs.YthdemdjobgbpdaaW.PrintWords Go.Proofs.YthdemdjobgbpdaaW.PrintLast Go.Proofs.YthdemdjobgbpdaaW.PrintMore Go.Proofs.Ythdemdjobgbpdaa.P Go.Proofs.Ythdemdjobgbpdaa.M Go.Proofs.Ythdemdjobgbpdaa.B Go.Proofs.Ythdemdjobgbpdaa.T

end Go.Proofs.Ythdemdjobgbpdaa.Q
namespace Go.Proofs.Ythdemdjobgbpdaa.Q
open Go.RowKit Go.Proofs.YthdemdjobgbpdaaW.PrintWords Go.Proofs.YthdemdjobgbpdaaW.PrintLast Go.Proofs.YthdemdjobgbpdaaW.PrintMore Go.Proofs.Ythdemdjobgbpdaa.P Go.Proofs.Ythdemdjobgbpdaa.M Go.Proofs.Ythdemdjobgbpdaa.B Go.Proofs.Ythdemdjobgbpdaa.T

/-! ### The document's Build -/
theorem rck_l : ∀ (rest : List S47) (p : Option S47), Ev (fun k => rck k p rest) (ck p rest)
  | [], p => by
    simp only [rck]
    exact Ev.now _
  | e :: t, p => by
    have ih := rck_l t (some e)
    have hck : ck p (e :: t) = if ckAt p e = 0 then ck (some e) t else ckAt p e := rfl
    rw [hck]
    simp only [rck]
    refine Ev.bind (a := ck1 e) (Ev.congr (f := fun _ => some (ck1 e)) (fun k => refCheck_eq ..) (Ev.now _)) ?_
    by_cases h0 : ck1 e = 0
    case neg =>
      have hA : ckAt p e = ck1 e := by unfold ckAt; rw [if_neg h0]
      rw [hA, if_neg h0]
      exact Ev.ifT h0 (Ev.now _)
    refine Ev.ifF (by rw [h0]; decide) ?_
    by_cases hv : 1000 < (e.f1.size : Int)
    · have hA : ckAt p e = 31 := by unfold ckAt; rw [if_pos h0, if_pos hv]
      rw [hA]
      exact Ev.ifT hv (Ev.now _)
    refine Ev.ifF hv ?_
    cases p with
    | none =>
      have hA : ckAt none e = 0 := by unfold ckAt; rw [if_pos h0, if_neg hv]
      rw [if_pos hA]
      exact ih
    | some y =>
      refine Ev.bind (a := kk y e) (refCompare_ev ..) ?_
      by_cases hq : 0 ≤ kk y e
      · have hA : ckAt (some y) e = 110 := by unfold ckAt; rw [if_pos h0, if_neg hv]; simp only []; rw [if_pos hq]
        rw [hA]
        exact Ev.ifT hq (Ev.now _)
      · have hA : ckAt (some y) e = 0 := by unfold ckAt; rw [if_pos h0, if_neg hv]; simp only []; rw [if_neg hq]
        rw [if_pos hA]
        exact Ev.ifF hq ih
theorem rck_ev (l : List S47) (hl : l.length ≤ 1000000) : Ev (fun k => rck_f k l) (ck none l) := by
  simp only [rck_f]
  exact Ev.ifT (by omega) (rck_l l none)
theorem refShared_l0 (a b : List Int) (ha : a.length ≤ 1000000) : ∀ (dd n : Nat), n + dd = a.length → Ev (fun k => staddleref11_shared.l0 k a b (n : Int)) ((n + sh (a.drop n) (b.drop n) : Nat) : Int)
  | 0, n, hd => by
    refine Ev.step (fun k => staddleref11_shared.l0.eq_2 (k := k) ..) (Ev.ifF (by omega) ?_)
    rw [(List.drop_eq_nil_iff (l := a)).2 (by omega)]
    exact ev_eq (by simp [sh]) (Ev.now _)
  | dd + 1, n, hd => by
    refine Ev.step (fun k => staddleref11_shared.l0.eq_2 (k := k) ..) (Ev.ifT (by omega) ?_)
    have hlt : n < a.length := by omega
    by_cases hk : n < b.length
    · rw [List.drop_eq_getElem_cons hlt, List.drop_eq_getElem_cons hk, sh]
      have r1 : rd a (n : Int) = a[n] := by unfold rd; rw [Int.toNat_natCast, List.getD_eq_getElem?_getD, List.getElem?_eq_getElem hlt]; rfl
      have r2 : rd b (n : Int) = b[n] := by unfold rd; rw [Int.toNat_natCast, List.getD_eq_getElem?_getD, List.getElem?_eq_getElem hk]; rfl
      refine Ev.ifT (by omega) (Ev.ifT (by omega) ?_)
      rw [r1, r2]
      by_cases he : a[n] = b[n]
      · rw [if_pos he]
        refine Ev.ifT he ?_
        rw [w64 (by omega) (by omega)]
        exact ev_eq (by omega) (refShared_l0 a b ha dd (n + 1) (by omega))
      · rw [if_neg he]
        exact Ev.ifF he (Ev.now _)
    · rw [(List.drop_eq_nil_iff (l := b)).2 (by omega)]
      have hz : sh (a.drop n) [] = 0 := by cases a.drop n <;> rfl
      rw [hz]
      exact Ev.ifF (by omega) (Ev.now _)
theorem refShared_ev (a b : List Int) (ha : a.length ≤ 1000000) : Ev (fun k => staddleref11_shared.f k a b) ((sh a b : Nat) : Int) := by
  have := refShared_l0 a b ha a.length 0 (by omega)
  rw [List.drop_zero, List.drop_zero, Nat.zero_add] at this
  exact this
theorem mks_small (iv : Nat) : ∀ (rest : List S47) (i : Nat) (last : List Int) (o : Nat), (∀ e ∈ rest, e.f0.f0.size ≤ 64 ∧ e.f1.size ≤ 1000) → o + 1200 * rest.length < 4294967296 →
    (mks iv i last o rest).length ≤ rest.length ∧ ∀ x ∈ mks iv i last o rest, x < 4294967296
  | [], i, last, o, _, _ => by simp [mks]
  | e :: t, i, last, o, hw, ho => by
    have he := hw e (by simp)
    have hkl := kb_length e
    have hel := ent_length (nsh iv i last (kb e)) (kb e) e.f1 (by omega) (nsh_le ..) he.2
    simp only [List.length_cons] at ho
    obtain ⟨i1, i2⟩ := mks_small iv t (i + 1) (kb e) (o + (ent (nsh iv i last (kb e)) (kb e) e.f1).length) (fun x hx => hw x (by simp [hx])) (by omega)
    rw [mks]
    constructor
    · rw [List.length_append, List.length_cons]
      split <;> simp only [List.length_cons, List.length_nil] <;> omega
    · intro x hx
      rcases List.mem_append.1 hx with h | h
      · split at h
        · simp only [List.mem_singleton] at h; omega
        · cases h
      · exact i2 x h
theorem rbk_row_ev (n : Nat) (key : List Int) (v : ByteArray) (out : List Int) (hn : n ≤ key.length) (hk : key.length ≤ 100) (hv : v.size ≤ 1000) (ho : out.length ≤ 100000000) : Ev (fun k => rbk_row k n key v out) (out ++ ent n key v) := by
  have e1 := refPutUvarint_ev n [] (by omega) (by simp)
  have e2 := refPutUvarint_ev (key.length - n) [] (by omega) (by simp)
  have e3 := refPutUvarint_ev v.size [] (by omega) (by simp)
  have l1 := uv_len64 (n := n) (by omega)
  have l2 := uv_len64 (n := key.length - n) (by omega)
  have l3 := uv_len64 (n := v.size) (by omega)
  rw [List.nil_append] at e1 e2 e3
  unfold rbk_row
  rw [wcast n (by omega), wcast (key.length - n) (by omega), wcast v.size (by omega)]
  refine Ev.bind e1 (Ev.bind e2 (Ev.bind e3 (Ev.ifT (by omega) (ev_eq ?_ (Ev.now _)))))
  simp [ent, List.append_assoc]
theorem rbk_m_ev : ∀ (ms : List Nat) (out : List Int), (∀ o ∈ ms, o < 4294967296) → out.length + 4 * ms.length < 1000000000000 → Ev (fun k => rbk_m k (ms.map (fun n : Nat => (n : Int))) out) (out ++ mfx ms)
  | [], out, _, _ => by
    simp only [List.map_nil, rbk_m, mfx, List.append_nil]
    exact Ev.now _
  | o :: t, out, h, ho => by
    have hob := h o List.mem_cons_self
    have hf := refPutFixed_ev o 4 [] (by omega) (by decide) (by decide) (by simp)
    rw [List.nil_append] at hf
    rw [List.length_cons] at ho
    have ih := rbk_m_ev t (out ++ fx 4 o) (fun x hx => h x (List.mem_cons_of_mem _ hx)) (by rw [List.length_append, fx_length]; omega)
    rw [List.append_assoc] at ih
    simp only [List.map_cons, rbk_m]
    rw [wcast o (by omega)]
    exact Ev.bind hf (Ev.ifT (by rw [fx_length]; omega) ih)
theorem rbk_l_ev (iv : Nat) : ∀ (rest : List S47) (i : Nat) (out last : List Int) (ms : List Nat), (∀ e ∈ rest, 0 ≤ e.f0.f1 ∧ ck1 e = 0 ∧ e.f1.size ≤ 1000) → out.length + 1200 * rest.length ≤ 100000000 → ms.length + rest.length ≤ 100000000 → last.length ≤ 72 →
    Ev (fun k => rbk_l k iv rest i out (ms.map (fun n : Nat => (n : Int))) last) (out ++ body iv i last rest, (ms ++ mks iv i last out.length rest).map (fun n : Nat => (n : Int)))
  | [], i, out, last, ms, _, _, _, _ => by
    simp only [rbk_l, body, mks, List.append_nil]
    exact Ev.now _
  | e :: t, i, out, last, ms, hw, ho, hm, hla => by
    obtain ⟨hq, h0, hv⟩ := hw e List.mem_cons_self
    have hs := ck1_size h0
    have hkl := kb_length e
    have hnl := nsh_le iv i last (kb e)
    have hel := ent_length (nsh iv i last (kb e)) (kb e) e.f1 (by omega) hnl hv
    rw [List.length_cons] at ho hm
    have ih := rbk_l_ev iv t (i + 1) (out ++ ent (nsh iv i last (kb e)) (kb e) e.f1) (kb e) (if i % iv = 0 then ms ++ [out.length] else ms) (fun x hx => hw x (List.mem_cons_of_mem _ hx))
      (by rw [List.length_append]; omega) (by split <;> (try simp only [List.length_append, List.length_singleton]) <;> omega) (by omega)
    rw [List.length_append] at ih
    have hen := refEncode_ev e.f0.f0 e.f0.f1 e.f0.f2 hq
    rw [enc_kb, if_pos h0] at hen
    have hsl := (sh_le last (kb e)).2
    have hr := rbk_row_ev (nsh iv i last (kb e)) (kb e) e.f1 out hnl (by omega) hv (by omega)
    have en : (if i % iv = 0 then 0 else ((sh last (kb e) : Nat) : Int).toNat) = nsh iv i last (kb e) := by unfold nsh; rw [Int.toNat_natCast]
    have em : (if i % iv = 0 then (ms.map (fun n : Nat => (n : Int))) ++ [(out.length : Int)] else ms.map (fun n : Nat => (n : Int))) = (if i % iv = 0 then ms ++ [out.length] else ms).map (fun n : Nat => (n : Int)) := by
      split
      · rw [List.map_append]; rfl
      · rfl
    simp only [rbk_l]
    refine Ev.bind hen (Ev.bind (refShared_ev last (kb e) (by omega)) (Ev.ifT ⟨⟨by omega, by simp only []; omega⟩, by simp only []; omega, by rw [List.length_map]; omega⟩ ?_))
    simp only []
    rw [en, em]
    refine Ev.bind hr (ev_eq ?_ ih)
    rw [body, mks]
    by_cases h : i % iv = 0
    · simp [h, List.append_assoc]
    · simp [h, List.append_assoc]
theorem rbk_ev (l : List S47) (iv : Int) (hl : l.length ≤ 1000) (hw : ∀ e ∈ l, 0 ≤ e.f0.f1) : Ev (fun k => rbk_f k l iv) (blt l iv) := by
  unfold blt
  simp only [rbk_f]
  by_cases h1 : iv < 1
  · rw [if_pos (.inl h1)]
    exact Ev.ifT h1 (Ev.now _)
  by_cases h2 : 16 < iv
  · rw [if_pos (.inr h2)]
    exact Ev.ifF h1 (Ev.ifT h2 (Ev.now _))
  rw [if_neg (by omega)]
  refine Ev.ifF h1 (Ev.ifF h2 (Ev.bind (rck_ev l (by omega)) ?_))
  by_cases hc : ck none l = 0
  · rw [if_pos hc]
    obtain ⟨n, rfl⟩ := Int.eq_ofNat_of_zero_le (show 0 ≤ iv by omega)
    rw [Int.toNat_natCast]
    have hw2 : ∀ e ∈ l, 0 ≤ e.f0.f1 ∧ ck1 e = 0 ∧ e.f1.size ≤ 1000 := fun e he => ⟨hw e he, ck_all hc e he⟩
    have hll := rbk_l_ev n l 0 [] [] [] hw2 (by simp only [List.length_nil]; omega) (by simp only [List.length_nil]; omega) (by simp)
    have hsm := mks_small n l 0 [] 0 (fun e he => ⟨ck1_size (ck_all hc e he).1, (ck_all hc e he).2⟩) (by omega)
    simp only [List.nil_append, List.map_nil, List.length_nil] at hll
    have hbl := body_length n l 0 [] (Fit.of hc hw)
    have hmm := rbk_m_ev (mks n 0 [] 0 l) (body n 0 [] l) hsm.2 (by omega)
    have hpf := refPutFixed_ev (mks n 0 [] 0 l).length 4 (body n 0 [] l ++ mfx (mks n 0 [] 0 l) ++ [(n : Int)]) (by omega) (by decide) (by decide) (by simp only [List.length_append, mfx_length, List.length_singleton]; omega)
    refine Ev.ifF (by rw [hc]; decide) (Ev.ifT (by omega) (Ev.bind hll (Ev.ifT (by simp only [List.length_map]; omega) (Ev.bind hmm (Ev.ifT (by simp only [List.length_append, mfx_length]; omega) ?_)))))
    simp only [List.length_map]
    rw [wcast _ (by omega)]
    obtain ⟨K, hK⟩ := hpf
    refine ⟨K, fun k hk => ?_⟩
    have := hK k hk
    simp only [] at this ⊢
    rw [show ((4 : Nat) : Int) = 4 from rfl] at this
    rw [this, Option.map_some, lay]
    simp [List.append_assoc]
  · rw [if_neg hc]
    exact Ev.ifT hc (Ev.now _)
end Go.Proofs.Ythdemdjobgbpdaa.Q
namespace Go.Proofs.Ythdemdjobgbpdaa.Q
open Go.RowKit Go.Proofs.YthdemdjobgbpdaaW.PrintWords Go.Proofs.YthdemdjobgbpdaaW.PrintLast Go.Proofs.YthdemdjobgbpdaaW.PrintMore Go.Proofs.Ythdemdjobgbpdaa.P Go.Proofs.Ythdemdjobgbpdaa.M Go.Proofs.Ythdemdjobgbpdaa.B Go.Proofs.Ythdemdjobgbpdaa.T
set_option linter.unusedVariables false
set_option linter.unusedSimpArgs false
theorem bt_drop (s : ByteArray) (p : Nat) (h : p < s.size) : (bytesOf s).drop p = bt s (p : Int) :: (bytesOf s).drop (p + 1) := by
  have hl : p < (bytesOf s).length := by rw [bytesOf_length]; exact h
  rw [List.drop_eq_getElem_cons hl, ← rd_bytesOf]
  simp [rd, hl]
theorem bt_nat (s : ByteArray) (p : Int) : ∃ n : Nat, bt s p = (n : Int) ∧ n < 256 := by
  obtain ⟨h0, h1⟩ := bt_range s p
  obtain ⟨n, hn⟩ := Int.eq_ofNat_of_zero_le h0
  exact ⟨n, hn, by omega⟩
theorem xor32_lt (x y : Int) : Go.bits .xor .u32 x y < 4294967296 := by
  rw [bits_xor32]
  have := (bv x ^^^ bv y).isLt
  omega
theorem sum4 (a b c d : Nat) (ha : a < 256) (hb : b < 256) (hc : c < 256) (hd : d < 256) : ((((((((a : Int)) % 4294967296) + ((((b : Int) % 4294967296) * 256) % 4294967296)) % 4294967296) + ((((c : Int) % 4294967296) * 65536) % 4294967296)) % 4294967296) + ((((d : Int) % 4294967296) * 16777216) % 4294967296)) % 4294967296 = ((a + 256 * (b + 256 * (c + 256 * d)) : Nat) : Int) % 4294967296 := by omega
theorem wsub (a p : Nat) (h : p ≤ a) (ha : a ≤ 9223372036854775807) : wrap64 ((a : Int) - (p : Int)) = ((a - p : Nat) : Int) := by rw [w64 (by omega) (by omega)]; omega
theorem wad1 (p : Nat) (h : p + 1 ≤ 9223372036854775807) : wrap64 ((p : Int) + 1) = ((p + 1 : Nat) : Int) := by rw [w64 (by omega) (by omega)]; rfl
theorem wad2 (p : Nat) (h : p + 2 ≤ 9223372036854775807) : wrap64 ((p : Int) + 2) = ((p + 2 : Nat) : Int) := by rw [w64 (by omega) (by omega)]; rfl
theorem wad3 (p : Nat) (h : p + 3 ≤ 9223372036854775807) : wrap64 ((p : Int) + 3) = ((p + 3 : Nat) : Int) := by rw [w64 (by omega) (by omega)]; rfl
theorem wad4 (p : Nat) (h : p + 4 ≤ 9223372036854775807) : wrap64 ((p : Int) + 4) = ((p + 4 : Nat) : Int) := by rw [w64 (by omega) (by omega)]; rfl
/-- the last letters -/
theorem hash_end (s : ByteArray) (p : Nat) (x : Int) (hp : p ≤ s.size) (h4 : s.size < p + 4) (hs : s.size ≤ 9223372036854775807) (hx : 0 ≤ x) (hx1 : x < 4294967296) :
    Ev (fun k => staddleref10_Hash.l0 k s x (p : Int)) (if p < s.size then Go.bits .xor .u32 ((((x + (((fxd ((bytesOf s).drop p) : Nat) : Int) % 4294967296)) % 4294967296) * 3332679571) % 4294967296) (((((x + (((fxd ((bytesOf s).drop p) : Nat) : Int) % 4294967296)) % 4294967296) * 3332679571) % 4294967296) / 16777216) else x) := by
  have hd0 : (bytesOf s).drop s.size = [] := by rw [← bytesOf_length s]; exact List.drop_length ..
  refine Ev.step (fun k => staddleref10_Hash.l0.eq_2 (k := k) ..) ?_
  rw [wsub _ _ hp hs]
  refine Ev.ifF (by omega) ?_
  obtain ⟨a, ha, ha1⟩ := bt_nat s (p : Int)
  obtain ⟨b, hb, hb1⟩ := bt_nat s ((p + 1 : Nat) : Int)
  obtain ⟨c, hc, hc1⟩ := bt_nat s ((p + 2 : Nat) : Int)
  by_cases c3 : s.size = p + 3
  · have hl : (bytesOf s).drop p = [(a : Int), (b : Int), (c : Int)] := by
      rw [bt_drop s p (by omega), bt_drop s (p + 1) (by omega), bt_drop s (p + 1 + 1) (by omega), ha, hb, ← c3, hd0, ← hc]
    refine Ev.ifT (by omega) ?_
    rw [wad2 p (by omega)]
    refine Ev.ifT (by omega) (Ev.ifT (by omega) ?_)
    refine Ev.step (fun k => staddleref10_Hash.j1.eq_2 (k := k) ..) ?_
    rw [wad1 p (by omega), if_pos (show p < s.size by omega), hl]
    refine Ev.ifT (by omega) (Ev.ifT (by omega) (Ev.ifT (by omega) (Ev.ifT (by omega) (Ev.ifT (by omega) (Ev.ifT (by omega) ?_)))))
    have e : ((((x + ((((bt s ((p + 2 : Nat) : Int)) % 4294967296) * 65536) % 4294967296)) % 4294967296 + ((((bt s ((p + 1 : Nat) : Int)) % 4294967296) * 256) % 4294967296)) % 4294967296) + ((bt s (p : Int)) % 4294967296)) % 4294967296 = (x + ((fxd [(a : Int), (b : Int), (c : Int)] : Nat) : Int) % 4294967296) % 4294967296 := by
      rw [ha, hb, hc]
      simp only [fxd, Int.toNat_natCast]
      omega
    rw [e]
    exact Ev.now _
  by_cases c2 : s.size = p + 2
  · have hl : (bytesOf s).drop p = [(a : Int), (b : Int)] := by
      rw [bt_drop s p (by omega), bt_drop s (p + 1) (by omega), ha, hb, ← c2, hd0]
    refine Ev.ifF (by omega) ?_
    refine Ev.step (fun k => staddleref10_Hash.j1.eq_2 (k := k) ..) ?_
    rw [wad1 p (by omega), if_pos (show p < s.size by omega), hl]
    refine Ev.ifT (by omega) (Ev.ifT (by omega) (Ev.ifT (by omega) (Ev.ifT (by omega) (Ev.ifT (by omega) (Ev.ifT (by omega) ?_)))))
    have e : (((x + ((((bt s ((p + 1 : Nat) : Int)) % 4294967296) * 256) % 4294967296)) % 4294967296) + ((bt s (p : Int)) % 4294967296)) % 4294967296 = (x + ((fxd [(a : Int), (b : Int)] : Nat) : Int) % 4294967296) % 4294967296 := by
      rw [ha, hb]
      simp only [fxd, Int.toNat_natCast]
      omega
    rw [e]
    exact Ev.now _
  by_cases c1 : s.size = p + 1
  · have hl : (bytesOf s).drop p = [(a : Int)] := by
      rw [bt_drop s p (by omega), ha, ← c1, hd0]
    refine Ev.ifF (by omega) ?_
    refine Ev.step (fun k => staddleref10_Hash.j1.eq_2 (k := k) ..) ?_
    rw [if_pos (show p < s.size by omega), hl]
    refine Ev.ifF (by omega) (Ev.ifT (by omega) (Ev.ifT (by omega) (Ev.ifT (by omega) ?_)))
    have e : (x + ((bt s (p : Int)) % 4294967296)) % 4294967296 = (x + ((fxd [(a : Int)] : Nat) : Int) % 4294967296) % 4294967296 := by
      rw [ha]
      simp only [fxd, Int.toNat_natCast]
      omega
    rw [e]
    exact Ev.now _
  refine Ev.ifF (by omega) ?_
  refine Ev.step (fun k => staddleref10_Hash.j1.eq_2 (k := k) ..) ?_
  rw [if_neg (show ¬ p < s.size by omega)]
  exact Ev.ifF (by omega) (Ev.ifF (by omega) (Ev.now _))
theorem hash2_l0 (s : ByteArray) (hs : s.size ≤ 9223372036854775807) : ∀ (n p : Nat) (x : Int), p ≤ s.size → s.size - p = n → 0 ≤ x → x < 4294967296 → ∃ h, (0 ≤ h ∧ h < 4294967296) ∧ Ev (fun k => bloom_Hash.l0 k ((bytesOf s).drop p) x) h ∧ Ev (fun k => staddleref10_Hash.l0 k s x (p : Int)) h := by
  intro n
  induction n using Nat.strongRecOn with
  | _ n ih =>
    intro p x hp hn hx hx1
    have hlen : ((bytesOf s).drop p).length = s.size - p := by rw [List.length_drop, bytesOf_length]
    have hB : IsB ((bytesOf s).drop p) := fun y hy => IsB.bytesOf s y (List.mem_of_mem_drop hy)
    by_cases h4 : p + 4 ≤ s.size
    · have hf := Fixed_ev ((bytesOf s).drop p) hB 4 (by decide) (by decide)
      rw [if_neg (by omega)] at hf
      obtain ⟨a, ha, ha1⟩ := bt_nat s (p : Int)
      obtain ⟨b, hb, hb1⟩ := bt_nat s ((p + 1 : Nat) : Int)
      obtain ⟨c, hc, hc1⟩ := bt_nat s ((p + 2 : Nat) : Int)
      obtain ⟨d, hd, hd1⟩ := bt_nat s ((p + 3 : Nat) : Int)
      have hl : ((bytesOf s).drop p).take 4 = [(a : Int), (b : Int), (c : Int), (d : Int)] := by
        rw [bt_drop s p (by omega), bt_drop s (p + 1) (by omega), bt_drop s (p + 1 + 1) (by omega), bt_drop s (p + 1 + 1 + 1) (by omega), ha, hb, ← hc, ← hd]
        rfl
      have hfx : fxd (((bytesOf s).drop p).take 4) = a + 256 * (b + 256 * (c + 256 * d)) := by rw [hl]; simp [fxd]
      rw [hfx] at hf
      obtain ⟨h, h01, he, hr⟩ := ih (s.size - (p + 4)) (by omega) (p + 4) (Go.bits .xor .u32 ((((x + (((a + 256 * (b + 256 * (c + 256 * d)) : Nat) : Int) % 4294967296)) % 4294967296) * 3332679571) % 4294967296) (((((x + (((a + 256 * (b + 256 * (c + 256 * d)) : Nat) : Int) % 4294967296)) % 4294967296) * 3332679571) % 4294967296) / 65536)) h4 rfl (xor32_pos _ _) (xor32_lt _ _)
      refine ⟨h, h01, Ev.step (fun k => bloom_Hash.l0.eq_2 (k := k) ..) ?_, Ev.step (fun k => staddleref10_Hash.l0.eq_2 (k := k) ..) ?_⟩
      · rw [List.drop_drop] 
        exact Ev.ifT (by omega) (Ev.bind hf (Ev.ifT (by omega) he))
      · rw [wsub _ _ hp hs, wad1 p (by omega), wad2 p (by omega), wad3 p (by omega), wad4 p (by omega), ha, hb, hc, hd, sum4 a b c d ha1 hb1 hc1 hd1]
        exact Ev.ifT (by omega) (Ev.ifT (by omega) (Ev.ifT (by omega) (Ev.ifT (by omega) (Ev.ifT (by omega) (Ev.ifT (by omega) (Ev.ifT (by omega) (Ev.ifT (by omega) (Ev.ifT (by omega) hr))))))))
    · have hr := hash_end s p x hp (by omega) hs hx hx1
      by_cases h0 : p < s.size
      · have hf := Fixed_ev ((bytesOf s).drop p) hB ((bytesOf s).drop p).length (by omega) (by omega)
        rw [if_neg (by omega), List.take_length] at hf
        rw [if_pos h0] at hr
        refine ⟨_, ⟨xor32_pos _ _, xor32_lt _ _⟩, Ev.step (fun k => bloom_Hash.l0.eq_2 (k := k) ..) ?_, hr⟩
        exact Ev.ifF (by omega) (Ev.ifT (by omega) (Ev.bind hf (Ev.now _)))
      · rw [if_neg h0] at hr
        refine ⟨x, ⟨hx, hx1⟩, Ev.step (fun k => bloom_Hash.l0.eq_2 (k := k) ..) ?_, hr⟩
        exact Ev.ifF (by omega) (Ev.ifF (by omega) (Ev.now _))
theorem hash2_ev (s : ByteArray) (hs : s.size ≤ 9223372036854775807) : ∃ h, (0 ≤ h ∧ h < 4294967296) ∧ Ev (fun k => bloom_Hash.f k s) h ∧ Ev (fun k => staddleref10_Hash.f k s) h := by
  obtain ⟨h, h01, he, hr⟩ := hash2_l0 s hs _ 0 (Go.bits .xor .u32 3164544308 (((((s.size : Int)) % 4294967296) * 3332679571) % 4294967296)) (Nat.zero_le _) rfl (xor32_pos _ _) (xor32_lt _ _)
  rw [List.drop_zero] at he
  refine ⟨h, h01, ?_, hr⟩
  simp only [bloom_Hash.f]
  exact Ev.ifT hs he
/-! ### Bits -/
theorem rot15_eq (h : Int) (h0 : 0 ≤ h) (h1 : h < 4294967296) : rot15 h = (h / 131072 + h * 32768 % 4294967296) % 4294967296 := by
  obtain ⟨n, rfl⟩ := Int.eq_ofNat_of_zero_le h0
  have a1 : shl .u32 (n : Int) 15 = ((n * 32768 % 4294967296 : Nat) : Int) := by
    simp [shl, IntKind.wrap, IntKind.bits, IntKind.signed]
  have a2 : shr .u32 (n : Int) 17 = ((n / 131072 : Nat) : Int) := by
    simp [shr, IntKind.bits, IntKind.wrap, IntKind.signed]
  unfold rot15
  have hlt : n / 131072 < 32768 := by omega
  rw [a1, a2, u32_or_nat _ _ (by omega) (by omega)]
  have hm : n * 32768 % 4294967296 = (n % 131072) <<< 15 := by rw [Nat.shiftLeft_eq]; omega
  rw [hm, ← Nat.shiftLeft_add_eq_or_of_lt (show n / 131072 < 2 ^ 15 from hlt), Nat.shiftLeft_eq]
  omega
theorem rplaces_l0 (h : Int) (h0 : 0 ≤ h) (n : Nat) (hn : 0 < n) (hn1 : n ≤ 100000) (pr : Nat) (hpr : pr ≤ 300) : ∀ (r i : Nat) (acc : List Int), i + r = pr → acc.length ≤ i →
    Ev (fun k => staddleref10_places.l0 k (8 * (n : Int)) (pr : Int) (hsq h (rot15 h) i) (rot15 h) acc (i : Int)) (acc ++ (List.range' i r).map (bitAt h (8 * (n : Int))))
  | 0, i, acc, hi, ha => by
    refine Ev.step (fun k => staddleref10_places.l0.eq_2 (k := k) ..) (Ev.ifF (by omega) ?_)
    simp only [List.range'_zero, List.map_nil, List.append_nil]
    exact Ev.now _
  | r + 1, i, acc, hi, ha => by
    have hw : IntKind.u64.wrap (8 * (n : Int)) = 8 * (n : Int) := wU64 (by omega) (by omega)
    obtain ⟨b0, b1⟩ := bitAt_in h0 (show 0 < 8 * (n : Int) by omega) i
    have hb : wrap64 (bitAt h (8 * (n : Int)) i) = bitAt h (8 * (n : Int)) i := w64 (by omega) (by omega)
    have hb' : wrap64 (Int.tmod (IntKind.u64.wrap (hsq h (rot15 h) i)) (8 * (n : Int))) = bitAt h (8 * (n : Int)) i := hb
    have ih := rplaces_l0 h h0 n hn hn1 pr hpr r (i + 1) (acc ++ [bitAt h (8 * (n : Int)) i]) (by omega) (by rw [List.length_append, List.length_singleton]; omega)
    have hs : hsq h (rot15 h) (i + 1) = (hsq h (rot15 h) i + rot15 h) % 4294967296 := by
      show IntKind.u32.wrap _ = _
      simp [IntKind.wrap, IntKind.bits, IntKind.signed]
    have hi1 : wrap64 ((i : Int) + 1) = ((i + 1 : Nat) : Int) := by rw [w64 (by omega) (by omega)]; rfl
    rw [hs, List.append_assoc] at ih
    refine Ev.step (fun k => staddleref10_places.l0.eq_2 (k := k) ..) ?_
    rw [hw, hb', hi1, List.range'_succ, List.map_cons]
    clear hw hb hb' hs hi1
    exact Ev.ifT (by omega) (Ev.ifF (by omega) (Ev.ifT (by omega) ih))
theorem rplaces_ev (s : ByteArray) (h : Int) (h0 : 0 ≤ h) (h1 : h < 4294967296) (he : Ev (fun k => staddleref10_Hash.f k s) h) (n : Nat) (hn : 0 < n) (hn1 : n ≤ 100000) (pr : Nat) (hpr : pr ≤ 300) :
    Ev (fun k => staddleref10_places.f k s (8 * (n : Int)) (pr : Int)) ((List.range pr).map (bitAt h (8 * (n : Int)))) := by
  unfold staddleref10_places.f
  refine Ev.bind he ?_
  rw [← rot15_eq h h0 h1]
  have := rplaces_l0 h h0 n hn hn1 pr hpr pr 0 [] (by omega) (Nat.le_refl _)
  rw [List.nil_append, ← List.range_eq_range'] at this
  exact this
theorem or_tab2 : ((List.range 256).all fun a => (List.range 8).all fun i => if a / 2 ^ i % 2 = 0 then decide (Go.bits .or .u8 ((a : Nat) : Int) (2 ^ i % 256) = (((a + 2 ^ i) % 256 : Nat) : Int)) else decide (Go.bits .or .u8 ((a : Nat) : Int) (2 ^ i % 256) = ((a : Nat) : Int))) = true := by kernel_rfl
theorem or_of2 (a : Int) (i : Nat) (h0 : 0 ≤ a) (h1 : a < 256) (hi : i < 8) : Go.bits .or .u8 a (2 ^ i % 256) = if a / 2 ^ i % 2 = 0 then (a + 2 ^ i) % 256 else a := by
  obtain ⟨n, rfl⟩ := Int.eq_ofNat_of_zero_le h0
  have h := List.all_eq_true.mp (List.all_eq_true.mp or_tab2 n (List.mem_range.mpr (by omega))) i (List.mem_range.mpr hi)
  have e : ((n : Int) / 2 ^ i % 2 = 0) ↔ (n / 2 ^ i % 2 = 0) := by
    have : ((n : Int) / 2 ^ i % 2) = ((n / 2 ^ i % 2 : Nat) : Int) := by simp
    rw [this]
    omega
  by_cases c : n / 2 ^ i % 2 = 0
  · rw [if_pos c] at h
    rw [if_pos (e.mpr c), of_decide_eq_true h]
    simp
  · rw [if_neg c] at h
    rw [if_neg (fun x => c (e.mp x)), of_decide_eq_true h]
theorem bitOn_app (L : List Int) (x : Int) (hb : IsB L) (h0 : 0 ≤ x) (h1 : x < 8 * (L.length : Int)) : bitOn (L ++ [0]) x = setBit L x ++ [0] := by
  have hq : (x / 8).toNat < L.length := by omega
  have hr : rdOf 0 (L ++ [0]) (x / 8) = rdOf 0 L (x / 8) := by
    simp [rdOf, List.getD_eq_getElem?_getD, List.getElem?_append_left hq]
  obtain ⟨r0, r1⟩ := rd_in hb (x / 8)
  have hro : rdOf 0 L (x / 8) = rd L (x / 8) := rfl
  unfold bitOn setBit
  rw [hr, hro, or_of2 _ _ r0 r1 (by omega)]
  by_cases c : rd L (x / 8) / 2 ^ (x % 8).toNat % 2 = 0
  · rw [if_pos c, if_pos c, List.set_append_left _ _ hq]
  · rw [if_neg c, if_neg c]
    congr 1
    have : rd L (x / 8) = L[(x / 8).toNat] := by simp [rd, hq]
    rw [this, List.set_getElem_self]
theorem rbits_set (h : Int) (h0 : 0 ≤ h) (n : Nat) (hn : 0 < n) : ∀ (pre : List Nat) (L : List Int), IsB L → L.length = n → rbits n (pre.map (bitAt h (8 * (n : Int)))) (L ++ [0]) = some (setBits h (8 * (n : Int)) pre L ++ [0])
  | [], L, _, _ => rfl
  | i :: t, L, hb, hl => by
    obtain ⟨b0, b1⟩ := bitAt_in h0 (show 0 < 8 * (n : Int) by omega) i
    have hq : (bitAt h (8 * (n : Int)) i / 8).toNat < L.length := by omega
    have hr : rdOf 0 (L ++ [0]) (bitAt h (8 * (n : Int)) i / 8) = rd L (bitAt h (8 * (n : Int)) i / 8) := by
      simp [rdOf, rd, List.getD_eq_getElem?_getD, List.getElem?_append_left hq]
    rw [List.map_cons]
    unfold rbits
    rw [if_pos ⟨b0, b1⟩, hr, if_pos (rd_in hb _), bitOn_app L _ hb b0 (by rw [hl]; exact b1)]
    exact rbits_set h h0 n hn t (setBit L (bitAt h (8 * (n : Int)) i)) (setBit_IsB L _ hb) (by unfold setBit; rw [List.length_set, hl])
theorem rrows_ev (n pr : Nat) (hn : 0 < n) (hn1 : n ≤ 100000) (hpr : pr < 300) : ∀ (keys : List ByteArray) (L : List Int), IsB L → L.length = n → (∀ s ∈ keys, s.size ≤ 9223372036854775807) →
    ∃ L', Ev (fun k => rowsB k (8 * (n : Int)) pr keys L) L' ∧ L'.length = n ∧ Ev (fun k => rrowsB k n (pr : Int) keys (L ++ [0])) (L' ++ [0])
  | [], L, hb, hl, _ => ⟨L, by simp only [rowsB]; exact Ev.now _, hl, by simp only [rrowsB]; exact Ev.now _⟩
  | s :: t, L, hb, hl, hk => by
    obtain ⟨h, ⟨h0, h1⟩, he, hr⟩ := hash2_ev s (hk s List.mem_cons_self)
    obtain ⟨j1, j2, j3⟩ := setBits_all h (8 * (n : Int)) (List.range pr) L hb (by rw [hl]; omega) (fun i => bitAt_in h0 (by omega) i)
    obtain ⟨L', e1, e3, e4⟩ := rrows_ev n pr hn hn1 hpr t (setBits h (8 * (n : Int)) (List.range pr) L) j1 (by rw [setBits_len, hl]) (fun s hs => hk s (List.mem_cons_of_mem _ hs))
    refine ⟨L', ?_, e3, ?_⟩
    · simp only [rowsB]
      exact Ev.bind he (Ev.ifT h0 e1)
    · simp only [rrowsB]
      refine Ev.bind (rplaces_ev s h h0 h1 hr n hn hn1 pr (by omega)) (Ev.ifT (by rw [List.length_map, List.length_range]; exact hpr) ?_)
      rw [rbits_set h h0 n hn _ L hb hl]
      exact e4
/-- the document's filter is the program's -/
theorem rbloom_ev (keys : List ByteArray) (fb : Nat) (hk : keys.length ≤ 300) (hs : ∀ s ∈ keys, s.size ≤ 9223372036854775807) : ∃ r, Ev (fun k => bloomB k keys fb) r ∧ Ev (fun k => rbloomB k keys fb) r := by
  cases ho : okBits fb with
  | false =>
    refine ⟨([], 100), ?_, ?_⟩
    · simp only [bloomB]
      exact Ev.ifF (by rw [ho]; decide) (Ev.now _)
    · simp only [rbloomB]
      exact Ev.ifF (by rw [ho]; decide) (Ev.now _)
  | true =>
  obtain ⟨r1, p, h1, h2, p0, p1⟩ := f_probes fb ho
  obtain ⟨r2, s, h3, h4, s0, s1⟩ := f_size fb keys.length hk ho
  have e1 := fInt_of h1 h2
  have e2 := fInt_of h3 h4
  obtain ⟨n, hn⟩ : ∃ n : Nat, (max 64 s + 7) / 8 = (n : Int) := Int.eq_ofNat_of_zero_le (by omega)
  have hn0 : 0 < n := by omega
  have hn1 : n ≤ 8193 := by omega
  obtain ⟨pr, hpr⟩ : ∃ m : Nat, max 1 p = (m : Int) := Int.eq_ofNat_of_zero_le (by omega)
  obtain ⟨L, l1, l3, l4⟩ := rrows_ev n pr hn0 (by omega) (by omega) keys (List.replicate n 0) (fun x hx => by rw [List.eq_of_mem_replicate hx]; decide) List.length_replicate hs
  rw [← List.replicate_succ'] at l4
  refine ⟨(L ++ [max 1 p], 0), ?_, ?_⟩
  · simp only [bloomB, e1, e2, Option.bind_some]
    refine Ev.ifT ho (Ev.ifT hk (Ev.ifT ⟨⟨p0, p1⟩, s0, s1⟩ ?_))
    rw [hn, hpr, Int.toNat_natCast, Int.toNat_natCast]
    obtain ⟨K, hK⟩ := l1
    refine ⟨K, fun j hj => ?_⟩
    have := hK j hj
    simp only [] at this ⊢
    rw [this]
    rfl
  · simp only [rbloomB, e1, e2, Option.bind_some]
    refine Ev.ifT ho (Ev.ifT hk (Ev.ifT ⟨⟨p0, p1⟩, s0, s1⟩ ?_))
    rw [hn, hpr, Int.toNat_natCast]
    obtain ⟨K, hK⟩ := l4
    refine ⟨K, fun j hj => ?_⟩
    have := hK j hj
    simp only [] at this ⊢
    rw [this]
    simp [l3]
end Go.Proofs.Ythdemdjobgbpdaa.Q
namespace Go.Proofs.Ythdemdjobgbpdaa.Q
open Go.RowKit Go.Proofs.YthdemdjobgbpdaaW.PrintWords Go.Proofs.YthdemdjobgbpdaaW.PrintLast Go.Proofs.YthdemdjobgbpdaaW.PrintMore Go.Proofs.Ythdemdjobgbpdaa.P Go.Proofs.Ythdemdjobgbpdaa.M Go.Proofs.Ythdemdjobgbpdaa.B Go.Proofs.Ythdemdjobgbpdaa.T
set_option linter.unusedVariables false
theorem rputu_w (n : Nat) (l : List Int) (hn : n < 18446744073709551616) (hl : l.length + 10 < 140737488355328) : Ev (fun k => staddleref01_PutUvarint.f k l (IntKind.u64.wrap (n : Int))) (l ++ uv n) := by
  rw [wU64 (by omega) (by omega)]
  exact refPutUvarint_ev n l hn hl
theorem rputf_w (n : Nat) (l : List Int) (hn : n < 18446744073709551616) (hl : l.length + 8 < 140737488355328) : Ev (fun k => staddleref01_PutFixed.f k l (IntKind.u64.wrap (n : Int)) 4) (l ++ fx 4 n) := by
  rw [wU64 (by omega) (by omega)]
  exact refPutFixed_ev n 4 l hn (by decide) (by decide) hl
theorem rsummed_ev (b : List Int) (hb : IsB b) (hl : b.length < 1000000000000) : Ev (fun k => staddleref12_summed.f k b) (b ++ sm b) := by
  have hp := rputf_w (mask (crc b)).toNat ([] ++ b) (by have := (mask_range (crc b)).2; have := (mask_range (crc b)).1; omega) (by rw [List.nil_append]; omega)
  rw [mask_nat] at hp
  have hc := refCrc_spec b hb (by omega)
  unfold staddleref12_summed.f
  simp only [Option.bind_some]
  refine Ev.ifT (by rw [List.length_nil]; omega) (Ev.bind hc ?_)
  rw [refMask_eq _ (crc_range b).1 (crc_range b).2]
  simp only [Option.bind_some]
  exact Ev.bind hp (Ev.now _)
theorem rcuts_ev (l : List S47) (blk : Int) (iv : Nat) (h1 : 1 ≤ iv) (h16 : iv ≤ 16) (hc : ck none l = 0) (hw : ∀ e ∈ l, 0 ≤ e.f0.f1) (hl : l.length ≤ 300) :
    ∀ (g lo i : Nat), l.length + 1 ≤ g + i → lo ≤ i → i ≤ l.length → (lo < l.length → i < l.length) → lo ≤ l.length → ∃ ss : List (List S47), (ss.flatten = l.drop lo ∧ ∀ s ∈ ss, s ≠ []) ∧ Ev (fun k => cuts_g k l blk (iv : Int) g lo (i + 1)) (ss.map (cutOf iv)) ∧
      ∀ (out : List Int) (idx : List S47), idx.length + ss.length ≤ 1000 → out.length + ss.length * 2000004 < 1000000000 → Ev (fun k => rtab_l k l blk (iv : Int) (l.drop i) i lo out idx) (out ++ outOf ((ss.map (cutOf iv)).map (·.2)), idx ++ idxOf out.length (ss.map (cutOf iv)))
  | 0, lo, i, hg, _, hh, _, _ => absurd hg (by omega)
  | g + 1, lo, i, hg, hlh, hh, hlo, hll => by
    by_cases c1 : lo < l.length
    · have c2 := hlo c1
      have hwm : ∀ e ∈ (l.take (i + 1)).drop lo, 0 ≤ e.f0.f1 := fun e he => hw e (List.mem_of_mem_take (List.mem_of_mem_drop he))
      have hsl : ((l.take (i + 1)).drop lo).length ≤ 300 := by simp; omega
      have hb := Build_ev ((l.take (i + 1)).drop lo) (iv : Int) (by omega) hwm
      have hrb := rbk_ev ((l.take (i + 1)).drop lo) (iv : Int) (by omega) hwm
      have hlen := (lay_length iv _ (Fit.of (ck_seg hc lo (i + 1)) hwm) (by omega)).2
      have hX : ∃ X, l.drop i = X :: l.drop (i + 1) ∧ X.f0 = lastK ((l.take (i + 1)).drop lo) := by
        refine ⟨l[i], List.drop_eq_getElem_cons c2, ?_⟩
        rw [← rd_seg l lo (i + 1) (by omega) (by omega), Nat.add_sub_cancel]
        simp [rd_T47, c2]
      obtain ⟨X, hX, hXk⟩ := hX
      rw [blt_ok h1 h16 (ck_seg hc lo (i + 1))] at hb hrb
      by_cases c3 : ((lay iv ((l.take (i + 1)).drop lo)).length : Int) < blk ∧ i + 1 < l.length
      · obtain ⟨ss, e1, e3, e4⟩ := rcuts_ev l blk iv h1 h16 hc hw hl g lo (i + 1) (by omega) (by omega) (by omega) (fun _ => by omega) hll
        refine ⟨ss, e1, ?_, fun out idx hi ho => ?_⟩
        · simp only [cuts_g]
          exact Ev.ifT c1 (Ev.ifT ⟨by omega, by omega⟩ (Ev.bind hb (Ev.ifT c3 e3)))
        · rw [hX]
          simp only [rtab_l]
          exact Ev.ifT hlh (Ev.bind hrb (Ev.ifF (by simp only []; omega) (e4 out idx hi ho)))
      · obtain ⟨ss, e1, e3, e4⟩ := rcuts_ev l blk iv h1 h16 hc hw hl g (i + 1) (i + 1) (by omega) (by omega) (by omega) (fun h => h) (by omega)
        refine ⟨(l.take (i + 1)).drop lo :: ss, ⟨?_, ?_⟩, ?_, fun out idx hi ho => ?_⟩
        · rw [List.flatten_cons, e1.1]
          have := List.drop_append_of_le_length (l₁ := l.take (i + 1)) (l₂ := l.drop (i + 1)) (i := lo) (by rw [List.length_take]; omega)
          rw [List.take_append_drop] at this
          exact this.symm
        · intro s hs
          rcases List.mem_cons.1 hs with rfl | hs
          · intro e
            have := congrArg List.length e
            simp at this
            omega
          · exact e1.2 s hs
        · simp only [cuts_g]
          refine Ev.ifT c1 (Ev.ifT ⟨by omega, by omega⟩ (Ev.bind hb (Ev.ifF c3 ?_)))
          obtain ⟨K, hK⟩ := e3
          refine ⟨K, fun k hk => ?_⟩
          have := hK k hk
          simp only [] at this ⊢
          rw [this, Option.map_some, List.map_cons, rd_seg l lo (i + 1) (by omega) (by omega)]
          rfl
        · rw [List.length_cons] at hi ho
          have hB := lay_IsB iv h16 ((l.take (i + 1)).drop lo)
          obtain ⟨b, hbb⟩ : ∃ y, lay iv ((l.take (i + 1)).drop lo) = y := ⟨_, rfl⟩
          have hu := uv_len64 (n := out.length) (by omega)
          have hln : (out ++ (b ++ sm b)).length = out.length + b.length + 4 := by simp only [List.length_append, sm_length]; omega
          have ih := e4 (out ++ (b ++ sm b)) (idx ++ [⟨X.f0, strOfNums ([] ++ uv out.length ++ uv b.length)⟩]) (by rw [List.length_append, List.length_singleton]; omega) (by rw [hln]; rw [hbb] at hlen; omega)
          rw [hln] at ih
          rw [hbb] at hrb hB hlen c3
          rw [hX]
          simp only [rtab_l]
          refine Ev.ifT hlh (Ev.bind hrb (Ev.ifT (by simp only []; omega) (Ev.ifT (by omega) (Ev.bind (rputu_w out.length [] (by omega) (by simp)) (Ev.bind (rputu_w b.length _ (by omega) (by rw [List.nil_append]; omega)) (Ev.bind (rsummed_ev b hB (by omega)) (Ev.ifT (by rw [List.length_append, sm_length]; omega) ?_)))))))
          have e5 : out ++ outOf ((((l.take (i + 1)).drop lo :: ss).map (cutOf iv)).map (·.2)) = out ++ (b ++ sm b) ++ outOf ((ss.map (cutOf iv)).map (·.2)) := by
            simp only [List.map_cons, outOf, List.flatten_cons, List.append_assoc]
            rw [show (cutOf iv ((l.take (i + 1)).drop lo)).2 = b from hbb]
          have e6 : idx ++ idxOf out.length (((l.take (i + 1)).drop lo :: ss).map (cutOf iv)) = idx ++ [⟨X.f0, strOfNums ([] ++ uv out.length ++ uv b.length)⟩] ++ idxOf (out.length + b.length + 4) (ss.map (cutOf iv)) := by
            rw [List.map_cons, idxOf, show (cutOf iv ((l.take (i + 1)).drop lo)).2 = b from hbb, show (cutOf iv ((l.take (i + 1)).drop lo)).1 = X.f0 from hXk.symm, List.nil_append, List.append_assoc, List.singleton_append]
          rw [e5, e6]
          exact ih
    · refine ⟨[], ⟨by rw [List.drop_eq_nil_of_le (by omega)]; rfl, fun s hs => by cases hs⟩, ?_, fun out idx hi ho => ?_⟩
      · simp only [cuts_g]
        exact Ev.ifF c1 (Ev.now _)
      · rw [List.drop_eq_nil_of_le (show l.length ≤ i by omega)]
        simp only [rtab_l, List.map_nil, outOf, List.flatten_nil, List.append_nil, idxOf]
        exact Ev.now _
theorem rtab_e_ev (n : Nat) (out fl x : List Int) (hn : n ≤ 300) (hf : IsB fl) (hx : IsB x) (hl : out.length + fl.length + x.length < 1000000000) :
    Ev (fun k => rtab_e k n out fl x) (out ++ (fl ++ sm fl) ++ (x ++ sm x) ++ (fx 4 out.length ++ fx 4 fl.length ++ fx 4 (out.length + fl.length + 4) ++ fx 4 x.length ++ fx 4 n) ++ wordL) := by
  have hln : (out ++ (fl ++ sm fl)).length = out.length + fl.length + 4 := by simp only [List.length_append, sm_length]; omega
  have hln2 : (out ++ (fl ++ sm fl) ++ (x ++ sm x)).length = out.length + fl.length + 8 + x.length := by simp only [List.length_append, sm_length]; omega
  unfold rtab_e
  refine Ev.bind (rputf_w out.length [] (by omega) (by simp)) (Ev.bind (rputf_w fl.length _ (by omega) (by simp [fx_length])) (Ev.bind (rsummed_ev fl hf (by omega)) (Ev.ifT (by simp only [List.length_append, sm_length]; omega) ?_)))
  refine Ev.bind (rputf_w _ _ (by omega) (by simp [fx_length])) (Ev.bind (rputf_w x.length _ (by omega) (by simp [fx_length])) (Ev.bind (rsummed_ev x hx (by omega)) (Ev.ifT (by rw [hln]; simp only [List.length_append, sm_length]; omega) ?_)))
  refine Ev.bind (rputf_w n _ (by omega) (by simp [fx_length])) (Ev.ifT (by rw [hln2]; simp only [List.length_append, List.nil_append, fx_length]; omega) ?_)
  rw [hln]
  simp only [List.nil_append]
  exact Ev.now _
/-- any entries, any options -/
theorem both_ev (l : List S47) (blk iv : Int) (fb : Nat) (hl : l.length ≤ 300) (hw : ∀ e ∈ l, 0 ≤ e.f0.f1) (hs : ∀ e ∈ l, e.f0.f0.size ≤ 9223372036854775807) :
    ∃ r, Ev (fun k => tab_f k 1000 l blk iv fb) r ∧ Ev (fun k => rtab_f k l blk iv fb) r := by
  by_cases c1 : blk < 1
  · exact ⟨([], 1), by simp only [tab_f]; exact Ev.ifT c1 (Ev.now _), by simp only [rtab_f]; exact Ev.ifT c1 (Ev.now _)⟩
  by_cases c2 : 65536 < blk
  · exact ⟨([], 1), by simp only [tab_f]; exact Ev.ifF c1 (Ev.ifT c2 (Ev.now _)), by simp only [rtab_f]; exact Ev.ifF c1 (Ev.ifT c2 (Ev.now _))⟩
  by_cases c3 : iv < 1
  · exact ⟨([], 1), by simp only [tab_f]; exact Ev.ifF c1 (Ev.ifF c2 (Ev.ifT c3 (Ev.now _))), by simp only [rtab_f]; exact Ev.ifF c1 (Ev.ifF c2 (Ev.ifT c3 (Ev.now _)))⟩
  by_cases c4 : 16 < iv
  · exact ⟨([], 1), by simp only [tab_f]; exact Ev.ifF c1 (Ev.ifF c2 (Ev.ifF c3 (Ev.ifT c4 (Ev.now _)))), by simp only [rtab_f]; exact Ev.ifF c1 (Ev.ifF c2 (Ev.ifF c3 (Ev.ifT c4 (Ev.now _))))⟩
  obtain ⟨n, rfl⟩ := Int.eq_ofNat_of_zero_le (show 0 ≤ iv by omega)
  have hks : ∀ s ∈ l.map fun x => x.f0.f0, s.size ≤ 9223372036854775807 := fun s hsm => by obtain ⟨e, he, rfl⟩ := List.mem_map.mp hsm; exact hs e he
  obtain ⟨rb, hb1, hb2⟩ := rbloom_ev (l.map fun x => x.f0.f0) fb (by rw [List.length_map]; exact hl) hks
  have go : ∀ {r}, Ev (fun k => (bloomB k (l.map fun x => x.f0.f0) fb).bind fun f => if f.2 ≠ 0 then some ([], f.2) else if l.length = 0 then some ([], 120) else
    (block_Build.f k l (n : Int)).bind fun b => if b.2 ≠ 0 then some ([], b.2) else
    (cuts_g k l blk (n : Int) 1000 0 1).bind fun cs => (tab_step k cs [] []).bind fun oi => (block_Build.f k oi.2 1).bind fun x => (tab_parts k [f.1, x.1] oi.1 []).bind fun ot =>
    (codec_PutFixed.f k ot.2 (IntKind.u64.wrap (l.length : Int)) 4).bind fun tl => if ot.1.length + tl.length < 1000000000000 then some (ot.1 ++ tl ++ bytesOf tabMagic, 0) else none) r → Ev (fun k => tab_f k 1000 l blk (n : Int) fb) r := by
    intro r h
    simp only [tab_f]
    exact Ev.ifF c1 (Ev.ifF c2 (Ev.ifF c3 (Ev.ifF c4 (Ev.ifT hl h))))
  have gr : ∀ {r}, Ev (fun k => (rbloomB k (l.map fun x => x.f0.f0) fb).bind fun f => if f.2 ≠ 0 then some ([], f.2) else if l.length = 0 then some ([], 120) else
    (rck_f k l).bind fun e => if e ≠ 0 then some ([], e) else
    (rtab_l k l blk (n : Int) l 0 0 [] []).bind fun oi => (rbk_f k oi.2 1).bind fun x => (rtab_e k l.length oi.1 f.1 x.1).map fun o => (o, 0)) r → Ev (fun k => rtab_f k l blk (n : Int) fb) r := by
    intro r h
    simp only [rtab_f]
    exact Ev.ifF c1 (Ev.ifF c2 (Ev.ifF c3 (Ev.ifF c4 (Ev.ifT hl h))))
  rcases bloom_ev (l.map fun x => x.f0.f0) fb (by rw [List.length_map]; exact hl) hks with ⟨ho, fl, hbl, hfil⟩ | ⟨ho, hbl⟩
  case inr =>
    obtain rfl := Ev.one hb1 hbl
    exact ⟨([], 100), go (Ev.bind hbl (Ev.ifT (by decide) (Ev.now _))), gr (Ev.bind hb2 (Ev.ifT (by decide) (Ev.now _)))⟩
  obtain rfl := Ev.one hb1 hbl
  by_cases h0 : l.length = 0
  · exact ⟨([], 120), go (Ev.bind hbl (Ev.ifF (by simp) (Ev.ifT h0 (Ev.now _)))), gr (Ev.bind hb2 (Ev.ifF (by simp) (Ev.ifT h0 (Ev.now _))))⟩
  have hbb := Build_ev l (n : Int) (by omega) hw
  have hrc := rck_ev l (by omega)
  by_cases hc : ck none l = 0
  case neg =>
    have hv : blt l (n : Int) = ([], ck none l) := by
      unfold blt
      rw [if_neg (by omega), if_neg hc]
    rw [hv] at hbb
    exact ⟨([], ck none l), go (Ev.bind hbl (Ev.ifF (by simp) (Ev.ifF h0 (Ev.bind hbb (Ev.ifT hc (Ev.now _)))))), gr (Ev.bind hb2 (Ev.ifF (by simp) (Ev.ifF h0 (Ev.bind hrc (Ev.ifT hc (Ev.now _))))))⟩
  rw [blt_ok (by omega) (by omega) hc] at hbb
  obtain ⟨ss, ⟨e1, e2⟩, e3, e4⟩ := rcuts_ev l blk n (by omega) (by omega) hc hw hl 1000 0 0 (by omega) (by omega) (by omega) (fun _ => by omega) (by omega)
  rw [List.drop_zero] at e1 e4
  have T : TabOf l n ss fl := ⟨by omega, by omega, hc, fun e => h0 (by rw [e]; rfl), hl, hw, ⟨e1, e2⟩, hfil⟩
  have hst := step_ev (ss.map (cutOf n)) [] [] (fun x hx => by obtain ⟨s, hs2, rfl⟩ := List.mem_map.mp hx; exact ⟨lay_IsB n T.i16 s, T.lay_len hs2⟩) (by rw [List.length_nil, List.length_map]; have := T.ss_len; omega) (by rw [List.length_nil, List.length_map]; have := T.ss_len; omega)
  have hrl := e4 [] [] (by rw [List.length_nil]; have := T.ss_len; omega) (by rw [List.length_nil]; have := T.ss_len; omega)
  have hmm : (ss.map (cutOf n)).map (·.2) = ss.map (lay n) := by rw [List.map_map]; rfl
  rw [List.nil_append, List.nil_append, hmm, List.length_nil] at hst hrl
  have hx := Build_ev (idxOf 0 (ss.map (cutOf n))) 1 (by rw [T.ix_n]; have := T.ss_len; omega) T.ix_w
  have hrx := rbk_ev (idxOf 0 (ss.map (cutOf n))) 1 (by rw [T.ix_n]; have := T.ss_len; omega) T.ix_w
  have hx1 : blt (idxOf 0 (ss.map (cutOf n))) 1 = (ixB n ss, 0) := blt_ok (iv := 1) (by decide) (by decide) T.ix_ck
  rw [hx1] at hx hrx
  have hol := T.out_len
  have hil := T.ix_len
  have hfl := T.fil.len
  have hp := parts_ev fl (ixB n ss) (outB n ss) hfil.b (lay_IsB 1 (by decide) _) (by omega)
  have hf := Putf_w l.length (fx 4 (outB n ss).length ++ (fx 4 fl.length ++ (fx 4 ((outB n ss).length + fl.length + 4) ++ fx 4 (ixB n ss).length))) (by omega) (by simp only [List.length_append, fx_length]; omega)
  have hre := rtab_e_ev l.length (outB n ss) fl (ixB n ss) hl hfil.b (lay_IsB 1 (by decide) _) (by omega)
  refine ⟨(tabB n ss fl l.length, 0), go (Ev.bind hbl (Ev.ifF (by simp) (Ev.ifF h0 (Ev.bind hbb (Ev.ifF (by simp) (Ev.bind e3 (Ev.bind hst (Ev.bind hx (Ev.bind hp (Ev.bind hf (Ev.ifT ?_ ?_))))))))))), gr (Ev.bind hb2 (Ev.ifF (by simp) (Ev.ifF h0 (Ev.bind hrc (Ev.ifF (by simp [hc]) (Ev.bind hrl (Ev.bind hrx ?_)))))))⟩
  · simp only [List.length_append, fx_length, sm_length]
    omega
  · have : outB n ss ++ ((fl ++ sm fl) ++ (ixB n ss ++ sm (ixB n ss))) ++ (fx 4 (outB n ss).length ++ (fx 4 fl.length ++ (fx 4 ((outB n ss).length + fl.length + 4) ++ fx 4 (ixB n ss).length)) ++ fx 4 l.length) ++ bytesOf tabMagic = tabB n ss fl l.length := by
      simp only [tabB, footB, List.append_assoc]
    rw [← this]
    exact Ev.now _
  · obtain ⟨K, hK⟩ := hre
    refine ⟨K, fun k hk => ?_⟩
    have := hK k hk
    simp only [] at this ⊢
    have hwd : wordL = bytesOf tabMagic := rfl
    have e9 : outB n ss ++ (fl ++ sm fl) ++ (ixB n ss ++ sm (ixB n ss)) ++ (fx 4 (outB n ss).length ++ fx 4 fl.length ++ fx 4 ((outB n ss).length + fl.length + 4) ++ fx 4 (ixB n ss).length ++ fx 4 l.length) ++ wordL = tabB n ss fl l.length := by
      simp only [tabB, footB, List.append_assoc, hwd]
    show (rtab_e k l.length (outB n ss) fl (ixB n ss)).map (fun o => (o, (0 : Int))) = _
    rw [this, e9]
    rfl
end Go.Proofs.Ythdemdjobgbpdaa.Q
namespace Go.Proofs.Ythdemdjobgbpdaa.Q
open Go.RowKit Go.Proofs.YthdemdjobgbpdaaW.PrintWords Go.Proofs.YthdemdjobgbpdaaW.PrintLast Go.Proofs.YthdemdjobgbpdaaW.PrintMore Go.Proofs.Ythdemdjobgbpdaa.P Go.Proofs.Ythdemdjobgbpdaa.M Go.Proofs.Ythdemdjobgbpdaa.B Go.Proofs.Ythdemdjobgbpdaa.T
theorem builds_ev (l : List S47) (blk iv : Int) (fb : Nat) (hw : ∀ e ∈ l, 0 ≤ e.f0.f1) (hs : ∀ e ∈ l, e.f0.f0.size ≤ 9223372036854775807) : ∃ k, Builds k l blk iv fb := by
  have hl := cut3h_len l
  obtain ⟨r, ⟨K0, h0⟩, ⟨K1, h1⟩⟩ := both_ev (cut3h l) blk iv fb hl (fun e he => hw e (cut3h_mem he)) (fun e he => hs e (cut3h_mem he))
  obtain ⟨K2, h2⟩ := Same_ev (cut3h l) (by omega)
  exact ⟨K0 + K1 + K2, r, h0 _ (by omega), h1 _ (by omega), h2 _ (by omega)⟩
end Go.Proofs.Ythdemdjobgbpdaa.Q
namespace Go.Proofs.Ythdemdjobgbpdaa.P
open Go.RowKit Go.Proofs.YthdemdjobgbpdaaW.PrintWords
theorem staddlelaw12_SstableBuilds.calls (k : Nat) (A0 : Option Addr) (c0 : Nat) (l0 : List S47) (a1_0 a1_1 : Int) (a1_2 : Nat) (r : Bool) (w : World) (hr0 : Kd.C k47 w A0 l0.length l0) (hc0 : l0.length ≤ c0) (hf : T.Builds k l0 a1_0 a1_1 a1_2 ∧ true = r) :
    Calls Try.prog 4 #[.slice A0 l0.length c0, .agg #[.int .i64 a1_0, .int .i64 a1_1, .float .f64 a1_2]] w fun e w' => e = .returned (.bool r) ∧ Below w.heap.size w w' := by
  obtain ⟨hf, rfl⟩ := hf
  exact T.builds_calls k A0 c0 l0 a1_0 a1_1 a1_2 w hr0 hc0 hf
end Go.Proofs.Ythdemdjobgbpdaa.P
