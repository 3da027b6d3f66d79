/- The walk of SstableBack. -/
import Derived.Test.YthdemdjobgbpdaaQH
set_option linter.unusedVariables false
set_option linter.unusedSimpArgs false
namespace Go.Proofs.Ythdemdjobgbpdaa.T
open Go.RowKit Go.Shelf Go.Proofs.YthdemdjobgbpdaaW.PrintWords Go.Proofs.YthdemdjobgbpdaaW.PrintLast Go.Proofs.YthdemdjobgbpdaaW.PrintMore Go.Proofs.Ythdemdjobgbpdaa.P Go.Proofs.Ythdemdjobgbpdaa.B Go.Proofs.Ythdemdjobgbpdaa.Q
attribute [local go_sem] Oper.semAt_some
set_option linter.unusedVariables false
set_option linter.unusedSimpArgs false
/-- what is asked -/
def backAsks (L : List S47) (user : ByteArray) (seq : Int) (u : ByteArray) (s : Int) : Prop := (u = user ∧ s = seq) ∨ ∃ i : Nat, i < L.length ∧ u = (rd_T47 L (i : Int)).f0.f0 ∧ s = (rd_T47 L (i : Int)).f0.f1
def Back (k : Nat) (l : List S47) (blk iv : Int) (fb : Nat) (user : ByteArray) (seq : Int) : Prop :=
  ∃ r, tab_f k 1000 (cut3h l) blk iv fb = some r ∧ staddleref08_Same.f k (cut3h l) (cut3h l) = some true ∧
    ((r.2 ≠ 0 ∧ r.1 = []) ∨ (r.2 = 0 ∧ (∃ fl ps, TabAt k (cut3h l) r.1 fl ps (backAsks (cut3h l) user seq)) ∧ ∀ u s, backAsks (cut3h l) user seq u s → staddleref08_Get.f k (cut3h l) u s = some ((known (cut3h l) u s).1, (known (cut3h l) u s).2.1)))
set_option maxHeartbeats 8000000 in
set_option maxRecDepth 100000 in
theorem back_calls (k : Nat) (A0 : Option Addr) (c0 : Nat) (l0 : List S47) (b1 i1 : Int) (f1 : Nat) (user : ByteArray) (seq : Int) (w : World) (hr0 : Kd.C k47 w A0 l0.length l0) (hc0 : l0.length ≤ c0) (hf : Back k l0 b1 i1 f1 user seq) :
    Calls Try.prog 5 #[.slice A0 l0.length c0, .agg #[.int .i64 b1, .int .i64 i1, .float .f64 f1], .string user, .int .u64 seq] w fun e w' => e = .returned (.bool true) ∧ Below w.heap.size w w' := by
  have HR0 := Aside0.mk hr0
  have HC0 := Aside0.mk hc0
  have HF := Aside0.mk hf
  have hK0 := Aside0.mk (cut3h_len l0)
  clear hr0 hc0 hf
  go_enter Try.func5, Try.ntmps5
  go_upto_region 1 with fail
  obtain ⟨w2, hw2⟩ : ∃ y, w.alloc (.cells #[.int .i64 b1, .int .i64 i1, .float .f64 f1] 26) = y := ⟨_, rfl⟩
  have HB2 : Aside0 (Below w.heap.size w w2) := ⟨by rw [← hw2]; exact below_alloc (Below.refl _ _) _⟩
  have BO2 : Aside0 (w2.heap[w.heap.size]? = some (.cells #[.int .i64 b1, .int .i64 i1, .float .f64 f1] 26 (0, 0))) := ⟨by rw [← hw2]; exact blk_new w _⟩
  rw [hw2]
  clear hw2
  go_upto_region 2 with (first
    | (go_at_call 9; with_reducible refine (awake_calls _).mono ?_; rintro e w3 ⟨rfl, hb⟩
       have BO3 := Aside0.mk (blk_below BO2.out hb)
       have HB3 := Aside0.mk (below_step HB2.out hb)
       clear hb))
  go_upto_if 26 with fail
  go_cut [0] (fun v0 wc => ∃ (c1 : Nat), v0 = .slice A0 (cut3h l0).length c1 ∧ Aside0 ((cut3h l0).length ≤ c1) ∧ Aside0 (Kd.C k47 wc A0 (cut3h l0).length (cut3h l0)) ∧ Aside0 (wc.heap[w.heap.size]? = some (.cells #[.int .i64 b1, .int .i64 i1, .float .f64 f1] 26 (0, 0))) ∧ Aside0 (Below w.heap.size w wc))
  case first =>
    by_cases c : 300 < l0.length
    · have hcut : cut3h l0 = l0.take 300 := by unfold cut3h; rw [if_pos c]
      have hlen : (l0.take 300).length = 300 := by rw [List.length_take]; omega
      have HRC : Aside0 (Kd.C k47 w3 A0 (l0.take 300).length (l0.take 300)) := ⟨Kd.C_take (Kd.C_below HR0.out HB3.out) (by omega)⟩
      have c4b0 : decide (300 < (l0.length : Int)) = true := decide_eq_true (by omega)
      have c4b1 : decide (300 < l0.length) = true := decide_eq_true c
      have c5b0 := eq_true (show 300 ≤ (l0.length : Int) by omega)
      have c5b1 : decide (300 ≤ (l0.length : Int)) = true := decide_eq_true (by omega)
      have c5b2 : (300 : Int) ≤ (c0 : Int) := by have := HC0.out; omega
      have c5b3 : 300 ≤ c0 := by have := HC0.out; omega
      (first | rw [c4b0] | rw [c4b1] | (simp only [i64_w, i32_w]; rw [c4b0]) | skip)
      go_wp2
      go_meet
      case rel =>
        refine ⟨c0, ?_, ⟨by rw [hcut, hlen]; exact c5b3⟩, ⟨by rw [hcut]; exact HRC.out⟩, BO3, HB3⟩
        rw [hcut, hlen]
    · have hcut : cut3h l0 = l0 := by unfold cut3h; rw [if_neg c]
      have c4b0 : decide (300 < (l0.length : Int)) = false := decide_eq_false (by omega)
      have c4b1 : decide (300 < l0.length) = false := decide_eq_false c
      have HRC : Aside0 (Kd.C k47 w3 A0 l0.length l0) := ⟨Kd.C_below HR0.out HB3.out⟩
      (first | rw [c4b0] | rw [c4b1] | (simp only [i64_w, i32_w]; rw [c4b0]) | skip)
      go_wp2
      go_meet
      case rel => exact ⟨c0, by rw [hcut], ⟨by rw [hcut]; exact HC0.out⟩, ⟨by rw [hcut]; exact HRC.out⟩, BO3, HB3⟩
  case rest =>
    clear HR0 HC0 BO2 BO3 HB2 HB3
    obtain ⟨c1, rfl, HC1, HR1, BO1, HB1⟩ := hcut
    obtain ⟨r1, hr1, hsame, h1⟩ := HF.out
    clear HF
    generalize cut3h l0 = L at *
    have HR1E := Aside0.mk hr1
    have HSM := Aside0.mk hsame
    have H1 := Aside0.mk h1
    clear hr1 h1 hsame
    obtain ⟨bs1, e1⟩ := r1
    have k0 := (blk_cell BO1.out 0).trans (show _ = some (Value.int .i64 b1) from rfl)
    have k1 := (blk_cell BO1.out 1).trans (show _ = some (Value.int .i64 i1) from rfl)
    have k2 := (blk_cell BO1.out 2).trans (show _ = some (Value.float .f64 f1) from rfl)
    go_upto_region 5 with (first
      | (go_at_call 10; with_reducible refine (tab_calls k 1000 A0 c1 L b1 i1 f1 (bs1, e1) _ HR1.out HC1.out HR1E.out).mono ?_; rintro ex w4 ⟨v4, rfl, hob, hb⟩
         have HR4 := Aside0.mk (Kd.C_below HR1.out hb)
         have HB4 := Aside0.mk (below_step HB1.out hb)
         obtain ⟨A4, c4, e4⟩ := Kd.R_slice hob
         subst e4
         have HO4 := Aside0.mk hob
         clear hob hb k0 k1 k2))
    by_cases he1 : e1 = 0
    case neg =>
      have hb1 : (e1 != 0) = true := bne_iff_ne.mpr he1
      have hnil : bs1 = [] := by
        rcases H1.out with h | h
        · exact h.2
        · exact absurd h.1 he1
      subst hnil
      clear he1 H1
      go_wp2
      go_ret
      exact ⟨rfl, HB4.out⟩
    case pos =>
    subst he1
    obtain ⟨_, ⟨fl1, ps1, T1⟩, hrg⟩ := H1.out.resolve_left (fun h => h.1 rfl)
    try dsimp only at T1
    have T1 := Aside0.mk T1
    have HRG := Aside0.mk hrg
    clear H1 hrg
    obtain ⟨pl0, pl1⟩ := T1.out.blk
    have q1 : decide ((ps1.length : Int) < 1) = false := decide_eq_false (by omega)
    have q2 : decide ((ps1.length : Int) > (L.length : Int)) = false := decide_eq_false (by omega)
    have q3 : decide (ps1.length < 1) = false := decide_eq_false (by omega)
    have q4 : decide (L.length < ps1.length) = false := decide_eq_false (by omega)
    have HG1 := T1.out.get user seq (.inl ⟨rfl, rfl⟩)
    have HG2 := HRG.out user seq (.inl ⟨rfl, rfl⟩)
    have hz := tell_ok L (fi L ⟨user, capSeq seq, 1⟩) user
    obtain ⟨⟨kv, kw, ke⟩, hkn⟩ : ∃ y, known L user seq = y := ⟨_, rfl⟩
    rw [hkn] at HG1 HG2
    have hz : ke = 0 := by
      have h5 : (known L user seq).2.2 = 0 := hz
      rw [hkn] at h5
      exact h5
    subst hz
    have HG1 := Aside0.mk HG1
    have HG2 := Aside0.mk HG2
    clear hkn pl0 pl1 hz
    go_upto_region 18 with (first
      | (go_at_call 13; with_reducible refine (T1.out.open_calls A4 c4 _ (Kd.R_reads' HO4.out).2.2 (Kd.R_reads' HO4.out).2.1).mono ?_; rintro ex w6 ⟨g1, rfl, hge, htab, hb⟩
         have HT6 := Aside0.mk htab
         have HR6 := Aside0.mk (Kd.C_below HR4.out hb)
         have HB6 := Aside0.mk (below_step HB4.out hb)
         clear hge htab hb)
      | (go_at_call 14; with_reducible refine (all_calls k g1 bs1 fl1 ps1 (L.length : Int) (some L) _ HT6.out T1.out.all).mono ?_; rintro ex w8 ⟨hb, v8, rfl, hob⟩
         have HT8 := Aside0.mk (HT6.out.below hb)
         have HR8 := Aside0.mk (Kd.C_below HR6.out hb)
         have HB8 := Aside0.mk (below_step HB6.out hb)
         obtain ⟨A8, c8, e8⟩ := Kd.R_slice hob
         subst e8
         have HO8 := Aside0.mk hob
         clear hob hb)
      | (go_at_call 12; with_reducible refine (staddleref08_Same.calls k A8 c8 L A0 c1 L true _ (Kd.R_reads' HO8.out).2.2 (Kd.R_reads' HO8.out).2.1 HR8.out HC1.out HSM.out).mono ?_; rintro ex w10 ⟨rfl, ⟨nd, hw10⟩⟩
         have HT10 : Aside0 (IsTab w10 g1 bs1 fl1 ps1 (L.length : Int)) := ⟨by rw [hw10]; exact HT8.out.below (pw_below_drewN (Below.refl _ _) nd)⟩
         have HR10 : Aside0 (Kd.C k47 w10 A0 L.length L) := ⟨by rw [hw10]; exact Kd.C_drewN HR8.out nd⟩
         have HB10 : Aside0 (Below w.heap.size w w10) := ⟨by rw [hw10]; exact pw_below_drewN HB8.out nd⟩
         clear hw10)
      | (go_at_call 15; with_reducible refine (blocks_calls g1 bs1 fl1 ps1 (L.length : Int) _ HT10.out).mono ?_; rintro ex w11 ⟨rfl, hww⟩; obtain rfl := hww.symm)
      | (go_at_call 16; with_reducible refine (get_calls k g1 bs1 fl1 ps1 (L.length : Int) user seq (kv, kw, 0) _ HT10.out HG1.out).mono ?_; rintro ex w12 ⟨rfl, hb⟩
         have HT12 := Aside0.mk (HT10.out.below hb)
         have HR12 := Aside0.mk (Kd.C_below HR10.out hb)
         have HB12 := Aside0.mk (below_step HB10.out hb)
         clear hb)
      | (go_at_call 17; with_reducible refine (staddleref08_Get.calls k A0 c1 L user seq kv kw _ HR12.out HC1.out HG2.out).mono ?_; rintro ex w13 ⟨rfl, ⟨nd2, hw13⟩⟩
         have HT13 : Aside0 (IsTab w13 g1 bs1 fl1 ps1 (L.length : Int)) := ⟨by rw [hw13]; exact HT12.out.below (pw_below_drewN (Below.refl _ _) nd2)⟩
         have HR13 : Aside0 (Kd.C k47 w13 A0 L.length L) := ⟨by rw [hw13]; exact Kd.C_drewN HR12.out nd2⟩
         have HB13 : Aside0 (Below w.heap.size w w13) := ⟨by rw [hw13]; exact pw_below_drewN HB12.out nd2⟩
         clear hw13))
    clear HG1 HG2 q1 q2 q3 q4
    go_upto_region 19 with fail
    go_loopg [22] (L.length + 1) (fun gf v22 wx => ∃ i : Nat, v22 = .int .i64 (i : Int) ∧ Aside0 (gf + i = L.length + 1 ∧ i ≤ L.length) ∧ Aside0 (IsTab wx g1 bs1 fl1 ps1 (L.length : Int)) ∧ Aside0 (Kd.C k47 wx A0 L.length L) ∧ Aside0 (Below w.heap.size w wx))
    case atStart => exact ⟨0, rfl, ⟨by omega, by omega⟩, HT13, HR13, HB13⟩
    case round =>
      clear HT13 HR13 HB13
      obtain ⟨i, rfl, HI, HT13, HR13, HB13⟩ := hrel
      cases gk with
      | zero => exact absurd HI.out.1 (by have := HI.out.2; omega)
      | succ g_ =>
        by_cases ci : i < L.length
        · have d1 : decide ((i : Int) < (L.length : Int)) = true := decide_eq_true (by omega)
          have d1b : decide (i < L.length) = true := decide_eq_true ci
          have d2 := eq_true (show (i : Int) < (L.length : Int) by omega)
          have d3 := eq_true (show (0 : Int) ≤ (i : Int) by omega)
          have HI1 : Aside0 (wrap64 ((i : Int) + 1) = ((i + 1 : Nat) : Int)) := ⟨tv_w2 i (by have := hK0.out; omega)⟩
          have HCI := Aside0.mk ci
          have HX1 := T1.out.get (rd_T47 L (i : Int)).f0.f0 (rd_T47 L (i : Int)).f0.f1 (.inr ⟨i, ci, rfl, rfl⟩)
          have HX2 := HRG.out (rd_T47 L (i : Int)).f0.f0 (rd_T47 L (i : Int)).f0.f1 (.inr ⟨i, ci, rfl, rfl⟩)
          obtain ⟨al, eA, q0, q1, q2, q3⟩ := at_T47 HR13.out (i : Int) (Int.natCast_nonneg i) (by omega)
          subst eA
          rw [Int.toNat_natCast] at q0 q1
          obtain ⟨E, hE⟩ : ∃ y, rd_T47 L (i : Int) = y := ⟨_, rfl⟩
          rw [hE] at HX1 HX2 q0 q1
          have hz := tell_ok L (fi L ⟨E.f0.f0, capSeq E.f0.f1, 1⟩) E.f0.f0
          obtain ⟨⟨xv, xw, xe⟩, hkn⟩ : ∃ y, known L E.f0.f0 E.f0.f1 = y := ⟨_, rfl⟩
          rw [hkn] at HX1 HX2
          have hz : xe = 0 := by
            have h5 : (known L E.f0.f0 E.f0.f1).2.2 = 0 := hz
            rw [hkn] at h5
            exact h5
          subst hz
          have HX1 := Aside0.mk HX1
          have HX2 := Aside0.mk HX2
          clear hkn hz hE ci q2 q3
          go_upto_region 21 with fail
          have HTd := Aside0.mk (HT13.out.below (below_drew1 (Below.refl _ _)))
          have HRd := Aside0.mk (Kd.C_drew HR13.out)
          have HBd := Aside0.mk (below_drew1 HB13.out)
          go_wp2_with fail
          refine start_ (n := 21) (S := fun w' => w'.cell? (al.add (i * 4)) = some (.string E.f0.f0) ∧ w'.cell? ⟨(al.add (i * 4)).block, (al.add (i * 4)).off + 1, none⟩ = some (.int .u64 E.f0.f1)) (ds := []) #[false, false, false, false, false, false, false, false, false, false, false, false, false, false, false, false, false, false, false, false, false] (by kernel_rfl) rfl rfl ⟨(by exact q0), (by exact q1)⟩ (fun hHeld => ?_)
          refine pure_ (i := 0) (N := some 118) (v := ?_) (a' := ?_) #[true, false, false, false, false, false, false, false, false, false, false, false, false, false, false, false, false, false, false, false, false] rfl rfl (by kernel_rfl) (fun _ _ _ h => h) (Or.inl ⟨by rfl, ?_⟩) ?_ ?_
          rotate_left
          · intro w'
            go_simp
            with_reducible rfl
          rotate_left
          · simp only [Act.put, List.setIfInBounds_toArray, List.set_cons_zero, List.set_cons_succ, i64_w, i32_w]
            rfl
          refine pure_ (i := 1) (N := some 119) (v := ?_) (a' := ?_) #[true, true, false, false, false, false, false, false, false, false, false, false, false, false, false, false, false, false, false, false, false] rfl rfl (by kernel_rfl) (fun _ _ _ h => h) (Or.inl ⟨by rfl, ?_⟩) ?_ ?_
          rotate_left
          · intro w'
            go_simp
            with_reducible rfl
          rotate_left
          · simp only [Act.put, List.setIfInBounds_toArray, List.set_cons_zero, List.set_cons_succ, i64_w, i32_w]
            rfl
          refine pure_ (i := 2) (N := some 120) (v := ?_) (a' := ?_) #[true, true, true, false, false, false, false, false, false, false, false, false, false, false, false, false, false, false, false, false, false] rfl rfl (by kernel_rfl) (fun _ _ _ h => h) (Or.inl ⟨by rfl, ?_⟩) ?_ ?_
          rotate_left
          · intro w'
            go_simp
            with_reducible rfl
          rotate_left
          · simp only [Act.put, List.setIfInBounds_toArray, List.set_cons_zero, List.set_cons_succ, i64_w, i32_w]
            rfl
          refine pure_ (i := 3) (N := some 121) (v := ?_) (a' := ?_) #[true, true, true, true, false, false, false, false, false, false, false, false, false, false, false, false, false, false, false, false, false] rfl rfl (by kernel_rfl) (fun _ _ _ h => h) (Or.inl ⟨by rfl, ?_⟩) ?_ ?_
          rotate_left
          · intro w'
            go_simp
            with_reducible rfl
          rotate_left
          · simp only [Act.put, List.setIfInBounds_toArray, List.set_cons_zero, List.set_cons_succ, i64_w, i32_w]
            rfl
          refine pure_ (i := 4) (N := some 122) (v := ?_) (a' := ?_) #[true, true, true, true, true, false, false, false, false, false, false, false, false, false, false, false, false, false, false, false, false] rfl rfl (by kernel_rfl) (fun _ _ _ h => h) (Or.inl ⟨by rfl, ?_⟩) ?_ ?_
          rotate_left
          · intro w'
            go_simp
            with_reducible rfl
          rotate_left
          · simp only [Act.put, List.setIfInBounds_toArray, List.set_cons_zero, List.set_cons_succ, i64_w, i32_w]
            rfl
          refine pure_ (i := 5) (N := some 123) (v := ?_) (a' := ?_) #[true, true, true, true, true, true, false, false, false, false, false, false, false, false, false, false, false, false, false, false, false] rfl rfl (by kernel_rfl) (fun _ _ _ h => h) (Or.inl ⟨by rfl, ?_⟩) ?_ ?_
          rotate_left
          · intro w'
            go_simp
            with_reducible rfl
          rotate_left
          · simp only [Act.put, List.setIfInBounds_toArray, List.set_cons_zero, List.set_cons_succ, i64_w, i32_w]
            rfl
          refine pure_ (i := 7) (N := some 125) (v := ?_) (a' := ?_) #[true, true, true, true, true, true, false, true, false, false, false, false, false, false, false, false, false, false, false, false, false] rfl rfl (by kernel_rfl) (fun _ _ _ h => h) (Or.inl ⟨by rfl, ?_⟩) ?_ ?_
          rotate_left
          · intro w'
            go_simp
            with_reducible rfl
          rotate_left
          · simp only [Act.put, List.setIfInBounds_toArray, List.set_cons_zero, List.set_cons_succ, i64_w, i32_w]
            rfl
          refine pure_ (i := 8) (N := some 126) (v := ?_) (a' := ?_) #[true, true, true, true, true, true, false, true, true, false, false, false, false, false, false, false, false, false, false, false, false] rfl rfl (by kernel_rfl) (fun _ _ _ h => h) (Or.inl ⟨by rfl, ?_⟩) ?_ ?_
          rotate_left
          · intro w'
            go_simp
            with_reducible rfl
          rotate_left
          · simp only [Act.put, List.setIfInBounds_toArray, List.set_cons_zero, List.set_cons_succ, i64_w, i32_w]
            rfl
          refine pure_ (i := 9) (N := some 127) (v := ?_) (a' := ?_) #[true, true, true, true, true, true, false, true, true, true, false, false, false, false, false, false, false, false, false, false, false] rfl rfl (by kernel_rfl) (fun _ _ _ h => h) (Or.inl ⟨by rfl, ?_⟩) ?_ ?_
          rotate_left
          · intro w'
            go_simp
            with_reducible rfl
          rotate_left
          · simp only [Act.put, List.setIfInBounds_toArray, List.set_cons_zero, List.set_cons_succ, i64_w, i32_w]
            rfl
          refine pure_ (i := 10) (N := some 128) (v := ?_) (a' := ?_) #[true, true, true, true, true, true, false, true, true, true, true, false, false, false, false, false, false, false, false, false, false] rfl rfl (by kernel_rfl) (fun _ _ _ h => h) (Or.inl ⟨by rfl, ?_⟩) ?_ ?_
          rotate_left
          · intro w'
            go_simp
            with_reducible rfl
          rotate_left
          · simp only [Act.put, List.setIfInBounds_toArray, List.set_cons_zero, List.set_cons_succ, i64_w, i32_w]
            rfl
          refine pure_ (i := 11) (N := some 129) (v := ?_) (a' := ?_) #[true, true, true, true, true, true, false, true, true, true, true, true, false, false, false, false, false, false, false, false, false] rfl rfl (by kernel_rfl) (fun _ _ _ h => h) (Or.inl ⟨by rfl, ?_⟩) ?_ ?_
          rotate_left
          · intro w'
            go_simp
            with_reducible rfl
          rotate_left
          · simp only [Act.put, List.setIfInBounds_toArray, List.set_cons_zero, List.set_cons_succ, i64_w, i32_w]
            rfl
          refine take_ (i := 6) (N := some 124) (v := ?_) (a' := ?_) #[true, true, true, true, true, true, true, true, true, true, true, true, false, false, false, false, false, false, false, false, false] rfl rfl (by kernel_rfl) (fun _ _ _ h => h) (Or.inl ⟨by rfl, ?_⟩) hHeld ?_ ?_
          rotate_left
          · rintro w' ⟨s0, s1⟩
            go_simp
            with_reducible rfl
          rotate_left
          · simp only [Act.put, List.setIfInBounds_toArray, List.set_cons_zero, List.set_cons_succ, i64_w, i32_w]
            rfl
          refine take_ (i := 12) (N := some 130) (v := ?_) (a' := ?_) #[true, true, true, true, true, true, true, true, true, true, true, true, true, false, false, false, false, false, false, false, false] rfl rfl (by kernel_rfl) (fun _ _ _ h => h) (Or.inl ⟨by rfl, ?_⟩) hHeld ?_ ?_
          rotate_left
          · rintro w' ⟨s0, s1⟩
            go_simp
            with_reducible rfl
          rotate_left
          · simp only [Act.put, List.setIfInBounds_toArray, List.set_cons_zero, List.set_cons_succ, i64_w, i32_w]
            rfl
          refine one_ (i := 13) (N := some 131) #[true, true, true, true, true, true, true, true, true, true, true, true, true, true, false, false, false, false, false, false, false] rfl rfl (by kernel_rfl) (by decide) (fun K hK => ?_)
          refine goes_ Try.func16 (by kernel_rfl) rfl #[.pointer (some ⟨g1, 0, none⟩), .string E.f0.f0, .int .u64 E.f0.f1] (by rfl) rfl rfl (by simp only [List.map_toArray, List.map_cons, List.map_nil]; rfl) ?_
          with_reducible refine (get_calls k g1 bs1 fl1 ps1 (L.length : Int) E.f0.f0 E.f0.f1 (xv, xw, 0) _ HTd.out HX1.out).mono ?_
          rintro ex w14 ⟨rfl, hb⟩
          refine ⟨_, rfl, ?_⟩
          have HT14 := Aside0.mk (HTd.out.below hb)
          have HR14 := Aside0.mk (Kd.C_below HRd.out hb)
          have HB14 := Aside0.mk (below_step HBd.out hb)
          have p0 := (hb.cell (World.block_lt_of_cell? _ _ hHeld.1)).trans hHeld.1
          have p1 := (hb.cell (World.block_lt_of_cell? _ _ hHeld.2)).trans hHeld.2
          clear hb
          refine hK.out _ _ ⟨p0, p1⟩ (fun hHeld => ?_)
          clear hK K
          refine norm_ (a' := ?_) ?_ ?_
          rotate_left
          · show Act.put _ (some 131) _ = _
            simp only [Act.put, List.setIfInBounds_toArray, List.set_cons_zero, List.set_cons_succ, i64_w, i32_w]
            rfl
          refine pure_ (i := 14) (N := some 117) (v := ?_) (a' := ?_) #[true, true, true, true, true, true, true, true, true, true, true, true, true, true, true, false, false, false, false, false, false] rfl rfl (by kernel_rfl) (fun _ _ _ h => h) (Or.inl ⟨by rfl, ?_⟩) ?_ ?_
          rotate_left
          · intro w'
            go_simp
            with_reducible rfl
          rotate_left
          · simp only [Act.put, List.setIfInBounds_toArray, List.set_cons_zero, List.set_cons_succ, i64_w, i32_w]
            rfl
          refine pure_ (i := 15) (N := some 132) (v := ?_) (a' := ?_) #[true, true, true, true, true, true, true, true, true, true, true, true, true, true, true, true, false, false, false, false, false] rfl rfl (by kernel_rfl) (fun _ _ _ h => h) (Or.inl ⟨by rfl, ?_⟩) ?_ ?_
          rotate_left
          · intro w'
            go_simp
            with_reducible rfl
          rotate_left
          · simp only [Act.put, List.setIfInBounds_toArray, List.set_cons_zero, List.set_cons_succ, i64_w, i32_w]
            rfl
          refine pure_ (i := 16) (N := some 133) (v := ?_) (a' := ?_) #[true, true, true, true, true, true, true, true, true, true, true, true, true, true, true, true, true, false, false, false, false] rfl rfl (by kernel_rfl) (fun _ _ _ h => h) (Or.inl ⟨by rfl, ?_⟩) ?_ ?_
          rotate_left
          · intro w'
            go_simp
            with_reducible rfl
          rotate_left
          · simp only [Act.put, List.setIfInBounds_toArray, List.set_cons_zero, List.set_cons_succ, i64_w, i32_w]
            rfl
          refine pure_ (i := 17) (N := some 134) (v := ?_) (a' := ?_) #[true, true, true, true, true, true, true, true, true, true, true, true, true, true, true, true, true, true, false, false, false] rfl rfl (by kernel_rfl) (fun _ _ _ h => h) (Or.inl ⟨by rfl, ?_⟩) ?_ ?_
          rotate_left
          · intro w'
            go_simp
            with_reducible rfl
          rotate_left
          · simp only [Act.put, List.setIfInBounds_toArray, List.set_cons_zero, List.set_cons_succ, i64_w, i32_w]
            rfl
          refine pure_ (i := 18) (N := some 17) (v := ?_) (a' := ?_) #[true, true, true, true, true, true, true, true, true, true, true, true, true, true, true, true, true, true, true, false, false] rfl rfl (by kernel_rfl) (fun _ _ _ h => h) (Or.inl ⟨by rfl, ?_⟩) ?_ ?_
          rotate_left
          · intro w'
            go_simp
            with_reducible rfl
          rotate_left
          · simp only [Act.put, List.setIfInBounds_toArray, List.set_cons_zero, List.set_cons_succ, i64_w, i32_w]
            rfl
          refine pure_ (i := 19) (N := some 18) (v := ?_) (a' := ?_) #[true, true, true, true, true, true, true, true, true, true, true, true, true, true, true, true, true, true, true, true, false] rfl rfl (by kernel_rfl) (fun _ _ _ h => h) (Or.inl ⟨by rfl, ?_⟩) ?_ ?_
          rotate_left
          · intro w'
            go_simp
            with_reducible rfl
          rotate_left
          · simp only [Act.put, List.setIfInBounds_toArray, List.set_cons_zero, List.set_cons_succ, i64_w, i32_w]
            rfl
          refine pure_ (i := 20) (N := some 19) (v := ?_) (a' := ?_) #[true, true, true, true, true, true, true, true, true, true, true, true, true, true, true, true, true, true, true, true, true] rfl rfl (by kernel_rfl) (fun _ _ _ h => h) (Or.inl ⟨by rfl, ?_⟩) ?_ ?_
          rotate_left
          · intro w'
            go_simp
            with_reducible rfl
          rotate_left
          · simp only [Act.put, List.setIfInBounds_toArray, List.set_cons_zero, List.set_cons_succ, i64_w, i32_w]
            rfl
          refine done_ (by kernel_rfl) ?_
          go_upto_region 22 with fail
          have HTe := Aside0.mk (HT14.out.below (below_drew1 (Below.refl _ _)))
          have HRe := Aside0.mk (Kd.C_drew HR14.out)
          have HBe := Aside0.mk (below_drew1 HB14.out)
          go_wp2_with fail
          refine start_ (n := 19) (S := fun w' => w'.cell? (al.add (i * 4)) = some (.string E.f0.f0) ∧ w'.cell? ⟨(al.add (i * 4)).block, (al.add (i * 4)).off + 1, none⟩ = some (.int .u64 E.f0.f1)) (ds := []) #[false, false, false, false, false, false, false, false, false, false, false, false, false, false, false, false, false, false, false] (by kernel_rfl) rfl rfl ⟨(by exact p0), (by exact p1)⟩ (fun hHeld => ?_)
          refine pure_ (i := 0) (N := some 136) (v := ?_) (a' := ?_) #[true, false, false, false, false, false, false, false, false, false, false, false, false, false, false, false, false, false, false] rfl rfl (by kernel_rfl) (fun _ _ _ h => h) (Or.inl ⟨by rfl, ?_⟩) ?_ ?_
          rotate_left
          · intro w'
            go_simp
            with_reducible rfl
          rotate_left
          · simp only [Act.put, List.setIfInBounds_toArray, List.set_cons_zero, List.set_cons_succ, i64_w, i32_w]
            rfl
          refine pure_ (i := 1) (N := some 137) (v := ?_) (a' := ?_) #[true, true, false, false, false, false, false, false, false, false, false, false, false, false, false, false, false, false, false] rfl rfl (by kernel_rfl) (fun _ _ _ h => h) (Or.inl ⟨by rfl, ?_⟩) ?_ ?_
          rotate_left
          · intro w'
            go_simp
            with_reducible rfl
          rotate_left
          · simp only [Act.put, List.setIfInBounds_toArray, List.set_cons_zero, List.set_cons_succ, i64_w, i32_w]
            rfl
          refine pure_ (i := 2) (N := some 138) (v := ?_) (a' := ?_) #[true, true, true, false, false, false, false, false, false, false, false, false, false, false, false, false, false, false, false] rfl rfl (by kernel_rfl) (fun _ _ _ h => h) (Or.inl ⟨by rfl, ?_⟩) ?_ ?_
          rotate_left
          · intro w'
            go_simp
            with_reducible rfl
          rotate_left
          · simp only [Act.put, List.setIfInBounds_toArray, List.set_cons_zero, List.set_cons_succ, i64_w, i32_w]
            rfl
          refine pure_ (i := 3) (N := some 139) (v := ?_) (a' := ?_) #[true, true, true, true, false, false, false, false, false, false, false, false, false, false, false, false, false, false, false] rfl rfl (by kernel_rfl) (fun _ _ _ h => h) (Or.inl ⟨by rfl, ?_⟩) ?_ ?_
          rotate_left
          · intro w'
            go_simp
            with_reducible rfl
          rotate_left
          · simp only [Act.put, List.setIfInBounds_toArray, List.set_cons_zero, List.set_cons_succ, i64_w, i32_w]
            rfl
          refine pure_ (i := 4) (N := some 140) (v := ?_) (a' := ?_) #[true, true, true, true, true, false, false, false, false, false, false, false, false, false, false, false, false, false, false] rfl rfl (by kernel_rfl) (fun _ _ _ h => h) (Or.inl ⟨by rfl, ?_⟩) ?_ ?_
          rotate_left
          · intro w'
            go_simp
            with_reducible rfl
          rotate_left
          · simp only [Act.put, List.setIfInBounds_toArray, List.set_cons_zero, List.set_cons_succ, i64_w, i32_w]
            rfl
          refine pure_ (i := 5) (N := some 141) (v := ?_) (a' := ?_) #[true, true, true, true, true, true, false, false, false, false, false, false, false, false, false, false, false, false, false] rfl rfl (by kernel_rfl) (fun _ _ _ h => h) (Or.inl ⟨by rfl, ?_⟩) ?_ ?_
          rotate_left
          · intro w'
            go_simp
            with_reducible rfl
          rotate_left
          · simp only [Act.put, List.setIfInBounds_toArray, List.set_cons_zero, List.set_cons_succ, i64_w, i32_w]
            rfl
          refine pure_ (i := 7) (N := some 143) (v := ?_) (a' := ?_) #[true, true, true, true, true, true, false, true, false, false, false, false, false, false, false, false, false, false, false] rfl rfl (by kernel_rfl) (fun _ _ _ h => h) (Or.inl ⟨by rfl, ?_⟩) ?_ ?_
          rotate_left
          · intro w'
            go_simp
            with_reducible rfl
          rotate_left
          · simp only [Act.put, List.setIfInBounds_toArray, List.set_cons_zero, List.set_cons_succ, i64_w, i32_w]
            rfl
          refine pure_ (i := 8) (N := some 144) (v := ?_) (a' := ?_) #[true, true, true, true, true, true, false, true, true, false, false, false, false, false, false, false, false, false, false] rfl rfl (by kernel_rfl) (fun _ _ _ h => h) (Or.inl ⟨by rfl, ?_⟩) ?_ ?_
          rotate_left
          · intro w'
            go_simp
            with_reducible rfl
          rotate_left
          · simp only [Act.put, List.setIfInBounds_toArray, List.set_cons_zero, List.set_cons_succ, i64_w, i32_w]
            rfl
          refine pure_ (i := 9) (N := some 145) (v := ?_) (a' := ?_) #[true, true, true, true, true, true, false, true, true, true, false, false, false, false, false, false, false, false, false] rfl rfl (by kernel_rfl) (fun _ _ _ h => h) (Or.inl ⟨by rfl, ?_⟩) ?_ ?_
          rotate_left
          · intro w'
            go_simp
            with_reducible rfl
          rotate_left
          · simp only [Act.put, List.setIfInBounds_toArray, List.set_cons_zero, List.set_cons_succ, i64_w, i32_w]
            rfl
          refine pure_ (i := 10) (N := some 146) (v := ?_) (a' := ?_) #[true, true, true, true, true, true, false, true, true, true, true, false, false, false, false, false, false, false, false] rfl rfl (by kernel_rfl) (fun _ _ _ h => h) (Or.inl ⟨by rfl, ?_⟩) ?_ ?_
          rotate_left
          · intro w'
            go_simp
            with_reducible rfl
          rotate_left
          · simp only [Act.put, List.setIfInBounds_toArray, List.set_cons_zero, List.set_cons_succ, i64_w, i32_w]
            rfl
          refine pure_ (i := 11) (N := some 147) (v := ?_) (a' := ?_) #[true, true, true, true, true, true, false, true, true, true, true, true, false, false, false, false, false, false, false] rfl rfl (by kernel_rfl) (fun _ _ _ h => h) (Or.inl ⟨by rfl, ?_⟩) ?_ ?_
          rotate_left
          · intro w'
            go_simp
            with_reducible rfl
          rotate_left
          · simp only [Act.put, List.setIfInBounds_toArray, List.set_cons_zero, List.set_cons_succ, i64_w, i32_w]
            rfl
          refine take_ (i := 6) (N := some 142) (v := ?_) (a' := ?_) #[true, true, true, true, true, true, true, true, true, true, true, true, false, false, false, false, false, false, false] rfl rfl (by kernel_rfl) (fun _ _ _ h => h) (Or.inl ⟨by rfl, ?_⟩) hHeld ?_ ?_
          rotate_left
          · rintro w' ⟨s0, s1⟩
            go_simp
            with_reducible rfl
          rotate_left
          · simp only [Act.put, List.setIfInBounds_toArray, List.set_cons_zero, List.set_cons_succ, i64_w, i32_w]
            rfl
          refine take_ (i := 12) (N := some 148) (v := ?_) (a' := ?_) #[true, true, true, true, true, true, true, true, true, true, true, true, true, false, false, false, false, false, false] rfl rfl (by kernel_rfl) (fun _ _ _ h => h) (Or.inl ⟨by rfl, ?_⟩) hHeld ?_ ?_
          rotate_left
          · rintro w' ⟨s0, s1⟩
            go_simp
            with_reducible rfl
          rotate_left
          · simp only [Act.put, List.setIfInBounds_toArray, List.set_cons_zero, List.set_cons_succ, i64_w, i32_w]
            rfl
          refine one_ (i := 13) (N := some 149) #[true, true, true, true, true, true, true, true, true, true, true, true, true, true, false, false, false, false, false] rfl rfl (by kernel_rfl) (by decide) (fun K hK => ?_)
          refine goes_ Try.func17 (by kernel_rfl) rfl #[.slice (some al) L.length c1, .string E.f0.f0, .int .u64 E.f0.f1] (by rfl) rfl rfl (by simp only [List.map_toArray, List.map_cons, List.map_nil]; rfl) ?_
          with_reducible refine (staddleref08_Get.calls k (some al) c1 L E.f0.f0 E.f0.f1 xv xw _ HRe.out HC1.out HX2.out).mono ?_
          rintro ex w16 ⟨rfl, ⟨nd4, hw16⟩⟩
          refine ⟨_, rfl, ?_⟩
          have HT16 : Aside0 (IsTab w16 g1 bs1 fl1 ps1 (L.length : Int)) := ⟨by rw [hw16]; exact HTe.out.below (pw_below_drewN (Below.refl _ _) nd4)⟩
          have HR16 : Aside0 (Kd.C k47 w16 (some al) L.length L) := ⟨by rw [hw16]; exact Kd.C_drewN HRe.out nd4⟩
          have HB16 : Aside0 (Below w.heap.size w w16) := ⟨by rw [hw16]; exact pw_below_drewN HBe.out nd4⟩
          have HW16 := Aside0.mk hw16
          clear hw16
          refine hK.out _ _ ⟨(by rw [HW16.out]; exact hHeld.1), (by rw [HW16.out]; exact hHeld.2)⟩ (fun hHeld => ?_)
          clear hK K
          refine norm_ (a' := ?_) ?_ ?_
          rotate_left
          · show Act.put _ (some 149) _ = _
            simp only [Act.put, List.setIfInBounds_toArray, List.set_cons_zero, List.set_cons_succ, i64_w, i32_w]
            rfl
          refine pure_ (i := 14) (N := some 135) (v := ?_) (a' := ?_) #[true, true, true, true, true, true, true, true, true, true, true, true, true, true, true, false, false, false, false] rfl rfl (by kernel_rfl) (fun _ _ _ h => h) (Or.inl ⟨by rfl, ?_⟩) ?_ ?_
          rotate_left
          · intro w'
            go_simp
            with_reducible rfl
          rotate_left
          · simp only [Act.put, List.setIfInBounds_toArray, List.set_cons_zero, List.set_cons_succ, i64_w, i32_w]
            rfl
          refine pure_ (i := 15) (N := some 150) (v := ?_) (a' := ?_) #[true, true, true, true, true, true, true, true, true, true, true, true, true, true, true, true, false, false, false] rfl rfl (by kernel_rfl) (fun _ _ _ h => h) (Or.inl ⟨by rfl, ?_⟩) ?_ ?_
          rotate_left
          · intro w'
            go_simp
            with_reducible rfl
          rotate_left
          · simp only [Act.put, List.setIfInBounds_toArray, List.set_cons_zero, List.set_cons_succ, i64_w, i32_w]
            rfl
          refine pure_ (i := 16) (N := some 151) (v := ?_) (a' := ?_) #[true, true, true, true, true, true, true, true, true, true, true, true, true, true, true, true, true, false, false] rfl rfl (by kernel_rfl) (fun _ _ _ h => h) (Or.inl ⟨by rfl, ?_⟩) ?_ ?_
          rotate_left
          · intro w'
            go_simp
            with_reducible rfl
          rotate_left
          · simp only [Act.put, List.setIfInBounds_toArray, List.set_cons_zero, List.set_cons_succ, i64_w, i32_w]
            rfl
          refine pure_ (i := 17) (N := some 20) (v := ?_) (a' := ?_) #[true, true, true, true, true, true, true, true, true, true, true, true, true, true, true, true, true, true, false] rfl rfl (by kernel_rfl) (fun _ _ _ h => h) (Or.inl ⟨by rfl, ?_⟩) ?_ ?_
          rotate_left
          · intro w'
            go_simp
            with_reducible rfl
          rotate_left
          · simp only [Act.put, List.setIfInBounds_toArray, List.set_cons_zero, List.set_cons_succ, i64_w, i32_w]
            rfl
          refine pure_ (i := 18) (N := some 21) (v := ?_) (a' := ?_) #[true, true, true, true, true, true, true, true, true, true, true, true, true, true, true, true, true, true, true] rfl rfl (by kernel_rfl) (fun _ _ _ h => h) (Or.inl ⟨by rfl, ?_⟩) ?_ ?_
          rotate_left
          · intro w'
            go_simp
            with_reducible rfl
          rotate_left
          · simp only [Act.put, List.setIfInBounds_toArray, List.set_cons_zero, List.set_cons_succ, i64_w, i32_w]
            rfl
          refine done_ (by kernel_rfl) ?_
          clear q0 q1 d2 d3 p0 p1
          go_wp2
          simp only [HI1.out]
          go_roundg g_
          case measure => omega
          case rel => exact ⟨i + 1, rfl, ⟨by have := HI.out.1; omega, HCI.out⟩, HT16, HR16, HB16⟩
        · have d1 : decide ((i : Int) < (L.length : Int)) = false := decide_eq_false (by omega)
          have d1b : decide (i < L.length) = false := decide_eq_false ci
          clear ci
          go_wp2
          go_ret
          exact ⟨rfl, HB13.out⟩
end Go.Proofs.Ythdemdjobgbpdaa.T
