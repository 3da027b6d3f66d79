/- edit's reader: what key comes to, with all endings; the deferred closure. -/
import Derived.Test.YthkkbgehmiobaaaER
namespace Go.Proofs.Ythkkbgehmiobaaa.E
open Go.RowKit Go.Proofs.YthkkbgehmiobaaaW.PrintWords Go.Proofs.YthkkbgehmiobaaaW.PrintLast Go.Proofs.YthkkbgehmiobaaaW.PrintMore Go.Proofs.Ythkkbgehmiobaaa.P
set_option linter.unusedVariables false
set_option linter.unusedSimpArgs false
set_option maxHeartbeats 4000000 in
set_option maxRecDepth 100000 in
theorem key_calls (k : Nat) (gr : Nat) (D : List Int) (r : Option (S42 × List Int)) (w0 w : World) (hs : Rd w0 gr D w) (hq : key_g k D = some r) :
    Calls Try.prog 30 #[.pointer (some ⟨gr, 0, none⟩)] w fun e w' => KeyEnd w0 gr w r e w' := by
  unfold key_g at hq
  obtain ⟨⟨s, kk, er⟩, hu, hq⟩ := Option.bind_eq_some_iff.mp hq
  dsimp only at hq
  have HS := Aside0.mk hs
  have HQ := Aside0.mk hu
  clear hs hu
  split at hq
  case isFalse =>
    rename_i h0
    injection hq with hq
    subst hq
    have h0b : (er == 0) = false := beq_eq_false_iff_ne.mpr h0
    have h0c : (er != 0) = true := bne_iff_ne.mpr h0
    clear h0
    go_enter Try.func30, Try.ntmps30
    go_upto_region 1 with (first
      | ((with_reducible refine gate_dst (N := 2) rfl ?_); refine box_event ?hg (N := 2) ?hd (cs := #[.string (⟨#[]⟩ : ByteArray), .int .u64 0, .int .i64 0]) (t := 42) ?hr ?_; (case hd => rfl); (case hg => rfl); (case hr => first | (go_simp; done) | (go_simp; rfl)); intro g2 hg w1 hbox hb
         have HS1 := Aside0.mk (HS.out.below hb)
         have ST1 : Aside0 (Stays gr w w1) := ⟨(Stays.refl gr w).below hb⟩
         clear hg hbox hb))
    obtain ⟨A, c, hblk, hC, hc⟩ := HS1.out.blk
    have hg : w1.cell? ⟨gr, 0, none⟩ = some (.slice A D.length c) := (blk_cell hblk 0).trans rfl
    have hf := blk_frozen hblk 0
    have HR0 := Aside0.mk hC
    have HC0 := Aside0.mk hc
    clear hblk hC hc
    go_wp2_with (first
      | (go_at_call 43; with_reducible refine (codec_Text.calls k A _ D s kk er _ (Kd.C_below HR0.out HS1.out.bel) HC0.out HQ.out).mono ?_; rintro ex w2 ⟨rfl, ⟨nd, rfl⟩⟩))
    exact ⟨rfl, rfl, pw_below_drewN HS1.out.bel nd, ST1.out.below (pw_below_drewN (Below.refl _ _) nd)⟩
  rename_i h0
  subst h0
  split at hq
  case isFalse => cases hq
  rename_i hcond
  obtain ⟨hsz, hk⟩ := hcond
  obtain ⟨⟨y1, y2, y3, y4⟩, hy, hq⟩ := Option.bind_eq_some_iff.mp hq
  dsimp only at hq
  obtain ⟨E, hE⟩ : ∃ x, D.drop kk.toNat = x := ⟨_, rfl⟩
  rw [hE] at hq
  have HE := Aside0.mk hE
  have HY := Aside0.mk hy
  have HSZ := Aside0.mk hsz
  have HK := Aside0.mk hk
  clear hy hsz hk hE
  go_enter Try.func30, Try.ntmps30
  go_upto_region 1 with (first
    | ((with_reducible refine gate_dst (N := 2) rfl ?_); refine box_event ?hg (N := 2) ?hd (cs := #[.string (⟨#[]⟩ : ByteArray), .int .u64 0, .int .i64 0]) (t := 42) ?hr ?_; (case hd => rfl); (case hg => rfl); (case hr => first | (go_simp; done) | (go_simp; rfl)); intro g2 hg w1 hbox hb
       have HS1 := Aside0.mk (HS.out.below hb)
       have ST1 : Aside0 (Stays gr w w1) := ⟨(Stays.refl gr w).below hb⟩
       have BG1 := Aside0.mk hbox
       have GE1 : Aside0 (w.heap.size ≤ g2) := ⟨by rw [hg]; exact Nat.le_refl _⟩
       clear hg hbox hb))
  obtain ⟨A, c, hblk, hC, hc⟩ := HS1.out.blk
  have hg : w1.cell? ⟨gr, 0, none⟩ = some (.slice A D.length c) := (blk_cell hblk 0).trans rfl
  have hf := blk_frozen hblk 0
  have HR0 := Aside0.mk hC
  have HC0 := Aside0.mk hc
  have BR1 := Aside0.mk hblk
  clear hblk hC hc
  go_upto_region 4 with (first
    | (go_at_call 43; with_reducible refine (codec_Text.calls k A _ D s kk 0 _ (Kd.C_below HR0.out HS1.out.bel) HC0.out HQ.out).mono ?_; rintro ex w2 ⟨rfl, ⟨nd, rfl⟩⟩))
  have HS2 : Aside0 (Rd w0 gr D (w1.drewN nd)) := ⟨HS1.out.below (pw_below_drewN (Below.refl _ _) nd)⟩
  have ST2 : Aside0 (Stays gr w (w1.drewN nd)) := ⟨ST1.out.below (pw_below_drewN (Below.refl _ _) nd)⟩
  have BG2 : Aside0 ((w1.drewN nd).heap[g2]? = some (.cells #[.string (⟨#[]⟩ : ByteArray), .int .u64 0, .int .i64 0] 42 (0, 0))) := ⟨blk_drewN BG1.out nd⟩
  have BR2 : Aside0 ((w1.drewN nd).heap[gr]? = some (.cells #[.slice A D.length c] 59 (0, 0))) := ⟨blk_drewN BR1.out nd⟩
  generalize w1.drewN nd = w2 at HS2 ST2 BG2 BR2 ⊢
  clear hg hf HS1 ST1 BG1 BR1
  go_upto_region 5 with (first
    | ((with_reducible refine gate_dst (N := 22) rfl ?_); refine kd_V_conv rfl (N := 22) rfl 9 28 5 _ rfl s rfl Try.underlying9 Try.underlying28 Try.underlying5 HSZ.out ?_; intro vb w3 hV hb _ _
       obtain ⟨Ab, cb, eb⟩ := Kd.V_slice hV
       subst eb
       have HV := Aside0.mk (Kd.V_reads' hV).2
       have HS3 := Aside0.mk (HS2.out.below hb)
       have ST3 := Aside0.mk (ST2.out.below hb)
       have BG3 := Aside0.mk (blk_below BG2.out hb)
       have BR3 := Aside0.mk (blk_below BR2.out hb)
       clear hV hb)
    | (go_at_call 44; (with_reducible refine (ikey_Decode.calls k Ab cb (bytesOf s) y1 y2 y3 y4 _ HV.out.2 HV.out.1 HY.out).mono ?_); (rintro ex w4 ⟨rfl, hb⟩)
       have HS4 := Aside0.mk (HS3.out.below hb)
       have ST4 := Aside0.mk (ST3.out.below hb)
       have BG4 := Aside0.mk (blk_below BG3.out hb)
       have BR4 := Aside0.mk (blk_below BR3.out hb)
       clear hb)
    | ((with_reducible refine gate_dst (N := 6) rfl ?_); refine box_event ?hg (N := 6) ?hd (cs := #[.string (⟨#[]⟩ : ByteArray), .int .u64 0, .int .i64 0]) (t := 42) ?hr ?_; (case hd => rfl); (case hg => rfl); (case hr => first | (go_simp; done) | (go_simp; rfl)); intro g6 hg w5 hbox hb
       have HS5 := Aside0.mk (HS4.out.below hb)
       have ST5 := Aside0.mk (ST4.out.below hb)
       have BG5 := Aside0.mk (blk_below BG4.out hb)
       have BR5 := Aside0.mk (blk_below BR4.out hb)
       have BY5 := Aside0.mk hbox
       have GE6 : Aside0 (g2 < g6 ∧ gr < g6 ∧ w.heap.size ≤ g6) := ⟨by have h1 := blk_lt BG4.out; have h2 := blk_lt BR4.out; have h3 := ST4.out.1; rw [hg]; omega⟩
       have yc0 : w5.cell? ⟨g6, 0, none⟩ = some (.string (⟨#[]⟩ : ByteArray)) := (blk_cell hbox 0).trans rfl
       have yc1 : w5.cell? ⟨g6, 1, none⟩ = some (.int .u64 0) := (blk_cell hbox 1).trans rfl
       have yc2 : w5.cell? ⟨g6, 2, none⟩ = some (.int .i64 0) := (blk_cell hbox 2).trans rfl
       have yf0 := blk_frozen hbox 0
       have yf1 := blk_frozen hbox 1
       have yf2 := blk_frozen hbox 2
       clear hg hbox hb))
  obtain ⟨W6, hW6⟩ : ∃ x, ((w5.setCell ⟨g6, 0, none⟩ (.string y1)).setCell ⟨g6, 1, none⟩ (.int .u64 y2)).setCell ⟨g6, 2, none⟩ (.int .i64 y3) = x := ⟨_, rfl⟩
  rw [hW6]
  have hmv : ∀ j, j ≠ g6 → W6.heap[j]? = w5.heap[j]? := fun j hj => by rw [← hW6]; exact (Below.heap_setCell _ _ _ j hj).trans ((Below.heap_setCell _ _ _ j hj).trans (Below.heap_setCell _ _ _ j hj))
  have hge : w0.heap.size ≤ g6 := by have := GE6.out; have := HS5.out.ge; omega
  have hsz : w5.heap.size ≤ W6.heap.size := by rw [← hW6]; exact (Below.setCell (p := ⟨g6, 2, none⟩) (Below.setCell (p := ⟨g6, 1, none⟩) (Below.setCell (p := ⟨g6, 0, none⟩) (Below.refl 0 w5) (Nat.zero_le _) _) (Nat.zero_le _) _) (Nat.zero_le _) _).size
  have BY6 : Aside0 (W6.heap[g6]? = some (.cells #[.string y1, .int .u64 y2, .int .i64 y3] 42 (0, 0))) := ⟨by rw [← hW6]; exact blk_put (cs := #[.string y1, .int .u64 y2, .int .i64 0]) (blk_put (cs := #[.string y1, .int .u64 0, .int .i64 0]) (blk_put (cs := #[.string (⟨#[]⟩ : ByteArray), .int .u64 0, .int .i64 0]) BY5.out 0 _ rfl) 1 _ rfl) 2 _ rfl⟩
  have BG6 : Aside0 (W6.heap[g2]? = some (.cells #[.string (⟨#[]⟩ : ByteArray), .int .u64 0, .int .i64 0] 42 (0, 0))) := ⟨(hmv g2 (by have := GE6.out; omega)).trans BG5.out⟩
  have BR6 : Aside0 (W6.heap[gr]? = some (.cells #[.slice A D.length c] 59 (0, 0))) := ⟨(hmv gr (by have := GE6.out; omega)).trans BR5.out⟩
  have ST6 : Aside0 (Stays gr w W6) := ⟨⟨Nat.le_trans ST5.out.1 hsz, fun j hj hj2 => (hmv j (by have := GE6.out; omega)).trans (ST5.out.2 j hj hj2)⟩⟩
  have HB6 : Aside0 (Below w0.heap.size w0 W6) := ⟨by rw [← hW6]; exact below_set (below_set (below_set HS5.out.bel hge) hge) hge⟩
  clear hW6 hmv hge hsz yc0 yc1 yc2 yf0 yf1 yf2
  clear HS2 HS3 HS4 HS5 ST2 ST3 ST4 ST5 BG2 BG3 BG4 BG5 BR2 BR3 BR4 BR5 HV BY5
  have yc0 : W6.cell? ⟨g6, 0, none⟩ = some (.string y1) := (blk_cell BY6.out 0).trans rfl
  have yc1 : W6.cell? ⟨g6, 1, none⟩ = some (.int .u64 y2) := (blk_cell BY6.out 1).trans rfl
  have yc2 : W6.cell? ⟨g6, 2, none⟩ = some (.int .i64 y3) := (blk_cell BY6.out 2).trans rfl
  split at hq
  case isFalse =>
    rename_i h4
    injection hq with hq
    subst hq
    have h0b : (y4 == 0) = false := beq_eq_false_iff_ne.mpr h4
    have h0c : (y4 != 0) = true := bne_iff_ne.mpr h4
    clear h4
    go_wp2
    exact ⟨rfl, rfl, HB6.out, ST6.out⟩
  rename_i h4
  subst h4
  injection hq with hq
  subst hq
  obtain ⟨i5, hi5, _, hs5, _⟩ := info_parts info5
  obtain ⟨A2, hcut, hrd, hcp⟩ := print_drop_of (P := Try.prog) (Value.int .u8) (0 : Int) 28 5 .i64 Try.underlying28 hi5 hs5 A c D kk HK.out.1 HK.out.2 HC0.out
  have HR2 := Aside0.mk (show ∀ W : World, Kd.C (Kd.int .u8) W A D.length D → Kd.C (Kd.int .u8) W A2 (D.drop kk.toNat).length (D.drop kk.toNat) from fun W hW => Kd.C_of_reads (h1 := fun _ => rfl) (hrd W (Kd.reads_of_C hW)))
  have HC2 := Aside0.mk hcp
  rw [HE.out] at HR2 HC2 hcut
  have hg : W6.cell? ⟨gr, 0, none⟩ = some (.slice A D.length c) := (blk_cell BR6.out 0).trans rfl
  have hf := blk_frozen BR6.out 0
  clear hrd hcp
  go_upto_region 8 with fail
  obtain ⟨W7, hW7⟩ : ∃ x, W6.setCell ⟨gr, 0, none⟩ (.slice A2 E.length (c - kk.toNat)) = x := ⟨_, rfl⟩
  rw [hW7]
  have HNE : Aside0 (g2 ≠ gr ∧ g6 ≠ gr) := ⟨by have := GE6.out; exact ⟨fun e_ => by subst e_; have h1 := BG6.out; rw [BR6.out] at h1; simp at h1, by omega⟩⟩
  have BR7 : Aside0 (W7.heap[gr]? = some (.cells #[.slice A2 E.length (c - kk.toNat)] 59 (0, 0))) := ⟨by rw [← hW7]; exact blk_put (cs := #[.slice A D.length c]) BR6.out 0 _ rfl⟩
  have BG7 : Aside0 (W7.heap[g2]? = some (.cells #[.string (⟨#[]⟩ : ByteArray), .int .u64 0, .int .i64 0] 42 (0, 0))) := ⟨by rw [← hW7]; exact (Below.heap_setCell _ _ _ g2 HNE.out.1).trans BG6.out⟩
  have BY7 : Aside0 (W7.heap[g6]? = some (.cells #[.string y1, .int .u64 y2, .int .i64 y3] 42 (0, 0))) := ⟨by rw [← hW7]; exact (Below.heap_setCell _ _ _ g6 HNE.out.2).trans BY6.out⟩
  have ST7 : Aside0 (Stays gr w W7) := ⟨by rw [← hW7]; exact ST6.out.put _⟩
  have HB7 : Aside0 (Below w0.heap.size w0 W7) := ⟨by rw [← hW7]; exact below_set HB6.out HS.out.ge⟩
  clear hW7 yc0 yc1 yc2 hg hf hcut
  have yc0 : W7.cell? ⟨g6, 0, none⟩ = some (.string y1) := (blk_cell BY7.out 0).trans rfl
  have yc1 : W7.cell? ⟨g6, 1, none⟩ = some (.int .u64 y2) := (blk_cell BY7.out 1).trans rfl
  have yc2 : W7.cell? ⟨g6, 2, none⟩ = some (.int .i64 y3) := (blk_cell BY7.out 2).trans rfl
  have xc0 : W7.cell? ⟨g2, 0, none⟩ = some (.string (⟨#[]⟩ : ByteArray)) := (blk_cell BG7.out 0).trans rfl
  have xc1 : W7.cell? ⟨g2, 1, none⟩ = some (.int .u64 0) := (blk_cell BG7.out 1).trans rfl
  have xc2 : W7.cell? ⟨g2, 2, none⟩ = some (.int .i64 0) := (blk_cell BG7.out 2).trans rfl
  have xf0 := blk_frozen BG7.out 0
  have xf1 := blk_frozen BG7.out 1
  have xf2 := blk_frozen BG7.out 2
  go_wp2
  have hW8 : ∃ x, ((W7.setCell ⟨g2, 0, none⟩ (.string y1)).setCell ⟨g2, 1, none⟩ (.int .u64 y2)).setCell ⟨g2, 2, none⟩ (.int .i64 y3) = x := ⟨_, rfl⟩
  obtain ⟨W8, hW8⟩ := hW8
  rw [hW8]
  have hmv : ∀ j, j ≠ g2 → W8.heap[j]? = W7.heap[j]? := fun j hj => by rw [← hW8]; exact (Below.heap_setCell _ _ _ j hj).trans ((Below.heap_setCell _ _ _ j hj).trans (Below.heap_setCell _ _ _ j hj))
  have hge : w0.heap.size ≤ g2 := by have := GE1.out; have := HS.out.bel.size; omega
  have hsz : W7.heap.size ≤ W8.heap.size := by rw [← hW8]; exact (Below.setCell (p := ⟨g2, 2, none⟩) (Below.setCell (p := ⟨g2, 1, none⟩) (Below.setCell (p := ⟨g2, 0, none⟩) (Below.refl 0 W7) (Nat.zero_le _) _) (Nat.zero_le _) _) (Nat.zero_le _) _).size
  have BG8 : W8.heap[g2]? = some (.cells #[.string y1, .int .u64 y2, .int .i64 y3] 42 (0, 0)) := by rw [← hW8]; exact blk_put (cs := #[.string y1, .int .u64 y2, .int .i64 0]) (blk_put (cs := #[.string y1, .int .u64 0, .int .i64 0]) (blk_put (cs := #[.string (⟨#[]⟩ : ByteArray), .int .u64 0, .int .i64 0]) BG7.out 0 _ rfl) 1 _ rfl) 2 _ rfl
  have HB8 : Below w0.heap.size w0 W8 := by rw [← hW8]; exact below_set (below_set (below_set HB7.out hge) hge) hge
  have z0 : W8.cell? ⟨g2, 0, none⟩ = some (.string y1) := (blk_cell BG8 0).trans rfl
  have z1 : W8.cell? ⟨g2, 1, none⟩ = some (.int .u64 y2) := (blk_cell BG8 1).trans rfl
  have z2 : W8.cell? ⟨g2, 2, none⟩ = some (.int .i64 y3) := (blk_cell BG8 2).trans rfl
  refine bodyPost_ret (v := .agg #[.string y1, .int .u64 y2, .int .i64 y3]) ?_ rfl ⟨rfl, ⟨⟨A2, _, (hmv gr (Ne.symm HNE.out.1)).trans BR7.out, HR2.out _ HR0.out, HC2.out⟩, HS.out.ge, HB8⟩, ⟨Nat.le_trans ST7.out.1 hsz, fun j hj hj2 => (hmv j (by have := GE1.out; omega)).trans (ST7.out.2 j hj hj2)⟩⟩
  simp [results, Try.results30, go_sem, z0, z1, z2]
theorem und14 : (Array.replicate 14 undef : Array Value) = #[undef, undef, undef, undef, undef, undef, undef, undef, undef, undef, undef, undef, undef, undef] := rfl
theorem assert_nil (W : World) : (Instr.typeAssert .nilIface 20 55 true).run Try.prog W = .ok (.tuple #[.agg #[], .bool false]) W := by
  have hu : Try.prog.underlying 55 = some (.struct #[]) := by kernel_rfl
  obtain ⟨i, hi, hz⟩ := Option.map_eq_some_iff.1 (show (Try.prog.info? 55).map (·.zero) = some (some (.agg #[])) from by kernel_rfl)
  simp [Instr.typeAssert, run_underlying hu, zeroValue, typeInfo, hi, hz]
theorem assert_bad (W : World) : (Instr.typeAssert (.iface 55 (.agg #[])) 20 55 true).run Try.prog W = .ok (.tuple #[.agg #[], .bool true]) W := by
  have hu : Try.prog.underlying 55 = some (.struct #[]) := by kernel_rfl
  simp [Instr.typeAssert, run_underlying hu, go_sem]
set_option maxHeartbeats 1000000 in
set_option maxRecDepth 100000 in
/-- the deferred closure, where nothing is to be recovered -/
theorem catch_idle (a b : Addr) (w : World) :
    CallsD Try.prog 28 #[.pointer (some a), .pointer (some b)] .returning w fun e u' w' => e = .returned (.tuple #[]) ∧ u' = .returning ∧ Below w.heap.size w w' := by
  refine callsD_of_wpS Try.func28 rfl fun c₀ cs hu => ?_
  apply wpS_seq
  apply wpS_region
  simp [wpOpsS, go_sem, recoverD, hu, Try.ntmps28, Exit.thenS, und14]
  refine wpS_of_wp ?_
  have hta := assert_nil
  go_wp2
  have hB : Below w.heap.size w (w.alloc (Obj.cells #[] 55)) := below_alloc (Below.refl _ _) _
  cases c₀
  simp_all [bodyPostS, results, Try.results28]
set_option maxHeartbeats 2000000 in
set_option maxRecDepth 100000 in
/-- the deferred closure, where deep code has given up -/
theorem catch_bad (gx ge : Nat) (x0 x1 x2 : Int) (v3 v4 : Value) (w : World) (hA : w.heap[gx]? = some (.cells #[Value.int .u64 x0, .int .u64 x1, .int .u64 x2, v3, v4] 27 (0, 0))) (hE : w.heap[ge]? = some (.cells #[.int .i64 0] 29 (0, 0))) (hne : gx ≠ ge) :
    CallsD Try.prog 28 #[.pointer (some ⟨gx, 0, none⟩), .pointer (some ⟨ge, 0, none⟩)] (.panicking [{ v := .iface 55 (.agg #[]), recovered := false }]) w fun e u' w' =>
      e = .returned (.tuple #[]) ∧ u' = .panicking [{ v := .iface 55 (.agg #[]), recovered := true }] ∧ (∀ w0 : World, Below w0.heap.size w0 w → w0.heap.size ≤ gx → w0.heap.size ≤ ge → Below w0.heap.size w0 w') ∧ w'.heap[gx]? = some (.cells #[Value.int .u64 0, .int .u64 0, .int .u64 0, .slice none 0 0, .slice none 0 0] 27 (0, 0)) ∧ w'.heap[ge]? = some (.cells #[.int .i64 133] 29 (0, 0)) := by
  have hne' := Ne.symm hne
  refine callsD_of_wpS Try.func28 rfl fun c₀ cs hu => ?_
  apply wpS_seq
  apply wpS_region
  simp [wpOpsS, go_sem, recoverD, hu, Try.ntmps28, Exit.thenS, und14]
  refine wpS_of_wp ?_
  have hta := assert_bad
  go_wp2_with (first
    | ((with_reducible refine gate_dst (N := 3) rfl ?_); refine box_event ?hg (N := 3) ?hd (cs := #[]) (t := 55) ?hr ?_; (case hd => rfl); (case hg => rfl); (case hr => first | (go_simp; done) | (go_simp; rfl)); intro gb hg w3 hbox hb
       have HB := Aside0.mk hb
       have BA := Aside0.mk (blk_below hA hb)
       have BE := Aside0.mk (blk_below hE hb)
       have hcx0 : w3.cell? ⟨gx, 0, none⟩ = some (Value.int .u64 x0) := (blk_cell BA.out 0).trans rfl
       have hfx0 := blk_frozen BA.out 0
       have hcx1 : w3.cell? ⟨gx, 1, none⟩ = some (.int .u64 x1) := (blk_cell BA.out 1).trans rfl
       have hfx1 := blk_frozen BA.out 1
       have hcx2 : w3.cell? ⟨gx, 2, none⟩ = some (.int .u64 x2) := (blk_cell BA.out 2).trans rfl
       have hfx2 := blk_frozen BA.out 2
       have hcx3 : w3.cell? ⟨gx, 3, none⟩ = some (v3) := (blk_cell BA.out 3).trans rfl
       have hfx3 := blk_frozen BA.out 3
       have hcx4 : w3.cell? ⟨gx, 4, none⟩ = some (v4) := (blk_cell BA.out 4).trans rfl
       have hfx4 := blk_frozen BA.out 4
       have hce : w3.cell? ⟨ge, 0, none⟩ = some (.int .i64 0) := (blk_cell BE.out 0).trans rfl
       have hcg := blk_frozen BE.out 0
       clear hg hbox hb))
  obtain ⟨W4, hW4⟩ : ∃ x, (((((w3.setCell ⟨gx, 0, none⟩ (Value.int .u64 0)).setCell ⟨gx, 1, none⟩ (.int .u64 0)).setCell ⟨gx, 2, none⟩ (.int .u64 0)).setCell ⟨gx, 3, none⟩ (.slice none 0 0)).setCell ⟨gx, 4, none⟩ (.slice none 0 0)) = x := ⟨_, rfl⟩
  have hmv : ∀ j, j ≠ gx → W4.heap[j]? = w3.heap[j]? := fun j hj => by rw [← hW4]; exact (Below.heap_setCell _ _ _ j hj).trans ((Below.heap_setCell _ _ _ j hj).trans ((Below.heap_setCell _ _ _ j hj).trans ((Below.heap_setCell _ _ _ j hj).trans ((Below.heap_setCell _ _ _ j hj)))))
  have BA4 : W4.heap[gx]? = some (.cells #[Value.int .u64 0, .int .u64 0, .int .u64 0, .slice none 0 0, .slice none 0 0] 27 (0, 0)) := by rw [← hW4]; exact blk_put (cs := #[Value.int .u64 0, .int .u64 0, .int .u64 0, .slice none 0 0, v4]) (blk_put (cs := #[Value.int .u64 0, .int .u64 0, .int .u64 0, v3, v4]) (blk_put (cs := #[Value.int .u64 0, .int .u64 0, .int .u64 x2, v3, v4]) (blk_put (cs := #[Value.int .u64 0, .int .u64 x1, .int .u64 x2, v3, v4]) (blk_put (cs := #[Value.int .u64 x0, .int .u64 x1, .int .u64 x2, v3, v4]) (BA.out) 0 _ rfl) 1 _ rfl) 2 _ rfl) 3 _ rfl) 4 _ rfl
  have BE4 : W4.heap[ge]? = some (.cells #[.int .i64 0] 29 (0, 0)) := (hmv ge hne').trans BE.out
  have hB4 : ∀ w0 : World, Below w0.heap.size w0 w → w0.heap.size ≤ gx → Below w0.heap.size w0 W4 := fun w0 hb h1 => by have HB0 := below_step hb HB.out; rw [← hW4]; exact below_set (below_set (below_set (below_set (below_set (HB0) h1) h1) h1) h1) h1
  rw [hW4]
  cases c₀
  refine ⟨rfl, _, rfl, ?_⟩
  exact ⟨.tuple #[], by simp [results, Try.results28, go_sem], rfl, rfl, fun w0 hb h1 h2 => below_set (hB4 w0 hb h1) h2, (Below.heap_setCell _ _ _ gx hne).trans BA4, blk_put (cs := #[.int .i64 0]) BE4 0 _ rfl⟩
end Go.Proofs.Ythkkbgehmiobaaa.E
