/- sstable's Blocks and read. -/
import Derived.Test.YthdemdjobgbpdaaTG
namespace Go.Proofs.Ythdemdjobgbpdaa.T
open Go.RowKit Go.Shelf Go.Proofs.YthdemdjobgbpdaaW.PrintWords Go.Proofs.YthdemdjobgbpdaaW.PrintLast Go.Proofs.YthdemdjobgbpdaaW.PrintMore Go.Proofs.Ythdemdjobgbpdaa.P Go.Proofs.Ythdemdjobgbpdaa.B Go.Proofs.Ythdemdjobgbpdaa.Q
attribute [local go_sem] Oper.semAt_some
set_option linter.unusedVariables false
set_option linter.unusedSimpArgs false
set_option maxHeartbeats 1000000 in
set_option maxRecDepth 100000 in
theorem blocks_calls (g : Nat) (b fl : List Int) (ps : List SPl) (cnt : Int) (w : World) (h : IsTab w g b fl ps cnt) :
    Calls Try.prog 15 #[.pointer (some ⟨g, 0, none⟩)] w fun e w' => e = .returned (.int .i64 (ps.length : Int)) ∧ w' = w := by
  obtain ⟨Ab, cb, Af, cf, Ap, cp, h1, h2, h3, h4, h5, h6, h7⟩ := h
  have hc : w.cell? ⟨g, 2, none⟩ = some (.slice Ap ps.length cp) := (blk_cell h1 2).trans rfl
  clear h1 h2 h3 h4 h5 h6 h7
  go_enter Try.func15, Try.ntmps15
  go_wp2
  go_ret
  exact ⟨rfl, rfl⟩
set_option maxHeartbeats 1000000 in
set_option maxRecDepth 100000 in
theorem blocks_nil (w : World) : Calls Try.prog 15 #[.pointer none] w fun e w' => e = .returned (.int .i64 0) ∧ w' = w := by
  go_enter Try.func15, Try.ntmps15
  go_wp2
  go_ret
  exact ⟨rfl, rfl⟩
theorem _root_.Go.Proofs.Ythdemdjobgbpdaa.B.IsOwn.lower {w : World} {n m g : Nat} {l : List S47} {iv : Int} (h : IsOwn w n g l iv) (hm : m ≤ n) : IsOwn w m g l iv := by
  obtain ⟨A, c, h1, h2, h3⟩ := h
  exact ⟨A, c, h1, h2, Kd.R_lower h3 hm⟩
theorem hown_below {w w1 : World} {n g : Nat} {l : List S47} {iv : Int} (h : IsOwn w n g l iv) (hb : Below w.heap.size w w1) : IsOwn w1 n g l iv := h.below hb
/-- a block that is read -/
def tread_f (k : Nat) (b : List Int) (p : SPl) : Option (Option (List S47 × Int)) :=
  (part_f k b p.f1 p.f2).bind fun q => if q.2 = true then (open_g k q.1).bind fun r => match r with
    | some x => if 0 < x.1.length ∧ x.1.length < 1000000000 ∧ (rd_T47 x.1 ((x.1.length : Int) - 1)).f0.f0 = p.f0.f0 ∧ (rd_T47 x.1 ((x.1.length : Int) - 1)).f0.f1 = p.f0.f1 ∧ (rd_T47 x.1 ((x.1.length : Int) - 1)).f0.f2 = p.f0.f2 then some (some x) else none
    | none => none
  else some none
theorem tv_w1 (n : Nat) (h : 0 < n) (h2 : n < 1000000000) : wrap64 ((n : Int) - 1) = (n : Int) - 1 := by unfold wrap64; omega
set_option maxRecDepth 100000 in
set_option maxHeartbeats 4000000 in
theorem tread_calls (k g : Nat) (b fl : List Int) (ps : List SPl) (cnt : Int) (p : SPl) (r : Option (List S47 × Int)) (w : World) (h : IsTab w g b fl ps cnt) (hf : tread_f k b p = some r) :
    Calls Try.prog 38 #[.pointer (some ⟨g, 0, none⟩), .agg #[.string p.f0.f0, .int .u64 p.f0.f1, .int .i64 p.f0.f2, .int .i64 (p.f1 : Int), .int .i64 (p.f2 : Int)]] w fun e w' => Below w.heap.size w w' ∧
      match r with
      | some x => ∃ gb, e = .returned (.tuple #[.pointer (some ⟨gb, 0, none⟩), .int .i64 0]) ∧ w.heap.size ≤ gb ∧ IsOwn w' w.heap.size gb x.1 x.2
      | none => e = .returned (.tuple #[.pointer none, .int .i64 122]) := by
  obtain ⟨Ab, cb, Af, cf, Ap, cp, h1, h2, h3, h4, h5, h6, h7⟩ := h
  obtain ⟨⟨q, qok⟩, hq, hf⟩ := Option.bind_eq_some_iff.mp hf
  dsimp only at hf
  have HT := Aside0.mk h1
  have HCb := Aside0.mk h2
  have HCC := Aside0.mk h3
  have HQ := Aside0.mk hq
  have HF := Aside0.mk hf
  clear h1 h2 h3 h4 h5 h6 h7 hq hf
  go_enter Try.func38, Try.ntmps38
  go_upto_region 1 with fail
  obtain ⟨w2, hw2⟩ : ∃ x, w.alloc (.cells #[.string p.f0.f0, .int .u64 p.f0.f1, .int .i64 p.f0.f2, .int .i64 (p.f1 : Int), .int .i64 (p.f2 : Int)] 82) = x := ⟨_, rfl⟩
  have hb2 : Below w.heap.size w w2 := by rw [← hw2]; exact below_alloc (Below.refl _ _) _
  have hbp : w2.heap[w.heap.size]? = some (.cells #[.string p.f0.f0, .int .u64 p.f0.f1, .int .i64 p.f0.f2, .int .i64 (p.f1 : Int), .int .i64 (p.f2 : Int)] 82 (0, 0)) := by rw [← hw2]; exact blk_new w _
  have HTD := Aside0.mk (blk_drew (blk_below HT.out hb2))
  have BPD := Aside0.mk (blk_drew hbp)
  have HCD := Aside0.mk (Kd.C_drew (Kd.C_below HCb.out hb2))
  have HBD := Aside0.mk (below_drew1 hb2)
  rw [hw2]
  clear hw2 hb2 hbp
  go_wp2_with fail
  refine start_ (n := 14) (S := fun w' => w'.cell? ⟨g, 0, none⟩ = some (.slice Ab b.length cb) ∧ w'.cell? ⟨w.heap.size, 3, none⟩ = some (.int .i64 (p.f1 : Int)) ∧ w'.cell? ⟨w.heap.size, 4, none⟩ = some (.int .i64 (p.f2 : Int))) (ds := []) #[false, false, false, false, false, false, false, false, false, false, false, false, false, false] (by kernel_rfl) rfl rfl ⟨(blk_cell HTD.out 0).trans rfl, (blk_cell BPD.out 3).trans rfl, (blk_cell BPD.out 4).trans rfl⟩ (fun hHeld => ?_)
  refine pure_ (i := 0) (N := some 13) (v := ?_) (a' := ?_) #[true, false, false, false, false, false, false, false, false, false, false, false, false, false] rfl rfl (by kernel_rfl) (fun _ _ _ h => h) (Or.inl ⟨by rfl, ?_⟩) ?_ ?_
  rotate_left
  · intro w'
    go_simp
    with_reducible rfl
  rotate_left
  · simp only [Act.put, List.setIfInBounds_toArray, List.set_cons_zero, List.set_cons_succ, i64_w, i32_w]
    rfl
  refine pure_ (i := 1) (N := some 14) (v := ?_) (a' := ?_) #[true, true, false, false, false, false, false, false, false, false, false, false, false, false] rfl rfl (by kernel_rfl) (fun _ _ _ h => h) (Or.inl ⟨by rfl, ?_⟩) ?_ ?_
  rotate_left
  · intro w'
    go_simp
    with_reducible rfl
  rotate_left
  · simp only [Act.put, List.setIfInBounds_toArray, List.set_cons_zero, List.set_cons_succ, i64_w, i32_w]
    rfl
  refine pure_ (i := 2) (N := some 15) (v := ?_) (a' := ?_) #[true, true, true, false, false, false, false, false, false, false, false, false, false, false] rfl rfl (by kernel_rfl) (fun _ _ _ h => h) (Or.inl ⟨by rfl, ?_⟩) ?_ ?_
  rotate_left
  · intro w'
    go_simp
    with_reducible rfl
  rotate_left
  · simp only [Act.put, List.setIfInBounds_toArray, List.set_cons_zero, List.set_cons_succ, i64_w, i32_w]
    rfl
  refine pure_ (i := 4) (N := some 17) (v := ?_) (a' := ?_) #[true, true, true, false, true, false, false, false, false, false, false, false, false, false] rfl rfl (by kernel_rfl) (fun _ _ _ h => h) (Or.inl ⟨by rfl, ?_⟩) ?_ ?_
  rotate_left
  · intro w'
    go_simp
    with_reducible rfl
  rotate_left
  · simp only [Act.put, List.setIfInBounds_toArray, List.set_cons_zero, List.set_cons_succ, i64_w, i32_w]
    rfl
  refine pure_ (i := 6) (N := some 19) (v := ?_) (a' := ?_) #[true, true, true, false, true, false, true, false, false, false, false, false, false, false] rfl rfl (by kernel_rfl) (fun _ _ _ h => h) (Or.inl ⟨by rfl, ?_⟩) ?_ ?_
  rotate_left
  · intro w'
    go_simp
    with_reducible rfl
  rotate_left
  · simp only [Act.put, List.setIfInBounds_toArray, List.set_cons_zero, List.set_cons_succ, i64_w, i32_w]
    rfl
  refine take_ (i := 3) (N := some 16) (v := ?_) (a' := ?_) #[true, true, true, true, true, false, true, false, false, false, false, false, false, false] rfl rfl (by kernel_rfl) (fun _ _ _ h => h) (Or.inl ⟨by rfl, ?_⟩) hHeld ?_ ?_
  rotate_left
  · rintro w' ⟨s0, s1, s2⟩
    go_simp
    with_reducible rfl
  rotate_left
  · simp only [Act.put, List.setIfInBounds_toArray, List.set_cons_zero, List.set_cons_succ, i64_w, i32_w]
    rfl
  refine take_ (i := 5) (N := some 18) (v := ?_) (a' := ?_) #[true, true, true, true, true, true, true, false, false, false, false, false, false, false] rfl rfl (by kernel_rfl) (fun _ _ _ h => h) (Or.inl ⟨by rfl, ?_⟩) hHeld ?_ ?_
  rotate_left
  · rintro w' ⟨s0, s1, s2⟩
    go_simp
    with_reducible rfl
  rotate_left
  · simp only [Act.put, List.setIfInBounds_toArray, List.set_cons_zero, List.set_cons_succ, i64_w, i32_w]
    rfl
  refine take_ (i := 7) (N := some 20) (v := ?_) (a' := ?_) #[true, true, true, true, true, true, true, true, false, false, false, false, false, false] rfl rfl (by kernel_rfl) (fun _ _ _ h => h) (Or.inl ⟨by rfl, ?_⟩) hHeld ?_ ?_
  rotate_left
  · rintro w' ⟨s0, s1, s2⟩
    go_simp
    with_reducible rfl
  rotate_left
  · simp only [Act.put, List.setIfInBounds_toArray, List.set_cons_zero, List.set_cons_succ, i64_w, i32_w]
    rfl
  refine one_ (i := 8) (N := some 21) #[true, true, true, true, true, true, true, true, true, false, false, false, false, false] rfl rfl (by kernel_rfl) (by decide) (fun K hK => ?_)
  refine goes_ Try.func32 (by kernel_rfl) rfl #[.slice Ab b.length cb, .int .i64 (p.f1 : Int), .int .i64 (p.f2 : Int)] (by rfl) rfl rfl (by simp only [List.map_toArray, List.map_cons, List.map_nil]; rfl) ?_
  with_reducible refine (part_calls k Ab cb b p.f1 p.f2 (q, qok) _ HCD.out HCC.out HQ.out).mono ?_
  rintro ex w3 ⟨Aq, rfl, hcq, hb⟩
  refine ⟨_, rfl, ?_⟩
  have HT3 := Aside0.mk (blk_below HTD.out hb)
  have BP3 := Aside0.mk (blk_below BPD.out hb)
  have HB3 := Aside0.mk (below_step HBD.out hb)
  have HCQ := Aside0.mk (hcq _ (Kd.C_below HCD.out hb))
  clear hb hcq
  refine hK.out _ _ ⟨(blk_cell HT3.out 0).trans rfl, (blk_cell BP3.out 3).trans rfl, (blk_cell BP3.out 4).trans rfl⟩ (fun hHeld => ?_)
  clear hK K
  refine norm_ (a' := ?_) ?_ ?_
  rotate_left
  · show Act.put _ (some 21) _ = _
    simp only [Act.put, List.setIfInBounds_toArray, List.set_cons_zero, List.set_cons_succ, i64_w, i32_w]
    rfl
  refine pure_ (i := 9) (N := some 12) (v := ?_) (a' := ?_) #[true, true, true, true, true, true, true, true, true, true, false, false, false, false] rfl rfl (by kernel_rfl) (fun _ _ _ h => h) (Or.inl ⟨by rfl, ?_⟩) ?_ ?_
  rotate_left
  · intro w'
    go_simp
    with_reducible rfl
  rotate_left
  · simp only [Act.put, List.setIfInBounds_toArray, List.set_cons_zero, List.set_cons_succ, i64_w, i32_w]
    rfl
  refine pure_ (i := 10) (N := some 22) (v := ?_) (a' := ?_) #[true, true, true, true, true, true, true, true, true, true, true, false, false, false] rfl rfl (by kernel_rfl) (fun _ _ _ h => h) (Or.inl ⟨by rfl, ?_⟩) ?_ ?_
  rotate_left
  · intro w'
    go_simp
    with_reducible rfl
  rotate_left
  · simp only [Act.put, List.setIfInBounds_toArray, List.set_cons_zero, List.set_cons_succ, i64_w, i32_w]
    rfl
  refine pure_ (i := 11) (N := some 23) (v := ?_) (a' := ?_) #[true, true, true, true, true, true, true, true, true, true, true, true, false, false] rfl rfl (by kernel_rfl) (fun _ _ _ h => h) (Or.inl ⟨by rfl, ?_⟩) ?_ ?_
  rotate_left
  · intro w'
    go_simp
    with_reducible rfl
  rotate_left
  · simp only [Act.put, List.setIfInBounds_toArray, List.set_cons_zero, List.set_cons_succ, i64_w, i32_w]
    rfl
  refine pure_ (i := 12) (N := some 6) (v := ?_) (a' := ?_) #[true, true, true, true, true, true, true, true, true, true, true, true, true, false] rfl rfl (by kernel_rfl) (fun _ _ _ h => h) (Or.inl ⟨by rfl, ?_⟩) ?_ ?_
  rotate_left
  · intro w'
    go_simp
    with_reducible rfl
  rotate_left
  · simp only [Act.put, List.setIfInBounds_toArray, List.set_cons_zero, List.set_cons_succ, i64_w, i32_w]
    rfl
  refine pure_ (i := 13) (N := some 7) (v := ?_) (a' := ?_) #[true, true, true, true, true, true, true, true, true, true, true, true, true, true] rfl rfl (by kernel_rfl) (fun _ _ _ h => h) (Or.inl ⟨by rfl, ?_⟩) ?_ ?_
  rotate_left
  · intro w'
    go_simp
    with_reducible rfl
  rotate_left
  · simp only [Act.put, List.setIfInBounds_toArray, List.set_cons_zero, List.set_cons_succ, i64_w, i32_w]
    rfl
  refine done_ (by kernel_rfl) ?_
  cases qok with
  | false =>
    have hf := HF.out
    rw [if_neg (by decide)] at hf
    obtain rfl := Option.some.inj hf
    clear hf HF
    go_wp2
    go_ret2
    exact ⟨HB3.out, rfl⟩
  | true =>
    have hf := HF.out
    rw [if_pos rfl] at hf
    obtain ⟨r0, hr0, hf⟩ := Option.bind_eq_some_iff.mp hf
    cases r0 with
    | none => cases hf
    | some x =>
    dsimp only at hf
    split at hf
    case isFalse => cases hf
    rename_i hx
    obtain rfl := Option.some.inj hf
    have HR0 := Aside0.mk hr0
    obtain ⟨hx0, hx1, hx2, hx3, hx4⟩ := hx
    obtain ⟨l, iv⟩ := x
    dsimp only at hx0 hx1 hx2 hx3 hx4 hr0
    obtain ⟨L, hL⟩ : ∃ y, rd_T47 l ((l.length : Int) - 1) = y := ⟨_, rfl⟩
    rw [hL] at hx2 hx3 hx4
    have e1 : (l.length == 0) = false := by rw [beq_eq_false_iff_ne]; omega
    have e2 : ((l.length : Int) == 0) = false := by rw [beq_eq_false_iff_ne]; omega
    have HX := Aside0.mk hx0
    have HX1 := Aside0.mk hx1
    have hw1 := tv_w1 l.length hx0 hx1
    have p0 : (L.f0.f0.toList == p.f0.f0.toList) = true := by rw [hx2]; exact beq_self_eq_true _
    have p1 : (L.f0.f1 == p.f0.f1) = true := by rw [hx3]; exact beq_self_eq_true _
    have p2 : (L.f0.f2 == p.f0.f2) = true := by rw [hx4]; exact beq_self_eq_true _
    have HL := Aside0.mk hL
    have hk0 : w3.cell? ⟨w.heap.size, 0, none⟩ = some (.string p.f0.f0) := (blk_cell BP3.out 0).trans rfl
    clear hf HF hr0 hx0 hx1 hx2 hx3 hx4 hL hk0
    go_upto_region 8 with (first
      | (go_at_call 33; with_reducible refine (Open_own k Aq q.length q (some (l, iv)) _ HCQ.out (Nat.le_refl _) HR0.out).mono ?_; rintro ex w4 ⟨hb, gi, rfl, hge, hown⟩
         have BP4 := Aside0.mk (blk_below BP3.out hb)
         have HB4 := Aside0.mk (below_step HB3.out hb)
         have HGI : Aside0 (w.heap.size ≤ gi) := ⟨Nat.le_trans (below_size HB3.out) hge⟩
         have HOW : Aside0 (IsOwn w4 w.heap.size gi l iv) := ⟨hown.lower (below_size HB3.out)⟩
         clear hb hown hge)
      | (go_at_call 34; with_reducible refine (Len_calls gi l iv _ HOW.out.blk).mono ?_; rintro ex w5 ⟨rfl, hww⟩; obtain rfl := hww.symm)
      | (go_at_call 35; with_reducible refine (At_calls gi l iv ((l.length : Int) - 1) _ HOW.out.blk (by have := HX.out; clear hw1; omega) (by clear hw1; omega)).mono ?_; rw [HL.out]; unfold kvV; rintro ex w5 ⟨rfl, hb⟩
         have BP5 := Aside0.mk (blk_below BP4.out hb)
         have HB5 := Aside0.mk (below_step HB4.out hb)
         have HOW5 := Aside0.mk (hown_below HOW.out hb)
         clear hb)
      | ((with_reducible refine gate_dst (N := 10) rfl ?_); refine box_event ?hg (N := 10) ?hd (cs := #[.string (⟨#[]⟩ : ByteArray), .int .u64 0, .int .i64 0, .string (⟨#[]⟩ : ByteArray)]) (t := 47) ?hr ?_; (case hd => rfl); (case hg => rfl); (case hr => first | (go_simp; done) | (go_simp; rfl)); intro gb hg w6 hbox hb
         have BK := Aside0.mk hbox
         have BP6 := Aside0.mk (blk_below BP5.out hb)
         have HB6 := Aside0.mk (below_step HB5.out hb)
         have HB56 := Aside0.mk hb
         have HGB : Aside0 (w.heap.size < gb ∧ w5.heap.size ≤ gb) := ⟨by rw [hg]; exact ⟨blk_lt2 BP5.out, Nat.le_refl _⟩⟩
         clear hb hbox hg
         have hcz0 : w6.cell? ⟨gb, 0, none⟩ = some (.string (⟨#[]⟩ : ByteArray)) := (blk_cell BK.out 0).trans rfl
         have hcz1 : w6.cell? ⟨gb, 1, none⟩ = some (.int .u64 0) := (blk_cell BK.out 1).trans rfl
         have hcz2 : w6.cell? ⟨gb, 2, none⟩ = some (.int .i64 0) := (blk_cell BK.out 2).trans rfl
         have hcz3 : w6.cell? ⟨gb, 3, none⟩ = some (.string (⟨#[]⟩ : ByteArray)) := (blk_cell BK.out 3).trans rfl
         have hfz0 := blk_frozen BK.out 0
         have hfz1 := blk_frozen BK.out 1
         have hfz2 := blk_frozen BK.out 2
         have hfz3 := blk_frozen BK.out 3))
    obtain ⟨w7, hw7⟩ : ∃ y, (((w6.setCell ⟨gb, 0, none⟩ (.string L.f0.f0)).setCell ⟨gb, 1, none⟩ (.int .u64 L.f0.f1)).setCell ⟨gb, 2, none⟩ (.int .i64 L.f0.f2)).setCell ⟨gb, 3, none⟩ (.string L.f1) = y := ⟨_, rfl⟩
    have BK7 : w7.heap[gb]? = some (.cells #[.string L.f0.f0, .int .u64 L.f0.f1, .int .i64 L.f0.f2, .string L.f1] 47 (0, 0)) := by
      rw [← hw7]
      exact blk_put (cs := #[.string L.f0.f0, .int .u64 L.f0.f1, .int .i64 L.f0.f2, .string (⟨#[]⟩ : ByteArray)]) (blk_put (cs := #[.string L.f0.f0, .int .u64 L.f0.f1, .int .i64 0, .string (⟨#[]⟩ : ByteArray)]) (blk_put (cs := #[.string L.f0.f0, .int .u64 0, .int .i64 0, .string (⟨#[]⟩ : ByteArray)]) (blk_put (cs := #[.string (⟨#[]⟩ : ByteArray), .int .u64 0, .int .i64 0, .string (⟨#[]⟩ : ByteArray)]) BK.out 0 _ rfl) 1 _ rfl) 2 _ rfl) 3 _ rfl
    have HB57 : Below w5.heap.size w5 w7 := by rw [← hw7]; exact below_set (below_set (below_set (below_set HB56.out HGB.out.2) HGB.out.2) HGB.out.2) HGB.out.2
    have HOW7 := Aside0.mk (hown_below HOW5.out HB57)
    have BP7 := blk_below BP5.out HB57
    have HB7 := Aside0.mk (below_step HB5.out HB57)
    rw [hw7]
    clear hw7 hcz0 hcz1 hcz2 hcz3 hfz0 hfz1 hfz2 hfz3 HB57 BK HB56
    have k0 : w7.cell? ⟨gb, 0, none⟩ = some (.string L.f0.f0) := (blk_cell BK7 0).trans rfl
    have k1 : w7.cell? ⟨gb, 1, none⟩ = some (.int .u64 L.f0.f1) := (blk_cell BK7 1).trans rfl
    have k2 : w7.cell? ⟨gb, 2, none⟩ = some (.int .i64 L.f0.f2) := (blk_cell BK7 2).trans rfl
    have m0 : w7.cell? ⟨w.heap.size, 0, none⟩ = some (.string p.f0.f0) := (blk_cell BP7 0).trans rfl
    have m1 : w7.cell? ⟨w.heap.size, 1, none⟩ = some (.int .u64 p.f0.f1) := (blk_cell BP7 1).trans rfl
    have m2 : w7.cell? ⟨w.heap.size, 2, none⟩ = some (.int .i64 p.f0.f2) := (blk_cell BP7 2).trans rfl
    clear BK7 BP7 hw1 e1 e2
    go_wp2
    go_ret2
    exact ⟨HB7.out, gi, rfl, HGI.out, HOW7.out⟩
end Go.Proofs.Ythdemdjobgbpdaa.T
