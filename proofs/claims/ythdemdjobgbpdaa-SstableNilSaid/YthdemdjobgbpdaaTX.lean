/- sstable's Get. -/
import Derived.Test.YthdemdjobgbpdaaTY
import Derived.Test.YthdemdjobgbpdaaTF
import Derived.Test.YthdemdjobgbpdaaBF
namespace Go.Proofs.Ythdemdjobgbpdaa.T
open Go.RowKit Go.Shelf Go.Proofs.YthdemdjobgbpdaaW.PrintWords Go.Proofs.YthdemdjobgbpdaaW.PrintLast Go.Proofs.YthdemdjobgbpdaaW.PrintMore Go.Proofs.Ythdemdjobgbpdaa.P Go.Proofs.Ythdemdjobgbpdaa.B Go.Proofs.Ythdemdjobgbpdaa.Q
attribute [local go_sem] Oper.semAt_some
set_option linter.unusedVariables false
set_option linter.unusedSimpArgs false
def noText : ByteArray := ⟨#[]⟩
theorem toList_inj {a b : ByteArray} (h : a.toList = b.toList) : a = b := by
  rw [ByteArray.toList_eq, ByteArray.toList_eq] at h
  cases a
  cases b
  congr 1
  exact Array.toList_inj.mp h
/-- what a block tells of a key -/
def tell_f (l : List S47) (n : Nat) (user : ByteArray) : ByteArray × Int × Int :=
  if n < l.length then (if (rd_T47 l (n : Int)).f0.f0 = user then (if (rd_T47 l (n : Int)).f0.f2 = 0 then (noText, 1, 0) else ((rd_T47 l (n : Int)).f1, 2, 0)) else (noText, 0, 0)) else (noText, 0, 0)
def capSeq (seq : Int) : Int := if 72057594037927935 < seq then 72057594037927935 else seq
def get_f (k : Nat) (b fl : List Int) (ps : List SPl) (user : ByteArray) (seq : Int) : Option (ByteArray × Int × Int) :=
  (may_f k fl user).bind fun m => if m = false then some (noText, 0, 0) else
    (bs_f k ps ⟨user, capSeq seq, 1⟩).bind fun i => if ps.length ≤ i.1 then (if i.1 = ps.length then some (noText, 0, 0) else none) else
      (tread_f k b (rd_TPl ps (i.1 : Int))).bind fun r => match r with
        | none => some (noText, 0, 122)
        | some x => if 0 ≤ x.2 then (find_f k x.1 x.2.toNat ⟨user, capSeq seq, 1⟩).bind fun n => if n ≤ x.1.length then some (tell_f x.1 n user) else none else none
set_option maxHeartbeats 1000000 in
set_option maxRecDepth 100000 in
theorem get_nil (user : ByteArray) (seq : Int) (w : World) : Calls Try.prog 16 #[.pointer none, .string user, .int .u64 seq] w fun e w' => e = .returned (.tuple #[.string noText, .int .i64 0, .int .i64 1]) ∧ w' = w := by
  go_enter Try.func16, Try.ntmps16
  go_wp2
  go_ret3
  exact ⟨rfl, rfl⟩
set_option maxRecDepth 100000 in
set_option maxHeartbeats 4000000 in
theorem get_calls (k g : Nat) (b fl : List Int) (ps : List SPl) (cnt : Int) (user : ByteArray) (seq : Int) (r : ByteArray × Int × Int) (w : World) (h : IsTab w g b fl ps cnt) (hf : get_f k b fl ps user seq = some r) :
    Calls Try.prog 16 #[.pointer (some ⟨g, 0, none⟩), .string user, .int .u64 seq] w fun e w' => e = .returned (.tuple #[.string r.1, .int .i64 r.2.1, .int .i64 r.2.2]) ∧ Below w.heap.size w w' := by
  have HT := Aside0.mk h
  unfold get_f at hf
  obtain ⟨m, hm, hf⟩ := Option.bind_eq_some_iff.mp hf
  obtain ⟨Ab, cb, Af, cf, Ap, cp, h1, h2, h3, h4, h5, h6, h7⟩ := h
  have BT := Aside0.mk h1
  have HCF := Aside0.mk h4
  have HCFC := Aside0.mk h5
  have HCP := Aside0.mk h6
  have HCPC := Aside0.mk h7
  have HM := Aside0.mk hm
  have HF := Aside0.mk hf
  have hq1 : w.cell? ⟨g, 1, none⟩ = some (.slice Af fl.length cf) := (blk_cell h1 1).trans rfl
  clear h1 h2 h3 h4 h5 h6 h7 hm hf
  go_enter Try.func16, Try.ntmps16
  cases m with
  | false =>
    have hf := HF.out
    rw [if_pos rfl] at hf
    obtain rfl := Option.some.inj hf
    clear hf HF
    go_wp2_with (first
      | (go_at_call 40; with_reducible refine (may_calls k Af cf fl user false _ HCF.out HCFC.out HM.out).mono ?_; rintro ex w2 ⟨rfl, hb⟩
         have HB2 := Aside0.mk hb
         clear hb))
    go_ret3
    exact ⟨rfl, HB2.out⟩
  | true =>
    have hf := HF.out
    rw [if_neg (by decide)] at hf
    obtain ⟨⟨i, io⟩, hi, hf⟩ := Option.bind_eq_some_iff.mp hf
    have HI := Aside0.mk hi
    replace HF := Aside0.mk hf
    clear hf hi
    go_upto_region 6 with (first
      | (go_at_call 40; with_reducible refine (may_calls k Af cf fl user true _ HCF.out HCFC.out HM.out).mono ?_; rintro ex w2 ⟨rfl, hb⟩
         have HB2 := Aside0.mk hb
         clear hb hq1)
      | ((with_reducible refine gate_dst (N := 9) rfl ?_); refine box_event ?hg (N := 9) ?hd (cs := #[.string (⟨#[]⟩ : ByteArray), .int .u64 0, .int .i64 0]) (t := 45) ?hr ?_; (case hd => rfl); (case hg => rfl); (case hr => first | (go_simp; done) | (go_simp; rfl)); intro gb hg w3 hbox hb
         have BK := Aside0.mk hbox
         have HB3 := Aside0.mk (below_step HB2.out hb)
         have HGB : Aside0 (w.heap.size ≤ gb) := ⟨by rw [hg]; exact below_size HB2.out⟩
         clear hb hbox hg
         have hcz0 : w3.cell? ⟨gb, 0, none⟩ = some (.string (⟨#[]⟩ : ByteArray)) := (blk_cell BK.out 0).trans rfl
         have hcz1 : w3.cell? ⟨gb, 1, none⟩ = some (.int .u64 0) := (blk_cell BK.out 1).trans rfl
         have hcz2 : w3.cell? ⟨gb, 2, none⟩ = some (.int .i64 0) := (blk_cell BK.out 2).trans rfl
         have hfz0 := blk_frozen BK.out 0
         have hfz1 := blk_frozen BK.out 1
         have hfz2 := blk_frozen BK.out 2))
    obtain ⟨Q, hQ⟩ : ∃ y, capSeq seq = y := ⟨_, rfl⟩
    have hcap : (if 72057594037927935 < seq then 72057594037927935 else seq) = Q := hQ
    simp only [hcap]
    rw [hQ] at HI HF
    clear hcap hQ
    obtain ⟨w4, hw4⟩ : ∃ y, ((w3.setCell ⟨gb, 0, none⟩ (.string user)).setCell ⟨gb, 1, none⟩ (.int .u64 Q)).setCell ⟨gb, 2, none⟩ (.int .i64 1) = y := ⟨_, rfl⟩
    have BK4 : Aside0 (w4.heap[gb]? = some (.cells #[.string user, .int .u64 Q, .int .i64 1] 45 (0, 0))) := ⟨by
      rw [← hw4]
      exact blk_put (cs := #[.string user, .int .u64 Q, .int .i64 0]) (blk_put (cs := #[.string user, .int .u64 0, .int .i64 0]) (blk_put (cs := #[.string (⟨#[]⟩ : ByteArray), .int .u64 0, .int .i64 0]) BK.out 0 _ rfl) 1 _ rfl) 2 _ rfl⟩
    have HB4 : Aside0 (Below w.heap.size w w4) := ⟨by rw [← hw4]; exact below_set (below_set (below_set HB3.out HGB.out) HGB.out) HGB.out⟩
    rw [hw4]
    clear hw4 hcz0 hcz1 hcz2 hfz0 hfz1 hfz2 HB3 HB2 BK
    have BTd := Aside0.mk (blk_drew (blk_below BT.out HB4.out))
    have BKd := Aside0.mk (blk_drew BK4.out)
    have HBd := Aside0.mk (below_drew1 HB4.out)
    have HCPd := Aside0.mk (Kd.C_drew (Kd.C_below HCP.out HB4.out))
    go_wp2_with fail
    refine start_ (n := 11) (S := fun w' => w'.cell? ⟨g, 2, none⟩ = some (.slice Ap ps.length cp) ∧ w'.cell? ⟨gb, 0, none⟩ = some (.string user) ∧ w'.cell? ⟨gb, 1, none⟩ = some (.int .u64 Q) ∧ w'.cell? ⟨gb, 2, none⟩ = some (.int .i64 1)) (ds := []) #[false, false, false, false, false, false, false, false, false, false, false] (by kernel_rfl) rfl rfl ⟨(blk_cell BTd.out 2).trans rfl, (blk_cell BKd.out 0).trans rfl, (blk_cell BKd.out 1).trans rfl, (blk_cell BKd.out 2).trans rfl⟩ (fun hHeld => ?_)
    refine pure_ (i := 0) (N := some 29) (v := ?_) (a' := ?_) #[true, false, false, false, false, false, false, false, false, false, false] rfl rfl (by kernel_rfl) (fun _ _ _ h => h) (Or.inl ⟨by rfl, ?_⟩) ?_ ?_
    rotate_left
    · intro w'
      go_simp
      with_reducible rfl
    rotate_left
    · simp only [Act.put, List.setIfInBounds_toArray, List.set_cons_zero, List.set_cons_succ, i64_w, i32_w]
      rfl
    refine pure_ (i := 1) (N := some 30) (v := ?_) (a' := ?_) #[true, true, false, false, false, false, false, false, false, false, false] rfl rfl (by kernel_rfl) (fun _ _ _ h => h) (Or.inl ⟨by rfl, ?_⟩) ?_ ?_
    rotate_left
    · intro w'
      go_simp
      with_reducible rfl
    rotate_left
    · simp only [Act.put, List.setIfInBounds_toArray, List.set_cons_zero, List.set_cons_succ, i64_w, i32_w]
      rfl
    refine pure_ (i := 2) (N := some 31) (v := ?_) (a' := ?_) #[true, true, true, false, false, false, false, false, false, false, false] rfl rfl (by kernel_rfl) (fun _ _ _ h => h) (Or.inl ⟨by rfl, ?_⟩) ?_ ?_
    rotate_left
    · intro w'
      go_simp
      with_reducible rfl
    rotate_left
    · simp only [Act.put, List.setIfInBounds_toArray, List.set_cons_zero, List.set_cons_succ, i64_w, i32_w]
      rfl
    refine take_ (i := 3) (N := some 32) (v := ?_) (a' := ?_) #[true, true, true, true, false, false, false, false, false, false, false] rfl rfl (by kernel_rfl) (fun _ _ _ h => h) (Or.inl ⟨by rfl, ?_⟩) hHeld ?_ ?_
    rotate_left
    · rintro w' ⟨s0, s1, s2, s3⟩
      go_simp
      with_reducible rfl
    rotate_left
    · simp only [Act.put, List.setIfInBounds_toArray, List.set_cons_zero, List.set_cons_succ, i64_w, i32_w]
      rfl
    refine take_ (i := 4) (N := some 33) (v := ?_) (a' := ?_) #[true, true, true, true, true, false, false, false, false, false, false] rfl rfl (by kernel_rfl) (fun _ _ _ h => h) (Or.inl ⟨by rfl, ?_⟩) hHeld ?_ ?_
    rotate_left
    · rintro w' ⟨s0, s1, s2, s3⟩
      go_simp
      with_reducible rfl
    rotate_left
    · simp only [Act.put, List.setIfInBounds_toArray, List.set_cons_zero, List.set_cons_succ, i64_w, i32_w]
      rfl
    refine one_ (i := 5) (N := some 34) #[true, true, true, true, true, true, false, false, false, false, false] rfl rfl (by kernel_rfl) (by decide) (fun K hK => ?_)
    refine goes_ Try.func41 (by kernel_rfl) rfl #[.slice Ap ps.length cp, .agg #[.string user, .int .u64 Q, .int .i64 1], .func (.func 42) #[] #[]] (by rfl) rfl rfl (by simp only [List.map_toArray, List.map_cons, List.map_nil]; rfl) ?_
    with_reducible refine (bs_calls k Ap cp ps ⟨user, Q, 1⟩ (i, io) _ HCPd.out HCPC.out HI.out).mono ?_
    rintro ex w5 ⟨rfl, hb⟩
    refine ⟨_, rfl, ?_⟩
    have BT5 := Aside0.mk (blk_below BTd.out hb)
    have BK5 := Aside0.mk (blk_below BKd.out hb)
    have HB5 := Aside0.mk (below_step HBd.out hb)
    clear hb
    refine hK.out _ _ ⟨(blk_cell BT5.out 2).trans rfl, (blk_cell BK5.out 0).trans rfl, (blk_cell BK5.out 1).trans rfl, (blk_cell BK5.out 2).trans rfl⟩ (fun hHeld => ?_)
    clear hK K
    refine norm_ (a' := ?_) ?_ ?_
    rotate_left
    · show Act.put _ (some 34) _ = _
      simp only [Act.put, List.setIfInBounds_toArray, List.set_cons_zero, List.set_cons_succ, i64_w, i32_w]
      rfl
    refine pure_ (i := 6) (N := some 28) (v := ?_) (a' := ?_) #[true, true, true, true, true, true, true, false, false, false, false] rfl rfl (by kernel_rfl) (fun _ _ _ h => h) (Or.inl ⟨by rfl, ?_⟩) ?_ ?_
    rotate_left
    · intro w'
      go_simp
      with_reducible rfl
    rotate_left
    · simp only [Act.put, List.setIfInBounds_toArray, List.set_cons_zero, List.set_cons_succ, i64_w, i32_w]
      rfl
    refine pure_ (i := 7) (N := some 35) (v := ?_) (a' := ?_) #[true, true, true, true, true, true, true, true, false, false, false] rfl rfl (by kernel_rfl) (fun _ _ _ h => h) (Or.inl ⟨by rfl, ?_⟩) ?_ ?_
    rotate_left
    · intro w'
      go_simp
      with_reducible rfl
    rotate_left
    · simp only [Act.put, List.setIfInBounds_toArray, List.set_cons_zero, List.set_cons_succ, i64_w, i32_w]
      rfl
    refine pure_ (i := 8) (N := some 36) (v := ?_) (a' := ?_) #[true, true, true, true, true, true, true, true, true, false, false] rfl rfl (by kernel_rfl) (fun _ _ _ h => h) (Or.inl ⟨by rfl, ?_⟩) ?_ ?_
    rotate_left
    · intro w'
      go_simp
      with_reducible rfl
    rotate_left
    · simp only [Act.put, List.setIfInBounds_toArray, List.set_cons_zero, List.set_cons_succ, i64_w, i32_w]
      rfl
    refine pure_ (i := 9) (N := some 10) (v := ?_) (a' := ?_) #[true, true, true, true, true, true, true, true, true, true, false] rfl rfl (by kernel_rfl) (fun _ _ _ h => h) (Or.inl ⟨by rfl, ?_⟩) ?_ ?_
    rotate_left
    · intro w'
      go_simp
      with_reducible rfl
    rotate_left
    · simp only [Act.put, List.setIfInBounds_toArray, List.set_cons_zero, List.set_cons_succ, i64_w, i32_w]
      rfl
    refine pure_ (i := 10) (N := some 11) (v := ?_) (a' := ?_) #[true, true, true, true, true, true, true, true, true, true, true] rfl rfl (by kernel_rfl) (fun _ _ _ h => h) (Or.inl ⟨by rfl, ?_⟩) ?_ ?_
    rotate_left
    · intro w'
      go_simp
      with_reducible rfl
    rotate_left
    · simp only [Act.put, List.setIfInBounds_toArray, List.set_cons_zero, List.set_cons_succ, i64_w, i32_w]
      rfl
    refine done_ (by kernel_rfl) ?_
    by_cases ci : ps.length ≤ i
    · have hf := HF.out
      rw [if_pos ci] at hf
      split at hf
      case isFalse => cases hf
      rename_i hie
      obtain rfl := Option.some.inj hf
      have hq2 : w5.cell? ⟨g, 2, none⟩ = some (.slice Ap ps.length cp) := (blk_cell BT5.out 2).trans rfl
      have e1 : ((i : Int) == (ps.length : Int)) = true := by rw [hie]; exact beq_self_eq_true _
      have e2 : (i == ps.length) = true := by rw [hie]; exact beq_self_eq_true _
      clear hf HF ci hie
      go_wp2
      go_ret3
      exact ⟨rfl, HB5.out⟩
    · have hf := HF.out
      rw [if_neg ci] at hf
      obtain ⟨r0, hr0, hf⟩ := Option.bind_eq_some_iff.mp hf
      have hq2 : w5.cell? ⟨g, 2, none⟩ = some (.slice Ap ps.length cp) := (blk_cell BT5.out 2).trans rfl
      have e1 : ((i : Int) == (ps.length : Int)) = false := by rw [beq_eq_false_iff_ne]; omega
      have e2 : (i == ps.length) = false := by rw [beq_eq_false_iff_ne]; omega
      obtain ⟨ad, eA, k0, k1, k2, k3, k4⟩ := at_TPl (Kd.C_below HCP.out HB5.out) (i : Int) (Int.natCast_nonneg i) (by omega)
      subst eA
      rw [Int.toNat_natCast] at k0 k1 k2 k3 k4
      obtain ⟨X, hX⟩ : ∃ x, rd_TPl ps (i : Int) = x := ⟨_, rfl⟩
      rw [hX] at hr0 k0 k1 k2 k3 k4
      have HR0 := Aside0.mk hr0
      replace HF := Aside0.mk hf
      have p1 := eq_true (show (0 : Int) ≤ (i : Int) by omega)
      have p2 := eq_true (show (i : Int) < (ps.length : Int) by omega)
      clear hX hr0 hf ci
      cases r0 with
      | none =>
        have hf := HF.out
        obtain rfl := Option.some.inj hf
        clear hf HF
        go_wp2_with (first
          | (go_at_call 38; with_reducible refine (tread_calls k g b fl ps cnt X none _ (HT.out.below HB5.out) HR0.out).mono ?_; rintro ex w6 ⟨hb, rfl⟩
             have HB6 := Aside0.mk (below_step HB5.out hb)
             clear hb))
        go_ret3
        exact ⟨rfl, HB6.out⟩
      | some x =>
        obtain ⟨l, iv⟩ := x
        have hf := HF.out
        dsimp only at hf
        split at hf
        case isFalse => cases hf
        rename_i hiv
        obtain ⟨n, hn, hf⟩ := Option.bind_eq_some_iff.mp hf
        split at hf
        case isFalse => cases hf
        rename_i hnl
        obtain rfl := Option.some.inj hf
        obtain ⟨iv, rfl⟩ := Int.eq_ofNat_of_zero_le hiv
        rw [Int.toNat_natCast] at hn
        have HN := Aside0.mk hn
        have HNL := Aside0.mk hnl
        clear hf HF hn hnl hiv
        go_upto_region 12 with (first
          | (go_at_call 38; with_reducible refine (tread_calls k g b fl ps cnt X (some (l, (iv : Int))) _ (HT.out.below HB5.out) HR0.out).mono ?_; rintro ex w6 ⟨hb, gi, rfl, hge, hown⟩
             have HB6 := Aside0.mk (below_step HB5.out hb)
             have BK6 := Aside0.mk (blk_below BK5.out hb)
             have HOW := Aside0.mk hown
             clear hb hge hown))
        clear k0 k1 k2 k3 k4 p1 p2 e1 e2 hq2
        have m0 : w6.cell? ⟨gb, 0, none⟩ = some (.string user) := (blk_cell BK6.out 0).trans rfl
        have m1 : w6.cell? ⟨gb, 1, none⟩ = some (.int .u64 Q) := (blk_cell BK6.out 1).trans rfl
        have m2 : w6.cell? ⟨gb, 2, none⟩ = some (.int .i64 1) := (blk_cell BK6.out 2).trans rfl
        by_cases cn : n < l.length
        · obtain ⟨L, hL⟩ : ∃ y, rd_T47 l (n : Int) = y := ⟨_, rfl⟩
          have HL := Aside0.mk hL
          have HCN := Aside0.mk cn
          have htl : tell_f l n user = if L.f0.f0 = user then (if L.f0.f2 = 0 then (noText, 1, 0) else (L.f1, 2, 0)) else (noText, 0, 0) := by
            unfold tell_f
            rw [if_pos cn, hL]
          have HTL := Aside0.mk htl
          clear hL cn htl
          go_upto_region 13 with (first
            | (go_at_call 43; with_reducible refine (Find_calls k gi l iv ⟨user, Q, 1⟩ n _ HOW.out.blk HN.out).mono ?_; rintro ex w7 ⟨rfl, hb⟩
               have HB7 := Aside0.mk (below_step HB6.out hb)
               have HOW7 := Aside0.mk (hown_below HOW.out hb)
               clear hb m0 m1 m2)
            | (go_at_call 35; with_reducible refine (At_calls gi l (iv : Int) (n : Int) _ HOW7.out.blk (Int.natCast_nonneg n) (by have := HCN.out; omega)).mono ?_; rw [HL.out]; unfold kvV; rintro ex w8 ⟨rfl, hb⟩
               have HB8 := Aside0.mk (below_step HB7.out hb)
               clear hb)
            | ((with_reducible refine gate_dst (N := 14) rfl ?_); refine box_event ?hg (N := 14) ?hd (cs := #[.string (⟨#[]⟩ : ByteArray), .int .u64 0, .int .i64 0, .string (⟨#[]⟩ : ByteArray)]) (t := 47) ?hr ?_; (case hd => rfl); (case hg => rfl); (case hr => first | (go_simp; done) | (go_simp; rfl)); intro gv hg w9 hbox hb
               have BV := Aside0.mk hbox
               have HB9 := Aside0.mk (below_step HB8.out hb)
               have HGV : Aside0 (w.heap.size ≤ gv) := ⟨by rw [hg]; exact below_size HB8.out⟩
               clear hb hbox hg
               have hcz0 : w9.cell? ⟨gv, 0, none⟩ = some (.string (⟨#[]⟩ : ByteArray)) := (blk_cell BV.out 0).trans rfl
               have hcz1 : w9.cell? ⟨gv, 1, none⟩ = some (.int .u64 0) := (blk_cell BV.out 1).trans rfl
               have hcz2 : w9.cell? ⟨gv, 2, none⟩ = some (.int .i64 0) := (blk_cell BV.out 2).trans rfl
               have hcz3 : w9.cell? ⟨gv, 3, none⟩ = some (.string (⟨#[]⟩ : ByteArray)) := (blk_cell BV.out 3).trans rfl
               have hfz0 := blk_frozen BV.out 0
               have hfz1 := blk_frozen BV.out 1
               have hfz2 := blk_frozen BV.out 2
               have hfz3 := blk_frozen BV.out 3))
          obtain ⟨w10, hw10⟩ : ∃ y, (((w9.setCell ⟨gv, 0, none⟩ (.string L.f0.f0)).setCell ⟨gv, 1, none⟩ (.int .u64 L.f0.f1)).setCell ⟨gv, 2, none⟩ (.int .i64 L.f0.f2)).setCell ⟨gv, 3, none⟩ (.string L.f1) = y := ⟨_, rfl⟩
          have BVx : w10.heap[gv]? = some (.cells #[.string L.f0.f0, .int .u64 L.f0.f1, .int .i64 L.f0.f2, .string L.f1] 47 (0, 0)) := by
            rw [← hw10]
            exact blk_put (cs := #[.string L.f0.f0, .int .u64 L.f0.f1, .int .i64 L.f0.f2, .string (⟨#[]⟩ : ByteArray)]) (blk_put (cs := #[.string L.f0.f0, .int .u64 L.f0.f1, .int .i64 0, .string (⟨#[]⟩ : ByteArray)]) (blk_put (cs := #[.string L.f0.f0, .int .u64 0, .int .i64 0, .string (⟨#[]⟩ : ByteArray)]) (blk_put (cs := #[.string (⟨#[]⟩ : ByteArray), .int .u64 0, .int .i64 0, .string (⟨#[]⟩ : ByteArray)]) BV.out 0 _ rfl) 1 _ rfl) 2 _ rfl) 3 _ rfl
          have HB10 : Aside0 (Below w.heap.size w w10) := ⟨by rw [← hw10]; exact below_set (below_set (below_set (below_set HB9.out HGV.out) HGV.out) HGV.out) HGV.out⟩
          rw [hw10]
          clear hw10 hcz0 hcz1 hcz2 hcz3 hfz0 hfz1 hfz2 hfz3 BV
          have n0 : w10.cell? ⟨gv, 0, none⟩ = some (.string L.f0.f0) := (blk_cell BVx 0).trans rfl
          have n2 : w10.cell? ⟨gv, 2, none⟩ = some (.int .i64 L.f0.f2) := (blk_cell BVx 2).trans rfl
          have n3 : w10.cell? ⟨gv, 3, none⟩ = some (.string L.f1) := (blk_cell BVx 3).trans rfl
          clear BVx
          by_cases hu : L.f0.f0 = user
          · have e1 : (L.f0.f0.toList == user.toList) = true := by rw [hu]; exact beq_self_eq_true _
            have HU := Aside0.mk hu
            by_cases hk : L.f0.f2 = 0
            · have e2 : (L.f0.f2 == 0) = true := by rw [hk]; rfl
              have HK := Aside0.mk hk
              clear hu hk
              go_wp2
              go_ret3
              exact ⟨by rw [HTL.out, if_pos HU.out, if_pos HK.out]; rfl, HB10.out⟩
            · have e2 : (L.f0.f2 == 0) = false := beq_eq_false_iff_ne.mpr hk
              have HK := Aside0.mk hk
              clear hu hk
              go_wp2
              go_ret3
              exact ⟨by rw [HTL.out, if_pos HU.out, if_neg HK.out]; rfl, HB10.out⟩
          · have e1 : (L.f0.f0.toList == user.toList) = false := by
              rw [beq_eq_false_iff_ne]
              exact fun h => hu (toList_inj h)
            have HU := Aside0.mk hu
            clear hu
            go_wp2
            go_ret3
            exact ⟨by rw [HTL.out, if_neg HU.out]; rfl, HB10.out⟩
        · have htl : tell_f l n user = (noText, 0, 0) := by
            unfold tell_f
            rw [if_neg cn]
          have HTL := Aside0.mk htl
          have HCN := Aside0.mk cn
          clear cn htl
          go_upto_region 13 with (first
            | (go_at_call 43; with_reducible refine (Find_calls k gi l iv ⟨user, Q, 1⟩ n _ HOW.out.blk HN.out).mono ?_; rintro ex w7 ⟨rfl, hb⟩
               have HB7 := Aside0.mk (below_step HB6.out hb)
               have HOW7 := Aside0.mk (hown_below HOW.out hb)
               clear hb m0 m1 m2)
            | (go_at_call 35; with_reducible refine (At_out gi l (iv : Int) (n : Int) _ HOW7.out.blk (.inr (by have := HCN.out; omega))).mono ?_; unfold kvV z47 z45; rintro ex w8 ⟨rfl, hb⟩
               have HB8 := Aside0.mk (below_step HB7.out hb)
               clear hb)
            | ((with_reducible refine gate_dst (N := 14) rfl ?_); refine box_event ?hg (N := 14) ?hd (cs := #[.string (⟨#[]⟩ : ByteArray), .int .u64 0, .int .i64 0, .string (⟨#[]⟩ : ByteArray)]) (t := 47) ?hr ?_; (case hd => rfl); (case hg => rfl); (case hr => first | (go_simp; done) | (go_simp; rfl)); intro gv hg w9 hbox hb
               have BV := Aside0.mk hbox
               have HB9 := Aside0.mk (below_step HB8.out hb)
               have HGV : Aside0 (w.heap.size ≤ gv) := ⟨by rw [hg]; exact below_size HB8.out⟩
               clear hb hbox hg
               have hcz0 : w9.cell? ⟨gv, 0, none⟩ = some (.string (⟨#[]⟩ : ByteArray)) := (blk_cell BV.out 0).trans rfl
               have hcz1 : w9.cell? ⟨gv, 1, none⟩ = some (.int .u64 0) := (blk_cell BV.out 1).trans rfl
               have hcz2 : w9.cell? ⟨gv, 2, none⟩ = some (.int .i64 0) := (blk_cell BV.out 2).trans rfl
               have hcz3 : w9.cell? ⟨gv, 3, none⟩ = some (.string (⟨#[]⟩ : ByteArray)) := (blk_cell BV.out 3).trans rfl
               have hfz0 := blk_frozen BV.out 0
               have hfz1 := blk_frozen BV.out 1
               have hfz2 := blk_frozen BV.out 2
               have hfz3 := blk_frozen BV.out 3))
          obtain ⟨w10, hw10⟩ : ∃ y, (((w9.setCell ⟨gv, 0, none⟩ (.string (⟨#[]⟩ : ByteArray))).setCell ⟨gv, 1, none⟩ (.int .u64 0)).setCell ⟨gv, 2, none⟩ (.int .i64 0)).setCell ⟨gv, 3, none⟩ (.string (⟨#[]⟩ : ByteArray)) = y := ⟨_, rfl⟩
          have BVx : w10.heap[gv]? = some (.cells #[.string (⟨#[]⟩ : ByteArray), .int .u64 0, .int .i64 0, .string (⟨#[]⟩ : ByteArray)] 47 (0, 0)) := by
            rw [← hw10]
            exact blk_put (cs := #[.string (⟨#[]⟩ : ByteArray), .int .u64 0, .int .i64 0, .string (⟨#[]⟩ : ByteArray)]) (blk_put (cs := #[.string (⟨#[]⟩ : ByteArray), .int .u64 0, .int .i64 0, .string (⟨#[]⟩ : ByteArray)]) (blk_put (cs := #[.string (⟨#[]⟩ : ByteArray), .int .u64 0, .int .i64 0, .string (⟨#[]⟩ : ByteArray)]) (blk_put (cs := #[.string (⟨#[]⟩ : ByteArray), .int .u64 0, .int .i64 0, .string (⟨#[]⟩ : ByteArray)]) BV.out 0 _ rfl) 1 _ rfl) 2 _ rfl) 3 _ rfl
          have HB10 : Aside0 (Below w.heap.size w w10) := ⟨by rw [← hw10]; exact below_set (below_set (below_set (below_set HB9.out HGV.out) HGV.out) HGV.out) HGV.out⟩
          rw [hw10]
          clear hw10 hcz0 hcz1 hcz2 hcz3 hfz0 hfz1 hfz2 hfz3 BV
          have n0 : w10.cell? ⟨gv, 0, none⟩ = some (.string (⟨#[]⟩ : ByteArray)) := (blk_cell BVx 0).trans rfl
          have n2 : w10.cell? ⟨gv, 2, none⟩ = some (.int .i64 0) := (blk_cell BVx 2).trans rfl
          have n3 : w10.cell? ⟨gv, 3, none⟩ = some (.string (⟨#[]⟩ : ByteArray)) := (blk_cell BVx 3).trans rfl
          clear BVx
          go_wp2
          go_ret3
          exact ⟨by rw [HTL.out]; rfl, HB10.out⟩
end Go.Proofs.Ythdemdjobgbpdaa.T
