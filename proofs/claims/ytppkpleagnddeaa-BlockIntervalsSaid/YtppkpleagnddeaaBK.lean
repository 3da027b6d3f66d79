/- The walk of BlockBack. -/
import Derived.Test.YtppkpleagnddeaaBA
import Derived.Test.YtppkpleagnddeaaP1
import Derived.Laws.ByValue
namespace Go.Proofs.Ytppkpleagnddeaa.B
open Go.RowKit Go.Proofs.YtppkpleagnddeaaW.PrintWords Go.Proofs.YtppkpleagnddeaaW.PrintLast Go.Proofs.YtppkpleagnddeaaW.PrintMore Go.Proofs.Ytppkpleagnddeaa.P
set_option linter.unusedVariables false
set_option linter.unusedSimpArgs false
theorem eqSelf (d : Nat) (w : World) (x0 : ByteArray) (x1 : Int) (x2 : Int) (x3 : ByteArray) :
    (Op.equalIn (d + 3) 42 (.agg #[.string x0, .int .u64 x1, .int .i64 x2, .string x3]) (.agg #[.string x0, .int .u64 x1, .int .i64 x2, .string x3])).run Try.prog w = .ok true w := by
  rw [eqA42, beq_self_eq_true, beq_self_eq_true, beq_self_eq_true, beq_self_eq_true]
  rfl
attribute [local go_sem high] eqSelf
theorem bk_w (n : Nat) (h : n ≤ 1000000) : wrap64 ((n : Int) + 1) = ((n + 1 : Nat) : Int) := by unfold wrap64; omega
theorem bk_p (n : Nat) (h0 : 0 < n) (h : n ≤ 1000000) : wrap64 ((n : Int) - 1) = ((n - 1 : Nat) : Int) := by unfold wrap64; omega
/-- what is taken of entries -/
def cut (l : List S42) : List S42 := if 1000 < l.length then l.take 1000 else l
theorem cut_len (l : List S42) : (cut l).length ≤ 1000 := by
  unfold cut
  split
  · rw [List.length_take]; omega
  · omega
theorem cut_mem {l : List S42} {x : S42} (h : x ∈ cut l) : x ∈ l := by
  unfold cut at h
  split at h
  · exact List.mem_of_mem_take h
  · exact h
def cmpI (x : S42) (q : S32) : Int → Prop := fun c => ikey_Compare.f x.f0.f0 x.f0.f1 x.f0.f2 q.f0 q.f1 q.f2 = some c
/-- what there and back comes to -/
def Back (k : Nat) (l0 : List S42) (a1 : Int) (q : S32) : Prop := ∃ b e, block_Build.f k (cut l0) a1 = some (b, e) ∧ (e ≠ 0 → b = []) ∧ (e = 0 → ∃ iv : Nat, a1 = (iv : Int) ∧ open_f k b = some (some (cut l0, a1)) ∧
  (∀ i : Nat, i < (cut l0).length → find_f k (cut l0) iv (rd_T42 (cut l0) (i : Int)).f0 = some i) ∧ ∃ n : Nat, find_f k (cut l0) iv q = some n ∧ n ≤ (cut l0).length ∧
  (n < (cut l0).length → ∃ c, cmpI (rd_T42 (cut l0) (n : Int)) q c ∧ ¬ c < 0) ∧ (0 < n → ∃ c, cmpI (rd_T42 (cut l0) ((n - 1 : Nat) : Int)) q c ∧ c < 0))
/-- what stands while the law runs -/
structure BkSt (w : World) (A : Option Addr) (g gq : Nat) (L : List S42) (iv : Int) (q0 : ByteArray) (q1 q2 : Int) (wx : World) : Prop where
  blk : IsBlk wx g L iv
  row : Kd.C k42 wx A L.length L
  k0 : wx.cell? ⟨gq, 0, none⟩ = some (.string q0)
  k1 : wx.cell? ⟨gq, 1, none⟩ = some (.int .u64 q1)
  k2 : wx.cell? ⟨gq, 2, none⟩ = some (.int .i64 q2)
  bel : Below w.heap.size w wx
theorem BkSt.step {w wx w' : World} {A : Option Addr} {g gq : Nat} {L : List S42} {iv : Int} {q0 : ByteArray} {q1 q2 : Int} (h : BkSt w A g gq L iv q0 q1 q2 wx) (hb : Below wx.heap.size wx w') : BkSt w A g gq L iv q0 q1 q2 w' :=
  ⟨h.blk.below hb, Kd.C_below h.row hb, (hb.cell (World.block_lt_of_cell? _ _ h.k0)).trans h.k0, (hb.cell (World.block_lt_of_cell? _ _ h.k1)).trans h.k1, (hb.cell (World.block_lt_of_cell? _ _ h.k2)).trans h.k2, below_step h.bel hb⟩
set_option maxHeartbeats 4000000 in
set_option maxRecDepth 100000 in
theorem back_calls (k : Nat) (A0 : Option Addr) (c0 : Nat) (l0 : List S42) (a1 : Int) (q0 : ByteArray) (q1 q2 : Int) (w : World) (hr0 : Kd.C k42 w A0 l0.length l0) (hc0 : l0.length ≤ c0) (hf : Back k l0 a1 ⟨q0, q1, q2⟩) :
    Calls Try.prog 6 #[.slice A0 l0.length c0, .int .i64 a1, .agg #[.string q0, .int .u64 q1, .int .i64 q2]] w fun e w' => e = .returned (.bool true) ∧ Below w.heap.size w w' := by
  have HR0 := Aside0.mk hr0
  have HC0 := Aside0.mk hc0
  have HB := Aside0.mk (Below.refl w.heap.size w)
  have HF := Aside0.mk hf
  have hK0 := Aside0.mk (cut_len l0)
  clear hr0 hc0 hf
  go_enter Try.func6, Try.ntmps6
  go_upto_region 2 with (first
    | ((with_reducible refine gate_dst (N := 5) rfl ?_); refine box_event ?hg (N := 5) ?hd (cs := #[.string q0, .int .u64 q1, .int .i64 q2]) (t := 32) ?hr ?_; (case hd => rfl); (case hg => rfl); (case hr => first | (go_simp; done) | (go_simp; rfl)); intro gq hg w3 hbox hb
       have BK := Aside0.mk hbox
       have HB1 := Aside0.mk (below_step HB.out hb)
       clear hb hbox hg)
    | (go_at_call 10; with_reducible refine (awake_calls _).mono ?_; rintro e w4 ⟨rfl, hb⟩
       have BK1 := Aside0.mk (blk_below BK.out hb)
       have HB2 := Aside0.mk (below_step HB1.out hb)
       clear hb))
  go_upto_if 19 with fail
  go_cut [0] (fun v0 wc => ∃ (c1 : Nat), v0 = .slice A0 (cut l0).length c1 ∧ Aside0 ((cut l0).length ≤ c1) ∧ Aside0 (Kd.C k42 wc A0 (cut l0).length (cut l0)) ∧ Aside0 (wc.heap[gq]? = some (.cells #[.string q0, .int .u64 q1, .int .i64 q2] 32 (0, 0))) ∧ Aside0 (Below w.heap.size w wc))
  case first =>
    by_cases c : 1000 < l0.length
    · have hcut : cut l0 = l0.take 1000 := by unfold cut; rw [if_pos c]
      have hlen : (l0.take 1000).length = 1000 := by rw [List.length_take]; omega
      have HRC : Aside0 (Kd.C k42 w4 A0 (l0.take 1000).length (l0.take 1000)) := ⟨Kd.C_take (Kd.C_below HR0.out HB2.out) (by omega)⟩
      have c4b0 : decide (1000 < (l0.length : Int)) = true := decide_eq_true (by omega)
      have c4b1 : decide (1000 < l0.length) = true := decide_eq_true c
      have c5b0 := eq_true (show 1000 ≤ (l0.length : Int) by omega)
      have c5b1 : decide (1000 ≤ (l0.length : Int)) = true := decide_eq_true (by omega)
      have c5b2 : (1000 : Int) ≤ (c0 : Int) := by have := HC0.out; omega
      have c5b3 : 1000 ≤ c0 := by have := HC0.out; omega
      (first | rw [c4b0] | rw [c4b1] | (simp only [i64_w, i32_w]; rw [c4b0]) | skip)
      go_wp2
      go_meet
      case rel =>
        refine ⟨c0, ?_, ⟨by rw [hcut, hlen]; exact c5b3⟩, ⟨by rw [hcut]; exact HRC.out⟩, BK1, HB2⟩
        rw [hcut, hlen]
    · have hcut : cut l0 = l0 := by unfold cut; rw [if_neg c]
      have c4b0 : decide (1000 < (l0.length : Int)) = false := decide_eq_false (by omega)
      have c4b1 : decide (1000 < l0.length) = false := decide_eq_false c
      have HRC : Aside0 (Kd.C k42 w4 A0 l0.length l0) := ⟨Kd.C_below HR0.out HB2.out⟩
      (first | rw [c4b0] | rw [c4b1] | (simp only [i64_w, i32_w]; rw [c4b0]) | skip)
      go_wp2
      go_meet
      case rel => exact ⟨c0, by rw [hcut], ⟨by rw [hcut]; exact HC0.out⟩, ⟨by rw [hcut]; exact HRC.out⟩, BK1, HB2⟩
  case rest =>
    clear HR0 HC0 BK BK1 HB1 HB2
    obtain ⟨c1, rfl, HC1, HR1, BK1, HB1⟩ := hcut
    obtain ⟨b, e, hbuild, hbad, hgood⟩ := HF.out
    clear HF
    generalize cut l0 = L at *
    have HBU := Aside0.mk hbuild
    clear hbuild
    by_cases he : e = 0
    case neg =>
      obtain rfl := hbad he
      have hb1 : (e != 0) = true := bne_iff_ne.mpr he
      have hb0 : (e == 0) = false := beq_eq_false_iff_ne.mpr he
      clear hgood hbad he
      go_wp2_with (first
        | (go_at_call 11; with_reducible refine (block_Build.calls k A0 c1 L a1 [] e _ HR1.out HC1.out HBU.out).mono ?_; rintro er w5 ⟨vb, rfl, hob, hb⟩
           have HB2 := Aside0.mk (below_step HB1.out hb)
           obtain ⟨Ab, cb, eb⟩ := Kd.R_slice hob
           subst eb
           clear hob hb))
      go_ret
      exact ⟨by first | rfl | simp, HB2.out⟩
    case pos =>
      subst he
      obtain ⟨iv, hiv, hopen, hfinds, n, hn, hnl, hc1, hc2⟩ := hgood rfl
      subst hiv
      have HOP := Aside0.mk hopen
      have HFI := Aside0.mk hfinds
      have HN := Aside0.mk hn
      have HNL := Aside0.mk hnl
      have HK1 := Aside0.mk hc1
      have HK2 := Aside0.mk hc2
      clear hgood hbad hopen hfinds hn hnl hc1 hc2
      go_upto_region 8 with (first
        | (go_at_call 11; with_reducible refine (block_Build.calls k A0 c1 L (iv : Int) b 0 _ HR1.out HC1.out HBU.out).mono ?_; rintro er w5 ⟨vb, rfl, hob, hb⟩
           have HB2 := Aside0.mk (below_step HB1.out hb)
           have HR2 := Aside0.mk (Kd.C_below HR1.out hb)
           have BK2 := Aside0.mk (blk_below BK1.out hb)
           have HO := Aside0.mk hob
           obtain ⟨Ab, cb, eb⟩ := Kd.R_slice hob
           subst eb
           clear hob hb)
        | (go_at_call 14; with_reducible refine (Open_calls k Ab cb b (some (L, (iv : Int))) _ (Kd.R_reads' HO.out).2.2 (Kd.R_reads' HO.out).2.1 HOP.out).mono ?_; rintro er w6 ⟨hb, hm⟩; obtain ⟨g, rfl, hgw, hblk⟩ := hm
           have HB3 := Aside0.mk (below_step HB2.out hb)
           have HS : Aside0 (BkSt w A0 g gq L (iv : Int) q0 q1 q2 w6) := ⟨hblk, Kd.C_below HR2.out hb, (blk_cell (blk_below BK2.out hb) 0).trans rfl, (blk_cell (blk_below BK2.out hb) 1).trans rfl, (blk_cell (blk_below BK2.out hb) 2).trans rfl, HB3.out⟩
           clear hb hgw hblk))
      clear HB2 HR2 BK2 HO HB3 HB1 HR1 BK1 HBU HOP
      have hLL : ((L.length : Int) != (L.length : Int)) = false := bne_self_eq_false _
      go_upto_region 10 with (first
        | (go_at_call 16; with_reducible refine (Len_calls g L (iv : Int) _ HS.out.blk).mono ?_; rintro er w7 ⟨rfl, rfl⟩))
      go_upto_region 11 with fail
      go_loopg [12] (L.length + 1) (fun gf v12 wx => ∃ i : Nat, v12 = .int .i64 (i : Int) ∧ Aside0 (gf + i = L.length + 1 ∧ i ≤ L.length) ∧ Aside0 (BkSt w A0 g gq L (iv : Int) q0 q1 q2 wx))
      case atStart => exact ⟨0, rfl, ⟨by omega, by omega⟩, HS⟩
      case round =>
        clear HS
        obtain ⟨i, rfl, HI, HS⟩ := hrel
        cases gk with
        | zero => exact absurd HI.out.1 (by have := HI.out.2; omega)
        | succ g1 =>
          by_cases c : i < L.length
          · have c1b : decide ((i : Int) < (L.length : Int)) = true := decide_eq_true (by omega)
            have c1c : decide (i < L.length) = true := decide_eq_true c
            have c1d := eq_true (show (i : Int) < (L.length : Int) by omega)
            have c1e : decide (0 ≤ (i : Int)) = true := decide_eq_true (by omega)
            have c1f := eq_true (show 0 ≤ (i : Int) by omega)
            have HLT := Aside0.mk c
            have HFIi := Aside0.mk (HFI.out i c)
            obtain ⟨X, hX⟩ : ∃ x, rd_T42 L (i : Int) = x := ⟨_, rfl⟩
            rw [hX] at HFIi
            have HX := Aside0.mk hX
            have HW : Aside0 (wrap64 ((i : Int) + 1) = ((i + 1 : Nat) : Int)) := ⟨bk_w i (by have := hK0.out; omega)⟩
            clear hX c
            go_upto_region 14 with (first
              | (go_at_call 19; with_reducible refine (At_calls g L (iv : Int) (i : Int) _ HS.out.blk (Int.natCast_nonneg _) (Int.ofNat_lt.2 HLT.out)).mono ?_; rintro er w8 ⟨he, hb⟩
                 have he2 : er = .returned (.tuple #[.agg #[.string X.f0.f0, .int .u64 X.f0.f1, .int .i64 X.f0.f2, .string X.f1], .int .i64 0]) := by rw [he, ← HX.out]; rfl
                 subst he2
                 have HS1 := Aside0.mk (HS.out.step hb)
                 clear he hb HS)
              | ((with_reducible refine gate_dst (N := 13) rfl ?_); refine box_event ?hg (N := 13) ?hd (cs := #[.string (⟨#[]⟩ : ByteArray), .int .u64 0, .int .i64 0, .string (⟨#[]⟩ : ByteArray)]) (t := 42) ?hr ?_; (case hd => rfl); (case hg => rfl); (case hr => first | (go_simp; done) | (go_simp; rfl)); intro gy hg w9 hbox hb
                 have BY := Aside0.mk hbox
                 have GY8 : Aside0 (w8.heap.size ≤ gy) := ⟨by rw [hg]; exact Nat.le_refl _⟩
                 have HB89 := Aside0.mk hb
                 have hz0 : w9.cell? ⟨gy, 0, none⟩ = some (.string (⟨#[]⟩ : ByteArray)) := (blk_cell hbox 0).trans rfl
                 have hz1 : w9.cell? ⟨gy, 1, none⟩ = some (.int .u64 0) := (blk_cell hbox 1).trans rfl
                 have hz2 : w9.cell? ⟨gy, 2, none⟩ = some (.int .i64 0) := (blk_cell hbox 2).trans rfl
                 have hz3 : w9.cell? ⟨gy, 3, none⟩ = some (.string (⟨#[]⟩ : ByteArray)) := (blk_cell hbox 3).trans rfl
                 have hf0 := blk_frozen hbox 0
                 have hf1 := blk_frozen hbox 1
                 have hf2 := blk_frozen hbox 2
                 have hf3 := blk_frozen hbox 3
                 clear hg hbox hb))
            obtain ⟨W9, hW9⟩ : ∃ x, ((((w9.setCell ⟨gy, 0, none⟩ (.string X.f0.f0)).setCell ⟨gy, 1, none⟩ (.int .u64 X.f0.f1)).setCell ⟨gy, 2, none⟩ (.int .i64 X.f0.f2)).setCell ⟨gy, 3, none⟩ (.string X.f1)) = x := ⟨_, rfl⟩
            rw [hW9]
            have BY9 : W9.heap[gy]? = some (.cells #[.string X.f0.f0, .int .u64 X.f0.f1, .int .i64 X.f0.f2, .string X.f1] 42 (0, 0)) := by rw [← hW9]; exact blk_put (cs := #[.string X.f0.f0, .int .u64 X.f0.f1, .int .i64 X.f0.f2, .string (⟨#[]⟩ : ByteArray)]) (blk_put (cs := #[.string X.f0.f0, .int .u64 X.f0.f1, .int .i64 0, .string (⟨#[]⟩ : ByteArray)]) (blk_put (cs := #[.string X.f0.f0, .int .u64 0, .int .i64 0, .string (⟨#[]⟩ : ByteArray)]) (blk_put (cs := #[.string (⟨#[]⟩ : ByteArray), .int .u64 0, .int .i64 0, .string (⟨#[]⟩ : ByteArray)]) BY.out 0 _ rfl) 1 _ rfl) 2 _ rfl) 3 _ rfl
            have HB9 : Below w8.heap.size w8 W9 := by rw [← hW9]; exact below_set (below_set (below_set (below_set HB89.out GY8.out) GY8.out) GY8.out) GY8.out
            have HSD : Aside0 (BkSt w A0 g gq L (iv : Int) q0 q1 q2 W9.drew) := ⟨HS1.out.step (below_drew1 HB9)⟩
            have hBYD : W9.drew.heap[gy]? = some (.cells #[.string X.f0.f0, .int .u64 X.f0.f1, .int .i64 X.f0.f2, .string X.f1] 42 (0, 0)) := blk_drew BY9
            obtain ⟨al, eal, k0, k1, k2, k3⟩ := at_T42 HSD.out.row (i : Int) (Int.natCast_nonneg _) (Int.ofNat_lt.2 HLT.out)
            rw [HX.out] at k0 k1 k2 k3
            subst eal
            rw [Int.toNat_natCast] at k0 k1 k2 k3
            replace k0 := Aside0.mk (show W9.drew.cell? (al.add (i * 4)) = some (.string X.f0.f0) from k0)
            replace k1 := Aside0.mk (show W9.drew.cell? ⟨(al.add (i * 4)).block, (al.add (i * 4)).off + 1, none⟩ = some (.int .u64 X.f0.f1) from k1)
            replace k2 := Aside0.mk (show W9.drew.cell? ⟨(al.add (i * 4)).block, (al.add (i * 4)).off + 2, none⟩ = some (.int .i64 X.f0.f2) from k2)
            replace k3 := Aside0.mk (show W9.drew.cell? ⟨(al.add (i * 4)).block, (al.add (i * 4)).off + 3, none⟩ = some (.string X.f1) from k3)
            have m0 := Aside0.mk (show W9.drew.cell? ⟨gy, 0, none⟩ = some (.string X.f0.f0) from (blk_cell hBYD 0).trans rfl)
            have m1 := Aside0.mk (show W9.drew.cell? ⟨gy, 1, none⟩ = some (.int .u64 X.f0.f1) from (blk_cell hBYD 1).trans rfl)
            have m2 := Aside0.mk (show W9.drew.cell? ⟨gy, 2, none⟩ = some (.int .i64 X.f0.f2) from (blk_cell hBYD 2).trans rfl)
            have m3 := Aside0.mk (show W9.drew.cell? ⟨gy, 3, none⟩ = some (.string X.f1) from (blk_cell hBYD 3).trans rfl)
            have hne : ((i : Int) != (i : Int)) = false := bne_self_eq_false _
            clear hW9 BY9 HB9 hBYD hz0 hz1 hz2 hz3 hf0 hf1 hf2 hf3 BY GY8 HB89 HS1
            refine start_ (n := 21) (S := fun w' => w'.cell? (al.add (i * 4)) = some (.string X.f0.f0) ∧ w'.cell? ⟨(al.add (i * 4)).block, (al.add (i * 4)).off + 1, none⟩ = some (.int .u64 X.f0.f1) ∧ w'.cell? ⟨(al.add (i * 4)).block, (al.add (i * 4)).off + 2, none⟩ = some (.int .i64 X.f0.f2) ∧ w'.cell? ⟨(al.add (i * 4)).block, (al.add (i * 4)).off + 3, none⟩ = some (.string X.f1) ∧ w'.cell? ⟨gy, 0, none⟩ = some (.string X.f0.f0) ∧ w'.cell? ⟨gy, 1, none⟩ = some (.int .u64 X.f0.f1) ∧ w'.cell? ⟨gy, 2, none⟩ = some (.int .i64 X.f0.f2) ∧ w'.cell? ⟨gy, 3, none⟩ = some (.string X.f1)) (ds := []) #[false, false, false, false, false, false, false, false, false, false, false, false, false, false, false, false, false, false, false, false, false] (by kernel_rfl) rfl rfl ⟨k0.out, k1.out, k2.out, k3.out, m0.out, m1.out, m2.out, m3.out⟩ (fun hHeld => ?_)
            refine pure_ (i := 1) (N := some 71) (v := ?_) (a' := ?_) #[false, true, false, false, false, false, false, false, false, false, false, false, false, false, false, false, false, false, false, false, false] rfl rfl (by kernel_rfl) (fun _ _ _ h => h) (Or.inl ⟨by rfl, ?_⟩) ?_ ?_
            rotate_left
            · intro w'
              go_simp
              with_reducible rfl
            rotate_left
            · simp only [Act.put, List.setIfInBounds_toArray, List.set_cons_zero, List.set_cons_succ, i64_w, i32_w]
              rfl
            refine pure_ (i := 2) (N := some 72) (v := ?_) (a' := ?_) #[false, true, true, false, false, false, false, false, false, false, false, false, false, false, false, false, false, false, false, false, false] rfl rfl (by kernel_rfl) (fun _ _ _ h => h) (Or.inl ⟨by rfl, ?_⟩) ?_ ?_
            rotate_left
            · intro w'
              go_simp
              with_reducible rfl
            rotate_left
            · simp only [Act.put, List.setIfInBounds_toArray, List.set_cons_zero, List.set_cons_succ, i64_w, i32_w]
              rfl
            refine pure_ (i := 3) (N := some 73) (v := ?_) (a' := ?_) #[false, true, true, true, false, false, false, false, false, false, false, false, false, false, false, false, false, false, false, false, false] rfl rfl (by kernel_rfl) (fun _ _ _ h => h) (Or.inl ⟨by rfl, ?_⟩) ?_ ?_
            rotate_left
            · intro w'
              go_simp
              with_reducible rfl
            rotate_left
            · simp only [Act.put, List.setIfInBounds_toArray, List.set_cons_zero, List.set_cons_succ, i64_w, i32_w]
              rfl
            refine take_ (i := 0) (N := some 70) (v := ?_) (a' := ?_) #[true, true, true, true, false, false, false, false, false, false, false, false, false, false, false, false, false, false, false, false, false] rfl rfl (by kernel_rfl) (fun _ _ _ h => h) (Or.inl ⟨by rfl, ?_⟩) hHeld ?_ ?_
            rotate_left
            · rintro w' ⟨s0, s1, s2, s3, s4, s5, s6, s7⟩
              go_simp
              with_reducible rfl
            rotate_left
            · simp only [Act.put, List.setIfInBounds_toArray, List.set_cons_zero, List.set_cons_succ, i64_w, i32_w]
              rfl
            refine take_ (i := 4) (N := some 74) (v := ?_) (a' := ?_) #[true, true, true, true, true, false, false, false, false, false, false, false, false, false, false, false, false, false, false, false, false] rfl rfl (by kernel_rfl) (fun _ _ _ h => h) (Or.inl ⟨by rfl, ?_⟩) hHeld ?_ ?_
            rotate_left
            · rintro w' ⟨s0, s1, s2, s3, s4, s5, s6, s7⟩
              go_simp
              with_reducible rfl
            rotate_left
            · simp only [Act.put, List.setIfInBounds_toArray, List.set_cons_zero, List.set_cons_succ, i64_w, i32_w]
              rfl
            refine pure_ (i := 5) (N := some 75) (v := ?_) (a' := ?_) #[true, true, true, true, true, true, false, false, false, false, false, false, false, false, false, false, false, false, false, false, false] rfl rfl (by kernel_rfl) (fun _ _ _ h => h) (Or.inl ⟨by rfl, ?_⟩) ?_ ?_
            rotate_left
            · intro w'
              go_simp
              with_reducible rfl
            rotate_left
            · simp only [Act.put, List.setIfInBounds_toArray, List.set_cons_zero, List.set_cons_succ, i64_w, i32_w]
              rfl
            refine pure_ (i := 6) (N := some 76) (v := ?_) (a' := ?_) #[true, true, true, true, true, true, true, false, false, false, false, false, false, false, false, false, false, false, false, false, false] rfl rfl (by kernel_rfl) (fun _ _ _ h => h) (Or.inl ⟨by rfl, ?_⟩) ?_ ?_
            rotate_left
            · intro w'
              go_simp
              with_reducible rfl
            rotate_left
            · simp only [Act.put, List.setIfInBounds_toArray, List.set_cons_zero, List.set_cons_succ, i64_w, i32_w]
              rfl
            refine pure_ (i := 7) (N := some 77) (v := ?_) (a' := ?_) #[true, true, true, true, true, true, true, true, false, false, false, false, false, false, false, false, false, false, false, false, false] rfl rfl (by kernel_rfl) (fun _ _ _ h => h) (Or.inl ⟨by rfl, ?_⟩) ?_ ?_
            rotate_left
            · intro w'
              go_simp
              with_reducible rfl
            rotate_left
            · simp only [Act.put, List.setIfInBounds_toArray, List.set_cons_zero, List.set_cons_succ, i64_w, i32_w]
              rfl
            refine pure_ (i := 8) (N := some 78) (v := ?_) (a' := ?_) #[true, true, true, true, true, true, true, true, true, false, false, false, false, false, false, false, false, false, false, false, false] rfl rfl (by kernel_rfl) (fun _ _ _ h => h) (Or.inl ⟨by rfl, ?_⟩) ?_ ?_
            rotate_left
            · intro w'
              go_simp
              with_reducible rfl
            rotate_left
            · simp only [Act.put, List.setIfInBounds_toArray, List.set_cons_zero, List.set_cons_succ, i64_w, i32_w]
              rfl
            refine pure_ (i := 9) (N := some 79) (v := ?_) (a' := ?_) #[true, true, true, true, true, true, true, true, true, true, false, false, false, false, false, false, false, false, false, false, false] rfl rfl (by kernel_rfl) (fun _ _ _ h => h) (Or.inl ⟨by rfl, ?_⟩) ?_ ?_
            rotate_left
            · intro w'
              go_simp
              with_reducible rfl
            rotate_left
            · simp only [Act.put, List.setIfInBounds_toArray, List.set_cons_zero, List.set_cons_succ, i64_w, i32_w]
              rfl
            refine pure_ (i := 10) (N := some 80) (v := ?_) (a' := ?_) #[true, true, true, true, true, true, true, true, true, true, true, false, false, false, false, false, false, false, false, false, false] rfl rfl (by kernel_rfl) (fun _ _ _ h => h) (Or.inl ⟨by rfl, ?_⟩) ?_ ?_
            rotate_left
            · intro w'
              go_simp
              with_reducible rfl
            rotate_left
            · simp only [Act.put, List.setIfInBounds_toArray, List.set_cons_zero, List.set_cons_succ, i64_w, i32_w]
              rfl
            refine pure_ (i := 11) (N := some 81) (v := ?_) (a' := ?_) #[true, true, true, true, true, true, true, true, true, true, true, true, false, false, false, false, false, false, false, false, false] rfl rfl (by kernel_rfl) (fun _ _ _ h => h) (Or.inl ⟨by rfl, ?_⟩) ?_ ?_
            rotate_left
            · intro w'
              go_simp
              with_reducible rfl
            rotate_left
            · simp only [Act.put, List.setIfInBounds_toArray, List.set_cons_zero, List.set_cons_succ, i64_w, i32_w]
              rfl
            refine pure_ (i := 12) (N := some 82) (v := ?_) (a' := ?_) #[true, true, true, true, true, true, true, true, true, true, true, true, true, false, false, false, false, false, false, false, false] rfl rfl (by kernel_rfl) (fun _ _ _ h => h) (Or.inl ⟨by rfl, ?_⟩) ?_ ?_
            rotate_left
            · intro w'
              go_simp
              with_reducible rfl
            rotate_left
            · simp only [Act.put, List.setIfInBounds_toArray, List.set_cons_zero, List.set_cons_succ, i64_w, i32_w]
              rfl
            refine pure_ (i := 13) (N := some 83) (v := ?_) (a' := ?_) #[true, true, true, true, true, true, true, true, true, true, true, true, true, true, false, false, false, false, false, false, false] rfl rfl (by kernel_rfl) (fun _ _ _ h => h) (Or.inl ⟨by rfl, ?_⟩) ?_ ?_
            rotate_left
            · intro w'
              go_simp
              with_reducible rfl
            rotate_left
            · simp only [Act.put, List.setIfInBounds_toArray, List.set_cons_zero, List.set_cons_succ, i64_w, i32_w]
              rfl
            refine pure_ (i := 14) (N := some 84) (v := ?_) (a' := ?_) #[true, true, true, true, true, true, true, true, true, true, true, true, true, true, true, false, false, false, false, false, false] rfl rfl (by kernel_rfl) (fun _ _ _ h => h) (Or.inl ⟨by rfl, ?_⟩) ?_ ?_
            rotate_left
            · intro w'
              go_simp
              with_reducible rfl
            rotate_left
            · simp only [Act.put, List.setIfInBounds_toArray, List.set_cons_zero, List.set_cons_succ, i64_w, i32_w]
              rfl
            refine pure_ (i := 15) (N := some 85) (v := ?_) (a' := ?_) #[true, true, true, true, true, true, true, true, true, true, true, true, true, true, true, true, false, false, false, false, false] rfl rfl (by kernel_rfl) (fun _ _ _ h => h) (Or.inl ⟨by rfl, ?_⟩) ?_ ?_
            rotate_left
            · intro w'
              go_simp
              with_reducible rfl
            rotate_left
            · simp only [Act.put, List.setIfInBounds_toArray, List.set_cons_zero, List.set_cons_succ, i64_w, i32_w]
              rfl
            refine pure_ (i := 18) (N := some 88) (v := ?_) (a' := ?_) #[true, true, true, true, true, true, true, true, true, true, true, true, true, true, true, true, false, false, true, false, false] rfl rfl (by kernel_rfl) (fun _ _ _ h => h) (Or.inl ⟨by rfl, ?_⟩) ?_ ?_
            rotate_left
            · intro w'
              go_simp
              with_reducible rfl
            rotate_left
            · simp only [Act.put, List.setIfInBounds_toArray, List.set_cons_zero, List.set_cons_succ, i64_w, i32_w]
              rfl
            refine take_ (i := 16) (N := some 86) (v := ?_) (a' := ?_) #[true, true, true, true, true, true, true, true, true, true, true, true, true, true, true, true, true, false, true, false, false] rfl rfl (by kernel_rfl) (fun _ _ _ h => h) (Or.inl ⟨by rfl, ?_⟩) hHeld ?_ ?_
            rotate_left
            · rintro w' ⟨s0, s1, s2, s3, s4, s5, s6, s7⟩
              go_simp
              with_reducible rfl
            rotate_left
            · simp only [Act.put, List.setIfInBounds_toArray, List.set_cons_zero, List.set_cons_succ, i64_w, i32_w]
              rfl
            refine one_ (i := 17) (N := some 87) #[true, true, true, true, true, true, true, true, true, true, true, true, true, true, true, true, true, true, true, false, false] rfl rfl (by kernel_rfl) (by decide) (fun K hK => ?_)
            refine goes_ Try.func17 (by kernel_rfl) rfl #[.pointer (some ⟨g, 0, none⟩), .agg #[.string X.f0.f0, .int .u64 X.f0.f1, .int .i64 X.f0.f2]] (by rfl) rfl rfl (by simp only [List.map_toArray, List.map_cons, List.map_nil]; rfl) ?_
            with_reducible refine (Find_calls k g L iv X.f0 i _ HSD.out.blk HFIi.out).mono ?_
            rintro e W10 ⟨rfl, hb⟩
            refine ⟨_, rfl, ?_⟩
            have HSE := Aside0.mk (HSD.out.step hb)
            have k0b := Aside0.mk ((hb.cell (World.block_lt_of_cell? _ _ k0.out)).trans k0.out)
            have k1b := Aside0.mk ((hb.cell (World.block_lt_of_cell? _ _ k1.out)).trans k1.out)
            have k2b := Aside0.mk ((hb.cell (World.block_lt_of_cell? _ _ k2.out)).trans k2.out)
            have k3b := Aside0.mk ((hb.cell (World.block_lt_of_cell? _ _ k3.out)).trans k3.out)
            have m0b := Aside0.mk ((hb.cell (World.block_lt_of_cell? _ _ m0.out)).trans m0.out)
            have m1b := Aside0.mk ((hb.cell (World.block_lt_of_cell? _ _ m1.out)).trans m1.out)
            have m2b := Aside0.mk ((hb.cell (World.block_lt_of_cell? _ _ m2.out)).trans m2.out)
            have m3b := Aside0.mk ((hb.cell (World.block_lt_of_cell? _ _ m3.out)).trans m3.out)
            clear hb
            refine hK.out _ _ ⟨k0b.out, k1b.out, k2b.out, k3b.out, m0b.out, m1b.out, m2b.out, m3b.out⟩ (fun hHeld => ?_)
            clear hK K
            refine norm_ (a' := ?_) ?_ ?_
            rotate_left
            · show Act.put _ (some 87) _ = _
              simp only [Act.put, List.setIfInBounds_toArray, List.set_cons_zero, List.set_cons_succ, i64_w, i32_w]
              rfl
            refine pure_ (i := 19) (N := some 89) (v := ?_) (a' := ?_) #[true, true, true, true, true, true, true, true, true, true, true, true, true, true, true, true, true, true, true, true, false] rfl rfl (by kernel_rfl) (fun _ _ _ h => h) (Or.inl ⟨by rfl, ?_⟩) ?_ ?_
            rotate_left
            · intro w'
              go_simp
              with_reducible rfl
            rotate_left
            · simp only [Act.put, List.setIfInBounds_toArray, List.set_cons_zero, List.set_cons_succ, i64_w, i32_w]
              rfl
            refine pure_ (i := 20) (N := some 90) (v := ?_) (a' := ?_) #[true, true, true, true, true, true, true, true, true, true, true, true, true, true, true, true, true, true, true, true, true] rfl rfl (by kernel_rfl) (fun _ _ _ h => h) (Or.inl ⟨by rfl, ?_⟩) ?_ ?_
            rotate_left
            · intro w'
              go_simp
              with_reducible rfl
            rotate_left
            · simp only [Act.put, List.setIfInBounds_toArray, List.set_cons_zero, List.set_cons_succ, i64_w, i32_w]
              rfl
            refine done_ (by kernel_rfl) ?_
            clear hHeld
            go_wp2
            go_roundg g1
            case measure => omega
            case rel => exact ⟨i + 1, by rw [HW.out], ⟨by have := HI.out.1; omega, HLT.out⟩, HSE⟩
          · have c1b : decide ((i : Int) < (L.length : Int)) = false := decide_eq_false (by omega)
            have c1c : decide (i < L.length) = false := decide_eq_false c
            clear c HI HFI
            have kk0 := HS.out.k0
            have kk1 := HS.out.k1
            have kk2 := HS.out.k2
            go_upto_region 17 with (first
              | (go_at_call 17; with_reducible refine (Find_calls k g L iv ⟨q0, q1, q2⟩ n _ HS.out.blk HN.out).mono ?_; rintro er w10 ⟨rfl, hb⟩
                 have HS1 := Aside0.mk (HS.out.step hb)
                 clear hb))
            clear HS kk0 kk1 kk2
            have d1 : decide ((n : Int) < 0) = false := decide_eq_false (by omega)
            have d2 : decide ((L.length : Int) < (n : Int)) = false := decide_eq_false (by have := HNL.out; omega)
            have d3 : decide (L.length < n) = false := decide_eq_false (by have := HNL.out; omega)
            go_upto_region 19 with fail
            have HSD : Aside0 (BkSt w A0 g gq L (iv : Int) q0 q1 q2 w10.drew) := ⟨HS1.out.step (below_drew1 (Below.refl _ _))⟩
            by_cases c : n < L.length
            · have e1 : decide ((n : Int) < (L.length : Int)) = true := decide_eq_true (by omega)
              have e2 : decide (n < L.length) = true := decide_eq_true c
              have e3 := eq_true (show (n : Int) < (L.length : Int) by omega)
              have e4 : decide (0 ≤ (n : Int)) = true := decide_eq_true (by omega)
              have e5 := eq_true (show 0 ≤ (n : Int) by omega)
              obtain ⟨cv, hcv, hcn⟩ := HK1.out c
              have hcb : decide (cv < 0) = false := decide_eq_false (by omega)
              obtain ⟨al, eal, k0, k1, k2, k3⟩ := at_T42 HSD.out.row (n : Int) (Int.natCast_nonneg _) (Int.ofNat_lt.2 c)
              obtain ⟨X, hX⟩ : ∃ x, rd_T42 L (n : Int) = x := ⟨_, rfl⟩
              rw [hX] at k0 k1 k2 k3 hcv
              have HCV : Aside0 (ikey_Compare.f X.f0.f0 X.f0.f1 X.f0.f2 q0 q1 q2 = some cv) := ⟨hcv⟩
              subst eal
              rw [Int.toNat_natCast] at k0 k1 k2 k3
              replace k0 := Aside0.mk k0
              replace k1 := Aside0.mk k1
              replace k2 := Aside0.mk k2
              have m0 := Aside0.mk HSD.out.k0
              have m1 := Aside0.mk HSD.out.k1
              have m2 := Aside0.mk HSD.out.k2
              clear k3 hX hcv hcn c
              refine start_ (n := 14) (S := fun w' => w'.cell? (al.add (n * 4)) = some (.string X.f0.f0) ∧ w'.cell? ⟨(al.add (n * 4)).block, (al.add (n * 4)).off + 1, none⟩ = some (.int .u64 X.f0.f1) ∧ w'.cell? ⟨(al.add (n * 4)).block, (al.add (n * 4)).off + 2, none⟩ = some (.int .i64 X.f0.f2) ∧ w'.cell? ⟨gq, 0, none⟩ = some (.string q0) ∧ w'.cell? ⟨gq, 1, none⟩ = some (.int .u64 q1) ∧ w'.cell? ⟨gq, 2, none⟩ = some (.int .i64 q2)) (ds := []) #[false, false, false, false, false, false, false, false, false, false, false, false, false, false] (by kernel_rfl) rfl rfl ⟨k0.out, k1.out, k2.out, m0.out, m1.out, m2.out⟩ (fun hHeld => ?_)
              refine pure_ (i := 0) (N := some 102) (v := ?_) (a' := ?_) #[true, false, false, false, false, false, false, false, false, false, false, false, false, false] rfl rfl (by kernel_rfl) (fun _ _ _ h => h) (Or.inl ⟨by rfl, ?_⟩) ?_ ?_
              rotate_left
              · intro w'
                go_simp
                with_reducible rfl
              rotate_left
              · simp only [Act.put, List.setIfInBounds_toArray, List.set_cons_zero, List.set_cons_succ, i64_w, i32_w]
                rfl
              refine pure_ (i := 1) (N := some 103) (v := ?_) (a' := ?_) #[true, true, false, false, false, false, false, false, false, false, false, false, false, false] rfl rfl (by kernel_rfl) (fun _ _ _ h => h) (Or.inl ⟨by rfl, ?_⟩) ?_ ?_
              rotate_left
              · intro w'
                go_simp
                with_reducible rfl
              rotate_left
              · simp only [Act.put, List.setIfInBounds_toArray, List.set_cons_zero, List.set_cons_succ, i64_w, i32_w]
                rfl
              refine pure_ (i := 2) (N := some 104) (v := ?_) (a' := ?_) #[true, true, true, false, false, false, false, false, false, false, false, false, false, false] rfl rfl (by kernel_rfl) (fun _ _ _ h => h) (Or.inl ⟨by rfl, ?_⟩) ?_ ?_
              rotate_left
              · intro w'
                go_simp
                with_reducible rfl
              rotate_left
              · simp only [Act.put, List.setIfInBounds_toArray, List.set_cons_zero, List.set_cons_succ, i64_w, i32_w]
                rfl
              refine pure_ (i := 3) (N := some 105) (v := ?_) (a' := ?_) #[true, true, true, true, false, false, false, false, false, false, false, false, false, false] rfl rfl (by kernel_rfl) (fun _ _ _ h => h) (Or.inl ⟨by rfl, ?_⟩) ?_ ?_
              rotate_left
              · intro w'
                go_simp
                with_reducible rfl
              rotate_left
              · simp only [Act.put, List.setIfInBounds_toArray, List.set_cons_zero, List.set_cons_succ, i64_w, i32_w]
                rfl
              refine pure_ (i := 4) (N := some 106) (v := ?_) (a' := ?_) #[true, true, true, true, true, false, false, false, false, false, false, false, false, false] rfl rfl (by kernel_rfl) (fun _ _ _ h => h) (Or.inl ⟨by rfl, ?_⟩) ?_ ?_
              rotate_left
              · intro w'
                go_simp
                with_reducible rfl
              rotate_left
              · simp only [Act.put, List.setIfInBounds_toArray, List.set_cons_zero, List.set_cons_succ, i64_w, i32_w]
                rfl
              refine pure_ (i := 5) (N := some 107) (v := ?_) (a' := ?_) #[true, true, true, true, true, true, false, false, false, false, false, false, false, false] rfl rfl (by kernel_rfl) (fun _ _ _ h => h) (Or.inl ⟨by rfl, ?_⟩) ?_ ?_
              rotate_left
              · intro w'
                go_simp
                with_reducible rfl
              rotate_left
              · simp only [Act.put, List.setIfInBounds_toArray, List.set_cons_zero, List.set_cons_succ, i64_w, i32_w]
                rfl
              refine pure_ (i := 6) (N := some 108) (v := ?_) (a' := ?_) #[true, true, true, true, true, true, true, false, false, false, false, false, false, false] rfl rfl (by kernel_rfl) (fun _ _ _ h => h) (Or.inl ⟨by rfl, ?_⟩) ?_ ?_
              rotate_left
              · intro w'
                go_simp
                with_reducible rfl
              rotate_left
              · simp only [Act.put, List.setIfInBounds_toArray, List.set_cons_zero, List.set_cons_succ, i64_w, i32_w]
                rfl
              refine pure_ (i := 7) (N := some 109) (v := ?_) (a' := ?_) #[true, true, true, true, true, true, true, true, false, false, false, false, false, false] rfl rfl (by kernel_rfl) (fun _ _ _ h => h) (Or.inl ⟨by rfl, ?_⟩) ?_ ?_
              rotate_left
              · intro w'
                go_simp
                with_reducible rfl
              rotate_left
              · simp only [Act.put, List.setIfInBounds_toArray, List.set_cons_zero, List.set_cons_succ, i64_w, i32_w]
                rfl
              refine pure_ (i := 8) (N := some 110) (v := ?_) (a' := ?_) #[true, true, true, true, true, true, true, true, true, false, false, false, false, false] rfl rfl (by kernel_rfl) (fun _ _ _ h => h) (Or.inl ⟨by rfl, ?_⟩) ?_ ?_
              rotate_left
              · intro w'
                go_simp
                with_reducible rfl
              rotate_left
              · simp only [Act.put, List.setIfInBounds_toArray, List.set_cons_zero, List.set_cons_succ, i64_w, i32_w]
                rfl
              refine take_ (i := 9) (N := some 111) (v := ?_) (a' := ?_) #[true, true, true, true, true, true, true, true, true, true, false, false, false, false] rfl rfl (by kernel_rfl) (fun _ _ _ h => h) (Or.inl ⟨by rfl, ?_⟩) hHeld ?_ ?_
              rotate_left
              · rintro w' ⟨s0, s1, s2, s3, s4, s5⟩
                go_simp
                with_reducible rfl
              rotate_left
              · simp only [Act.put, List.setIfInBounds_toArray, List.set_cons_zero, List.set_cons_succ, i64_w, i32_w]
                rfl
              refine take_ (i := 10) (N := some 112) (v := ?_) (a' := ?_) #[true, true, true, true, true, true, true, true, true, true, true, false, false, false] rfl rfl (by kernel_rfl) (fun _ _ _ h => h) (Or.inl ⟨by rfl, ?_⟩) hHeld ?_ ?_
              rotate_left
              · rintro w' ⟨s0, s1, s2, s3, s4, s5⟩
                go_simp
                with_reducible rfl
              rotate_left
              · simp only [Act.put, List.setIfInBounds_toArray, List.set_cons_zero, List.set_cons_succ, i64_w, i32_w]
                rfl
              refine one_ (i := 11) (N := some 113) #[true, true, true, true, true, true, true, true, true, true, true, true, false, false] rfl rfl (by kernel_rfl) (by decide) (fun K hK => ?_)
              refine goes_ Try.func20 (by kernel_rfl) rfl #[.agg #[.string X.f0.f0, .int .u64 X.f0.f1, .int .i64 X.f0.f2], .agg #[.string q0, .int .u64 q1, .int .i64 q2]] (by rfl) rfl rfl (by simp only [List.map_toArray, List.map_cons, List.map_nil]; rfl) ?_
              with_reducible refine (ikey_Compare.calls X.f0.f0 X.f0.f1 X.f0.f2 q0 q1 q2 cv _ HCV.out).mono ?_
              rintro e W11 ⟨rfl, hb⟩
              refine ⟨_, rfl, ?_⟩
              have HSE := Aside0.mk (HSD.out.step hb)
              have k0b := Aside0.mk ((hb.cell (World.block_lt_of_cell? _ _ k0.out)).trans k0.out)
              have k1b := Aside0.mk ((hb.cell (World.block_lt_of_cell? _ _ k1.out)).trans k1.out)
              have k2b := Aside0.mk ((hb.cell (World.block_lt_of_cell? _ _ k2.out)).trans k2.out)
              have m0b := Aside0.mk ((hb.cell (World.block_lt_of_cell? _ _ m0.out)).trans m0.out)
              have m1b := Aside0.mk ((hb.cell (World.block_lt_of_cell? _ _ m1.out)).trans m1.out)
              have m2b := Aside0.mk ((hb.cell (World.block_lt_of_cell? _ _ m2.out)).trans m2.out)
              clear hb
              refine hK.out _ _ ⟨k0b.out, k1b.out, k2b.out, m0b.out, m1b.out, m2b.out⟩ (fun hHeld => ?_)
              clear hK K
              refine norm_ (a' := ?_) ?_ ?_
              rotate_left
              · show Act.put _ (some 113) _ = _
                simp only [Act.put, List.setIfInBounds_toArray, List.set_cons_zero, List.set_cons_succ, i64_w, i32_w]
                rfl
              refine pure_ (i := 12) (N := some 114) (v := ?_) (a' := ?_) #[true, true, true, true, true, true, true, true, true, true, true, true, true, false] rfl rfl (by kernel_rfl) (fun _ _ _ h => h) (Or.inl ⟨by rfl, ?_⟩) ?_ ?_
              rotate_left
              · intro w'
                go_simp
                with_reducible rfl
              rotate_left
              · simp only [Act.put, List.setIfInBounds_toArray, List.set_cons_zero, List.set_cons_succ, i64_w, i32_w]
                rfl
              refine pure_ (i := 13) (N := some 115) (v := ?_) (a' := ?_) #[true, true, true, true, true, true, true, true, true, true, true, true, true, true] rfl rfl (by kernel_rfl) (fun _ _ _ h => h) (Or.inl ⟨by rfl, ?_⟩) ?_ ?_
              rotate_left
              · intro w'
                go_simp
                with_reducible rfl
              rotate_left
              · simp only [Act.put, List.setIfInBounds_toArray, List.set_cons_zero, List.set_cons_succ, i64_w, i32_w]
                rfl
              refine done_ (by kernel_rfl) ?_
              clear hHeld HSD HS1
              clear k0 k1 k2 m0 m1 m2 k0b k1b k2b m0b m1b m2b
              have HS1 := HSE
              clear HSE
              go_upto_region 21 with fail
              have HSD : Aside0 (BkSt w _ g gq L (iv : Int) q0 q1 q2 W11.drew) := ⟨HS1.out.step (below_drew1 (Below.refl _ _))⟩
              by_cases c : n = 0
              · have e6 : ((n : Int) == 0) = true := beq_iff_eq.mpr (by omega)
                have e7 : decide (n = 0) = true := decide_eq_true c
                have e8 : (n == 0) = true := beq_iff_eq.mpr c
                refine start_ (n := 14) (S := fun w' => True) (ds := []) #[false, false, false, false, false, false, false, false, false, false, false, false, false, false] (by kernel_rfl) rfl rfl trivial (fun hHeld => ?_)
                refine pure_ (i := 0) (N := some 116) (v := ?_) (a' := ?_) #[true, false, false, false, false, false, false, false, false, false, false, false, false, false] rfl rfl (by kernel_rfl) (fun _ _ _ h => h) (Or.inl ⟨by rfl, ?_⟩) ?_ ?_
                rotate_left
                · intro w'
                  go_simp
                  with_reducible rfl
                rotate_left
                · simp only [Act.put, List.setIfInBounds_toArray, List.set_cons_zero, List.set_cons_succ, i64_w, i32_w]
                  rfl
                refine pure_ (i := 1) (N := some 117) (v := ?_) (a' := ?_) #[true, true, false, false, false, false, false, false, false, false, false, false, false, false] rfl rfl (by kernel_rfl) (fun _ _ _ h => h) (Or.inl ⟨by rfl, ?_⟩) ?_ ?_
                rotate_left
                · intro w'
                  go_simp
                  with_reducible rfl
                rotate_left
                · simp only [Act.put, List.setIfInBounds_toArray, List.set_cons_zero, List.set_cons_succ, i64_w, i32_w]
                  rfl
                refine pure_ (i := 2) (N := some 118) (v := ?_) (a' := ?_) #[true, true, true, false, false, false, false, false, false, false, false, false, false, false] rfl rfl (by kernel_rfl) (fun _ _ _ h => h) (Or.inl ⟨by rfl, ?_⟩) ?_ ?_
                rotate_left
                · intro w'
                  go_simp
                  with_reducible rfl
                rotate_left
                · simp only [Act.put, List.setIfInBounds_toArray, List.set_cons_zero, List.set_cons_succ, i64_w, i32_w]
                  rfl
                refine pure_ (i := 3) (N := some 119) (v := undef) (a' := ?_) #[true, true, true, true, false, false, false, false, false, false, false, false, false, false] rfl rfl (by kernel_rfl) (fun _ _ _ h => h) (Or.inr ⟨by rfl, rfl⟩) ?_ ?_
                rotate_left
                · simp only [Act.put, List.setIfInBounds_toArray, List.set_cons_zero, List.set_cons_succ, i64_w, i32_w]
                  rfl
                refine pure_ (i := 4) (N := some 120) (v := undef) (a' := ?_) #[true, true, true, true, true, false, false, false, false, false, false, false, false, false] rfl rfl (by kernel_rfl) (fun _ _ _ h => h) (Or.inr ⟨by rfl, rfl⟩) ?_ ?_
                rotate_left
                · simp only [Act.put, List.setIfInBounds_toArray, List.set_cons_zero, List.set_cons_succ, i64_w, i32_w]
                  rfl
                refine pure_ (i := 5) (N := some 121) (v := undef) (a' := ?_) #[true, true, true, true, true, true, false, false, false, false, false, false, false, false] rfl rfl (by kernel_rfl) (fun _ _ _ h => h) (Or.inr ⟨by rfl, rfl⟩) ?_ ?_
                rotate_left
                · simp only [Act.put, List.setIfInBounds_toArray, List.set_cons_zero, List.set_cons_succ, i64_w, i32_w]
                  rfl
                refine pure_ (i := 6) (N := some 122) (v := undef) (a' := ?_) #[true, true, true, true, true, true, true, false, false, false, false, false, false, false] rfl rfl (by kernel_rfl) (fun _ _ _ h => h) (Or.inr ⟨by rfl, rfl⟩) ?_ ?_
                rotate_left
                · simp only [Act.put, List.setIfInBounds_toArray, List.set_cons_zero, List.set_cons_succ, i64_w, i32_w]
                  rfl
                refine pure_ (i := 7) (N := some 123) (v := undef) (a' := ?_) #[true, true, true, true, true, true, true, true, false, false, false, false, false, false] rfl rfl (by kernel_rfl) (fun _ _ _ h => h) (Or.inr ⟨by rfl, rfl⟩) ?_ ?_
                rotate_left
                · simp only [Act.put, List.setIfInBounds_toArray, List.set_cons_zero, List.set_cons_succ, i64_w, i32_w]
                  rfl
                refine pure_ (i := 8) (N := some 124) (v := undef) (a' := ?_) #[true, true, true, true, true, true, true, true, true, false, false, false, false, false] rfl rfl (by kernel_rfl) (fun _ _ _ h => h) (Or.inr ⟨by rfl, rfl⟩) ?_ ?_
                rotate_left
                · simp only [Act.put, List.setIfInBounds_toArray, List.set_cons_zero, List.set_cons_succ, i64_w, i32_w]
                  rfl
                refine pure_ (i := 9) (N := some 125) (v := undef) (a' := ?_) #[true, true, true, true, true, true, true, true, true, true, false, false, false, false] rfl rfl (by kernel_rfl) (fun _ _ _ h => h) (Or.inr ⟨by rfl, rfl⟩) ?_ ?_
                rotate_left
                · simp only [Act.put, List.setIfInBounds_toArray, List.set_cons_zero, List.set_cons_succ, i64_w, i32_w]
                  rfl
                refine pure_ (i := 10) (N := some 126) (v := undef) (a' := ?_) #[true, true, true, true, true, true, true, true, true, true, true, false, false, false] rfl rfl (by kernel_rfl) (fun _ _ _ h => h) (Or.inr ⟨by rfl, rfl⟩) ?_ ?_
                rotate_left
                · simp only [Act.put, List.setIfInBounds_toArray, List.set_cons_zero, List.set_cons_succ, i64_w, i32_w]
                  rfl
                refine pure_ (i := 11) (N := some 127) (v := undef) (a' := ?_) #[true, true, true, true, true, true, true, true, true, true, true, true, false, false] rfl rfl (by kernel_rfl) (fun _ _ _ h => h) (Or.inr ⟨by rfl, rfl⟩) ?_ ?_
                rotate_left
                · simp only [Act.put, List.setIfInBounds_toArray, List.set_cons_zero, List.set_cons_succ, i64_w, i32_w]
                  rfl
                refine pure_ (i := 12) (N := some 128) (v := ?_) (a' := ?_) #[true, true, true, true, true, true, true, true, true, true, true, true, true, false] rfl rfl (by kernel_rfl) (fun _ _ _ h => h) (Or.inl ⟨by rfl, ?_⟩) ?_ ?_
                rotate_left
                · intro w'
                  go_simp
                  with_reducible rfl
                rotate_left
                · simp only [Act.put, List.setIfInBounds_toArray, List.set_cons_zero, List.set_cons_succ, i64_w, i32_w]
                  rfl
                refine pure_ (i := 13) (N := some 6) (v := ?_) (a' := ?_) #[true, true, true, true, true, true, true, true, true, true, true, true, true, true] rfl rfl (by kernel_rfl) (fun _ _ _ h => h) (Or.inl ⟨by rfl, ?_⟩) ?_ ?_
                rotate_left
                · intro w'
                  go_simp
                  with_reducible rfl
                rotate_left
                · simp only [Act.put, List.setIfInBounds_toArray, List.set_cons_zero, List.set_cons_succ, i64_w, i32_w]
                  rfl
                refine done_ (by kernel_rfl) ?_
                clear hHeld
                go_wp2
                go_ret
                exact ⟨by first | rfl | simp, HSD.out.bel⟩
              · have e6 : ((n : Int) == 0) = false := beq_eq_false_iff_ne.mpr (by omega)
                have e7 : decide (n = 0) = false := decide_eq_false c
                have e8 : (n == 0) = false := beq_eq_false_iff_ne.mpr c
                have hnp : 0 < n := by omega
                have hnm : n - 1 < L.length := by have := HNL.out; omega
                have hwp : wrap64 ((n : Int) - 1) = ((n - 1 : Nat) : Int) := bk_p n hnp (by have := HNL.out; have := hK0.out; omega)
                obtain ⟨cv, hcv, hcn⟩ := HK2.out hnp
                have hcb : decide (cv < 0) = true := decide_eq_true (by clear hwp; omega)
                obtain ⟨bl, ebl, k0, k1, k2, k3⟩ := at_T42 HSD.out.row ((n - 1 : Nat) : Int) (Int.natCast_nonneg _) (Int.ofNat_lt.2 hnm)
                obtain ⟨X, hX⟩ : ∃ x, rd_T42 L ((n - 1 : Nat) : Int) = x := ⟨_, rfl⟩
                rw [hX] at k0 k1 k2 k3 hcv
                have HCV : Aside0 (ikey_Compare.f X.f0.f0 X.f0.f1 X.f0.f2 q0 q1 q2 = some cv) := ⟨hcv⟩
                obtain rfl : al = bl := Option.some.inj ebl
                rw [Int.toNat_natCast] at k0 k1 k2 k3
                have e1 : decide (((n - 1 : Nat) : Int) < (L.length : Int)) = true := decide_eq_true (by clear hwp; omega)
                have e2 : decide (n - 1 < L.length) = true := decide_eq_true hnm
                have e3 := eq_true (show ((n - 1 : Nat) : Int) < (L.length : Int) by clear hwp; omega)
                have e4 : decide (0 ≤ ((n - 1 : Nat) : Int)) = true := decide_eq_true (by clear hwp; omega)
                have e5 := eq_true (show 0 ≤ ((n - 1 : Nat) : Int) by clear hwp; omega)
                replace k0 := Aside0.mk k0
                replace k1 := Aside0.mk k1
                replace k2 := Aside0.mk k2
                have m0 := Aside0.mk HSD.out.k0
                have m1 := Aside0.mk HSD.out.k1
                have m2 := Aside0.mk HSD.out.k2
                clear k3 hX hcv hcn c hnp hnm
                refine start_ (n := 14) (S := fun w' => w'.cell? (al.add ((n - 1) * 4)) = some (.string X.f0.f0) ∧ w'.cell? ⟨(al.add ((n - 1) * 4)).block, (al.add ((n - 1) * 4)).off + 1, none⟩ = some (.int .u64 X.f0.f1) ∧ w'.cell? ⟨(al.add ((n - 1) * 4)).block, (al.add ((n - 1) * 4)).off + 2, none⟩ = some (.int .i64 X.f0.f2) ∧ w'.cell? ⟨gq, 0, none⟩ = some (.string q0) ∧ w'.cell? ⟨gq, 1, none⟩ = some (.int .u64 q1) ∧ w'.cell? ⟨gq, 2, none⟩ = some (.int .i64 q2)) (ds := []) #[false, false, false, false, false, false, false, false, false, false, false, false, false, false] (by kernel_rfl) rfl rfl ⟨k0.out, k1.out, k2.out, m0.out, m1.out, m2.out⟩ (fun hHeld => ?_)
                refine pure_ (i := 0) (N := some 116) (v := ?_) (a' := ?_) #[true, false, false, false, false, false, false, false, false, false, false, false, false, false] rfl rfl (by kernel_rfl) (fun _ _ _ h => h) (Or.inl ⟨by rfl, ?_⟩) ?_ ?_
                rotate_left
                · intro w'
                  go_simp
                  with_reducible rfl
                rotate_left
                · simp only [Act.put, List.setIfInBounds_toArray, List.set_cons_zero, List.set_cons_succ, i64_w, i32_w]
                  rfl
                refine pure_ (i := 1) (N := some 117) (v := ?_) (a' := ?_) #[true, true, false, false, false, false, false, false, false, false, false, false, false, false] rfl rfl (by kernel_rfl) (fun _ _ _ h => h) (Or.inl ⟨by rfl, ?_⟩) ?_ ?_
                rotate_left
                · intro w'
                  go_simp
                  with_reducible rfl
                rotate_left
                · simp only [Act.put, List.setIfInBounds_toArray, List.set_cons_zero, List.set_cons_succ, i64_w, i32_w]
                  rfl
                refine pure_ (i := 2) (N := some 118) (v := ?_) (a' := ?_) #[true, true, true, false, false, false, false, false, false, false, false, false, false, false] rfl rfl (by kernel_rfl) (fun _ _ _ h => h) (Or.inl ⟨by rfl, ?_⟩) ?_ ?_
                rotate_left
                · intro w'
                  go_simp
                  with_reducible rfl
                rotate_left
                · simp only [Act.put, List.setIfInBounds_toArray, List.set_cons_zero, List.set_cons_succ, i64_w, i32_w]
                  rfl
                refine pure_ (i := 3) (N := some 119) (v := ?_) (a' := ?_) #[true, true, true, true, false, false, false, false, false, false, false, false, false, false] rfl rfl (by kernel_rfl) (fun _ _ _ h => h) (Or.inl ⟨by rfl, ?_⟩) ?_ ?_
                rotate_left
                · intro w'
                  go_simp
                  with_reducible rfl
                rotate_left
                · simp only [Act.put, List.setIfInBounds_toArray, List.set_cons_zero, List.set_cons_succ, i64_w, i32_w]
                  rfl
                refine pure_ (i := 4) (N := some 120) (v := ?_) (a' := ?_) #[true, true, true, true, true, false, false, false, false, false, false, false, false, false] rfl rfl (by kernel_rfl) (fun _ _ _ h => h) (Or.inl ⟨by rfl, ?_⟩) ?_ ?_
                rotate_left
                · intro w'
                  go_simp
                  with_reducible rfl
                rotate_left
                · simp only [Act.put, List.setIfInBounds_toArray, List.set_cons_zero, List.set_cons_succ, i64_w, i32_w]
                  rfl
                refine pure_ (i := 5) (N := some 121) (v := ?_) (a' := ?_) #[true, true, true, true, true, true, false, false, false, false, false, false, false, false] rfl rfl (by kernel_rfl) (fun _ _ _ h => h) (Or.inl ⟨by rfl, ?_⟩) ?_ ?_
                rotate_left
                · intro w'
                  go_simp
                  with_reducible rfl
                rotate_left
                · simp only [Act.put, List.setIfInBounds_toArray, List.set_cons_zero, List.set_cons_succ, i64_w, i32_w]
                  rfl
                refine pure_ (i := 6) (N := some 122) (v := ?_) (a' := ?_) #[true, true, true, true, true, true, true, false, false, false, false, false, false, false] rfl rfl (by kernel_rfl) (fun _ _ _ h => h) (Or.inl ⟨by rfl, ?_⟩) ?_ ?_
                rotate_left
                · intro w'
                  go_simp
                  with_reducible rfl
                rotate_left
                · simp only [Act.put, List.setIfInBounds_toArray, List.set_cons_zero, List.set_cons_succ, i64_w, i32_w]
                  rfl
                refine pure_ (i := 7) (N := some 123) (v := ?_) (a' := ?_) #[true, true, true, true, true, true, true, true, false, false, false, false, false, false] rfl rfl (by kernel_rfl) (fun _ _ _ h => h) (Or.inl ⟨by rfl, ?_⟩) ?_ ?_
                rotate_left
                · intro w'
                  go_simp
                  with_reducible rfl
                rotate_left
                · simp only [Act.put, List.setIfInBounds_toArray, List.set_cons_zero, List.set_cons_succ, i64_w, i32_w]
                  rfl
                refine take_ (i := 8) (N := some 124) (v := ?_) (a' := ?_) #[true, true, true, true, true, true, true, true, true, false, false, false, false, false] rfl rfl (by kernel_rfl) (fun _ _ _ h => h) (Or.inl ⟨by rfl, ?_⟩) hHeld ?_ ?_
                rotate_left
                · rintro w' ⟨s0, s1, s2, s3, s4, s5⟩
                  go_simp
                  with_reducible rfl
                rotate_left
                · simp only [Act.put, List.setIfInBounds_toArray, List.set_cons_zero, List.set_cons_succ, i64_w, i32_w]
                  rfl
                refine take_ (i := 9) (N := some 125) (v := ?_) (a' := ?_) #[true, true, true, true, true, true, true, true, true, true, false, false, false, false] rfl rfl (by kernel_rfl) (fun _ _ _ h => h) (Or.inl ⟨by rfl, ?_⟩) hHeld ?_ ?_
                rotate_left
                · rintro w' ⟨s0, s1, s2, s3, s4, s5⟩
                  go_simp
                  with_reducible rfl
                rotate_left
                · simp only [Act.put, List.setIfInBounds_toArray, List.set_cons_zero, List.set_cons_succ, i64_w, i32_w]
                  rfl
                refine one_ (i := 10) (N := some 126) #[true, true, true, true, true, true, true, true, true, true, true, false, false, false] rfl rfl (by kernel_rfl) (by decide) (fun K hK => ?_)
                refine goes_ Try.func20 (by kernel_rfl) rfl #[.agg #[.string X.f0.f0, .int .u64 X.f0.f1, .int .i64 X.f0.f2], .agg #[.string q0, .int .u64 q1, .int .i64 q2]] (by rfl) rfl rfl (by simp only [List.map_toArray, List.map_cons, List.map_nil]; rfl) ?_
                with_reducible refine (ikey_Compare.calls X.f0.f0 X.f0.f1 X.f0.f2 q0 q1 q2 cv _ HCV.out).mono ?_
                rintro e W11 ⟨rfl, hb⟩
                refine ⟨_, rfl, ?_⟩
                have HSE := Aside0.mk (HSD.out.step hb)
                have k0b := Aside0.mk ((hb.cell (World.block_lt_of_cell? _ _ k0.out)).trans k0.out)
                have k1b := Aside0.mk ((hb.cell (World.block_lt_of_cell? _ _ k1.out)).trans k1.out)
                have k2b := Aside0.mk ((hb.cell (World.block_lt_of_cell? _ _ k2.out)).trans k2.out)
                have m0b := Aside0.mk ((hb.cell (World.block_lt_of_cell? _ _ m0.out)).trans m0.out)
                have m1b := Aside0.mk ((hb.cell (World.block_lt_of_cell? _ _ m1.out)).trans m1.out)
                have m2b := Aside0.mk ((hb.cell (World.block_lt_of_cell? _ _ m2.out)).trans m2.out)
                clear hb
                refine hK.out _ _ ⟨k0b.out, k1b.out, k2b.out, m0b.out, m1b.out, m2b.out⟩ (fun hHeld => ?_)
                clear hK K
                refine norm_ (a' := ?_) ?_ ?_
                rotate_left
                · show Act.put _ (some 126) _ = _
                  simp only [Act.put, List.setIfInBounds_toArray, List.set_cons_zero, List.set_cons_succ, i64_w, i32_w]
                  rfl
                refine pure_ (i := 11) (N := some 127) (v := ?_) (a' := ?_) #[true, true, true, true, true, true, true, true, true, true, true, true, false, false] rfl rfl (by kernel_rfl) (fun _ _ _ h => h) (Or.inl ⟨by rfl, ?_⟩) ?_ ?_
                rotate_left
                · intro w'
                  go_simp
                  with_reducible rfl
                rotate_left
                · simp only [Act.put, List.setIfInBounds_toArray, List.set_cons_zero, List.set_cons_succ, i64_w, i32_w]
                  rfl
                refine pure_ (i := 12) (N := some 128) (v := ?_) (a' := ?_) #[true, true, true, true, true, true, true, true, true, true, true, true, true, false] rfl rfl (by kernel_rfl) (fun _ _ _ h => h) (Or.inl ⟨by rfl, ?_⟩) ?_ ?_
                rotate_left
                · intro w'
                  go_simp
                  with_reducible rfl
                rotate_left
                · simp only [Act.put, List.setIfInBounds_toArray, List.set_cons_zero, List.set_cons_succ, i64_w, i32_w]
                  rfl
                refine pure_ (i := 13) (N := some 6) (v := ?_) (a' := ?_) #[true, true, true, true, true, true, true, true, true, true, true, true, true, true] rfl rfl (by kernel_rfl) (fun _ _ _ h => h) (Or.inl ⟨by rfl, ?_⟩) ?_ ?_
                rotate_left
                · intro w'
                  go_simp
                  with_reducible rfl
                rotate_left
                · simp only [Act.put, List.setIfInBounds_toArray, List.set_cons_zero, List.set_cons_succ, i64_w, i32_w]
                  rfl
                refine done_ (by kernel_rfl) ?_
                clear hHeld
                go_wp2
                go_ret
                exact ⟨by first | rfl | simp, HSE.out.bel⟩
            · have e1 : decide ((n : Int) < (L.length : Int)) = false := decide_eq_false (by omega)
              have e2 : decide (n < L.length) = false := decide_eq_false c
              clear c
              refine start_ (n := 14) (S := fun w' => True) (ds := []) #[false, false, false, false, false, false, false, false, false, false, false, false, false, false] (by kernel_rfl) rfl rfl trivial (fun hHeld => ?_)
              refine pure_ (i := 0) (N := some 102) (v := ?_) (a' := ?_) #[true, false, false, false, false, false, false, false, false, false, false, false, false, false] rfl rfl (by kernel_rfl) (fun _ _ _ h => h) (Or.inl ⟨by rfl, ?_⟩) ?_ ?_
              rotate_left
              · intro w'
                go_simp
                with_reducible rfl
              rotate_left
              · simp only [Act.put, List.setIfInBounds_toArray, List.set_cons_zero, List.set_cons_succ, i64_w, i32_w]
                rfl
              refine pure_ (i := 1) (N := some 103) (v := ?_) (a' := ?_) #[true, true, false, false, false, false, false, false, false, false, false, false, false, false] rfl rfl (by kernel_rfl) (fun _ _ _ h => h) (Or.inl ⟨by rfl, ?_⟩) ?_ ?_
              rotate_left
              · intro w'
                go_simp
                with_reducible rfl
              rotate_left
              · simp only [Act.put, List.setIfInBounds_toArray, List.set_cons_zero, List.set_cons_succ, i64_w, i32_w]
                rfl
              refine pure_ (i := 2) (N := some 104) (v := ?_) (a' := ?_) #[true, true, true, false, false, false, false, false, false, false, false, false, false, false] rfl rfl (by kernel_rfl) (fun _ _ _ h => h) (Or.inl ⟨by rfl, ?_⟩) ?_ ?_
              rotate_left
              · intro w'
                go_simp
                with_reducible rfl
              rotate_left
              · simp only [Act.put, List.setIfInBounds_toArray, List.set_cons_zero, List.set_cons_succ, i64_w, i32_w]
                rfl
              refine pure_ (i := 3) (N := some 105) (v := ?_) (a' := ?_) #[true, true, true, true, false, false, false, false, false, false, false, false, false, false] rfl rfl (by kernel_rfl) (fun _ _ _ h => h) (Or.inl ⟨by rfl, ?_⟩) ?_ ?_
              rotate_left
              · intro w'
                go_simp
                with_reducible rfl
              rotate_left
              · simp only [Act.put, List.setIfInBounds_toArray, List.set_cons_zero, List.set_cons_succ, i64_w, i32_w]
                rfl
              refine pure_ (i := 4) (N := some 106) (v := ?_) (a' := ?_) #[true, true, true, true, true, false, false, false, false, false, false, false, false, false] rfl rfl (by kernel_rfl) (fun _ _ _ h => h) (Or.inl ⟨by rfl, ?_⟩) ?_ ?_
              rotate_left
              · intro w'
                go_simp
                with_reducible rfl
              rotate_left
              · simp only [Act.put, List.setIfInBounds_toArray, List.set_cons_zero, List.set_cons_succ, i64_w, i32_w]
                rfl
              refine pure_ (i := 5) (N := some 107) (v := undef) (a' := ?_) #[true, true, true, true, true, true, false, false, false, false, false, false, false, false] rfl rfl (by kernel_rfl) (fun _ _ _ h => h) (Or.inr ⟨by rfl, rfl⟩) ?_ ?_
              rotate_left
              · simp only [Act.put, List.setIfInBounds_toArray, List.set_cons_zero, List.set_cons_succ, i64_w, i32_w]
                rfl
              refine pure_ (i := 6) (N := some 108) (v := undef) (a' := ?_) #[true, true, true, true, true, true, true, false, false, false, false, false, false, false] rfl rfl (by kernel_rfl) (fun _ _ _ h => h) (Or.inr ⟨by rfl, rfl⟩) ?_ ?_
              rotate_left
              · simp only [Act.put, List.setIfInBounds_toArray, List.set_cons_zero, List.set_cons_succ, i64_w, i32_w]
                rfl
              refine pure_ (i := 7) (N := some 109) (v := undef) (a' := ?_) #[true, true, true, true, true, true, true, true, false, false, false, false, false, false] rfl rfl (by kernel_rfl) (fun _ _ _ h => h) (Or.inr ⟨by rfl, rfl⟩) ?_ ?_
              rotate_left
              · simp only [Act.put, List.setIfInBounds_toArray, List.set_cons_zero, List.set_cons_succ, i64_w, i32_w]
                rfl
              refine pure_ (i := 8) (N := some 110) (v := undef) (a' := ?_) #[true, true, true, true, true, true, true, true, true, false, false, false, false, false] rfl rfl (by kernel_rfl) (fun _ _ _ h => h) (Or.inr ⟨by rfl, rfl⟩) ?_ ?_
              rotate_left
              · simp only [Act.put, List.setIfInBounds_toArray, List.set_cons_zero, List.set_cons_succ, i64_w, i32_w]
                rfl
              refine pure_ (i := 9) (N := some 111) (v := undef) (a' := ?_) #[true, true, true, true, true, true, true, true, true, true, false, false, false, false] rfl rfl (by kernel_rfl) (fun _ _ _ h => h) (Or.inr ⟨by rfl, rfl⟩) ?_ ?_
              rotate_left
              · simp only [Act.put, List.setIfInBounds_toArray, List.set_cons_zero, List.set_cons_succ, i64_w, i32_w]
                rfl
              refine pure_ (i := 10) (N := some 112) (v := undef) (a' := ?_) #[true, true, true, true, true, true, true, true, true, true, true, false, false, false] rfl rfl (by kernel_rfl) (fun _ _ _ h => h) (Or.inr ⟨by rfl, rfl⟩) ?_ ?_
              rotate_left
              · simp only [Act.put, List.setIfInBounds_toArray, List.set_cons_zero, List.set_cons_succ, i64_w, i32_w]
                rfl
              refine pure_ (i := 11) (N := some 113) (v := undef) (a' := ?_) #[true, true, true, true, true, true, true, true, true, true, true, true, false, false] rfl rfl (by kernel_rfl) (fun _ _ _ h => h) (Or.inr ⟨by rfl, rfl⟩) ?_ ?_
              rotate_left
              · simp only [Act.put, List.setIfInBounds_toArray, List.set_cons_zero, List.set_cons_succ, i64_w, i32_w]
                rfl
              refine pure_ (i := 12) (N := some 114) (v := undef) (a' := ?_) #[true, true, true, true, true, true, true, true, true, true, true, true, true, false] rfl rfl (by kernel_rfl) (fun _ _ _ h => h) (Or.inr ⟨by rfl, rfl⟩) ?_ ?_
              rotate_left
              · simp only [Act.put, List.setIfInBounds_toArray, List.set_cons_zero, List.set_cons_succ, i64_w, i32_w]
                rfl
              refine pure_ (i := 13) (N := some 115) (v := ?_) (a' := ?_) #[true, true, true, true, true, true, true, true, true, true, true, true, true, true] rfl rfl (by kernel_rfl) (fun _ _ _ h => h) (Or.inl ⟨by rfl, ?_⟩) ?_ ?_
              rotate_left
              · intro w'
                go_simp
                with_reducible rfl
              rotate_left
              · simp only [Act.put, List.setIfInBounds_toArray, List.set_cons_zero, List.set_cons_succ, i64_w, i32_w]
                rfl
              refine done_ (by kernel_rfl) ?_
              clear hHeld HS1
              have HS1 := HSD
              clear HSD
              go_upto_region 21 with fail
              have HSD : Aside0 (BkSt w _ g gq L (iv : Int) q0 q1 q2 w10.drew.drew) := ⟨HS1.out.step (below_drew1 (Below.refl _ _))⟩
              by_cases c : n = 0
              · have e6 : ((n : Int) == 0) = true := beq_iff_eq.mpr (by omega)
                have e7 : decide (n = 0) = true := decide_eq_true c
                have e8 : (n == 0) = true := beq_iff_eq.mpr c
                refine start_ (n := 14) (S := fun w' => True) (ds := []) #[false, false, false, false, false, false, false, false, false, false, false, false, false, false] (by kernel_rfl) rfl rfl trivial (fun hHeld => ?_)
                refine pure_ (i := 0) (N := some 116) (v := ?_) (a' := ?_) #[true, false, false, false, false, false, false, false, false, false, false, false, false, false] rfl rfl (by kernel_rfl) (fun _ _ _ h => h) (Or.inl ⟨by rfl, ?_⟩) ?_ ?_
                rotate_left
                · intro w'
                  go_simp
                  with_reducible rfl
                rotate_left
                · simp only [Act.put, List.setIfInBounds_toArray, List.set_cons_zero, List.set_cons_succ, i64_w, i32_w]
                  rfl
                refine pure_ (i := 1) (N := some 117) (v := ?_) (a' := ?_) #[true, true, false, false, false, false, false, false, false, false, false, false, false, false] rfl rfl (by kernel_rfl) (fun _ _ _ h => h) (Or.inl ⟨by rfl, ?_⟩) ?_ ?_
                rotate_left
                · intro w'
                  go_simp
                  with_reducible rfl
                rotate_left
                · simp only [Act.put, List.setIfInBounds_toArray, List.set_cons_zero, List.set_cons_succ, i64_w, i32_w]
                  rfl
                refine pure_ (i := 2) (N := some 118) (v := ?_) (a' := ?_) #[true, true, true, false, false, false, false, false, false, false, false, false, false, false] rfl rfl (by kernel_rfl) (fun _ _ _ h => h) (Or.inl ⟨by rfl, ?_⟩) ?_ ?_
                rotate_left
                · intro w'
                  go_simp
                  with_reducible rfl
                rotate_left
                · simp only [Act.put, List.setIfInBounds_toArray, List.set_cons_zero, List.set_cons_succ, i64_w, i32_w]
                  rfl
                refine pure_ (i := 3) (N := some 119) (v := undef) (a' := ?_) #[true, true, true, true, false, false, false, false, false, false, false, false, false, false] rfl rfl (by kernel_rfl) (fun _ _ _ h => h) (Or.inr ⟨by rfl, rfl⟩) ?_ ?_
                rotate_left
                · simp only [Act.put, List.setIfInBounds_toArray, List.set_cons_zero, List.set_cons_succ, i64_w, i32_w]
                  rfl
                refine pure_ (i := 4) (N := some 120) (v := undef) (a' := ?_) #[true, true, true, true, true, false, false, false, false, false, false, false, false, false] rfl rfl (by kernel_rfl) (fun _ _ _ h => h) (Or.inr ⟨by rfl, rfl⟩) ?_ ?_
                rotate_left
                · simp only [Act.put, List.setIfInBounds_toArray, List.set_cons_zero, List.set_cons_succ, i64_w, i32_w]
                  rfl
                refine pure_ (i := 5) (N := some 121) (v := undef) (a' := ?_) #[true, true, true, true, true, true, false, false, false, false, false, false, false, false] rfl rfl (by kernel_rfl) (fun _ _ _ h => h) (Or.inr ⟨by rfl, rfl⟩) ?_ ?_
                rotate_left
                · simp only [Act.put, List.setIfInBounds_toArray, List.set_cons_zero, List.set_cons_succ, i64_w, i32_w]
                  rfl
                refine pure_ (i := 6) (N := some 122) (v := undef) (a' := ?_) #[true, true, true, true, true, true, true, false, false, false, false, false, false, false] rfl rfl (by kernel_rfl) (fun _ _ _ h => h) (Or.inr ⟨by rfl, rfl⟩) ?_ ?_
                rotate_left
                · simp only [Act.put, List.setIfInBounds_toArray, List.set_cons_zero, List.set_cons_succ, i64_w, i32_w]
                  rfl
                refine pure_ (i := 7) (N := some 123) (v := undef) (a' := ?_) #[true, true, true, true, true, true, true, true, false, false, false, false, false, false] rfl rfl (by kernel_rfl) (fun _ _ _ h => h) (Or.inr ⟨by rfl, rfl⟩) ?_ ?_
                rotate_left
                · simp only [Act.put, List.setIfInBounds_toArray, List.set_cons_zero, List.set_cons_succ, i64_w, i32_w]
                  rfl
                refine pure_ (i := 8) (N := some 124) (v := undef) (a' := ?_) #[true, true, true, true, true, true, true, true, true, false, false, false, false, false] rfl rfl (by kernel_rfl) (fun _ _ _ h => h) (Or.inr ⟨by rfl, rfl⟩) ?_ ?_
                rotate_left
                · simp only [Act.put, List.setIfInBounds_toArray, List.set_cons_zero, List.set_cons_succ, i64_w, i32_w]
                  rfl
                refine pure_ (i := 9) (N := some 125) (v := undef) (a' := ?_) #[true, true, true, true, true, true, true, true, true, true, false, false, false, false] rfl rfl (by kernel_rfl) (fun _ _ _ h => h) (Or.inr ⟨by rfl, rfl⟩) ?_ ?_
                rotate_left
                · simp only [Act.put, List.setIfInBounds_toArray, List.set_cons_zero, List.set_cons_succ, i64_w, i32_w]
                  rfl
                refine pure_ (i := 10) (N := some 126) (v := undef) (a' := ?_) #[true, true, true, true, true, true, true, true, true, true, true, false, false, false] rfl rfl (by kernel_rfl) (fun _ _ _ h => h) (Or.inr ⟨by rfl, rfl⟩) ?_ ?_
                rotate_left
                · simp only [Act.put, List.setIfInBounds_toArray, List.set_cons_zero, List.set_cons_succ, i64_w, i32_w]
                  rfl
                refine pure_ (i := 11) (N := some 127) (v := undef) (a' := ?_) #[true, true, true, true, true, true, true, true, true, true, true, true, false, false] rfl rfl (by kernel_rfl) (fun _ _ _ h => h) (Or.inr ⟨by rfl, rfl⟩) ?_ ?_
                rotate_left
                · simp only [Act.put, List.setIfInBounds_toArray, List.set_cons_zero, List.set_cons_succ, i64_w, i32_w]
                  rfl
                refine pure_ (i := 12) (N := some 128) (v := ?_) (a' := ?_) #[true, true, true, true, true, true, true, true, true, true, true, true, true, false] rfl rfl (by kernel_rfl) (fun _ _ _ h => h) (Or.inl ⟨by rfl, ?_⟩) ?_ ?_
                rotate_left
                · intro w'
                  go_simp
                  with_reducible rfl
                rotate_left
                · simp only [Act.put, List.setIfInBounds_toArray, List.set_cons_zero, List.set_cons_succ, i64_w, i32_w]
                  rfl
                refine pure_ (i := 13) (N := some 6) (v := ?_) (a' := ?_) #[true, true, true, true, true, true, true, true, true, true, true, true, true, true] rfl rfl (by kernel_rfl) (fun _ _ _ h => h) (Or.inl ⟨by rfl, ?_⟩) ?_ ?_
                rotate_left
                · intro w'
                  go_simp
                  with_reducible rfl
                rotate_left
                · simp only [Act.put, List.setIfInBounds_toArray, List.set_cons_zero, List.set_cons_succ, i64_w, i32_w]
                  rfl
                refine done_ (by kernel_rfl) ?_
                clear hHeld
                go_wp2
                go_ret
                exact ⟨by first | rfl | simp, HSD.out.bel⟩
              · have e6 : ((n : Int) == 0) = false := beq_eq_false_iff_ne.mpr (by omega)
                have e7 : decide (n = 0) = false := decide_eq_false c
                have e8 : (n == 0) = false := beq_eq_false_iff_ne.mpr c
                have hnp : 0 < n := by omega
                have hnm : n - 1 < L.length := by have := HNL.out; omega
                have hwp : wrap64 ((n : Int) - 1) = ((n - 1 : Nat) : Int) := bk_p n hnp (by have := HNL.out; have := hK0.out; omega)
                obtain ⟨cv, hcv, hcn⟩ := HK2.out hnp
                have hcb : decide (cv < 0) = true := decide_eq_true (by clear hwp; omega)
                obtain ⟨bl, ebl, k0, k1, k2, k3⟩ := at_T42 HSD.out.row ((n - 1 : Nat) : Int) (Int.natCast_nonneg _) (Int.ofNat_lt.2 hnm)
                obtain ⟨X, hX⟩ : ∃ x, rd_T42 L ((n - 1 : Nat) : Int) = x := ⟨_, rfl⟩
                rw [hX] at k0 k1 k2 k3 hcv
                have HCV : Aside0 (ikey_Compare.f X.f0.f0 X.f0.f1 X.f0.f2 q0 q1 q2 = some cv) := ⟨hcv⟩
                subst ebl
                rw [Int.toNat_natCast] at k0 k1 k2 k3
                have e1 : decide (((n - 1 : Nat) : Int) < (L.length : Int)) = true := decide_eq_true (by clear hwp; omega)
                have e2 : decide (n - 1 < L.length) = true := decide_eq_true hnm
                have e3 := eq_true (show ((n - 1 : Nat) : Int) < (L.length : Int) by clear hwp; omega)
                have e4 : decide (0 ≤ ((n - 1 : Nat) : Int)) = true := decide_eq_true (by clear hwp; omega)
                have e5 := eq_true (show 0 ≤ ((n - 1 : Nat) : Int) by clear hwp; omega)
                replace k0 := Aside0.mk k0
                replace k1 := Aside0.mk k1
                replace k2 := Aside0.mk k2
                have m0 := Aside0.mk HSD.out.k0
                have m1 := Aside0.mk HSD.out.k1
                have m2 := Aside0.mk HSD.out.k2
                clear k3 hX hcv hcn c hnp hnm
                refine start_ (n := 14) (S := fun w' => w'.cell? (bl.add ((n - 1) * 4)) = some (.string X.f0.f0) ∧ w'.cell? ⟨(bl.add ((n - 1) * 4)).block, (bl.add ((n - 1) * 4)).off + 1, none⟩ = some (.int .u64 X.f0.f1) ∧ w'.cell? ⟨(bl.add ((n - 1) * 4)).block, (bl.add ((n - 1) * 4)).off + 2, none⟩ = some (.int .i64 X.f0.f2) ∧ w'.cell? ⟨gq, 0, none⟩ = some (.string q0) ∧ w'.cell? ⟨gq, 1, none⟩ = some (.int .u64 q1) ∧ w'.cell? ⟨gq, 2, none⟩ = some (.int .i64 q2)) (ds := []) #[false, false, false, false, false, false, false, false, false, false, false, false, false, false] (by kernel_rfl) rfl rfl ⟨k0.out, k1.out, k2.out, m0.out, m1.out, m2.out⟩ (fun hHeld => ?_)
                refine pure_ (i := 0) (N := some 116) (v := ?_) (a' := ?_) #[true, false, false, false, false, false, false, false, false, false, false, false, false, false] rfl rfl (by kernel_rfl) (fun _ _ _ h => h) (Or.inl ⟨by rfl, ?_⟩) ?_ ?_
                rotate_left
                · intro w'
                  go_simp
                  with_reducible rfl
                rotate_left
                · simp only [Act.put, List.setIfInBounds_toArray, List.set_cons_zero, List.set_cons_succ, i64_w, i32_w]
                  rfl
                refine pure_ (i := 1) (N := some 117) (v := ?_) (a' := ?_) #[true, true, false, false, false, false, false, false, false, false, false, false, false, false] rfl rfl (by kernel_rfl) (fun _ _ _ h => h) (Or.inl ⟨by rfl, ?_⟩) ?_ ?_
                rotate_left
                · intro w'
                  go_simp
                  with_reducible rfl
                rotate_left
                · simp only [Act.put, List.setIfInBounds_toArray, List.set_cons_zero, List.set_cons_succ, i64_w, i32_w]
                  rfl
                refine pure_ (i := 2) (N := some 118) (v := ?_) (a' := ?_) #[true, true, true, false, false, false, false, false, false, false, false, false, false, false] rfl rfl (by kernel_rfl) (fun _ _ _ h => h) (Or.inl ⟨by rfl, ?_⟩) ?_ ?_
                rotate_left
                · intro w'
                  go_simp
                  with_reducible rfl
                rotate_left
                · simp only [Act.put, List.setIfInBounds_toArray, List.set_cons_zero, List.set_cons_succ, i64_w, i32_w]
                  rfl
                refine pure_ (i := 3) (N := some 119) (v := ?_) (a' := ?_) #[true, true, true, true, false, false, false, false, false, false, false, false, false, false] rfl rfl (by kernel_rfl) (fun _ _ _ h => h) (Or.inl ⟨by rfl, ?_⟩) ?_ ?_
                rotate_left
                · intro w'
                  go_simp
                  with_reducible rfl
                rotate_left
                · simp only [Act.put, List.setIfInBounds_toArray, List.set_cons_zero, List.set_cons_succ, i64_w, i32_w]
                  rfl
                refine pure_ (i := 4) (N := some 120) (v := ?_) (a' := ?_) #[true, true, true, true, true, false, false, false, false, false, false, false, false, false] rfl rfl (by kernel_rfl) (fun _ _ _ h => h) (Or.inl ⟨by rfl, ?_⟩) ?_ ?_
                rotate_left
                · intro w'
                  go_simp
                  with_reducible rfl
                rotate_left
                · simp only [Act.put, List.setIfInBounds_toArray, List.set_cons_zero, List.set_cons_succ, i64_w, i32_w]
                  rfl
                refine pure_ (i := 5) (N := some 121) (v := ?_) (a' := ?_) #[true, true, true, true, true, true, false, false, false, false, false, false, false, false] rfl rfl (by kernel_rfl) (fun _ _ _ h => h) (Or.inl ⟨by rfl, ?_⟩) ?_ ?_
                rotate_left
                · intro w'
                  go_simp
                  with_reducible rfl
                rotate_left
                · simp only [Act.put, List.setIfInBounds_toArray, List.set_cons_zero, List.set_cons_succ, i64_w, i32_w]
                  rfl
                refine pure_ (i := 6) (N := some 122) (v := ?_) (a' := ?_) #[true, true, true, true, true, true, true, false, false, false, false, false, false, false] rfl rfl (by kernel_rfl) (fun _ _ _ h => h) (Or.inl ⟨by rfl, ?_⟩) ?_ ?_
                rotate_left
                · intro w'
                  go_simp
                  with_reducible rfl
                rotate_left
                · simp only [Act.put, List.setIfInBounds_toArray, List.set_cons_zero, List.set_cons_succ, i64_w, i32_w]
                  rfl
                refine pure_ (i := 7) (N := some 123) (v := ?_) (a' := ?_) #[true, true, true, true, true, true, true, true, false, false, false, false, false, false] rfl rfl (by kernel_rfl) (fun _ _ _ h => h) (Or.inl ⟨by rfl, ?_⟩) ?_ ?_
                rotate_left
                · intro w'
                  go_simp
                  with_reducible rfl
                rotate_left
                · simp only [Act.put, List.setIfInBounds_toArray, List.set_cons_zero, List.set_cons_succ, i64_w, i32_w]
                  rfl
                refine take_ (i := 8) (N := some 124) (v := ?_) (a' := ?_) #[true, true, true, true, true, true, true, true, true, false, false, false, false, false] rfl rfl (by kernel_rfl) (fun _ _ _ h => h) (Or.inl ⟨by rfl, ?_⟩) hHeld ?_ ?_
                rotate_left
                · rintro w' ⟨s0, s1, s2, s3, s4, s5⟩
                  go_simp
                  with_reducible rfl
                rotate_left
                · simp only [Act.put, List.setIfInBounds_toArray, List.set_cons_zero, List.set_cons_succ, i64_w, i32_w]
                  rfl
                refine take_ (i := 9) (N := some 125) (v := ?_) (a' := ?_) #[true, true, true, true, true, true, true, true, true, true, false, false, false, false] rfl rfl (by kernel_rfl) (fun _ _ _ h => h) (Or.inl ⟨by rfl, ?_⟩) hHeld ?_ ?_
                rotate_left
                · rintro w' ⟨s0, s1, s2, s3, s4, s5⟩
                  go_simp
                  with_reducible rfl
                rotate_left
                · simp only [Act.put, List.setIfInBounds_toArray, List.set_cons_zero, List.set_cons_succ, i64_w, i32_w]
                  rfl
                refine one_ (i := 10) (N := some 126) #[true, true, true, true, true, true, true, true, true, true, true, false, false, false] rfl rfl (by kernel_rfl) (by decide) (fun K hK => ?_)
                refine goes_ Try.func20 (by kernel_rfl) rfl #[.agg #[.string X.f0.f0, .int .u64 X.f0.f1, .int .i64 X.f0.f2], .agg #[.string q0, .int .u64 q1, .int .i64 q2]] (by rfl) rfl rfl (by simp only [List.map_toArray, List.map_cons, List.map_nil]; rfl) ?_
                with_reducible refine (ikey_Compare.calls X.f0.f0 X.f0.f1 X.f0.f2 q0 q1 q2 cv _ HCV.out).mono ?_
                rintro e W11 ⟨rfl, hb⟩
                refine ⟨_, rfl, ?_⟩
                have HSE := Aside0.mk (HSD.out.step hb)
                have k0b := Aside0.mk ((hb.cell (World.block_lt_of_cell? _ _ k0.out)).trans k0.out)
                have k1b := Aside0.mk ((hb.cell (World.block_lt_of_cell? _ _ k1.out)).trans k1.out)
                have k2b := Aside0.mk ((hb.cell (World.block_lt_of_cell? _ _ k2.out)).trans k2.out)
                have m0b := Aside0.mk ((hb.cell (World.block_lt_of_cell? _ _ m0.out)).trans m0.out)
                have m1b := Aside0.mk ((hb.cell (World.block_lt_of_cell? _ _ m1.out)).trans m1.out)
                have m2b := Aside0.mk ((hb.cell (World.block_lt_of_cell? _ _ m2.out)).trans m2.out)
                clear hb
                refine hK.out _ _ ⟨k0b.out, k1b.out, k2b.out, m0b.out, m1b.out, m2b.out⟩ (fun hHeld => ?_)
                clear hK K
                refine norm_ (a' := ?_) ?_ ?_
                rotate_left
                · show Act.put _ (some 126) _ = _
                  simp only [Act.put, List.setIfInBounds_toArray, List.set_cons_zero, List.set_cons_succ, i64_w, i32_w]
                  rfl
                refine pure_ (i := 11) (N := some 127) (v := ?_) (a' := ?_) #[true, true, true, true, true, true, true, true, true, true, true, true, false, false] rfl rfl (by kernel_rfl) (fun _ _ _ h => h) (Or.inl ⟨by rfl, ?_⟩) ?_ ?_
                rotate_left
                · intro w'
                  go_simp
                  with_reducible rfl
                rotate_left
                · simp only [Act.put, List.setIfInBounds_toArray, List.set_cons_zero, List.set_cons_succ, i64_w, i32_w]
                  rfl
                refine pure_ (i := 12) (N := some 128) (v := ?_) (a' := ?_) #[true, true, true, true, true, true, true, true, true, true, true, true, true, false] rfl rfl (by kernel_rfl) (fun _ _ _ h => h) (Or.inl ⟨by rfl, ?_⟩) ?_ ?_
                rotate_left
                · intro w'
                  go_simp
                  with_reducible rfl
                rotate_left
                · simp only [Act.put, List.setIfInBounds_toArray, List.set_cons_zero, List.set_cons_succ, i64_w, i32_w]
                  rfl
                refine pure_ (i := 13) (N := some 6) (v := ?_) (a' := ?_) #[true, true, true, true, true, true, true, true, true, true, true, true, true, true] rfl rfl (by kernel_rfl) (fun _ _ _ h => h) (Or.inl ⟨by rfl, ?_⟩) ?_ ?_
                rotate_left
                · intro w'
                  go_simp
                  with_reducible rfl
                rotate_left
                · simp only [Act.put, List.setIfInBounds_toArray, List.set_cons_zero, List.set_cons_succ, i64_w, i32_w]
                  rfl
                refine done_ (by kernel_rfl) ?_
                clear hHeld
                go_wp2
                go_ret
                exact ⟨by first | rfl | simp, HSE.out.bel⟩
end Go.Proofs.Ytppkpleagnddeaa.B
namespace Go.Proofs.Ytppkpleagnddeaa.P
open Go.RowKit Go.Proofs.YtppkpleagnddeaaW.PrintWords
theorem staddlelaw11_BlockBack.calls (k : Nat) (A0 : Option Addr) (c0 : Nat) (l0 : List S42) (a1 : Int) (q0 : ByteArray) (q1 q2 : Int) (r : Bool) (w : World) (hr0 : Kd.C k42 w A0 l0.length l0) (hc0 : l0.length ≤ c0) (hf : B.Back k l0 a1 ⟨q0, q1, q2⟩ ∧ true = r) :
    Calls Try.prog 6 #[.slice A0 l0.length c0, .int .i64 a1, .agg #[.string q0, .int .u64 q1, .int .i64 q2]] w fun e w' => e = .returned (.bool r) ∧ Below w.heap.size w w' := by
  obtain ⟨hf, rfl⟩ := hf
  exact B.back_calls k A0 c0 l0 a1 q0 q1 q2 w hr0 hc0 hf
end Go.Proofs.Ytppkpleagnddeaa.P
