/- The walk of BlockIntervals. -/
import Derived.Test.YtppkpleagnddeaaBK
namespace Go.Proofs.Ytppkpleagnddeaa.B
open Go.RowKit Go.Proofs.YtppkpleagnddeaaW.PrintWords Go.Proofs.YtppkpleagnddeaaW.PrintLast Go.Proofs.YtppkpleagnddeaaW.PrintMore Go.Proofs.Ytppkpleagnddeaa.P
set_option linter.unusedVariables false
set_option linter.unusedSimpArgs false
attribute [local go_sem high] eqSelf
theorem iv_s (a b : Nat) (h : b ≤ a) (h2 : a < 140737488355328) : wrap64 ((a : Int) - (b : Int)) = ((a - b : Nat) : Int) := by unfold wrap64; omega
theorem iv_m (c d : Nat) (hc : c < 256) (hd : d < 256) : wrap64 ((c : Int) + wrap64 ((d : Int) * 256)) = ((c + d * 256 : Nat) : Int) := by unfold wrap64; omega
theorem iv_c (c : Nat) (hc : c < 256) : wrap64 (c : Int) = (c : Int) := by unfold wrap64; omega
theorem iv_d (d : Nat) (hc : d < 256) : wrap64 ((d : Int) * 256) = ((d * 256 : Nat) : Int) := by unfold wrap64; omega
theorem iv_g {c d e f : Nat} (hc : c < 256) (hd : d < 256) (he : e < 256) (hf : f < 256) (h : e + f * 256 ≤ c + d * 256) : wrap64 ((e : Int) + (f : Int) * 256) ≤ wrap64 ((c : Int) + (d : Int) * 256) := by unfold wrap64; omega
theorem cell_drw {w : World} {a : Addr} {v : Value} (h : w.cell? a = some v) : w.drew.cell? a = some v := h
/-- what two intervals come to -/
def Ints (k : Nat) (l0 : List S42) (a b : Int) (q : S32) : Prop := ∃ x e y f, block_Build.f k (cut l0) a = some (x, e) ∧ block_Build.f k (cut l0) b = some (y, f) ∧ (e = 0 → f = 0 → ∃ ia ib : Nat, a = (ia : Int) ∧ b = (ib : Int) ∧ open_f k x = some (some (cut l0, a)) ∧ open_f k y = some (some (cut l0, b)) ∧
  (∃ n : Nat, find_f k (cut l0) ia q = some n ∧ find_f k (cut l0) ib q = some n) ∧ 5 ≤ x.length ∧ x.length < 140737488355328 ∧ 5 ≤ y.length ∧ y.length < 140737488355328 ∧
  ∃ c1 c2 d1 d2 : Nat, c1 < 256 ∧ c2 < 256 ∧ d1 < 256 ∧ d2 < 256 ∧ rd x ((x.length - 4 : Nat) : Int) = (c1 : Int) ∧ rd x ((x.length - 3 : Nat) : Int) = (c2 : Int) ∧ rd y ((y.length - 4 : Nat) : Int) = (d1 : Int) ∧ rd y ((y.length - 3 : Nat) : Int) = (d2 : Int) ∧ (ia ≤ ib → d1 + d2 * 256 ≤ c1 + c2 * 256))
structure IvSt (w : World) (Ax Ay : Option Addr) (x y : List Int) (p q gq : Nat) (L : List S42) (ia ib : Int) (q0 : ByteArray) (q1 q2 : Int) (wx : World) : Prop where
  bp : IsBlk wx p L ia
  bq : IsBlk wx q L ib
  rx : Kd.C (Kd.int .u8) wx Ax x.length x
  ry : Kd.C (Kd.int .u8) wx Ay y.length y
  k0 : wx.cell? ⟨gq, 0, none⟩ = some (.string q0)
  k1 : wx.cell? ⟨gq, 1, none⟩ = some (.int .u64 q1)
  k2 : wx.cell? ⟨gq, 2, none⟩ = some (.int .i64 q2)
  bel : Below w.heap.size w wx
theorem IvSt.step {w wx w' : World} {Ax Ay : Option Addr} {x y : List Int} {p q gq : Nat} {L : List S42} {ia ib : Int} {q0 : ByteArray} {q1 q2 : Int} (h : IvSt w Ax Ay x y p q gq L ia ib q0 q1 q2 wx) (hb : Below wx.heap.size wx w') : IvSt w Ax Ay x y p q gq L ia ib q0 q1 q2 w' :=
  ⟨h.bp.below hb, h.bq.below hb, Kd.C_below h.rx hb, Kd.C_below h.ry hb, (hb.cell (World.block_lt_of_cell? _ _ h.k0)).trans h.k0, (hb.cell (World.block_lt_of_cell? _ _ h.k1)).trans h.k1, (hb.cell (World.block_lt_of_cell? _ _ h.k2)).trans h.k2, below_step h.bel hb⟩
set_option maxHeartbeats 4000000 in
set_option maxRecDepth 100000 in
theorem ints_calls (k : Nat) (A0 : Option Addr) (c0 : Nat) (l0 : List S42) (a b : Int) (q0 : ByteArray) (q1 q2 : Int) (w : World) (hr0 : Kd.C k42 w A0 l0.length l0) (hc0 : l0.length ≤ c0) (hf : Ints k l0 a b ⟨q0, q1, q2⟩) :
    Calls Try.prog 9 #[.slice A0 l0.length c0, .int .i64 a, .int .i64 b, .agg #[.string q0, .int .u64 q1, .int .i64 q2]] w fun e w' => e = .returned (.bool true) ∧ Below w.heap.size w w' := by
  have HR0 := Aside0.mk hr0
  have HC0 := Aside0.mk hc0
  have HB := Aside0.mk (Below.refl w.heap.size w)
  have HF := Aside0.mk hf
  have hK0 := Aside0.mk (cut_len l0)
  clear hr0 hc0 hf
  go_enter Try.func9, Try.ntmps9
  go_upto_region 2 with (first
    | ((with_reducible refine gate_dst (N := 7) rfl ?_); refine box_event ?hg (N := 7) ?hd (cs := #[.string q0, .int .u64 q1, .int .i64 q2]) (t := 32) ?hr ?_; (case hd => rfl); (case hg => rfl); (case hr => first | (go_simp; done) | (go_simp; rfl)); intro gq hg w3 hbox hb
       have BK := Aside0.mk hbox
       have HB1 := Aside0.mk (below_step HB.out hb)
       clear hb hbox hg)
    | (go_at_call 10; with_reducible refine (awake_calls _).mono ?_; rintro e w4 ⟨rfl, hb⟩
       have BK1 := Aside0.mk (blk_below BK.out hb)
       have HB2 := Aside0.mk (below_step HB1.out hb)
       clear hb))
  go_upto_if 28 with fail
  go_cut [0] (fun v0 wc => ∃ (c1 : Nat), v0 = .slice A0 (cut l0).length c1 ∧ Aside0 ((cut l0).length ≤ c1) ∧ Aside0 (Kd.C k42 wc A0 (cut l0).length (cut l0)) ∧ Aside0 (wc.heap[gq]? = some (.cells #[.string q0, .int .u64 q1, .int .i64 q2] 32 (0, 0))) ∧ Aside0 (Below w.heap.size w wc))
  case first =>
    by_cases c : 1000 < l0.length
    · have hcut : cut l0 = l0.take 1000 := by unfold cut; rw [if_pos c]
      have hlen : (l0.take 1000).length = 1000 := by rw [List.length_take]; omega
      have HRC : Aside0 (Kd.C k42 w4 A0 (l0.take 1000).length (l0.take 1000)) := ⟨Kd.C_take (Kd.C_below HR0.out HB2.out) (by omega)⟩
      have c4b0 : decide (1000 < (l0.length : Int)) = true := decide_eq_true (by omega)
      have c4b1 : decide (1000 < l0.length) = true := decide_eq_true c
      have c5b0 := eq_true (show 1000 ≤ (l0.length : Int) by omega)
      have c5b1 : decide (1000 ≤ (l0.length : Int)) = true := decide_eq_true (by omega)
      have c5b2 : (1000 : Int) ≤ (c0 : Int) := by have := HC0.out; omega
      have c5b3 : 1000 ≤ c0 := by have := HC0.out; omega
      (first | rw [c4b0] | rw [c4b1] | (simp only [i64_w, i32_w]; rw [c4b0]) | skip)
      go_wp2
      go_meet
      case rel =>
        refine ⟨c0, ?_, ⟨by rw [hcut, hlen]; exact c5b3⟩, ⟨by rw [hcut]; exact HRC.out⟩, BK1, HB2⟩
        rw [hcut, hlen]
    · have hcut : cut l0 = l0 := by unfold cut; rw [if_neg c]
      have c4b0 : decide (1000 < (l0.length : Int)) = false := decide_eq_false (by omega)
      have c4b1 : decide (1000 < l0.length) = false := decide_eq_false c
      have HRC : Aside0 (Kd.C k42 w4 A0 l0.length l0) := ⟨Kd.C_below HR0.out HB2.out⟩
      (first | rw [c4b0] | rw [c4b1] | (simp only [i64_w, i32_w]; rw [c4b0]) | skip)
      go_wp2
      go_meet
      case rel => exact ⟨c0, by rw [hcut], ⟨by rw [hcut]; exact HC0.out⟩, ⟨by rw [hcut]; exact HRC.out⟩, BK1, HB2⟩
  case rest =>
    clear HR0 HC0 BK BK1 HB1 HB2
    obtain ⟨c1, rfl, HC1, HR1, BK1, HB1⟩ := hcut
    obtain ⟨x, e, y, f, hb1, hb2, hgood⟩ := HF.out
    clear HF
    generalize cut l0 = L at *
    have HBX := Aside0.mk hb1
    have HBY := Aside0.mk hb2
    have HG := Aside0.mk hgood
    clear hb1 hb2 hgood
    go_upto_region 6 with (first
      | (go_at_call 11; with_reducible refine (block_Build.calls k A0 c1 L a x e _ HR1.out HC1.out HBX.out).mono ?_; rintro er w5 ⟨vb, rfl, hob, hb⟩
         have HB2 := Aside0.mk (below_step HB1.out hb)
         have HR2 := Aside0.mk (Kd.C_below HR1.out hb)
         have BK2 := Aside0.mk (blk_below BK1.out hb)
         have HOX := Aside0.mk hob
         obtain ⟨Ax, cx, eb⟩ := Kd.R_slice hob
         subst eb
         clear hob hb HR1)
      | (go_at_call 11; with_reducible refine (block_Build.calls k A0 c1 L b y f _ HR2.out HC1.out HBY.out).mono ?_; rintro er w6 ⟨vb, rfl, hob, hb⟩
         have HB3 := Aside0.mk (below_step HB2.out hb)
         have BK3 := Aside0.mk (blk_below BK2.out hb)
         have HX3 := Aside0.mk (Kd.C_below (Kd.R_reads' HOX.out).2.2 hb)
         have HXC := Aside0.mk (Kd.R_reads' HOX.out).2.1
         have HOY := Aside0.mk hob
         obtain ⟨Ay, cy, eb⟩ := Kd.R_slice hob
         subst eb
         clear hob hb))
    by_cases he : e = 0 ∧ f = 0
    case neg =>
      have hpick : ((e != 0) || (f != 0)) = true := by
        by_cases h : e = 0
        · have hf : (f != 0) = true := bne_iff_ne.mpr (fun hf => he ⟨h, hf⟩)
          rw [hf, Bool.or_true]
        · have hf : (e != 0) = true := bne_iff_ne.mpr h
          rw [hf, Bool.true_or]
      by_cases h : e = 0
      · subst h
        have hb1 : (f != 0) = true := bne_iff_ne.mpr (fun hf => he ⟨rfl, hf⟩)
        have hb2 : (f == 0) = false := beq_eq_false_iff_ne.mpr (fun hf => he ⟨rfl, hf⟩)
        clear he hpick
        go_wp2
        go_ret
        exact ⟨by first | rfl | simp, HB3.out⟩
      · have hb1 : (e != 0) = true := bne_iff_ne.mpr h
        have hb2 : (e == 0) = false := beq_eq_false_iff_ne.mpr h
        clear he hpick h
        go_wp2
        go_ret
        exact ⟨by first | rfl | simp, HB3.out⟩
    case pos =>
      obtain ⟨rfl, rfl⟩ := he
      obtain ⟨ia, ib, ha, hb, ho1, ho2, ⟨n, hn1, hn2⟩, hx5, hxl, hy5, hyl, c1_, c2_, d1_, d2_, hc1, hc2, hd1, hd2, rx1, rx2, ry1, ry2, hle⟩ := HG.out rfl rfl
      subst ha
      subst hb
      have HO1 := Aside0.mk ho1
      have HO2 := Aside0.mk ho2
      have HN1 := Aside0.mk hn1
      have HN2 := Aside0.mk hn2
      have HL := Aside0.mk (And.intro hx5 (And.intro hxl (And.intro hy5 hyl)))
      have HC4 := Aside0.mk (And.intro hc1 (And.intro hc2 (And.intro hd1 hd2)))
      have HR4 := Aside0.mk (And.intro rx1 (And.intro rx2 (And.intro ry1 ry2)))
      have HLE := Aside0.mk hle
      clear HG ho1 ho2 hn1 hn2 hx5 hxl hy5 hyl hc1 hc2 hd1 hd2 rx1 rx2 ry1 ry2 hle
      go_upto_region 10 with (first
        | (go_at_call 14; with_reducible refine (Open_calls k Ax cx x (some (L, (ia : Int))) _ HX3.out HXC.out HO1.out).mono ?_; rintro er w7 ⟨hb, hm⟩; obtain ⟨p, rfl, hgw, hblk⟩ := hm
           have HB4 := Aside0.mk (below_step HB3.out hb)
           have BK4 := Aside0.mk (blk_below BK3.out hb)
           have HX4 := Aside0.mk (Kd.C_below HX3.out hb)
           have HY4 := Aside0.mk (Kd.C_below (Kd.R_reads' HOY.out).2.2 hb)
           have HYC := Aside0.mk (Kd.R_reads' HOY.out).2.1
           have BP := Aside0.mk hblk
           clear hb hgw hblk HX3)
        | (go_at_call 14; with_reducible refine (Open_calls k Ay cy y (some (L, (ib : Int))) _ HY4.out HYC.out HO2.out).mono ?_; rintro er w8 ⟨hb, hm⟩; obtain ⟨q, rfl, hgw, hblk⟩ := hm
           have HS : Aside0 (IvSt w Ax Ay x y p q gq L (ia : Int) (ib : Int) q0 q1 q2 w8) := ⟨BP.out.below hb, hblk, Kd.C_below HX4.out hb, Kd.C_below HY4.out hb, (blk_cell (blk_below BK4.out hb) 0).trans rfl, (blk_cell (blk_below BK4.out hb) 1).trans rfl, (blk_cell (blk_below BK4.out hb) 2).trans rfl, below_step HB4.out hb⟩
           clear hb hgw hblk))
      clear HB4 BK4 HX4 HY4 BP HXC HYC HO1 HO2 HOX HOY HB1 HB2 HB3 BK1 BK2 BK3 HR2 HBX HBY
      have HSD : Aside0 (IvSt w Ax Ay x y p q gq L (ia : Int) (ib : Int) q0 q1 q2 w8.drew) := ⟨HS.out.step (below_drew1 (Below.refl _ _))⟩
      have k0 := Aside0.mk HSD.out.k0
      have k1 := Aside0.mk HSD.out.k1
      have k2 := Aside0.mk HSD.out.k2
      have hLL : ((L.length : Int) != (L.length : Int)) = false := bne_self_eq_false _
      have hNN : ((n : Int) != (n : Int)) = false := bne_self_eq_false _
      refine start_ (n := 34) (S := fun w' => w'.cell? ⟨gq, 0, none⟩ = some (.string q0) ∧ w'.cell? ⟨gq, 1, none⟩ = some (.int .u64 q1) ∧ w'.cell? ⟨gq, 2, none⟩ = some (.int .i64 q2)) (ds := []) #[false, false, false, false, false, false, false, false, false, false, false, false, false, false, false, false, false, false, false, false, false, false, false, false, false, false, false, false, false, false, false, false, false, false] (by kernel_rfl) rfl rfl ⟨k0.out, k1.out, k2.out⟩ (fun hHeld => ?_)
      refine pure_ (i := 0) (N := some 60) (v := ?_) (a' := ?_) #[true, false, false, false, false, false, false, false, false, false, false, false, false, false, false, false, false, false, false, false, false, false, false, false, false, false, false, false, false, false, false, false, false, false] rfl rfl (by kernel_rfl) (fun _ _ _ h => h) (Or.inl ⟨by rfl, ?_⟩) ?_ ?_
      rotate_left
      · intro w'
        go_simp
        with_reducible rfl
      rotate_left
      · simp only [Act.put, List.setIfInBounds_toArray, List.set_cons_zero, List.set_cons_succ, i64_w, i32_w]
        rfl
      refine pure_ (i := 1) (N := some 61) (v := ?_) (a' := ?_) #[true, true, false, false, false, false, false, false, false, false, false, false, false, false, false, false, false, false, false, false, false, false, false, false, false, false, false, false, false, false, false, false, false, false] rfl rfl (by kernel_rfl) (fun _ _ _ h => h) (Or.inl ⟨by rfl, ?_⟩) ?_ ?_
      rotate_left
      · intro w'
        go_simp
        with_reducible rfl
      rotate_left
      · simp only [Act.put, List.setIfInBounds_toArray, List.set_cons_zero, List.set_cons_succ, i64_w, i32_w]
        rfl
      refine pure_ (i := 2) (N := some 62) (v := ?_) (a' := ?_) #[true, true, true, false, false, false, false, false, false, false, false, false, false, false, false, false, false, false, false, false, false, false, false, false, false, false, false, false, false, false, false, false, false, false] rfl rfl (by kernel_rfl) (fun _ _ _ h => h) (Or.inl ⟨by rfl, ?_⟩) ?_ ?_
      rotate_left
      · intro w'
        go_simp
        with_reducible rfl
      rotate_left
      · simp only [Act.put, List.setIfInBounds_toArray, List.set_cons_zero, List.set_cons_succ, i64_w, i32_w]
        rfl
      refine pure_ (i := 3) (N := some 63) (v := ?_) (a' := ?_) #[true, true, true, true, false, false, false, false, false, false, false, false, false, false, false, false, false, false, false, false, false, false, false, false, false, false, false, false, false, false, false, false, false, false] rfl rfl (by kernel_rfl) (fun _ _ _ h => h) (Or.inl ⟨by rfl, ?_⟩) ?_ ?_
      rotate_left
      · intro w'
        go_simp
        with_reducible rfl
      rotate_left
      · simp only [Act.put, List.setIfInBounds_toArray, List.set_cons_zero, List.set_cons_succ, i64_w, i32_w]
        rfl
      refine pure_ (i := 4) (N := some 64) (v := ?_) (a' := ?_) #[true, true, true, true, true, false, false, false, false, false, false, false, false, false, false, false, false, false, false, false, false, false, false, false, false, false, false, false, false, false, false, false, false, false] rfl rfl (by kernel_rfl) (fun _ _ _ h => h) (Or.inl ⟨by rfl, ?_⟩) ?_ ?_
      rotate_left
      · intro w'
        go_simp
        with_reducible rfl
      rotate_left
      · simp only [Act.put, List.setIfInBounds_toArray, List.set_cons_zero, List.set_cons_succ, i64_w, i32_w]
        rfl
      refine pure_ (i := 5) (N := some 65) (v := ?_) (a' := ?_) #[true, true, true, true, true, true, false, false, false, false, false, false, false, false, false, false, false, false, false, false, false, false, false, false, false, false, false, false, false, false, false, false, false, false] rfl rfl (by kernel_rfl) (fun _ _ _ h => h) (Or.inl ⟨by rfl, ?_⟩) ?_ ?_
      rotate_left
      · intro w'
        go_simp
        with_reducible rfl
      rotate_left
      · simp only [Act.put, List.setIfInBounds_toArray, List.set_cons_zero, List.set_cons_succ, i64_w, i32_w]
        rfl
      refine pure_ (i := 6) (N := some 66) (v := ?_) (a' := ?_) #[true, true, true, true, true, true, true, false, false, false, false, false, false, false, false, false, false, false, false, false, false, false, false, false, false, false, false, false, false, false, false, false, false, false] rfl rfl (by kernel_rfl) (fun _ _ _ h => h) (Or.inl ⟨by rfl, ?_⟩) ?_ ?_
      rotate_left
      · intro w'
        go_simp
        with_reducible rfl
      rotate_left
      · simp only [Act.put, List.setIfInBounds_toArray, List.set_cons_zero, List.set_cons_succ, i64_w, i32_w]
        rfl
      refine pure_ (i := 7) (N := some 67) (v := ?_) (a' := ?_) #[true, true, true, true, true, true, true, true, false, false, false, false, false, false, false, false, false, false, false, false, false, false, false, false, false, false, false, false, false, false, false, false, false, false] rfl rfl (by kernel_rfl) (fun _ _ _ h => h) (Or.inl ⟨by rfl, ?_⟩) ?_ ?_
      rotate_left
      · intro w'
        go_simp
        with_reducible rfl
      rotate_left
      · simp only [Act.put, List.setIfInBounds_toArray, List.set_cons_zero, List.set_cons_succ, i64_w, i32_w]
        rfl
      refine pure_ (i := 8) (N := some 68) (v := ?_) (a' := ?_) #[true, true, true, true, true, true, true, true, true, false, false, false, false, false, false, false, false, false, false, false, false, false, false, false, false, false, false, false, false, false, false, false, false, false] rfl rfl (by kernel_rfl) (fun _ _ _ h => h) (Or.inl ⟨by rfl, ?_⟩) ?_ ?_
      rotate_left
      · intro w'
        go_simp
        with_reducible rfl
      rotate_left
      · simp only [Act.put, List.setIfInBounds_toArray, List.set_cons_zero, List.set_cons_succ, i64_w, i32_w]
        rfl
      refine pure_ (i := 9) (N := some 69) (v := ?_) (a' := ?_) #[true, true, true, true, true, true, true, true, true, true, false, false, false, false, false, false, false, false, false, false, false, false, false, false, false, false, false, false, false, false, false, false, false, false] rfl rfl (by kernel_rfl) (fun _ _ _ h => h) (Or.inl ⟨by rfl, ?_⟩) ?_ ?_
      rotate_left
      · intro w'
        go_simp
        with_reducible rfl
      rotate_left
      · simp only [Act.put, List.setIfInBounds_toArray, List.set_cons_zero, List.set_cons_succ, i64_w, i32_w]
        rfl
      refine pure_ (i := 10) (N := some 70) (v := ?_) (a' := ?_) #[true, true, true, true, true, true, true, true, true, true, true, false, false, false, false, false, false, false, false, false, false, false, false, false, false, false, false, false, false, false, false, false, false, false] rfl rfl (by kernel_rfl) (fun _ _ _ h => h) (Or.inl ⟨by rfl, ?_⟩) ?_ ?_
      rotate_left
      · intro w'
        go_simp
        with_reducible rfl
      rotate_left
      · simp only [Act.put, List.setIfInBounds_toArray, List.set_cons_zero, List.set_cons_succ, i64_w, i32_w]
        rfl
      refine pure_ (i := 11) (N := some 71) (v := ?_) (a' := ?_) #[true, true, true, true, true, true, true, true, true, true, true, true, false, false, false, false, false, false, false, false, false, false, false, false, false, false, false, false, false, false, false, false, false, false] rfl rfl (by kernel_rfl) (fun _ _ _ h => h) (Or.inl ⟨by rfl, ?_⟩) ?_ ?_
      rotate_left
      · intro w'
        go_simp
        with_reducible rfl
      rotate_left
      · simp only [Act.put, List.setIfInBounds_toArray, List.set_cons_zero, List.set_cons_succ, i64_w, i32_w]
        rfl
      refine pure_ (i := 12) (N := some 72) (v := ?_) (a' := ?_) #[true, true, true, true, true, true, true, true, true, true, true, true, true, false, false, false, false, false, false, false, false, false, false, false, false, false, false, false, false, false, false, false, false, false] rfl rfl (by kernel_rfl) (fun _ _ _ h => h) (Or.inl ⟨by rfl, ?_⟩) ?_ ?_
      rotate_left
      · intro w'
        go_simp
        with_reducible rfl
      rotate_left
      · simp only [Act.put, List.setIfInBounds_toArray, List.set_cons_zero, List.set_cons_succ, i64_w, i32_w]
        rfl
      refine pure_ (i := 13) (N := some 73) (v := ?_) (a' := ?_) #[true, true, true, true, true, true, true, true, true, true, true, true, true, true, false, false, false, false, false, false, false, false, false, false, false, false, false, false, false, false, false, false, false, false] rfl rfl (by kernel_rfl) (fun _ _ _ h => h) (Or.inl ⟨by rfl, ?_⟩) ?_ ?_
      rotate_left
      · intro w'
        go_simp
        with_reducible rfl
      rotate_left
      · simp only [Act.put, List.setIfInBounds_toArray, List.set_cons_zero, List.set_cons_succ, i64_w, i32_w]
        rfl
      refine pure_ (i := 14) (N := some 74) (v := ?_) (a' := ?_) #[true, true, true, true, true, true, true, true, true, true, true, true, true, true, true, false, false, false, false, false, false, false, false, false, false, false, false, false, false, false, false, false, false, false] rfl rfl (by kernel_rfl) (fun _ _ _ h => h) (Or.inl ⟨by rfl, ?_⟩) ?_ ?_
      rotate_left
      · intro w'
        go_simp
        with_reducible rfl
      rotate_left
      · simp only [Act.put, List.setIfInBounds_toArray, List.set_cons_zero, List.set_cons_succ, i64_w, i32_w]
        rfl
      refine pure_ (i := 15) (N := some 75) (v := ?_) (a' := ?_) #[true, true, true, true, true, true, true, true, true, true, true, true, true, true, true, true, false, false, false, false, false, false, false, false, false, false, false, false, false, false, false, false, false, false] rfl rfl (by kernel_rfl) (fun _ _ _ h => h) (Or.inl ⟨by rfl, ?_⟩) ?_ ?_
      rotate_left
      · intro w'
        go_simp
        with_reducible rfl
      rotate_left
      · simp only [Act.put, List.setIfInBounds_toArray, List.set_cons_zero, List.set_cons_succ, i64_w, i32_w]
        rfl
      refine pure_ (i := 16) (N := some 76) (v := ?_) (a' := ?_) #[true, true, true, true, true, true, true, true, true, true, true, true, true, true, true, true, true, false, false, false, false, false, false, false, false, false, false, false, false, false, false, false, false, false] rfl rfl (by kernel_rfl) (fun _ _ _ h => h) (Or.inl ⟨by rfl, ?_⟩) ?_ ?_
      rotate_left
      · intro w'
        go_simp
        with_reducible rfl
      rotate_left
      · simp only [Act.put, List.setIfInBounds_toArray, List.set_cons_zero, List.set_cons_succ, i64_w, i32_w]
        rfl
      refine pure_ (i := 17) (N := some 77) (v := ?_) (a' := ?_) #[true, true, true, true, true, true, true, true, true, true, true, true, true, true, true, true, true, true, false, false, false, false, false, false, false, false, false, false, false, false, false, false, false, false] rfl rfl (by kernel_rfl) (fun _ _ _ h => h) (Or.inl ⟨by rfl, ?_⟩) ?_ ?_
      rotate_left
      · intro w'
        go_simp
        with_reducible rfl
      rotate_left
      · simp only [Act.put, List.setIfInBounds_toArray, List.set_cons_zero, List.set_cons_succ, i64_w, i32_w]
        rfl
      refine pure_ (i := 18) (N := some 78) (v := ?_) (a' := ?_) #[true, true, true, true, true, true, true, true, true, true, true, true, true, true, true, true, true, true, true, false, false, false, false, false, false, false, false, false, false, false, false, false, false, false] rfl rfl (by kernel_rfl) (fun _ _ _ h => h) (Or.inl ⟨by rfl, ?_⟩) ?_ ?_
      rotate_left
      · intro w'
        go_simp
        with_reducible rfl
      rotate_left
      · simp only [Act.put, List.setIfInBounds_toArray, List.set_cons_zero, List.set_cons_succ, i64_w, i32_w]
        rfl
      refine pure_ (i := 19) (N := some 79) (v := ?_) (a' := ?_) #[true, true, true, true, true, true, true, true, true, true, true, true, true, true, true, true, true, true, true, true, false, false, false, false, false, false, false, false, false, false, false, false, false, false] rfl rfl (by kernel_rfl) (fun _ _ _ h => h) (Or.inl ⟨by rfl, ?_⟩) ?_ ?_
      rotate_left
      · intro w'
        go_simp
        with_reducible rfl
      rotate_left
      · simp only [Act.put, List.setIfInBounds_toArray, List.set_cons_zero, List.set_cons_succ, i64_w, i32_w]
        rfl
      refine pure_ (i := 21) (N := some 81) (v := ?_) (a' := ?_) #[true, true, true, true, true, true, true, true, true, true, true, true, true, true, true, true, true, true, true, true, false, true, false, false, false, false, false, false, false, false, false, false, false, false] rfl rfl (by kernel_rfl) (fun _ _ _ h => h) (Or.inl ⟨by rfl, ?_⟩) ?_ ?_
      rotate_left
      · intro w'
        go_simp
        with_reducible rfl
      rotate_left
      · simp only [Act.put, List.setIfInBounds_toArray, List.set_cons_zero, List.set_cons_succ, i64_w, i32_w]
        rfl
      refine one_ (i := 20) (N := some 80) #[true, true, true, true, true, true, true, true, true, true, true, true, true, true, true, true, true, true, true, true, true, true, false, false, false, false, false, false, false, false, false, false, false, false] rfl rfl (by kernel_rfl) (by decide) (fun K hK => ?_)
      refine goes_ Try.func16 (by kernel_rfl) rfl #[.pointer (some ⟨p, 0, none⟩)] (by rfl) rfl rfl (by simp only [List.map_toArray, List.map_cons, List.map_nil]; rfl) ?_
      with_reducible refine (Len_calls p L (ia : Int) _ HSD.out.bp).mono ?_
      rintro e W1 ⟨rfl, rfl⟩
      refine ⟨_, rfl, ?_⟩
      refine hK.out _ _ ⟨k0.out, k1.out, k2.out⟩ (fun hHeld => ?_)
      clear hK K
      refine norm_ (a' := ?_) ?_ ?_
      rotate_left
      · show Act.put _ (some 80) _ = _
        simp only [Act.put, List.setIfInBounds_toArray, List.set_cons_zero, List.set_cons_succ, i64_w, i32_w]
        rfl
      refine one_ (i := 22) (N := some 82) #[true, true, true, true, true, true, true, true, true, true, true, true, true, true, true, true, true, true, true, true, true, true, true, false, false, false, false, false, false, false, false, false, false, false] rfl rfl (by kernel_rfl) (by decide) (fun K hK => ?_)
      refine goes_ Try.func16 (by kernel_rfl) rfl #[.pointer (some ⟨q, 0, none⟩)] (by rfl) rfl rfl (by simp only [List.map_toArray, List.map_cons, List.map_nil]; rfl) ?_
      with_reducible refine (Len_calls q L (ib : Int) _ HSD.out.bq).mono ?_
      rintro e W1 ⟨rfl, rfl⟩
      refine ⟨_, rfl, ?_⟩
      refine hK.out _ _ ⟨k0.out, k1.out, k2.out⟩ (fun hHeld => ?_)
      clear hK K
      refine norm_ (a' := ?_) ?_ ?_
      rotate_left
      · show Act.put _ (some 82) _ = _
        simp only [Act.put, List.setIfInBounds_toArray, List.set_cons_zero, List.set_cons_succ, i64_w, i32_w]
        rfl
      refine pure_ (i := 23) (N := some 83) (v := ?_) (a' := ?_) #[true, true, true, true, true, true, true, true, true, true, true, true, true, true, true, true, true, true, true, true, true, true, true, true, false, false, false, false, false, false, false, false, false, false] rfl rfl (by kernel_rfl) (fun _ _ _ h => h) (Or.inl ⟨by rfl, ?_⟩) ?_ ?_
      rotate_left
      · intro w'
        go_simp
        with_reducible rfl
      rotate_left
      · simp only [Act.put, List.setIfInBounds_toArray, List.set_cons_zero, List.set_cons_succ, i64_w, i32_w]
        rfl
      refine pure_ (i := 24) (N := some 84) (v := ?_) (a' := ?_) #[true, true, true, true, true, true, true, true, true, true, true, true, true, true, true, true, true, true, true, true, true, true, true, true, true, false, false, false, false, false, false, false, false, false] rfl rfl (by kernel_rfl) (fun _ _ _ h => h) (Or.inl ⟨by rfl, ?_⟩) ?_ ?_
      rotate_left
      · intro w'
        go_simp
        with_reducible rfl
      rotate_left
      · simp only [Act.put, List.setIfInBounds_toArray, List.set_cons_zero, List.set_cons_succ, i64_w, i32_w]
        rfl
      refine pure_ (i := 25) (N := some 85) (v := ?_) (a' := ?_) #[true, true, true, true, true, true, true, true, true, true, true, true, true, true, true, true, true, true, true, true, true, true, true, true, true, true, false, false, false, false, false, false, false, false] rfl rfl (by kernel_rfl) (fun _ _ _ h => h) (Or.inl ⟨by rfl, ?_⟩) ?_ ?_
      rotate_left
      · intro w'
        go_simp
        with_reducible rfl
      rotate_left
      · simp only [Act.put, List.setIfInBounds_toArray, List.set_cons_zero, List.set_cons_succ, i64_w, i32_w]
        rfl
      refine pure_ (i := 26) (N := some 86) (v := ?_) (a' := ?_) #[true, true, true, true, true, true, true, true, true, true, true, true, true, true, true, true, true, true, true, true, true, true, true, true, true, true, true, false, false, false, false, false, false, false] rfl rfl (by kernel_rfl) (fun _ _ _ h => h) (Or.inl ⟨by rfl, ?_⟩) ?_ ?_
      rotate_left
      · intro w'
        go_simp
        with_reducible rfl
      rotate_left
      · simp only [Act.put, List.setIfInBounds_toArray, List.set_cons_zero, List.set_cons_succ, i64_w, i32_w]
        rfl
      refine pure_ (i := 29) (N := some 89) (v := ?_) (a' := ?_) #[true, true, true, true, true, true, true, true, true, true, true, true, true, true, true, true, true, true, true, true, true, true, true, true, true, true, true, false, false, true, false, false, false, false] rfl rfl (by kernel_rfl) (fun _ _ _ h => h) (Or.inl ⟨by rfl, ?_⟩) ?_ ?_
      rotate_left
      · intro w'
        go_simp
        with_reducible rfl
      rotate_left
      · simp only [Act.put, List.setIfInBounds_toArray, List.set_cons_zero, List.set_cons_succ, i64_w, i32_w]
        rfl
      refine take_ (i := 27) (N := some 87) (v := ?_) (a' := ?_) #[true, true, true, true, true, true, true, true, true, true, true, true, true, true, true, true, true, true, true, true, true, true, true, true, true, true, true, true, false, true, false, false, false, false] rfl rfl (by kernel_rfl) (fun _ _ _ h => h) (Or.inl ⟨by rfl, ?_⟩) hHeld ?_ ?_
      rotate_left
      · rintro w' ⟨s0, s1, s2⟩
        go_simp
        with_reducible rfl
      rotate_left
      · simp only [Act.put, List.setIfInBounds_toArray, List.set_cons_zero, List.set_cons_succ, i64_w, i32_w]
        rfl
      refine take_ (i := 30) (N := some 90) (v := ?_) (a' := ?_) #[true, true, true, true, true, true, true, true, true, true, true, true, true, true, true, true, true, true, true, true, true, true, true, true, true, true, true, true, false, true, true, false, false, false] rfl rfl (by kernel_rfl) (fun _ _ _ h => h) (Or.inl ⟨by rfl, ?_⟩) hHeld ?_ ?_
      rotate_left
      · rintro w' ⟨s0, s1, s2⟩
        go_simp
        with_reducible rfl
      rotate_left
      · simp only [Act.put, List.setIfInBounds_toArray, List.set_cons_zero, List.set_cons_succ, i64_w, i32_w]
        rfl
      refine one_ (i := 28) (N := some 88) #[true, true, true, true, true, true, true, true, true, true, true, true, true, true, true, true, true, true, true, true, true, true, true, true, true, true, true, true, true, true, true, false, false, false] rfl rfl (by kernel_rfl) (by decide) (fun K hK => ?_)
      refine goes_ Try.func17 (by kernel_rfl) rfl #[.pointer (some ⟨p, 0, none⟩), .agg #[.string q0, .int .u64 q1, .int .i64 q2]] (by rfl) rfl rfl (by simp only [List.map_toArray, List.map_cons, List.map_nil]; rfl) ?_
      with_reducible refine (Find_calls k p L ia ⟨q0, q1, q2⟩ n _ HSD.out.bp HN1.out).mono ?_
      rintro e W10 ⟨rfl, hb⟩
      refine ⟨_, rfl, ?_⟩
      have HSE := Aside0.mk (HSD.out.step hb)
      have k0b := Aside0.mk ((hb.cell (World.block_lt_of_cell? _ _ k0.out)).trans k0.out)
      have k1b := Aside0.mk ((hb.cell (World.block_lt_of_cell? _ _ k1.out)).trans k1.out)
      have k2b := Aside0.mk ((hb.cell (World.block_lt_of_cell? _ _ k2.out)).trans k2.out)
      clear hb
      refine hK.out _ _ ⟨k0b.out, k1b.out, k2b.out⟩ (fun hHeld => ?_)
      clear hK K
      refine norm_ (a' := ?_) ?_ ?_
      rotate_left
      · show Act.put _ (some 88) _ = _
        simp only [Act.put, List.setIfInBounds_toArray, List.set_cons_zero, List.set_cons_succ, i64_w, i32_w]
        rfl
      refine one_ (i := 31) (N := some 91) #[true, true, true, true, true, true, true, true, true, true, true, true, true, true, true, true, true, true, true, true, true, true, true, true, true, true, true, true, true, true, true, true, false, false] rfl rfl (by kernel_rfl) (by decide) (fun K hK => ?_)
      refine goes_ Try.func17 (by kernel_rfl) rfl #[.pointer (some ⟨q, 0, none⟩), .agg #[.string q0, .int .u64 q1, .int .i64 q2]] (by rfl) rfl rfl (by simp only [List.map_toArray, List.map_cons, List.map_nil]; rfl) ?_
      with_reducible refine (Find_calls k q L ib ⟨q0, q1, q2⟩ n _ HSE.out.bq HN2.out).mono ?_
      rintro e W11 ⟨rfl, hb⟩
      refine ⟨_, rfl, ?_⟩
      have HSF := Aside0.mk (HSE.out.step hb)
      have k0c := Aside0.mk ((hb.cell (World.block_lt_of_cell? _ _ k0b.out)).trans k0b.out)
      have k1c := Aside0.mk ((hb.cell (World.block_lt_of_cell? _ _ k1b.out)).trans k1b.out)
      have k2c := Aside0.mk ((hb.cell (World.block_lt_of_cell? _ _ k2b.out)).trans k2b.out)
      clear hb
      refine hK.out _ _ ⟨k0c.out, k1c.out, k2c.out⟩ (fun hHeld => ?_)
      clear hK K
      refine norm_ (a' := ?_) ?_ ?_
      rotate_left
      · show Act.put _ (some 91) _ = _
        simp only [Act.put, List.setIfInBounds_toArray, List.set_cons_zero, List.set_cons_succ, i64_w, i32_w]
        rfl
      refine pure_ (i := 32) (N := some 92) (v := ?_) (a' := ?_) #[true, true, true, true, true, true, true, true, true, true, true, true, true, true, true, true, true, true, true, true, true, true, true, true, true, true, true, true, true, true, true, true, true, false] rfl rfl (by kernel_rfl) (fun _ _ _ h => h) (Or.inl ⟨by rfl, ?_⟩) ?_ ?_
      rotate_left
      · intro w'
        go_simp
        with_reducible rfl
      rotate_left
      · simp only [Act.put, List.setIfInBounds_toArray, List.set_cons_zero, List.set_cons_succ, i64_w, i32_w]
        rfl
      refine pure_ (i := 33) (N := some 93) (v := ?_) (a' := ?_) #[true, true, true, true, true, true, true, true, true, true, true, true, true, true, true, true, true, true, true, true, true, true, true, true, true, true, true, true, true, true, true, true, true, true] rfl rfl (by kernel_rfl) (fun _ _ _ h => h) (Or.inl ⟨by rfl, ?_⟩) ?_ ?_
      rotate_left
      · intro w'
        go_simp
        with_reducible rfl
      rotate_left
      · simp only [Act.put, List.setIfInBounds_toArray, List.set_cons_zero, List.set_cons_succ, i64_w, i32_w]
        rfl
      refine done_ (by kernel_rfl) ?_
      clear hHeld HS HSD HSE hNN hLL k0 k1 k2 k0b k1b k2b k0c k1c k2c
      have HS := HSF
      clear HSF
      go_upto_region 13 with fail
      go_loopg [18] (L.length + 1) (fun gf v18 wx => ∃ i : Nat, v18 = .int .i64 (i : Int) ∧ Aside0 (gf + i = L.length + 1 ∧ i ≤ L.length) ∧ Aside0 (IvSt w Ax Ay x y p q gq L (ia : Int) (ib : Int) q0 q1 q2 wx))
      case atStart => exact ⟨0, rfl, ⟨by omega, by omega⟩, HS⟩
      case round =>
        clear HS
        obtain ⟨i, rfl, HI, HS⟩ := hrel
        cases gk with
        | zero => exact absurd HI.out.1 (by have := HI.out.2; omega)
        | succ g1 =>
          by_cases c : i < L.length
          · have c1b : decide ((i : Int) < (L.length : Int)) = true := decide_eq_true (by omega)
            have c1c : decide (i < L.length) = true := decide_eq_true c
            have HLT := Aside0.mk c
            obtain ⟨X, hX⟩ : ∃ x, rd_T42 L (i : Int) = x := ⟨_, rfl⟩
            have HX := Aside0.mk hX
            have HW : Aside0 (wrap64 ((i : Int) + 1) = ((i + 1 : Nat) : Int)) := ⟨bk_w i (by have := hK0.out; omega)⟩
            clear hX c
            go_upto_region 16 with (first
              | (go_at_call 16; with_reducible refine (Len_calls p L (ia : Int) _ HS.out.bp).mono ?_; rintro er w9 ⟨rfl, rfl⟩)
              | (go_at_call 19; with_reducible refine (At_calls p L (ia : Int) (i : Int) _ HS.out.bp (Int.natCast_nonneg _) (Int.ofNat_lt.2 HLT.out)).mono ?_; rintro er w8 ⟨he, hb⟩
                 have he2 : er = .returned (.tuple #[.agg #[.string X.f0.f0, .int .u64 X.f0.f1, .int .i64 X.f0.f2, .string X.f1], .int .i64 0]) := by rw [he, ← HX.out]; rfl
                 subst he2
                 have HS1 := Aside0.mk (HS.out.step hb)
                 clear he hb HS)
              | ((with_reducible refine gate_dst (N := 19) rfl ?_); refine box_event ?hg (N := 19) ?hd (cs := #[.string (⟨#[]⟩ : ByteArray), .int .u64 0, .int .i64 0, .string (⟨#[]⟩ : ByteArray)]) (t := 42) ?hr ?_; (case hd => rfl); (case hg => rfl); (case hr => first | (go_simp; done) | (go_simp; rfl)); intro gy hg w10 hbox hb
                 have BY := Aside0.mk hbox
                 have GY8 : Aside0 (w8.heap.size ≤ gy) := ⟨by rw [hg]; exact Nat.le_refl _⟩
                 have HB89 := Aside0.mk hb
                 have hz0 : w10.cell? ⟨gy, 0, none⟩ = some (.string (⟨#[]⟩ : ByteArray)) := (blk_cell hbox 0).trans rfl
                 have hz1 : w10.cell? ⟨gy, 1, none⟩ = some (.int .u64 0) := (blk_cell hbox 1).trans rfl
                 have hz2 : w10.cell? ⟨gy, 2, none⟩ = some (.int .i64 0) := (blk_cell hbox 2).trans rfl
                 have hz3 : w10.cell? ⟨gy, 3, none⟩ = some (.string (⟨#[]⟩ : ByteArray)) := (blk_cell hbox 3).trans rfl
                 have hf0 := blk_frozen hbox 0
                 have hf1 := blk_frozen hbox 1
                 have hf2 := blk_frozen hbox 2
                 have hf3 := blk_frozen hbox 3
                 clear hg hbox hb))
            obtain ⟨W9, hW9⟩ : ∃ x, ((((w10.setCell ⟨gy, 0, none⟩ (.string X.f0.f0)).setCell ⟨gy, 1, none⟩ (.int .u64 X.f0.f1)).setCell ⟨gy, 2, none⟩ (.int .i64 X.f0.f2)).setCell ⟨gy, 3, none⟩ (.string X.f1)) = x := ⟨_, rfl⟩
            rw [hW9]
            have BY9 : W9.heap[gy]? = some (.cells #[.string X.f0.f0, .int .u64 X.f0.f1, .int .i64 X.f0.f2, .string X.f1] 42 (0, 0)) := by rw [← hW9]; exact (blk_put (cs := #[.string X.f0.f0, .int .u64 X.f0.f1, .int .i64 X.f0.f2, .string (⟨#[]⟩ : ByteArray)]) (blk_put (cs := #[.string X.f0.f0, .int .u64 X.f0.f1, .int .i64 0, .string (⟨#[]⟩ : ByteArray)]) (blk_put (cs := #[.string X.f0.f0, .int .u64 0, .int .i64 0, .string (⟨#[]⟩ : ByteArray)]) (blk_put (cs := #[.string (⟨#[]⟩ : ByteArray), .int .u64 0, .int .i64 0, .string (⟨#[]⟩ : ByteArray)]) BY.out 0 _ rfl) 1 _ rfl) 2 _ rfl) 3 _ rfl)
            have HB9 : Below w8.heap.size w8 W9 := by rw [← hW9]; exact below_set (below_set (below_set (below_set HB89.out GY8.out) GY8.out) GY8.out) GY8.out
            have HS2 : Aside0 (IvSt w Ax Ay x y p q gq L (ia : Int) (ib : Int) q0 q1 q2 W9) := ⟨HS1.out.step HB9⟩
            have BYA := Aside0.mk BY9
            clear hW9 BY9 HB9 hz0 hz1 hz2 hz3 hf0 hf1 hf2 hf3 BY GY8 HB89 HS1
            go_upto_region 17 with (first
              | (go_at_call 19; with_reducible refine (At_calls q L (ib : Int) (i : Int) _ HS2.out.bq (Int.natCast_nonneg _) (Int.ofNat_lt.2 HLT.out)).mono ?_; rintro er w11 ⟨he, hb⟩
                 have he2 : er = .returned (.tuple #[.agg #[.string X.f0.f0, .int .u64 X.f0.f1, .int .i64 X.f0.f2, .string X.f1], .int .i64 0]) := by rw [he, ← HX.out]; rfl
                 subst he2
                 have HS3 := Aside0.mk (HS2.out.step hb)
                 have BYB := Aside0.mk (blk_below BYA.out hb)
                 clear he hb HS2 BYA)
              | ((with_reducible refine gate_dst (N := 21) rfl ?_); refine box_event ?hg (N := 21) ?hd (cs := #[.string (⟨#[]⟩ : ByteArray), .int .u64 0, .int .i64 0, .string (⟨#[]⟩ : ByteArray)]) (t := 42) ?hr ?_; (case hd => rfl); (case hg => rfl); (case hr => first | (go_simp; done) | (go_simp; rfl)); intro gz hg w12 hbox hb
                 have BY := Aside0.mk hbox
                 have GY8 : Aside0 (w11.heap.size ≤ gz) := ⟨by rw [hg]; exact Nat.le_refl _⟩
                 have HB89 := Aside0.mk hb
                 have hz0 : w12.cell? ⟨gz, 0, none⟩ = some (.string (⟨#[]⟩ : ByteArray)) := (blk_cell hbox 0).trans rfl
                 have hz1 : w12.cell? ⟨gz, 1, none⟩ = some (.int .u64 0) := (blk_cell hbox 1).trans rfl
                 have hz2 : w12.cell? ⟨gz, 2, none⟩ = some (.int .i64 0) := (blk_cell hbox 2).trans rfl
                 have hz3 : w12.cell? ⟨gz, 3, none⟩ = some (.string (⟨#[]⟩ : ByteArray)) := (blk_cell hbox 3).trans rfl
                 have hf0 := blk_frozen hbox 0
                 have hf1 := blk_frozen hbox 1
                 have hf2 := blk_frozen hbox 2
                 have hf3 := blk_frozen hbox 3
                 have BYC := Aside0.mk (blk_below BYB.out hb)
                 have GN : Aside0 (gy ≠ gz) := ⟨by rw [hg]; exact Nat.ne_of_lt (blk_lt BYB.out)⟩
                 clear hg hbox hb))
            obtain ⟨W13, hW13⟩ : ∃ x, ((((w12.setCell ⟨gz, 0, none⟩ (.string X.f0.f0)).setCell ⟨gz, 1, none⟩ (.int .u64 X.f0.f1)).setCell ⟨gz, 2, none⟩ (.int .i64 X.f0.f2)).setCell ⟨gz, 3, none⟩ (.string X.f1)) = x := ⟨_, rfl⟩
            rw [hW13]
            have BZ9 : W13.heap[gz]? = some (.cells #[.string X.f0.f0, .int .u64 X.f0.f1, .int .i64 X.f0.f2, .string X.f1] 42 (0, 0)) := by rw [← hW13]; exact (blk_put (cs := #[.string X.f0.f0, .int .u64 X.f0.f1, .int .i64 X.f0.f2, .string (⟨#[]⟩ : ByteArray)]) (blk_put (cs := #[.string X.f0.f0, .int .u64 X.f0.f1, .int .i64 0, .string (⟨#[]⟩ : ByteArray)]) (blk_put (cs := #[.string X.f0.f0, .int .u64 0, .int .i64 0, .string (⟨#[]⟩ : ByteArray)]) (blk_put (cs := #[.string (⟨#[]⟩ : ByteArray), .int .u64 0, .int .i64 0, .string (⟨#[]⟩ : ByteArray)]) BY.out 0 _ rfl) 1 _ rfl) 2 _ rfl) 3 _ rfl)
            have BY9 : W13.heap[gy]? = some (.cells #[.string X.f0.f0, .int .u64 X.f0.f1, .int .i64 X.f0.f2, .string X.f1] 42 (0, 0)) := by rw [← hW13]; exact blk_far (blk_far (blk_far (blk_far BYC.out (p := ⟨gz, 0, none⟩) GN.out _) (p := ⟨gz, 1, none⟩) GN.out _) (p := ⟨gz, 2, none⟩) GN.out _) (p := ⟨gz, 3, none⟩) GN.out _
            have HB9 : Below w11.heap.size w11 W13 := by rw [← hW13]; exact below_set (below_set (below_set (below_set HB89.out GY8.out) GY8.out) GY8.out) GY8.out
            have HS4 : Aside0 (IvSt w Ax Ay x y p q gq L (ia : Int) (ib : Int) q0 q1 q2 W13) := ⟨HS3.out.step HB9⟩
            have m0 : W13.cell? ⟨gy, 0, none⟩ = some (.string X.f0.f0) := (blk_cell BY9 0).trans rfl
            have n0 : W13.cell? ⟨gz, 0, none⟩ = some (.string X.f0.f0) := (blk_cell BZ9 0).trans rfl
            have m1 : W13.cell? ⟨gy, 1, none⟩ = some (.int .u64 X.f0.f1) := (blk_cell BY9 1).trans rfl
            have n1 : W13.cell? ⟨gz, 1, none⟩ = some (.int .u64 X.f0.f1) := (blk_cell BZ9 1).trans rfl
            have m2 : W13.cell? ⟨gy, 2, none⟩ = some (.int .i64 X.f0.f2) := (blk_cell BY9 2).trans rfl
            have n2 : W13.cell? ⟨gz, 2, none⟩ = some (.int .i64 X.f0.f2) := (blk_cell BZ9 2).trans rfl
            have m3 : W13.cell? ⟨gy, 3, none⟩ = some (.string X.f1) := (blk_cell BY9 3).trans rfl
            have n3 : W13.cell? ⟨gz, 3, none⟩ = some (.string X.f1) := (blk_cell BZ9 3).trans rfl
            clear hW13 BY9 BZ9 HB9 hz0 hz1 hz2 hz3 hf0 hf1 hf2 hf3 BY GY8 HB89 HS3 BYB BYC GN
            go_wp2
            go_roundg g1
            case measure => omega
            case rel => exact ⟨i + 1, by rw [HW.out], ⟨by have := HI.out.1; omega, HLT.out⟩, HS4⟩
          · have c1b : decide ((i : Int) < (L.length : Int)) = false := decide_eq_false (by omega)
            have c1c : decide (i < L.length) = false := decide_eq_false c
            clear c HI
            go_upto_region 19 with (first
              | (go_at_call 16; with_reducible refine (Len_calls p L (ia : Int) _ HS.out.bp).mono ?_; rintro er w9 ⟨rfl, rfl⟩))
            have HSD := Aside0.mk (HS.out.step (below_drew1 (Below.refl _ _)))
            clear HS
            obtain ⟨ax, eax, u1⟩ := Kd.at_int HSD.out.rx ((x.length - 4 : Nat) : Int) (Int.natCast_nonneg _) (by have := HL.out; omega)
            obtain ⟨ax1, eax1, u2⟩ := Kd.at_int HSD.out.rx ((x.length - 3 : Nat) : Int) (Int.natCast_nonneg _) (by have := HL.out; omega)
            subst eax
            cases eax1
            obtain ⟨ay, eay, v1⟩ := Kd.at_int HSD.out.ry ((y.length - 4 : Nat) : Int) (Int.natCast_nonneg _) (by have := HL.out; omega)
            obtain ⟨ay1, eay1, v2⟩ := Kd.at_int HSD.out.ry ((y.length - 3 : Nat) : Int) (Int.natCast_nonneg _) (by have := HL.out; omega)
            subst eay
            cases eay1
            rw [HR4.out.1, Int.toNat_natCast] at u1
            rw [HR4.out.2.1, Int.toNat_natCast] at u2
            rw [HR4.out.2.2.1, Int.toNat_natCast] at v1
            rw [HR4.out.2.2.2, Int.toNat_natCast] at v2
            replace u1 := Aside0.mk u1
            replace u2 := Aside0.mk u2
            replace v1 := Aside0.mk v1
            replace v2 := Aside0.mk v2
            have hX1 := eq_true (show ((x.length - 4 : Nat) : Int) < (x.length : Int) by have := HL.out; omega)
            have hX2 := eq_true (show ((x.length - 3 : Nat) : Int) < (x.length : Int) by have := HL.out; omega)
            have hX3 : decide (((x.length - 4 : Nat) : Int) < (x.length : Int)) = true := decide_eq_true (by have := HL.out; omega)
            have hX4 : decide (((x.length - 3 : Nat) : Int) < (x.length : Int)) = true := decide_eq_true (by have := HL.out; omega)
            have hX5 : decide (x.length - 4 < x.length) = true := decide_eq_true (by have := HL.out; omega)
            have hX6 : decide (x.length - 3 < x.length) = true := decide_eq_true (by have := HL.out; omega)
            have hX7 := eq_true (show x.length - 4 < x.length by have := HL.out; omega)
            have hX8 := eq_true (show x.length - 3 < x.length by have := HL.out; omega)
            have hY1 := eq_true (show ((y.length - 4 : Nat) : Int) < (y.length : Int) by have := HL.out; omega)
            have hY2 := eq_true (show ((y.length - 3 : Nat) : Int) < (y.length : Int) by have := HL.out; omega)
            have hY3 : decide (((y.length - 4 : Nat) : Int) < (y.length : Int)) = true := decide_eq_true (by have := HL.out; omega)
            have hY4 : decide (((y.length - 3 : Nat) : Int) < (y.length : Int)) = true := decide_eq_true (by have := HL.out; omega)
            have hY5 : decide (y.length - 4 < y.length) = true := decide_eq_true (by have := HL.out; omega)
            have hY6 : decide (y.length - 3 < y.length) = true := decide_eq_true (by have := HL.out; omega)
            have hY7 := eq_true (show y.length - 4 < y.length by have := HL.out; omega)
            have hY8 := eq_true (show y.length - 3 < y.length by have := HL.out; omega)
            have hx4 : wrap64 ((x.length : Int) - 4) = ((x.length - 4 : Nat) : Int) := iv_s _ 4 (by have := HL.out; omega) (by have := HL.out; omega)
            have hx3 : wrap64 ((x.length : Int) - 3) = ((x.length - 3 : Nat) : Int) := iv_s _ 3 (by have := HL.out; omega) (by have := HL.out; omega)
            have hy4 : wrap64 ((y.length : Int) - 4) = ((y.length - 4 : Nat) : Int) := iv_s _ 4 (by have := HL.out; omega) (by have := HL.out; omega)
            have hy3 : wrap64 ((y.length : Int) - 3) = ((y.length - 3 : Nat) : Int) := iv_s _ 3 (by have := HL.out; omega) (by have := HL.out; omega)
            have hc1 := iv_c c1_ HC4.out.1
            have hc2 := iv_c c2_ HC4.out.2.1
            have hd1 := iv_c d1_ HC4.out.2.2.1
            have hd2 := iv_c d2_ HC4.out.2.2.2
            have hm2 := iv_d c2_ HC4.out.2.1
            have hn2 := iv_d d2_ HC4.out.2.2.2
            refine start_ (n := 17) (S := fun w' => w'.cell? (ax.add (x.length - 4)) = some (.int .u8 (c1_ : Int)) ∧ w'.cell? (ax.add (x.length - 3)) = some (.int .u8 (c2_ : Int))) (ds := []) #[false, false, false, false, false, false, false, false, false, false, false, false, false, false, false, false, false] (by kernel_rfl) rfl rfl ⟨u1.out, u2.out⟩ (fun hHeld => ?_)
            refine pure_ (i := 0) (N := some 120) (v := ?_) (a' := ?_) #[true, false, false, false, false, false, false, false, false, false, false, false, false, false, false, false, false] rfl rfl (by kernel_rfl) (fun _ _ _ h => h) (Or.inl ⟨by rfl, ?_⟩) ?_ ?_
            rotate_left
            · intro w'
              go_simp
              with_reducible rfl
            rotate_left
            · simp only [Act.put, List.setIfInBounds_toArray, List.set_cons_zero, List.set_cons_succ, i64_w, i32_w]
              rfl
            refine pure_ (i := 1) (N := some 121) (v := ?_) (a' := ?_) #[true, true, false, false, false, false, false, false, false, false, false, false, false, false, false, false, false] rfl rfl (by kernel_rfl) (fun _ _ _ h => h) (Or.inl ⟨by rfl, ?_⟩) ?_ ?_
            rotate_left
            · intro w'
              go_simp
              with_reducible rfl
            rotate_left
            · simp only [Act.put, List.setIfInBounds_toArray, List.set_cons_zero, List.set_cons_succ, i64_w, i32_w]
              rfl
            refine pure_ (i := 2) (N := some 122) (v := ?_) (a' := ?_) #[true, true, true, false, false, false, false, false, false, false, false, false, false, false, false, false, false] rfl rfl (by kernel_rfl) (fun _ _ _ h => h) (Or.inl ⟨by rfl, ?_⟩) ?_ ?_
            rotate_left
            · intro w'
              go_simp
              with_reducible rfl
            rotate_left
            · simp only [Act.put, List.setIfInBounds_toArray, List.set_cons_zero, List.set_cons_succ, i64_w, i32_w]
              rfl
            refine pure_ (i := 3) (N := some 123) (v := ?_) (a' := ?_) #[true, true, true, true, false, false, false, false, false, false, false, false, false, false, false, false, false] rfl rfl (by kernel_rfl) (fun _ _ _ h => h) (Or.inl ⟨by rfl, ?_⟩) ?_ ?_
            rotate_left
            · intro w'
              go_simp
              with_reducible rfl
            rotate_left
            · simp only [Act.put, List.setIfInBounds_toArray, List.set_cons_zero, List.set_cons_succ, i64_w, i32_w]
              rfl
            refine pure_ (i := 4) (N := some 124) (v := ?_) (a' := ?_) #[true, true, true, true, true, false, false, false, false, false, false, false, false, false, false, false, false] rfl rfl (by kernel_rfl) (fun _ _ _ h => h) (Or.inl ⟨by rfl, ?_⟩) ?_ ?_
            rotate_left
            · intro w'
              go_simp
              with_reducible rfl
            rotate_left
            · simp only [Act.put, List.setIfInBounds_toArray, List.set_cons_zero, List.set_cons_succ, i64_w, i32_w]
              rfl
            refine pure_ (i := 7) (N := some 127) (v := ?_) (a' := ?_) #[true, true, true, true, true, false, false, true, false, false, false, false, false, false, false, false, false] rfl rfl (by kernel_rfl) (fun _ _ _ h => h) (Or.inl ⟨by rfl, ?_⟩) ?_ ?_
            rotate_left
            · intro w'
              go_simp
              with_reducible rfl
            rotate_left
            · simp only [Act.put, List.setIfInBounds_toArray, List.set_cons_zero, List.set_cons_succ, i64_w, i32_w]
              rfl
            refine pure_ (i := 8) (N := some 128) (v := ?_) (a' := ?_) #[true, true, true, true, true, false, false, true, true, false, false, false, false, false, false, false, false] rfl rfl (by kernel_rfl) (fun _ _ _ h => h) (Or.inl ⟨by rfl, ?_⟩) ?_ ?_
            rotate_left
            · intro w'
              go_simp
              with_reducible rfl
            rotate_left
            · simp only [Act.put, List.setIfInBounds_toArray, List.set_cons_zero, List.set_cons_succ, i64_w, i32_w]
              rfl
            refine pure_ (i := 9) (N := some 129) (v := ?_) (a' := ?_) #[true, true, true, true, true, false, false, true, true, true, false, false, false, false, false, false, false] rfl rfl (by kernel_rfl) (fun _ _ _ h => h) (Or.inl ⟨by rfl, ?_⟩) ?_ ?_
            rotate_left
            · intro w'
              go_simp
              with_reducible rfl
            rotate_left
            · simp only [Act.put, List.setIfInBounds_toArray, List.set_cons_zero, List.set_cons_succ, i64_w, i32_w]
              rfl
            refine pure_ (i := 10) (N := some 130) (v := ?_) (a' := ?_) #[true, true, true, true, true, false, false, true, true, true, true, false, false, false, false, false, false] rfl rfl (by kernel_rfl) (fun _ _ _ h => h) (Or.inl ⟨by rfl, ?_⟩) ?_ ?_
            rotate_left
            · intro w'
              go_simp
              with_reducible rfl
            rotate_left
            · simp only [Act.put, List.setIfInBounds_toArray, List.set_cons_zero, List.set_cons_succ, i64_w, i32_w]
              rfl
            refine pure_ (i := 11) (N := some 131) (v := ?_) (a' := ?_) #[true, true, true, true, true, false, false, true, true, true, true, true, false, false, false, false, false] rfl rfl (by kernel_rfl) (fun _ _ _ h => h) (Or.inl ⟨by rfl, ?_⟩) ?_ ?_
            rotate_left
            · intro w'
              go_simp
              with_reducible rfl
            rotate_left
            · simp only [Act.put, List.setIfInBounds_toArray, List.set_cons_zero, List.set_cons_succ, i64_w, i32_w]
              rfl
            refine take_ (i := 5) (N := some 125) (v := ?_) (a' := ?_) #[true, true, true, true, true, true, false, true, true, true, true, true, false, false, false, false, false] rfl rfl (by kernel_rfl) (fun _ _ _ h => h) (Or.inl ⟨by rfl, ?_⟩) hHeld ?_ ?_
            rotate_left
            · rintro w' ⟨s0, s1⟩
              go_simp
              with_reducible rfl
            rotate_left
            · simp only [Act.put, List.setIfInBounds_toArray, List.set_cons_zero, List.set_cons_succ, i64_w, i32_w]
              rfl
            refine pure_ (i := 6) (N := some 126) (v := ?_) (a' := ?_) #[true, true, true, true, true, true, true, true, true, true, true, true, false, false, false, false, false] rfl rfl (by kernel_rfl) (fun _ _ _ h => h) (Or.inl ⟨by rfl, ?_⟩) ?_ ?_
            rotate_left
            · intro w'
              go_simp
              with_reducible rfl
            rotate_left
            · simp only [Act.put, List.setIfInBounds_toArray, List.set_cons_zero, List.set_cons_succ, i64_w, i32_w]
              rfl
            refine take_ (i := 12) (N := some 132) (v := ?_) (a' := ?_) #[true, true, true, true, true, true, true, true, true, true, true, true, true, false, false, false, false] rfl rfl (by kernel_rfl) (fun _ _ _ h => h) (Or.inl ⟨by rfl, ?_⟩) hHeld ?_ ?_
            rotate_left
            · rintro w' ⟨s0, s1⟩
              go_simp
              with_reducible rfl
            rotate_left
            · simp only [Act.put, List.setIfInBounds_toArray, List.set_cons_zero, List.set_cons_succ, i64_w, i32_w]
              rfl
            refine pure_ (i := 13) (N := some 133) (v := ?_) (a' := ?_) #[true, true, true, true, true, true, true, true, true, true, true, true, true, true, false, false, false] rfl rfl (by kernel_rfl) (fun _ _ _ h => h) (Or.inl ⟨by rfl, ?_⟩) ?_ ?_
            rotate_left
            · intro w'
              go_simp
              with_reducible rfl
            rotate_left
            · simp only [Act.put, List.setIfInBounds_toArray, List.set_cons_zero, List.set_cons_succ, i64_w, i32_w]
              rfl
            refine pure_ (i := 14) (N := some 134) (v := ?_) (a' := ?_) #[true, true, true, true, true, true, true, true, true, true, true, true, true, true, true, false, false] rfl rfl (by kernel_rfl) (fun _ _ _ h => h) (Or.inl ⟨by rfl, ?_⟩) ?_ ?_
            rotate_left
            · intro w'
              go_simp
              with_reducible rfl
            rotate_left
            · simp only [Act.put, List.setIfInBounds_toArray, List.set_cons_zero, List.set_cons_succ, i64_w, i32_w]
              rfl
            refine pure_ (i := 15) (N := some 135) (v := ?_) (a' := ?_) #[true, true, true, true, true, true, true, true, true, true, true, true, true, true, true, true, false] rfl rfl (by kernel_rfl) (fun _ _ _ h => h) (Or.inl ⟨by rfl, ?_⟩) ?_ ?_
            rotate_left
            · intro w'
              go_simp
              with_reducible rfl
            rotate_left
            · simp only [Act.put, List.setIfInBounds_toArray, List.set_cons_zero, List.set_cons_succ, i64_w, i32_w]
              rfl
            refine pure_ (i := 16) (N := some 23) (v := ?_) (a' := ?_) #[true, true, true, true, true, true, true, true, true, true, true, true, true, true, true, true, true] rfl rfl (by kernel_rfl) (fun _ _ _ h => h) (Or.inl ⟨by rfl, ?_⟩) ?_ ?_
            rotate_left
            · intro w'
              go_simp
              with_reducible rfl
            rotate_left
            · simp only [Act.put, List.setIfInBounds_toArray, List.set_cons_zero, List.set_cons_succ, i64_w, i32_w]
              rfl
            refine done_ (by kernel_rfl) ?_
            clear hHeld
            have HSE := Aside0.mk (HSD.out.step (below_drew1 (Below.refl _ _)))
            have v1b := Aside0.mk (cell_drw v1.out)
            have v2b := Aside0.mk (cell_drw v2.out)
            go_upto_region 20 with fail
            refine start_ (n := 17) (S := fun w' => w'.cell? (ay.add (y.length - 4)) = some (.int .u8 (d1_ : Int)) ∧ w'.cell? (ay.add (y.length - 3)) = some (.int .u8 (d2_ : Int))) (ds := []) #[false, false, false, false, false, false, false, false, false, false, false, false, false, false, false, false, false] (by kernel_rfl) rfl rfl ⟨v1b.out, v2b.out⟩ (fun hHeld => ?_)
            refine pure_ (i := 0) (N := some 136) (v := ?_) (a' := ?_) #[true, false, false, false, false, false, false, false, false, false, false, false, false, false, false, false, false] rfl rfl (by kernel_rfl) (fun _ _ _ h => h) (Or.inl ⟨by rfl, ?_⟩) ?_ ?_
            rotate_left
            · intro w'
              go_simp
              with_reducible rfl
            rotate_left
            · simp only [Act.put, List.setIfInBounds_toArray, List.set_cons_zero, List.set_cons_succ, i64_w, i32_w]
              rfl
            refine pure_ (i := 1) (N := some 137) (v := ?_) (a' := ?_) #[true, true, false, false, false, false, false, false, false, false, false, false, false, false, false, false, false] rfl rfl (by kernel_rfl) (fun _ _ _ h => h) (Or.inl ⟨by rfl, ?_⟩) ?_ ?_
            rotate_left
            · intro w'
              go_simp
              with_reducible rfl
            rotate_left
            · simp only [Act.put, List.setIfInBounds_toArray, List.set_cons_zero, List.set_cons_succ, i64_w, i32_w]
              rfl
            refine pure_ (i := 2) (N := some 138) (v := ?_) (a' := ?_) #[true, true, true, false, false, false, false, false, false, false, false, false, false, false, false, false, false] rfl rfl (by kernel_rfl) (fun _ _ _ h => h) (Or.inl ⟨by rfl, ?_⟩) ?_ ?_
            rotate_left
            · intro w'
              go_simp
              with_reducible rfl
            rotate_left
            · simp only [Act.put, List.setIfInBounds_toArray, List.set_cons_zero, List.set_cons_succ, i64_w, i32_w]
              rfl
            refine pure_ (i := 3) (N := some 139) (v := ?_) (a' := ?_) #[true, true, true, true, false, false, false, false, false, false, false, false, false, false, false, false, false] rfl rfl (by kernel_rfl) (fun _ _ _ h => h) (Or.inl ⟨by rfl, ?_⟩) ?_ ?_
            rotate_left
            · intro w'
              go_simp
              with_reducible rfl
            rotate_left
            · simp only [Act.put, List.setIfInBounds_toArray, List.set_cons_zero, List.set_cons_succ, i64_w, i32_w]
              rfl
            refine pure_ (i := 4) (N := some 140) (v := ?_) (a' := ?_) #[true, true, true, true, true, false, false, false, false, false, false, false, false, false, false, false, false] rfl rfl (by kernel_rfl) (fun _ _ _ h => h) (Or.inl ⟨by rfl, ?_⟩) ?_ ?_
            rotate_left
            · intro w'
              go_simp
              with_reducible rfl
            rotate_left
            · simp only [Act.put, List.setIfInBounds_toArray, List.set_cons_zero, List.set_cons_succ, i64_w, i32_w]
              rfl
            refine pure_ (i := 7) (N := some 143) (v := ?_) (a' := ?_) #[true, true, true, true, true, false, false, true, false, false, false, false, false, false, false, false, false] rfl rfl (by kernel_rfl) (fun _ _ _ h => h) (Or.inl ⟨by rfl, ?_⟩) ?_ ?_
            rotate_left
            · intro w'
              go_simp
              with_reducible rfl
            rotate_left
            · simp only [Act.put, List.setIfInBounds_toArray, List.set_cons_zero, List.set_cons_succ, i64_w, i32_w]
              rfl
            refine pure_ (i := 8) (N := some 144) (v := ?_) (a' := ?_) #[true, true, true, true, true, false, false, true, true, false, false, false, false, false, false, false, false] rfl rfl (by kernel_rfl) (fun _ _ _ h => h) (Or.inl ⟨by rfl, ?_⟩) ?_ ?_
            rotate_left
            · intro w'
              go_simp
              with_reducible rfl
            rotate_left
            · simp only [Act.put, List.setIfInBounds_toArray, List.set_cons_zero, List.set_cons_succ, i64_w, i32_w]
              rfl
            refine pure_ (i := 9) (N := some 145) (v := ?_) (a' := ?_) #[true, true, true, true, true, false, false, true, true, true, false, false, false, false, false, false, false] rfl rfl (by kernel_rfl) (fun _ _ _ h => h) (Or.inl ⟨by rfl, ?_⟩) ?_ ?_
            rotate_left
            · intro w'
              go_simp
              with_reducible rfl
            rotate_left
            · simp only [Act.put, List.setIfInBounds_toArray, List.set_cons_zero, List.set_cons_succ, i64_w, i32_w]
              rfl
            refine pure_ (i := 10) (N := some 146) (v := ?_) (a' := ?_) #[true, true, true, true, true, false, false, true, true, true, true, false, false, false, false, false, false] rfl rfl (by kernel_rfl) (fun _ _ _ h => h) (Or.inl ⟨by rfl, ?_⟩) ?_ ?_
            rotate_left
            · intro w'
              go_simp
              with_reducible rfl
            rotate_left
            · simp only [Act.put, List.setIfInBounds_toArray, List.set_cons_zero, List.set_cons_succ, i64_w, i32_w]
              rfl
            refine pure_ (i := 11) (N := some 147) (v := ?_) (a' := ?_) #[true, true, true, true, true, false, false, true, true, true, true, true, false, false, false, false, false] rfl rfl (by kernel_rfl) (fun _ _ _ h => h) (Or.inl ⟨by rfl, ?_⟩) ?_ ?_
            rotate_left
            · intro w'
              go_simp
              with_reducible rfl
            rotate_left
            · simp only [Act.put, List.setIfInBounds_toArray, List.set_cons_zero, List.set_cons_succ, i64_w, i32_w]
              rfl
            refine take_ (i := 5) (N := some 141) (v := ?_) (a' := ?_) #[true, true, true, true, true, true, false, true, true, true, true, true, false, false, false, false, false] rfl rfl (by kernel_rfl) (fun _ _ _ h => h) (Or.inl ⟨by rfl, ?_⟩) hHeld ?_ ?_
            rotate_left
            · rintro w' ⟨s0, s1⟩
              go_simp
              with_reducible rfl
            rotate_left
            · simp only [Act.put, List.setIfInBounds_toArray, List.set_cons_zero, List.set_cons_succ, i64_w, i32_w]
              rfl
            refine pure_ (i := 6) (N := some 142) (v := ?_) (a' := ?_) #[true, true, true, true, true, true, true, true, true, true, true, true, false, false, false, false, false] rfl rfl (by kernel_rfl) (fun _ _ _ h => h) (Or.inl ⟨by rfl, ?_⟩) ?_ ?_
            rotate_left
            · intro w'
              go_simp
              with_reducible rfl
            rotate_left
            · simp only [Act.put, List.setIfInBounds_toArray, List.set_cons_zero, List.set_cons_succ, i64_w, i32_w]
              rfl
            refine take_ (i := 12) (N := some 148) (v := ?_) (a' := ?_) #[true, true, true, true, true, true, true, true, true, true, true, true, true, false, false, false, false] rfl rfl (by kernel_rfl) (fun _ _ _ h => h) (Or.inl ⟨by rfl, ?_⟩) hHeld ?_ ?_
            rotate_left
            · rintro w' ⟨s0, s1⟩
              go_simp
              with_reducible rfl
            rotate_left
            · simp only [Act.put, List.setIfInBounds_toArray, List.set_cons_zero, List.set_cons_succ, i64_w, i32_w]
              rfl
            refine pure_ (i := 13) (N := some 149) (v := ?_) (a' := ?_) #[true, true, true, true, true, true, true, true, true, true, true, true, true, true, false, false, false] rfl rfl (by kernel_rfl) (fun _ _ _ h => h) (Or.inl ⟨by rfl, ?_⟩) ?_ ?_
            rotate_left
            · intro w'
              go_simp
              with_reducible rfl
            rotate_left
            · simp only [Act.put, List.setIfInBounds_toArray, List.set_cons_zero, List.set_cons_succ, i64_w, i32_w]
              rfl
            refine pure_ (i := 14) (N := some 150) (v := ?_) (a' := ?_) #[true, true, true, true, true, true, true, true, true, true, true, true, true, true, true, false, false] rfl rfl (by kernel_rfl) (fun _ _ _ h => h) (Or.inl ⟨by rfl, ?_⟩) ?_ ?_
            rotate_left
            · intro w'
              go_simp
              with_reducible rfl
            rotate_left
            · simp only [Act.put, List.setIfInBounds_toArray, List.set_cons_zero, List.set_cons_succ, i64_w, i32_w]
              rfl
            refine pure_ (i := 15) (N := some 151) (v := ?_) (a' := ?_) #[true, true, true, true, true, true, true, true, true, true, true, true, true, true, true, true, false] rfl rfl (by kernel_rfl) (fun _ _ _ h => h) (Or.inl ⟨by rfl, ?_⟩) ?_ ?_
            rotate_left
            · intro w'
              go_simp
              with_reducible rfl
            rotate_left
            · simp only [Act.put, List.setIfInBounds_toArray, List.set_cons_zero, List.set_cons_succ, i64_w, i32_w]
              rfl
            refine pure_ (i := 16) (N := some 24) (v := ?_) (a' := ?_) #[true, true, true, true, true, true, true, true, true, true, true, true, true, true, true, true, true] rfl rfl (by kernel_rfl) (fun _ _ _ h => h) (Or.inl ⟨by rfl, ?_⟩) ?_ ?_
            rotate_left
            · intro w'
              go_simp
              with_reducible rfl
            rotate_left
            · simp only [Act.put, List.setIfInBounds_toArray, List.set_cons_zero, List.set_cons_succ, i64_w, i32_w]
              rfl
            refine done_ (by kernel_rfl) ?_
            clear hHeld
            have hL1 : decide (60000 < (L.length : Int)) = false := decide_eq_false (by have := hK0.out; omega)
            have hL2 : decide (60000 < L.length) = false := decide_eq_false (by have := hK0.out; omega)
            by_cases c : ia ≤ ib
            · have g1 : decide ((ib : Int) < (ia : Int)) = false := decide_eq_false (by omega)
              have g2 : decide (ib < ia) = false := decide_eq_false (by omega)
              have g3 : decide (wrap64 ((d1_ : Int) + (d2_ : Int) * 256) ≤ wrap64 ((c1_ : Int) + (c2_ : Int) * 256)) = true := by
                have h1 := HC4.out
                have h2 := HLE.out c
                exact decide_eq_true (iv_g h1.1 h1.2.1 h1.2.2.1 h1.2.2.2 h2)
              clear hX1 hX2 hX3 hX4 hX5 hX6 hX7 hX8 hY1 hY2 hY3 hY4 hY5 hY6 hY7 hY8 hx4 hx3 hy4 hy3 hc1 hc2 hd1 hd2 hm2 hn2 c
              go_wp2
              go_ret
              exact ⟨by first | rfl | simp, HSE.out.bel⟩
            · have g1 : decide ((ib : Int) < (ia : Int)) = true := decide_eq_true (by omega)
              have g2 : decide (ib < ia) = true := decide_eq_true (by omega)
              clear hX1 hX2 hX3 hX4 hX5 hX6 hX7 hX8 hY1 hY2 hY3 hY4 hY5 hY6 hY7 hY8 hx4 hx3 hy4 hy3 hc1 hc2 hd1 hd2 hm2 hn2 c
              go_wp2
              go_ret
              exact ⟨by first | rfl | simp, HSE.out.bel⟩
end Go.Proofs.Ytppkpleagnddeaa.B
namespace Go.Proofs.Ytppkpleagnddeaa.P
open Go.RowKit Go.Proofs.YtppkpleagnddeaaW.PrintWords
theorem staddlelaw11_BlockIntervals.calls (k : Nat) (A0 : Option Addr) (c0 : Nat) (l0 : List S42) (a1 a2 : Int) (q0 : ByteArray) (q1 q2 : Int) (r : Bool) (w : World) (hr0 : Kd.C k42 w A0 l0.length l0) (hc0 : l0.length ≤ c0) (hf : B.Ints k l0 a1 a2 ⟨q0, q1, q2⟩ ∧ true = r) :
    Calls Try.prog 9 #[.slice A0 l0.length c0, .int .i64 a1, .int .i64 a2, .agg #[.string q0, .int .u64 q1, .int .i64 q2]] w fun e w' => e = .returned (.bool r) ∧ Below w.heap.size w w' := by
  obtain ⟨hf, rfl⟩ := hf
  exact B.ints_calls k A0 c0 l0 a1 a2 q0 q1 q2 w hr0 hc0 hf
end Go.Proofs.Ytppkpleagnddeaa.P
