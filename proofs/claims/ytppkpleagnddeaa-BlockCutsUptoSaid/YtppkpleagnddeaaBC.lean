/- The walk of BlockCuts. -/
import Derived.Test.YtppkpleagnddeaaBA
import Derived.Test.YtppkpleagnddeaaBH
import Derived.Test.YtppkpleagnddeaaBX
import Derived.Test.YtppkpleagnddeaaQA
namespace Go.Proofs.Ytppkpleagnddeaa.B
open Go.RowKit Go.Proofs.YtppkpleagnddeaaW.PrintWords Go.Proofs.YtppkpleagnddeaaW.PrintLast Go.Proofs.YtppkpleagnddeaaW.PrintMore Go.Proofs.Ytppkpleagnddeaa.P
set_option linter.unusedVariables false
set_option linter.unusedSimpArgs false
/-- the cut, made positive -/
def cv (a : Int) : Int := if a < 0 then -(a + 1) else a
/-- what opening bytes comes to -/
def Opn (k : Nat) (t : List Int) : Prop := ∃ r, open_g k t = some r ∧ t.length < 140737488355328 ∧ ∀ x, r = some x → x.1.length ≤ 2000000 ∧ ∃ iv : Nat, 1 ≤ iv ∧ iv ≤ 16 ∧ x.2 = (iv : Int) ∧
  ∀ n : Nat, 1 ≤ n → n ≤ 16 → ∃ c g, block_Build.f k x.1 (n : Int) = some (c, g) ∧ (n = iv → g = 0 ∧ strOfNums c = strOfNums t)
def Cuts (k : Nat) (l0 : List S42) (a1 a2 : Int) (more : List Int) : Prop := -9223372036854775808 ≤ a2 ∧ a2 < 9223372036854775808 ∧ ∃ b e, block_Build.f k (cut l0) a1 = some (b, e) ∧
  (e = 0 → b.length + more.length < 140737488355328 ∧ b.length ≤ 4000000 ∧ ∃ n : Nat, n ≤ b.length ∧ Int.tmod (cv a2) ((b.length + 1 : Nat) : Int) = (n : Int) ∧ Opn k (b.take n) ∧ Opn k (b ++ more))
theorem cv_w (a : Int) (h0 : -9223372036854775808 ≤ a) (h : a < 0) : wrap64 (-wrap64 (a + 1)) = cv a := by unfold cv wrap64; rw [if_pos h]; omega
theorem cv_w2 (a : Int) (h0 : -9223372036854775808 ≤ a) (h : a < 0) : wrap64 (-(a + 1)) = cv a := by unfold cv wrap64; rw [if_pos h]; omega
theorem cv_p (a : Int) (h : ¬ a < 0) : cv a = a := by unfold cv; rw [if_neg h]
theorem ct_w1 (n : Nat) (h : n ≤ 1000000000) : wrap64 ((n : Int) + 1) = ((n + 1 : Nat) : Int) := by unfold wrap64; omega
theorem ct_w2 (n : Nat) (h : n ≤ 1000000000) : wrap64 (n : Int) = (n : Int) := by unfold wrap64; omega
structure CtSt (w : World) (g2 : Nat) (A1 : Option Addr) (c1 : Nat) (E : List Int) (A2 : Option Addr) (c2 : Nat) (F : List Int) (wx : World) : Prop where
  bt : wx.heap[g2]? = some (.cells #[.slice A1 E.length c1, .slice A2 F.length c2] 24 (0, 0))
  r1 : Kd.C (Kd.int .u8) wx A1 E.length E
  r2 : Kd.C (Kd.int .u8) wx A2 F.length F
  bel : Below w.heap.size w wx
theorem CtSt.step {w wx w' : World} {g2 : Nat} {A1 : Option Addr} {c1 : Nat} {E : List Int} {A2 : Option Addr} {c2 : Nat} {F : List Int} (h : CtSt w g2 A1 c1 E A2 c2 F wx) (hb : Below wx.heap.size wx w') : CtSt w g2 A1 c1 E A2 c2 F w' :=
  ⟨blk_below h.bt hb, Kd.C_below h.r1 hb, Kd.C_below h.r2 hb, below_step h.bel hb⟩
/-- one of the two -/
theorem CtSt.at {k : Nat} {w wx : World} {g2 : Nat} {A1 : Option Addr} {c1 : Nat} {E : List Int} {A2 : Option Addr} {c2 : Nat} {F : List Int} (i : Nat) (hi : i < 2) (hc1 : E.length ≤ c1) (hc2 : F.length ≤ c2) (h1 : Opn k E) (h2 : Opn k F) :
    ∃ t At ct, t.length ≤ ct ∧ Opn k t ∧ ∀ wx, CtSt w g2 A1 c1 E A2 c2 F wx → wx.cell? ⟨g2, i, none⟩ = some (.slice At t.length ct) ∧ Kd.C (Kd.int .u8) wx At t.length t := by
  match i, hi with
  | 0, _ => exact ⟨E, A1, c1, hc1, h1, fun wx h => ⟨(blk_cell h.bt 0).trans rfl, h.r1⟩⟩
  | 1, _ => exact ⟨F, A2, c2, hc2, h2, fun wx h => ⟨(blk_cell h.bt 1).trans rfl, h.r2⟩⟩
section
variable {P : Program} {ops : Array Oper} {rest : List Oper} {o : Oper} {a : Act} {Q : Exit → Act → World → Prop}
/-- a literal of values, each of one cell -/
theorem lits_event {W : World} (hgd : o.guard = none) {N : Tmp} (_hd : o.dst = some N) {cs : Array Value} {t : TypeId} {m : Nat}
    (hrun : (execOp a.eval o).run P W = .ok (.value (.slice (some ⟨W.heap.size, 0, none⟩) m m)) (W.alloc (.cells cs t (0, 0))))
    (h : ∀ g, g = W.heap.size → ∀ w1, w1.heap[g]? = some (.cells cs t (0, 0)) → Below W.heap.size W w1 → wpList P ops Q rest (a.put o.dst (.slice (some ⟨g, 0, none⟩) m m)) w1) : wpList P ops Q (o :: rest) a W :=
  Kd.event_run hgd hrun (h _ rfl _ (blk_new W _) (below_alloc (Below.refl _ _) _))
end
set_option maxHeartbeats 4000000 in
set_option maxRecDepth 100000 in
theorem cuts_calls (k : Nat) (A0 : Option Addr) (c0 : Nat) (l0 : List S42) (a1 a2 : Int) (A3 : Option Addr) (c3 : Nat) (more : List Int) (w : World) (hr0 : Kd.C k42 w A0 l0.length l0) (hc0 : l0.length ≤ c0) (hr3 : Kd.C (Kd.int .u8) w A3 more.length more) (hc3 : more.length ≤ c3) (hf : Cuts k l0 a1 a2 more) :
    Calls Try.prog 7 #[.slice A0 l0.length c0, .int .i64 a1, .int .i64 a2, .slice A3 more.length c3] w fun e w' => e = .returned (.bool true) ∧ Below w.heap.size w w' := by
  have HR0 := Aside0.mk hr0
  have HC0 := Aside0.mk hc0
  have HR3 := Aside0.mk hr3
  have HC3 := Aside0.mk hc3
  have HB := Aside0.mk (Below.refl w.heap.size w)
  have HF := Aside0.mk hf
  have hK0 := Aside0.mk (cut_len l0)
  clear hr0 hc0 hr3 hc3 hf
  go_enter Try.func7, Try.ntmps7
  go_upto_region 2 with (first
    | (go_at_call 10; with_reducible refine (awake_calls _).mono ?_; rintro e w4 ⟨rfl, hb⟩
       have HB2 := Aside0.mk (below_step HB.out hb)
       clear hb))
  go_upto_if 27 with fail
  go_cut [0] (fun v0 wc => ∃ (c1 : Nat), v0 = .slice A0 (cut l0).length c1 ∧ Aside0 ((cut l0).length ≤ c1) ∧ Aside0 (Kd.C k42 wc A0 (cut l0).length (cut l0)) ∧ Aside0 (Below w.heap.size w wc))
  case first =>
    by_cases c : 1000 < l0.length
    · have hcut : cut l0 = l0.take 1000 := by unfold cut; rw [if_pos c]
      have hlen : (l0.take 1000).length = 1000 := by rw [List.length_take]; omega
      have HRC : Aside0 (Kd.C k42 w4 A0 (l0.take 1000).length (l0.take 1000)) := ⟨Kd.C_take (Kd.C_below HR0.out HB2.out) (by omega)⟩
      have c4b0 : decide (1000 < (l0.length : Int)) = true := decide_eq_true (by omega)
      have c4b1 : decide (1000 < l0.length) = true := decide_eq_true c
      have c5b0 := eq_true (show 1000 ≤ (l0.length : Int) by omega)
      have c5b1 : decide (1000 ≤ (l0.length : Int)) = true := decide_eq_true (by omega)
      have c5b2 : (1000 : Int) ≤ (c0 : Int) := by have := HC0.out; omega
      have c5b3 : 1000 ≤ c0 := by have := HC0.out; omega
      (first | rw [c4b0] | rw [c4b1] | (simp only [i64_w, i32_w]; rw [c4b0]) | skip)
      go_wp2
      go_meet
      case rel =>
        refine ⟨c0, ?_, ⟨by rw [hcut, hlen]; exact c5b3⟩, ⟨by rw [hcut]; exact HRC.out⟩, HB2⟩
        rw [hcut, hlen]
    · have hcut : cut l0 = l0 := by unfold cut; rw [if_neg c]
      have c4b0 : decide (1000 < (l0.length : Int)) = false := decide_eq_false (by omega)
      have c4b1 : decide (1000 < l0.length) = false := decide_eq_false c
      have HRC : Aside0 (Kd.C k42 w4 A0 l0.length l0) := ⟨Kd.C_below HR0.out HB2.out⟩
      (first | rw [c4b0] | rw [c4b1] | (simp only [i64_w, i32_w]; rw [c4b0]) | skip)
      go_wp2
      go_meet
      case rel => exact ⟨c0, by rw [hcut], ⟨by rw [hcut]; exact HC0.out⟩, ⟨by rw [hcut]; exact HRC.out⟩, HB2⟩
  case rest =>
    clear HR0 HC0 HB2
    obtain ⟨c1, rfl, HC1, HR1, HB1⟩ := hcut
    obtain ⟨ha0, ha1, b, e, hbuild, hgood⟩ := HF.out
    clear HF
    generalize cut l0 = L at *
    have HBU := Aside0.mk hbuild
    have HA := Aside0.mk (And.intro ha0 ha1)
    clear hbuild ha0 ha1
    by_cases he : e = 0
    case neg =>
      have hb1 : (e != 0) = true := bne_iff_ne.mpr he
      have hb0 : (e == 0) = false := beq_eq_false_iff_ne.mpr he
      clear hgood he
      go_wp2_with (first
        | (go_at_call 11; with_reducible refine (block_Build.calls k A0 c1 L a1 b e _ HR1.out HC1.out HBU.out).mono ?_; rintro er w5 ⟨vb, rfl, hob, hb⟩
           have HB2 := Aside0.mk (below_step HB1.out hb)
           obtain ⟨Ab, cb, eb⟩ := Kd.R_slice hob
           subst eb
           clear hob hb))
      go_ret
      exact ⟨by first | rfl | simp, HB2.out⟩
    case pos =>
      subst he
      obtain ⟨hlen, hbl, n, hn, hrem, hop1, hop2⟩ := hgood rfl
      have HLEN := Aside0.mk hlen
      have HBL := Aside0.mk hbl
      have HN := Aside0.mk hn
      have HREM := Aside0.mk hrem
      have HO1 := Aside0.mk hop1
      have HO2 := Aside0.mk hop2
      clear hgood hlen hbl hn hrem hop1 hop2
      go_upto_region 7 with (first
        | (go_at_call 11; with_reducible refine (block_Build.calls k A0 c1 L a1 b 0 _ HR1.out HC1.out HBU.out).mono ?_; rintro er w5 ⟨vb, rfl, hob, hb⟩
           have HB2 := Aside0.mk (below_step HB1.out hb)
           have HOB := Aside0.mk hob
           obtain ⟨Ab, cb, eb⟩ := Kd.R_slice hob
           subst eb
           clear hob hb))
      have CB := Aside0.mk (Kd.R_reads' HOB.out).2.2
      have CBC := Aside0.mk (Kd.R_reads' HOB.out).2.1
      clear HOB HBU HR1 HC1 HB1
      go_upto_if 40 with fail
      go_cut [2] (fun v2 wc => v2 = .int .i64 (cv a2) ∧ Aside0 (Kd.C (Kd.int .u8) wc Ab b.length b) ∧ Aside0 (Below w.heap.size w wc))
      case first =>
        by_cases c : a2 < 0
        · have d1 : decide (a2 < 0) = true := decide_eq_true c
          have HV1 := Aside0.mk (cv_w a2 HA.out.1 c)
          have HV2 := Aside0.mk (cv_w2 a2 HA.out.1 c)
          clear c
          (first | rw [d1] | skip)
          go_wp2
          go_meet
          case rel => exact ⟨by first | rfl | rw [HV1.out] | rw [HV2.out] | (simp only [i64_w]; first | rw [HV1.out] | rw [HV2.out]), CB, HB2⟩
        · have d1 : decide (a2 < 0) = false := decide_eq_false c
          have HV1 := Aside0.mk (cv_p a2 c)
          clear c
          (first | rw [d1] | skip)
          go_wp2
          go_meet
          case rel => exact ⟨by rw [HV1.out], CB, HB2⟩
      case rest =>
        clear CB HB2
        obtain ⟨rfl, CB, HB2⟩ := hcut
        obtain ⟨i5, hi5, _, hs5, _⟩ := info_parts info5
        obtain ⟨hcut1, hrd1, hcp1⟩ := print_take_of (P := Try.prog) (Value.int .u8) (0 : Int) 24 5 .i64 Try.underlying24 hi5 hs5 Ab cb b (n : Int) (Int.natCast_nonneg _) (by have := HN.out; omega) CBC.out
        rw [Int.toNat_natCast] at hcut1 hrd1 hcp1
        obtain ⟨E, hE⟩ : ∃ x, b.take n = x := ⟨_, rfl⟩
        rw [hE] at hcut1 hrd1 hcp1 HO1
        have HEL : Aside0 (E.length ≤ b.length) := ⟨by rw [← hE, List.length_take]; omega⟩
        have CT := Aside0.mk (show Kd.C (Kd.int .u8) wc Ab E.length E from Kd.C_of_reads (h1 := fun _ => rfl) (hrd1 _ (Kd.reads_of_C CB.out)))
        have hw1 : wrap64 ((b.length : Int) + 1) = ((b.length + 1 : Nat) : Int) := ct_w1 _ (by have := HBL.out; omega)
        have hrem := HREM.out
        have hrem2 : Int.tmod (cv a2) ((b.length : Int) + 1) = (n : Int) := HREM.out
        have hwz3 : ¬ ((b.length : Int) + 1 = 0) := by omega
        have hwz4 : (((b.length : Int) + 1) == 0) = false := beq_eq_false_iff_ne.mpr hwz3
        have hwn : wrap64 (n : Int) = (n : Int) := ct_w2 _ (by have := HBL.out; have := HN.out; omega)
        have hwz : (((b.length + 1 : Nat) : Int) == 0) = false := beq_eq_false_iff_ne.mpr (by clear hw1 hwn hrem hrem2; omega)
        have hwz2 : ¬ (((b.length + 1 : Nat) : Int) = 0) := by clear hw1 hwn hrem hrem2; omega
        clear hrd1 hcp1 hi5 hs5 hE
        go_upto_region 11 with (first
          | ((with_reducible refine gate_dst (N := 44) rfl ?_); refine Kd.R_lit (Kd.int .u8) _ 5 ?hg (N := 44) ?hd (xs := ([] : List Int)) (inner := []) (ok := fun _ => True) (okp := fun _ => True) ?hr ?hp (fun _ hk => hk) trivial (Below.refl _ _) (Nat.le_refl _) (by simp) ?_; (case hd => rfl); (case hg => rfl); (case hr => first | (go_simp; done) | (go_simp; rfl)); (case hp => exact (Reps.none _ _)); intro v44 w6 ho_ hb_ hg_ hnew_
             clear hg_ hnew_
             have HE44 := Aside0.mk (Kd.R_bound ho_)
             have HB44 := Aside0.mk hb_
             clear hb_ ho_)
          | ((with_reducible refine gate_builtin (b := .append) (xs := #[.tmp 44, .tmp 51]) rfl ?_); at_builtin; refine Kd.R_append_rows (Kd.int .u8) (w0 := wc) wc.heap.size rfl (.tmp 44) (.tmp 51) 24 5 (.int .u8 0) 1 rfl Try.underlying24 info5 rfl (by decide) (by omega) v44 ([] : List Int) E _ _ _ (fun k => wc.heap.size ≤ k) (fun _ => False) rfl rfl ?aO ?aR (fun _ _ h => h) (fun _ h => h.elim) ?aF ?aB ?aS ?aL ?_
             (case aR => exact Kd.C_below CT.out HB44.out)
             (case aB => exact HB44.out)
             (case aF => exact (fun _ hk => Nat.le_trans (below_size HB44.out) hk))
             (case aO => exact Kd.R_mono HE44.out (fun k hk => hk.2.1))
             (case aS => exact below_size HB44.out)
             (case aL => have := HEL.out; have := HBL.out; simp only [List.length_nil]; omega)
             intro v52 w7 ho_ hb_ hg_ hat_
             have ho2_ := ho_
             have HB52 := Aside0.mk hb_
             clear ho_ hb_ hg_ hat_
             rw [List.nil_append] at ho2_
             have H52 := Aside0.mk ho2_
             obtain ⟨A52, c52, e52⟩ := Kd.R_slice ho2_
             subst e52
             clear ho2_)
          | ((with_reducible refine gate_dst (N := 53) rfl ?_); refine Kd.R_lit (Kd.int .u8) _ 5 ?hg (N := 53) ?hd (xs := ([] : List Int)) (inner := []) (ok := fun _ => True) (okp := fun _ => True) ?hr ?hp (fun _ hk => hk) trivial (Below.refl _ _) (Nat.le_refl _) (by simp) ?_; (case hd => rfl); (case hg => rfl); (case hr => first | (go_simp; done) | (go_simp; rfl)); (case hp => exact (Reps.none _ _)); intro v53 w8 ho_ hb_ hg_ hnew_
             clear hg_ hnew_
             have HE53 := Aside0.mk (Kd.R_bound ho_)
             have HB53 := Aside0.mk hb_
             clear hb_ ho_)
          | ((with_reducible refine gate_builtin (b := .append) (xs := #[.tmp 53, .tmp 54]) rfl ?_); at_builtin; refine Kd.R_append_rows (Kd.int .u8) (w0 := w7) w7.heap.size rfl (.tmp 53) (.tmp 54) 24 5 (.int .u8 0) 1 rfl Try.underlying24 info5 rfl (by decide) (by omega) v53 ([] : List Int) b _ _ _ (fun k => w7.heap.size ≤ k) (fun _ => False) rfl rfl ?aO ?aR (fun _ _ h => h) (fun _ h => h.elim) ?aF ?aB ?aS ?aL ?_
             (case aR => exact Kd.C_below (Kd.C_below CB.out HB52.out) HB53.out)
             (case aB => exact HB53.out)
             (case aF => exact (fun _ hk => Nat.le_trans (below_size HB53.out) hk))
             (case aO => exact Kd.R_mono HE53.out (fun k hk => hk.2.1))
             (case aS => exact below_size HB53.out)
             (case aL => have := HBL.out; simp only [List.length_nil]; omega)
             intro v55 w9 ho_ hb_ hg_ hat_
             have ho2_ := ho_
             have HB55 := Aside0.mk hb_
             clear ho_ hb_ hg_ hat_
             rw [List.nil_append] at ho2_
             have H55 := Aside0.mk ho2_
             clear ho2_)
          | ((with_reducible refine gate_builtin (b := .append) (xs := #[.tmp 55, .tmp 56]) rfl ?_); at_builtin; refine Kd.R_append_rows (Kd.int .u8) (w0 := w7) w7.heap.size rfl (.tmp 55) (.tmp 56) 24 5 (.int .u8 0) 1 rfl Try.underlying24 info5 rfl (by decide) (by omega) v55 b more _ _ _ (fun k => w7.heap.size ≤ k) (fun _ => False) rfl rfl ?aO ?aR (fun _ _ h => h) (fun _ h => h.elim) ?aF ?aB ?aS ?aL ?_
             (case aR => exact Kd.C_below HR3.out (below_step (below_step HB2.out HB52.out) HB55.out))
             (case aB => exact HB55.out)
             (case aF => exact (fun _ hk => Nat.le_trans (below_size HB55.out) hk))
             (case aO => exact H55.out)
             (case aS => exact below_size HB55.out)
             (case aL => have := HLEN.out; omega)
             intro v57 w10 ho_ hb_ hg_ hat_
             have ho2_ := ho_
             have HB57 := Aside0.mk hb_
             clear ho_ hb_ hg_ hat_
             have H57 := Aside0.mk ho2_
             obtain ⟨A57, c57, e57⟩ := Kd.R_slice ho2_
             subst e57
             clear ho2_)
          | ((with_reducible refine gate_dst (N := 58) rfl ?_); refine lits_event ?hg (N := 58) ?hd (cs := #[.slice A52 E.length c52, .slice A57 (b ++ more).length c57]) (m := 2) (t := 24) ?hr ?_; (case hd => rfl); (case hg => rfl); (case hr => first | (go_simp; done) | (go_simp; rfl)); intro g2 hg w11 hbox hb_
             have BT := Aside0.mk hbox
             have HB58 := Aside0.mk hb_
             clear hg hbox hb_))
        have HS : Aside0 (CtSt w g2 A52 c52 E A57 c57 (b ++ more) w11) := ⟨BT.out, Kd.C_below (Kd.C_below (Kd.R_reads' H52.out).2.2 HB57.out) HB58.out, Kd.C_below (Kd.R_reads' H57.out).2.2 HB58.out, below_step (below_step (below_step HB2.out HB52.out) HB57.out) HB58.out⟩
        have HC52 := Aside0.mk (Kd.R_reads' H52.out).2.1
        have HC57 := Aside0.mk (Kd.R_reads' H57.out).2.1
        clear hcut1 hw1 hrem hrem2 hwz3 hwz4 hwn hwz hwz2 HE44 HB44 H52 HB52 HE53 HB53 H55 HB55 H57 HB57 BT HB58 CT CB CBC HB2 HREM HN HEL HR3 HC3
        go_loopg [13] 3 (fun gf v13 wx => ∃ i : Nat, v13 = .int .i64 (i : Int) ∧ Aside0 (gf + i = 3 ∧ i ≤ 2) ∧ Aside0 (CtSt w g2 A52 c52 E A57 c57 (b ++ more) wx))
        case atStart => exact ⟨0, rfl, ⟨by omega, by omega⟩, HS⟩
        case round =>
          clear HS
          obtain ⟨i, rfl, HI, HS⟩ := hrel
          cases gk with
          | zero => exact absurd HI.out.1 (by have := HI.out.2; omega)
          | succ g1 =>
            by_cases c : i < 2
            · have c1b : decide ((i : Int) < 2) = true := decide_eq_true (by omega)
              have c1c : decide (i < 2) = true := decide_eq_true c
              have c1d := eq_true (show (i : Int) < 2 by omega)
              have c1e := eq_true (show i < 2 from c)
              have c1f := eq_true (show 0 ≤ (i : Int) by omega)
              have c1g : decide (0 ≤ (i : Int)) = true := decide_eq_true (by omega)
              have HIB := Aside0.mk c
              have HW : Aside0 (wrap64 ((i : Int) + 1) = ((i + 1 : Nat) : Int)) := ⟨ct_w1 i (by omega)⟩
              obtain ⟨t, At, ct, hct, hopn, hat⟩ := CtSt.at (k := k) (w := w) (wx := w) (g2 := g2) (A1 := A52) (c1 := c52) (E := E) (A2 := A57) (c2 := c57) (F := b ++ more) i c HC52.out HC57.out HO1.out HO2.out
              obtain ⟨r, hr, htl, hrs⟩ := hopn
              have HCT := Aside0.mk hct
              have HR := Aside0.mk hr
              have HTL := Aside0.mk htl
              have HRS := Aside0.mk hrs
              have HAT := Aside0.mk hat
              clear hct hr htl hrs hat c
              have hcell := (HAT.out _ HS.out).1
              go_upto_region 14 with (first
                | (go_at_call 14; with_reducible refine (Open_st k At ct t r _ (HAT.out _ HS.out).2 HCT.out HR.out).mono ?_; rintro e w12 ⟨hb, pv, ev, rfl, hOS, hev⟩
                   have HS2 := Aside0.mk (HS.out.step hb)
                   have HOS := Aside0.mk hOS
                   have HEV := Aside0.mk hev
                   clear hb hOS hev))
              clear hcell HS
              cases r with
              | none =>
                obtain rfl : pv = .pointer none := HOS.out
                obtain rfl := HEV.out
                go_wp2
                go_roundg g1
                case measure => omega
                case rel => exact ⟨i + 1, by rw [HW.out], ⟨by have := HI.out.1; omega, by have := HIB.out; omega⟩, HS2⟩
              | some x =>
                obtain ⟨LL, ivx⟩ := x
                obtain ⟨g, hpv, hge, hown⟩ := HOS.out
                subst hpv
                obtain rfl := HEV.out
                obtain ⟨hLn, iv, hiv1, hiv2, hivx, hbs⟩ := HRS.out _ rfl
                dsimp only at hivx hLn hown hbs
                subst hivx
                have HBLK := Aside0.mk hown.blk
                have HLN := Aside0.mk hLn
                have HIV := Aside0.mk (And.intro hiv1 hiv2)
                have HBS := Aside0.mk hbs
                clear hown hLn hiv1 hiv2 hbs HOS HRS hge
                go_upto_region 19 with fail
                go_loopg [16, 17] (LL.length + 1) (fun gf v16 v17 wx => ∃ j : Nat, v17 = .int .i64 (j : Int) ∧ Aside0 (gf + j = LL.length + 1 ∧ j ≤ LL.length) ∧ Aside0 (Kd.R k42 42 wx w12.heap.size (fun k => w12.heap.size ≤ k) v16 (LL.take j)) ∧ Aside0 (Below w12.heap.size w12 wx))
                case atStart => exact ⟨0, rfl, ⟨by omega, by omega⟩, ⟨by rw [List.take_zero]; exact Kd.R_nil _ _ _ _ _⟩, ⟨Below.refl _ _⟩⟩
                case round =>
                  obtain ⟨j, rfl, HJ, HG, HBG⟩ := hrel
                  cases gk with
                  | zero => exact absurd HJ.out.1 (by have := HJ.out.2; omega)
                  | succ g3 =>
                    by_cases c : j < LL.length
                    · have d1 : decide ((j : Int) < (LL.length : Int)) = true := decide_eq_true (by omega)
                      have d2 : decide (j < LL.length) = true := decide_eq_true c
                      have HJB := Aside0.mk c
                      obtain ⟨X, hX⟩ : ∃ x, rd_T42 LL (j : Int) = x := ⟨_, rfl⟩
                      have HX := Aside0.mk hX
                      have HWJ : Aside0 (wrap64 ((j : Int) + 1) = ((j + 1 : Nat) : Int)) := ⟨ct_w1 j (by have := HLN.out; omega)⟩
                      have HTK : Aside0 (LL.take j ++ [X] = LL.take (j + 1)) := ⟨by
                        rw [← hX]
                        unfold rd_T42
                        rw [Int.toNat_natCast, List.getD_eq_getElem?_getD, List.getElem?_eq_getElem c, List.take_succ_eq_append_getElem c]
                        rfl⟩
                      clear hX c
                      go_upto_region 24 with (first
                        | (go_at_call 16; with_reducible refine (Len_calls g LL (iv : Int) _ (HBLK.out.below HBG.out)).mono ?_; rintro er w13 ⟨rfl, rfl⟩)
                        | (go_at_call 19; with_reducible refine (At_calls g LL (iv : Int) (j : Int) _ (HBLK.out.below HBG.out) (Int.natCast_nonneg _) (Int.ofNat_lt.2 HJB.out)).mono ?_; rintro er w8 ⟨he, hb⟩
                           have he2 : er = .returned (.tuple #[.agg #[.string X.f0.f0, .int .u64 X.f0.f1, .int .i64 X.f0.f2, .string X.f1], .int .i64 0]) := by rw [he, ← HX.out]; rfl
                           subst he2
                           have HG1 := Aside0.mk (Kd.R_bound (Kd.R_below HG.out hb))
                           have HBG1 := Aside0.mk (below_step HBG.out hb)
                           clear he hb HG HBG)
                        | ((with_reducible refine gate_dst (N := 18) rfl ?_); refine box_event ?hg (N := 18) ?hd (cs := #[.string (⟨#[]⟩ : ByteArray), .int .u64 0, .int .i64 0, .string (⟨#[]⟩ : ByteArray)]) (t := 42) ?hr ?_; (case hd => rfl); (case hg => rfl); (case hr => first | (go_simp; done) | (go_simp; rfl)); intro gy hg w9 hbox hb
                           have BY := Aside0.mk hbox
                           have GY8 : Aside0 (w8.heap.size ≤ gy) := ⟨by rw [hg]; exact Nat.le_refl _⟩
                           have HB89 := Aside0.mk hb
                           have hz0 : w9.cell? ⟨gy, 0, none⟩ = some (.string (⟨#[]⟩ : ByteArray)) := (blk_cell hbox 0).trans rfl
                           have hz1 : w9.cell? ⟨gy, 1, none⟩ = some (.int .u64 0) := (blk_cell hbox 1).trans rfl
                           have hz2 : w9.cell? ⟨gy, 2, none⟩ = some (.int .i64 0) := (blk_cell hbox 2).trans rfl
                           have hz3 : w9.cell? ⟨gy, 3, none⟩ = some (.string (⟨#[]⟩ : ByteArray)) := (blk_cell hbox 3).trans rfl
                           have hf0 := blk_frozen hbox 0
                           have hf1 := blk_frozen hbox 1
                           have hf2 := blk_frozen hbox 2
                           have hf3 := blk_frozen hbox 3
                           clear hg hbox hb))
                      obtain ⟨W9, hW9⟩ : ∃ x, ((((w9.setCell ⟨gy, 0, none⟩ (.string X.f0.f0)).setCell ⟨gy, 1, none⟩ (.int .u64 X.f0.f1)).setCell ⟨gy, 2, none⟩ (.int .i64 X.f0.f2)).setCell ⟨gy, 3, none⟩ (.string X.f1)) = x := ⟨_, rfl⟩
                      rw [hW9]
                      have BY9 : W9.heap[gy]? = some (.cells #[.string X.f0.f0, .int .u64 X.f0.f1, .int .i64 X.f0.f2, .string X.f1] 42 (0, 0)) := by rw [← hW9]; exact (blk_put (cs := #[.string X.f0.f0, .int .u64 X.f0.f1, .int .i64 X.f0.f2, .string (⟨#[]⟩ : ByteArray)]) (blk_put (cs := #[.string X.f0.f0, .int .u64 X.f0.f1, .int .i64 0, .string (⟨#[]⟩ : ByteArray)]) (blk_put (cs := #[.string X.f0.f0, .int .u64 0, .int .i64 0, .string (⟨#[]⟩ : ByteArray)]) (blk_put (cs := #[.string (⟨#[]⟩ : ByteArray), .int .u64 0, .int .i64 0, .string (⟨#[]⟩ : ByteArray)]) BY.out 0 _ rfl) 1 _ rfl) 2 _ rfl) 3 _ rfl)
                      have HGY : Aside0 (w12.heap.size ≤ gy) := ⟨Nat.le_trans (below_size HBG1.out) GY8.out⟩
                      have HBG9 : Aside0 (Below w12.heap.size w12 W9) := ⟨by rw [← hW9]; exact below_set (below_set (below_set (below_set (below_step HBG1.out HB89.out) HGY.out) HGY.out) HGY.out) HGY.out⟩
                      have HG9 : Aside0 (Kd.R k42 42 W9 w12.heap.size (fun k => w12.heap.size ≤ k) u16 (LL.take j)) := ⟨Kd.R_mono (Kd.R_move (Kd.R_bound (Kd.R_below HG1.out HB89.out)) (fun k hk => by
                        have hkl : k ≠ gy := by have := hk.1.2.2.1; have := GY8.out; omega
                        rw [← hW9, Below.heap_setCell _ _ _ k hkl, Below.heap_setCell _ _ _ k hkl, Below.heap_setCell _ _ _ k hkl, Below.heap_setCell _ _ _ k hkl])) (fun k hk => hk.1.1)⟩
                      have m0 : W9.cell? ⟨gy, 0, none⟩ = some (.string X.f0.f0) := (blk_cell BY9 0).trans rfl
                      have m1 : W9.cell? ⟨gy, 1, none⟩ = some (.int .u64 X.f0.f1) := (blk_cell BY9 1).trans rfl
                      have m2 : W9.cell? ⟨gy, 2, none⟩ = some (.int .i64 X.f0.f2) := (blk_cell BY9 2).trans rfl
                      have m3 : W9.cell? ⟨gy, 3, none⟩ = some (.string X.f1) := (blk_cell BY9 3).trans rfl
                      clear hW9 BY9 hz0 hz1 hz2 hz3 hf0 hf1 hf2 hf3 BY GY8 HB89 HG1 HBG1
                      go_wp2_with (first
                        | ((with_reducible refine gate_builtin (b := .append) (xs := #[.tmp 93, .tmp 95]) rfl ?_); at_builtin; refine Kd.R_append k42 (w0 := w12) w12.heap.size rfl (.tmp 93) (.tmp 95) 23 42 (.agg #[(.string ⟨#[]⟩), (.int .u64 0), (.int .i64 0), (.string ⟨#[]⟩)]) 48 rfl Try.underlying23 info42 rfl (by decide) (by decide) u16 (LL.take j) X [.string X.f0.f0, .int .u64 X.f0.f1, .int .i64 X.f0.f2, .string X.f1] (fun k => w12.heap.size ≤ k) (fun _ => False) rfl rfl ?aP (fun _ hk => hk.elim) ?aF ?aO ?aB ?aS ?aL ?_
                           (case aP => exact k42_mkM _ _ _ X)
                           (case aB => exact HBG9.out)
                           (case aF => exact (fun k_ hk => Nat.le_trans (below_size HBG9.out) hk))
                           (case aO => exact HG9.out)
                           (case aS => exact below_size HBG9.out)
                           (case aL => have := HLN.out; rw [List.length_take]; omega)
                           intro v96 W12 ho hb hg hat_
                           rw [HTK.out] at ho
                           have HG12 := Aside0.mk ho
                           have HBG12 := Aside0.mk hb
                           clear ho hb hg hat_))
                      go_roundg g3
                      case measure => omega
                      case rel => exact ⟨j + 1, by rw [HWJ.out], ⟨by have := HJ.out.1; omega, HJB.out⟩, HG12, HBG12⟩
                    · have d1 : decide ((j : Int) < (LL.length : Int)) = false := decide_eq_false (by omega)
                      have d2 : decide (j < LL.length) = false := decide_eq_false c
                      have hjl : j = LL.length := by have := HJ.out.2; omega
                      subst hjl
                      rw [List.take_length] at HG
                      obtain ⟨Ag, cg, eg⟩ := Kd.R_slice HG.out
                      subst eg
                      have HGC := Aside0.mk (Kd.R_reads' HG.out).2.1
                      clear c HJ
                      go_upto_region 27 with (first
                        | (go_at_call 16; with_reducible refine (Len_calls g LL (iv : Int) _ (HBLK.out.below HBG.out)).mono ?_; rintro er w13 ⟨rfl, rfl⟩))
                      have HS3 : Aside0 (CtSt w g2 A52 c52 E A57 c57 (b ++ more) _) := ⟨HS2.out.step HBG.out⟩
                      have HK := Aside0.mk (Kd.R_reads' HG.out).2.2
                      clear HG HBG HBLK HS2
                      go_loopg [20, 21] 17 (fun gf v20 v21 wx => ∃ (m : Nat) (z : Bool), v20 = .bool z ∧ v21 = .int .i64 (m : Int) ∧ Aside0 (gf + m = 18 ∧ 1 ≤ m ∧ m ≤ 17) ∧ Aside0 (iv < m → z = true) ∧ Aside0 (CtSt w g2 A52 c52 E A57 c57 (b ++ more) wx) ∧ Aside0 (Kd.C k42 wx Ag LL.length LL))
                      case atStart => exact ⟨1, false, rfl, rfl, ⟨by omega, by omega, by omega⟩, ⟨fun h => by have := HIV.out; omega⟩, HS3, HK⟩
                      case round =>
                        clear HS3 HK
                        obtain ⟨m, z, rfl, rfl, HM, HZ, HS3, HK⟩ := hrel
                        cases gk with
                        | zero => exact absurd HM.out.1 (by have := HM.out.2; omega)
                        | succ g5 =>
                          by_cases c : m ≤ 16
                          · have d3 : decide ((m : Int) ≤ 16) = true := decide_eq_true (by omega)
                            have d4 : decide (m ≤ 16) = true := decide_eq_true c
                            obtain ⟨cc, gg, hbd, hgd⟩ := HBS.out m HM.out.2.1 c
                            have HMB := Aside0.mk c
                            have HBD := Aside0.mk hbd
                            have HGD := Aside0.mk hgd
                            have HWM : Aside0 (wrap64 ((m : Int) + 1) = ((m + 1 : Nat) : Int)) := ⟨ct_w1 m (by omega)⟩
                            clear hbd hgd c
                            go_upto_region 30 with (first
                              | (go_at_call 11; with_reducible refine (block_Build.calls k Ag cg LL (m : Int) cc gg _ HK.out HGC.out HBD.out).mono ?_; rintro er w14 ⟨vb, rfl, hob, hb⟩
                                 have HS4 := Aside0.mk (HS3.out.step (below_drew1 hb))
                                 have HK4 := Aside0.mk (Kd.C_below HK.out (below_drew1 hb))
                                 obtain ⟨Ac, c4, ec⟩ := Kd.R_slice hob
                                 subst ec
                                 have CB4 := Aside0.mk (Kd.C_below (Kd.R_reads' hob).2.2 (below_drew1 (Below.refl _ _)))
                                 clear hob hb HS3 HK))
                            by_cases hg0 : gg = 0
                            · subst hg0
                              by_cases hs : strOfNums cc = strOfNums t
                              · have s1 : ((strOfNums cc).toList == (strOfNums t).toList) = true := beq_iff_eq.mpr (by rw [hs])
                                have s3 : decide (strOfNums cc = strOfNums t) = true := decide_eq_true hs
                                clear hs
                                refine start_ (n := 12) (S := fun w' => Sem.run Try.prog (convert 24 9 (.slice Ac cc.length c4)) w' = Result.ok (.string (strOfNums cc)) w' ∧ w'.cell? ⟨g2, i, none⟩ = some (.slice At t.length ct) ∧ Sem.run Try.prog (convert 24 9 (.slice At t.length ct)) w' = Result.ok (.string (strOfNums t)) w') (ds := []) #[false, false, false, false, false, false, false, false, false, false, false, false] (by kernel_rfl) rfl rfl ⟨(Kd.C_string (P := Try.prog) (A := Ac) (c := c4) Try.underlying24 Try.underlying5 Try.underlying9 CB4.out), (HAT.out _ HS4.out).1, (Kd.C_string (P := Try.prog) (A := At) (c := ct) Try.underlying24 Try.underlying5 Try.underlying9 (HAT.out _ HS4.out).2)⟩ (fun hHeld => ?_)
                                refine pure_ (i := 0) (N := some 107) (v := ?_) (a' := ?_) #[true, false, false, false, false, false, false, false, false, false, false, false] rfl rfl (by kernel_rfl) (fun _ _ _ h => h) (Or.inl ⟨by rfl, ?_⟩) ?_ ?_
                                rotate_left
                                · intro w'
                                  go_simp
                                  with_reducible rfl
                                rotate_left
                                · simp only [Act.put, List.setIfInBounds_toArray, List.set_cons_zero, List.set_cons_succ, i64_w, i32_w]
                                  rfl
                                refine pure_ (i := 1) (N := some 108) (v := ?_) (a' := ?_) #[true, true, false, false, false, false, false, false, false, false, false, false] rfl rfl (by kernel_rfl) (fun _ _ _ h => h) (Or.inl ⟨by rfl, ?_⟩) ?_ ?_
                                rotate_left
                                · intro w'
                                  go_simp
                                  with_reducible rfl
                                rotate_left
                                · simp only [Act.put, List.setIfInBounds_toArray, List.set_cons_zero, List.set_cons_succ, i64_w, i32_w]
                                  rfl
                                refine pure_ (i := 2) (N := some 109) (v := ?_) (a' := ?_) #[true, true, true, false, false, false, false, false, false, false, false, false] rfl rfl (by kernel_rfl) (fun _ _ _ h => h) (Or.inl ⟨by rfl, ?_⟩) ?_ ?_
                                rotate_left
                                · intro w'
                                  go_simp
                                  with_reducible rfl
                                rotate_left
                                · simp only [Act.put, List.setIfInBounds_toArray, List.set_cons_zero, List.set_cons_succ, i64_w, i32_w]
                                  rfl
                                refine pure_ (i := 3) (N := some 110) (v := ?_) (a' := ?_) #[true, true, true, true, false, false, false, false, false, false, false, false] rfl rfl (by kernel_rfl) (fun _ _ _ h => h) (Or.inl ⟨by rfl, ?_⟩) ?_ ?_
                                rotate_left
                                · intro w'
                                  go_simp
                                  with_reducible rfl
                                rotate_left
                                · simp only [Act.put, List.setIfInBounds_toArray, List.set_cons_zero, List.set_cons_succ, i64_w, i32_w]
                                  rfl
                                refine pure_ (i := 5) (N := some 112) (v := ?_) (a' := ?_) #[true, true, true, true, false, true, false, false, false, false, false, false] rfl rfl (by kernel_rfl) (fun _ _ _ h => h) (Or.inl ⟨by rfl, ?_⟩) ?_ ?_
                                rotate_left
                                · intro w'
                                  go_simp
                                  with_reducible rfl
                                rotate_left
                                · simp only [Act.put, List.setIfInBounds_toArray, List.set_cons_zero, List.set_cons_succ, i64_w, i32_w]
                                  rfl
                                refine pure_ (i := 6) (N := some 113) (v := ?_) (a' := ?_) #[true, true, true, true, false, true, true, false, false, false, false, false] rfl rfl (by kernel_rfl) (fun _ _ _ h => h) (Or.inl ⟨by rfl, ?_⟩) ?_ ?_
                                rotate_left
                                · intro w'
                                  go_simp
                                  with_reducible rfl
                                rotate_left
                                · simp only [Act.put, List.setIfInBounds_toArray, List.set_cons_zero, List.set_cons_succ, i64_w, i32_w]
                                  rfl
                                refine pure_ (i := 7) (N := some 114) (v := ?_) (a' := ?_) #[true, true, true, true, false, true, true, true, false, false, false, false] rfl rfl (by kernel_rfl) (fun _ _ _ h => h) (Or.inl ⟨by rfl, ?_⟩) ?_ ?_
                                rotate_left
                                · intro w'
                                  go_simp
                                  with_reducible rfl
                                rotate_left
                                · simp only [Act.put, List.setIfInBounds_toArray, List.set_cons_zero, List.set_cons_succ, i64_w, i32_w]
                                  rfl
                                refine take_ (i := 4) (N := some 111) (v := ?_) (a' := ?_) #[true, true, true, true, true, true, true, true, false, false, false, false] rfl rfl (by kernel_rfl) (fun _ _ _ h => h) (Or.inl ⟨by rfl, ?_⟩) hHeld ?_ ?_
                                rotate_left
                                · rintro w' ⟨s0, s1, s2⟩
                                  go_simp
                                  with_reducible rfl
                                rotate_left
                                · simp only [Act.put, List.setIfInBounds_toArray, List.set_cons_zero, List.set_cons_succ, i64_w, i32_w]
                                  rfl
                                refine take_ (i := 8) (N := some 115) (v := ?_) (a' := ?_) #[true, true, true, true, true, true, true, true, true, false, false, false] rfl rfl (by kernel_rfl) (fun _ _ _ h => h) (Or.inl ⟨by rfl, ?_⟩) hHeld ?_ ?_
                                rotate_left
                                · rintro w' ⟨s0, s1, s2⟩
                                  go_simp
                                  with_reducible rfl
                                rotate_left
                                · simp only [Act.put, List.setIfInBounds_toArray, List.set_cons_zero, List.set_cons_succ, i64_w, i32_w]
                                  rfl
                                refine take_ (i := 9) (N := some 116) (v := ?_) (a' := ?_) #[true, true, true, true, true, true, true, true, true, true, false, false] rfl rfl (by kernel_rfl) (fun _ _ _ h => h) (Or.inl ⟨by rfl, ?_⟩) hHeld ?_ ?_
                                rotate_left
                                · rintro w' ⟨s0, s1, s2⟩
                                  go_simp
                                  with_reducible rfl
                                rotate_left
                                · simp only [Act.put, List.setIfInBounds_toArray, List.set_cons_zero, List.set_cons_succ, i64_w, i32_w]
                                  rfl
                                refine pure_ (i := 10) (N := some 117) (v := ?_) (a' := ?_) #[true, true, true, true, true, true, true, true, true, true, true, false] rfl rfl (by kernel_rfl) (fun _ _ _ h => h) (Or.inl ⟨by rfl, ?_⟩) ?_ ?_
                                rotate_left
                                · intro w'
                                  go_simp
                                  with_reducible rfl
                                rotate_left
                                · simp only [Act.put, List.setIfInBounds_toArray, List.set_cons_zero, List.set_cons_succ, i64_w, i32_w]
                                  rfl
                                refine pure_ (i := 11) (N := some 118) (v := ?_) (a' := ?_) #[true, true, true, true, true, true, true, true, true, true, true, true] rfl rfl (by kernel_rfl) (fun _ _ _ h => h) (Or.inl ⟨by rfl, ?_⟩) ?_ ?_
                                rotate_left
                                · intro w'
                                  go_simp
                                  with_reducible rfl
                                rotate_left
                                · simp only [Act.put, List.setIfInBounds_toArray, List.set_cons_zero, List.set_cons_succ, i64_w, i32_w]
                                  rfl
                                refine done_ (by kernel_rfl) ?_
                                clear hHeld s3
                                go_wp2
                                go_roundg g5
                                case measure => omega
                                case rel => exact ⟨m + 1, true, rfl, by rw [HWM.out], ⟨by have := HM.out.1; omega, by omega, by have := HMB.out; omega⟩, ⟨fun _ => rfl⟩, HS4, HK4⟩
                              · have s1 : ((strOfNums cc).toList == (strOfNums t).toList) = false := beq_eq_false_iff_ne.mpr (fun h => hs (by
                                  have h2 := ByteArray.toList_eq (strOfNums cc)
                                  have h3 := ByteArray.toList_eq (strOfNums t)
                                  rw [h2, h3] at h
                                  exact M.ba_ext h))
                                have HSN := Aside0.mk hs
                                clear hs
                                refine start_ (n := 12) (S := fun w' => Sem.run Try.prog (convert 24 9 (.slice Ac cc.length c4)) w' = Result.ok (.string (strOfNums cc)) w' ∧ w'.cell? ⟨g2, i, none⟩ = some (.slice At t.length ct) ∧ Sem.run Try.prog (convert 24 9 (.slice At t.length ct)) w' = Result.ok (.string (strOfNums t)) w') (ds := []) #[false, false, false, false, false, false, false, false, false, false, false, false] (by kernel_rfl) rfl rfl ⟨(Kd.C_string (P := Try.prog) (A := Ac) (c := c4) Try.underlying24 Try.underlying5 Try.underlying9 CB4.out), (HAT.out _ HS4.out).1, (Kd.C_string (P := Try.prog) (A := At) (c := ct) Try.underlying24 Try.underlying5 Try.underlying9 (HAT.out _ HS4.out).2)⟩ (fun hHeld => ?_)
                                refine pure_ (i := 0) (N := some 107) (v := ?_) (a' := ?_) #[true, false, false, false, false, false, false, false, false, false, false, false] rfl rfl (by kernel_rfl) (fun _ _ _ h => h) (Or.inl ⟨by rfl, ?_⟩) ?_ ?_
                                rotate_left
                                · intro w'
                                  go_simp
                                  with_reducible rfl
                                rotate_left
                                · simp only [Act.put, List.setIfInBounds_toArray, List.set_cons_zero, List.set_cons_succ, i64_w, i32_w]
                                  rfl
                                refine pure_ (i := 1) (N := some 108) (v := ?_) (a' := ?_) #[true, true, false, false, false, false, false, false, false, false, false, false] rfl rfl (by kernel_rfl) (fun _ _ _ h => h) (Or.inl ⟨by rfl, ?_⟩) ?_ ?_
                                rotate_left
                                · intro w'
                                  go_simp
                                  with_reducible rfl
                                rotate_left
                                · simp only [Act.put, List.setIfInBounds_toArray, List.set_cons_zero, List.set_cons_succ, i64_w, i32_w]
                                  rfl
                                refine pure_ (i := 2) (N := some 109) (v := ?_) (a' := ?_) #[true, true, true, false, false, false, false, false, false, false, false, false] rfl rfl (by kernel_rfl) (fun _ _ _ h => h) (Or.inl ⟨by rfl, ?_⟩) ?_ ?_
                                rotate_left
                                · intro w'
                                  go_simp
                                  with_reducible rfl
                                rotate_left
                                · simp only [Act.put, List.setIfInBounds_toArray, List.set_cons_zero, List.set_cons_succ, i64_w, i32_w]
                                  rfl
                                refine pure_ (i := 3) (N := some 110) (v := ?_) (a' := ?_) #[true, true, true, true, false, false, false, false, false, false, false, false] rfl rfl (by kernel_rfl) (fun _ _ _ h => h) (Or.inl ⟨by rfl, ?_⟩) ?_ ?_
                                rotate_left
                                · intro w'
                                  go_simp
                                  with_reducible rfl
                                rotate_left
                                · simp only [Act.put, List.setIfInBounds_toArray, List.set_cons_zero, List.set_cons_succ, i64_w, i32_w]
                                  rfl
                                refine pure_ (i := 5) (N := some 112) (v := ?_) (a' := ?_) #[true, true, true, true, false, true, false, false, false, false, false, false] rfl rfl (by kernel_rfl) (fun _ _ _ h => h) (Or.inl ⟨by rfl, ?_⟩) ?_ ?_
                                rotate_left
                                · intro w'
                                  go_simp
                                  with_reducible rfl
                                rotate_left
                                · simp only [Act.put, List.setIfInBounds_toArray, List.set_cons_zero, List.set_cons_succ, i64_w, i32_w]
                                  rfl
                                refine pure_ (i := 6) (N := some 113) (v := ?_) (a' := ?_) #[true, true, true, true, false, true, true, false, false, false, false, false] rfl rfl (by kernel_rfl) (fun _ _ _ h => h) (Or.inl ⟨by rfl, ?_⟩) ?_ ?_
                                rotate_left
                                · intro w'
                                  go_simp
                                  with_reducible rfl
                                rotate_left
                                · simp only [Act.put, List.setIfInBounds_toArray, List.set_cons_zero, List.set_cons_succ, i64_w, i32_w]
                                  rfl
                                refine pure_ (i := 7) (N := some 114) (v := ?_) (a' := ?_) #[true, true, true, true, false, true, true, true, false, false, false, false] rfl rfl (by kernel_rfl) (fun _ _ _ h => h) (Or.inl ⟨by rfl, ?_⟩) ?_ ?_
                                rotate_left
                                · intro w'
                                  go_simp
                                  with_reducible rfl
                                rotate_left
                                · simp only [Act.put, List.setIfInBounds_toArray, List.set_cons_zero, List.set_cons_succ, i64_w, i32_w]
                                  rfl
                                refine take_ (i := 4) (N := some 111) (v := ?_) (a' := ?_) #[true, true, true, true, true, true, true, true, false, false, false, false] rfl rfl (by kernel_rfl) (fun _ _ _ h => h) (Or.inl ⟨by rfl, ?_⟩) hHeld ?_ ?_
                                rotate_left
                                · rintro w' ⟨s0, s1, s2⟩
                                  go_simp
                                  with_reducible rfl
                                rotate_left
                                · simp only [Act.put, List.setIfInBounds_toArray, List.set_cons_zero, List.set_cons_succ, i64_w, i32_w]
                                  rfl
                                refine take_ (i := 8) (N := some 115) (v := ?_) (a' := ?_) #[true, true, true, true, true, true, true, true, true, false, false, false] rfl rfl (by kernel_rfl) (fun _ _ _ h => h) (Or.inl ⟨by rfl, ?_⟩) hHeld ?_ ?_
                                rotate_left
                                · rintro w' ⟨s0, s1, s2⟩
                                  go_simp
                                  with_reducible rfl
                                rotate_left
                                · simp only [Act.put, List.setIfInBounds_toArray, List.set_cons_zero, List.set_cons_succ, i64_w, i32_w]
                                  rfl
                                refine take_ (i := 9) (N := some 116) (v := ?_) (a' := ?_) #[true, true, true, true, true, true, true, true, true, true, false, false] rfl rfl (by kernel_rfl) (fun _ _ _ h => h) (Or.inl ⟨by rfl, ?_⟩) hHeld ?_ ?_
                                rotate_left
                                · rintro w' ⟨s0, s1, s2⟩
                                  go_simp
                                  with_reducible rfl
                                rotate_left
                                · simp only [Act.put, List.setIfInBounds_toArray, List.set_cons_zero, List.set_cons_succ, i64_w, i32_w]
                                  rfl
                                refine pure_ (i := 10) (N := some 117) (v := ?_) (a' := ?_) #[true, true, true, true, true, true, true, true, true, true, true, false] rfl rfl (by kernel_rfl) (fun _ _ _ h => h) (Or.inl ⟨by rfl, ?_⟩) ?_ ?_
                                rotate_left
                                · intro w'
                                  go_simp
                                  with_reducible rfl
                                rotate_left
                                · simp only [Act.put, List.setIfInBounds_toArray, List.set_cons_zero, List.set_cons_succ, i64_w, i32_w]
                                  rfl
                                refine pure_ (i := 11) (N := some 118) (v := ?_) (a' := ?_) #[true, true, true, true, true, true, true, true, true, true, true, true] rfl rfl (by kernel_rfl) (fun _ _ _ h => h) (Or.inl ⟨by rfl, ?_⟩) ?_ ?_
                                rotate_left
                                · intro w'
                                  go_simp
                                  with_reducible rfl
                                rotate_left
                                · simp only [Act.put, List.setIfInBounds_toArray, List.set_cons_zero, List.set_cons_succ, i64_w, i32_w]
                                  rfl
                                refine done_ (by kernel_rfl) ?_
                                clear hHeld
                                go_wp2
                                go_roundg g5
                                case measure => omega
                                case rel => exact ⟨m + 1, z, rfl, by rw [HWM.out], ⟨by have := HM.out.1; omega, by omega, by have := HMB.out; omega⟩, ⟨fun h => by
                                  by_cases hm : m = iv
                                  · exact absurd (HGD.out hm).2 HSN.out
                                  · exact HZ.out (by omega)⟩, HS4, HK4⟩
                            · have s1 : (gg == 0) = false := beq_eq_false_iff_ne.mpr hg0
                              have s2 : decide (gg = 0) = false := decide_eq_false hg0
                              have HGN := Aside0.mk hg0
                              clear hg0
                              refine start_ (n := 12) (S := fun w' => True) (ds := []) #[false, false, false, false, false, false, false, false, false, false, false, false] (by kernel_rfl) rfl rfl trivial (fun hHeld => ?_)
                              refine pure_ (i := 0) (N := some 107) (v := ?_) (a' := ?_) #[true, false, false, false, false, false, false, false, false, false, false, false] rfl rfl (by kernel_rfl) (fun _ _ _ h => h) (Or.inl ⟨by rfl, ?_⟩) ?_ ?_
                              rotate_left
                              · intro w'
                                go_simp
                                with_reducible rfl
                              rotate_left
                              · simp only [Act.put, List.setIfInBounds_toArray, List.set_cons_zero, List.set_cons_succ, i64_w, i32_w]
                                rfl
                              refine pure_ (i := 1) (N := some 108) (v := ?_) (a' := ?_) #[true, true, false, false, false, false, false, false, false, false, false, false] rfl rfl (by kernel_rfl) (fun _ _ _ h => h) (Or.inl ⟨by rfl, ?_⟩) ?_ ?_
                              rotate_left
                              · intro w'
                                go_simp
                                with_reducible rfl
                              rotate_left
                              · simp only [Act.put, List.setIfInBounds_toArray, List.set_cons_zero, List.set_cons_succ, i64_w, i32_w]
                                rfl
                              refine pure_ (i := 2) (N := some 109) (v := ?_) (a' := ?_) #[true, true, true, false, false, false, false, false, false, false, false, false] rfl rfl (by kernel_rfl) (fun _ _ _ h => h) (Or.inl ⟨by rfl, ?_⟩) ?_ ?_
                              rotate_left
                              · intro w'
                                go_simp
                                with_reducible rfl
                              rotate_left
                              · simp only [Act.put, List.setIfInBounds_toArray, List.set_cons_zero, List.set_cons_succ, i64_w, i32_w]
                                rfl
                              refine pure_ (i := 3) (N := some 110) (v := undef) (a' := ?_) #[true, true, true, true, false, false, false, false, false, false, false, false] rfl rfl (by kernel_rfl) (fun _ _ _ h => h) (Or.inr ⟨by rfl, rfl⟩) ?_ ?_
                              rotate_left
                              · simp only [Act.put, List.setIfInBounds_toArray, List.set_cons_zero, List.set_cons_succ, i64_w, i32_w]
                                rfl
                              refine pure_ (i := 4) (N := some 111) (v := undef) (a' := ?_) #[true, true, true, true, true, false, false, false, false, false, false, false] rfl rfl (by kernel_rfl) (fun _ _ _ h => h) (Or.inr ⟨by rfl, rfl⟩) ?_ ?_
                              rotate_left
                              · simp only [Act.put, List.setIfInBounds_toArray, List.set_cons_zero, List.set_cons_succ, i64_w, i32_w]
                                rfl
                              refine pure_ (i := 5) (N := some 112) (v := undef) (a' := ?_) #[true, true, true, true, true, true, false, false, false, false, false, false] rfl rfl (by kernel_rfl) (fun _ _ _ h => h) (Or.inr ⟨by rfl, rfl⟩) ?_ ?_
                              rotate_left
                              · simp only [Act.put, List.setIfInBounds_toArray, List.set_cons_zero, List.set_cons_succ, i64_w, i32_w]
                                rfl
                              refine pure_ (i := 6) (N := some 113) (v := undef) (a' := ?_) #[true, true, true, true, true, true, true, false, false, false, false, false] rfl rfl (by kernel_rfl) (fun _ _ _ h => h) (Or.inr ⟨by rfl, rfl⟩) ?_ ?_
                              rotate_left
                              · simp only [Act.put, List.setIfInBounds_toArray, List.set_cons_zero, List.set_cons_succ, i64_w, i32_w]
                                rfl
                              refine pure_ (i := 7) (N := some 114) (v := undef) (a' := ?_) #[true, true, true, true, true, true, true, true, false, false, false, false] rfl rfl (by kernel_rfl) (fun _ _ _ h => h) (Or.inr ⟨by rfl, rfl⟩) ?_ ?_
                              rotate_left
                              · simp only [Act.put, List.setIfInBounds_toArray, List.set_cons_zero, List.set_cons_succ, i64_w, i32_w]
                                rfl
                              refine pure_ (i := 8) (N := some 115) (v := undef) (a' := ?_) #[true, true, true, true, true, true, true, true, true, false, false, false] rfl rfl (by kernel_rfl) (fun _ _ _ h => h) (Or.inr ⟨by rfl, rfl⟩) ?_ ?_
                              rotate_left
                              · simp only [Act.put, List.setIfInBounds_toArray, List.set_cons_zero, List.set_cons_succ, i64_w, i32_w]
                                rfl
                              refine pure_ (i := 9) (N := some 116) (v := undef) (a' := ?_) #[true, true, true, true, true, true, true, true, true, true, false, false] rfl rfl (by kernel_rfl) (fun _ _ _ h => h) (Or.inr ⟨by rfl, rfl⟩) ?_ ?_
                              rotate_left
                              · simp only [Act.put, List.setIfInBounds_toArray, List.set_cons_zero, List.set_cons_succ, i64_w, i32_w]
                                rfl
                              refine pure_ (i := 10) (N := some 117) (v := undef) (a' := ?_) #[true, true, true, true, true, true, true, true, true, true, true, false] rfl rfl (by kernel_rfl) (fun _ _ _ h => h) (Or.inr ⟨by rfl, rfl⟩) ?_ ?_
                              rotate_left
                              · simp only [Act.put, List.setIfInBounds_toArray, List.set_cons_zero, List.set_cons_succ, i64_w, i32_w]
                                rfl
                              refine pure_ (i := 11) (N := some 118) (v := ?_) (a' := ?_) #[true, true, true, true, true, true, true, true, true, true, true, true] rfl rfl (by kernel_rfl) (fun _ _ _ h => h) (Or.inl ⟨by rfl, ?_⟩) ?_ ?_
                              rotate_left
                              · intro w'
                                go_simp
                                with_reducible rfl
                              rotate_left
                              · simp only [Act.put, List.setIfInBounds_toArray, List.set_cons_zero, List.set_cons_succ, i64_w, i32_w]
                                rfl
                              refine done_ (by kernel_rfl) ?_
                              clear hHeld
                              go_wp2
                              go_roundg g5
                              case measure => omega
                              case rel => exact ⟨m + 1, z, rfl, by rw [HWM.out], ⟨by have := HM.out.1; omega, by omega, by have := HMB.out; omega⟩, ⟨fun h => by
                                by_cases hm : m = iv
                                · exact absurd (HGD.out hm).1 HGN.out
                                · exact HZ.out (by omega)⟩, HS4, HK4⟩
                          · have d3 : decide ((m : Int) ≤ 16) = false := decide_eq_false (by omega)
                            have d4 : decide (m ≤ 16) = false := decide_eq_false c
                            obtain rfl : z = true := HZ.out (by have := HIV.out; omega)
                            clear c
                            go_wp2
                            go_roundg g1
                            case measure => omega
                            case rel => exact ⟨i + 1, by rw [HW.out], ⟨by have := HI.out.1; omega, by have := HIB.out; omega⟩, HS3⟩
            · have c1b : decide ((i : Int) < 2) = false := decide_eq_false (by omega)
              have c1c : decide (i < 2) = false := decide_eq_false c
              clear c
              go_wp2
              go_ret
              exact ⟨by first | rfl | simp, HS.out.bel⟩
end Go.Proofs.Ytppkpleagnddeaa.B
namespace Go.Proofs.Ytppkpleagnddeaa.P
open Go.RowKit Go.Proofs.YtppkpleagnddeaaW.PrintWords
theorem staddlelaw11_BlockCuts.calls (k : Nat) (A0 : Option Addr) (c0 : Nat) (l0 : List S42) (a1 a2 : Int) (A3 : Option Addr) (c3 : Nat) (more : List Int) (r : Bool) (w : World) (hr0 : Kd.C k42 w A0 l0.length l0) (hc0 : l0.length ≤ c0) (hr3 : Kd.C (Kd.int .u8) w A3 more.length more) (hc3 : more.length ≤ c3) (hf : B.Cuts k l0 a1 a2 more ∧ true = r) :
    Calls Try.prog 7 #[.slice A0 l0.length c0, .int .i64 a1, .int .i64 a2, .slice A3 more.length c3] w fun e w' => e = .returned (.bool r) ∧ Below w.heap.size w w' := by
  obtain ⟨hf, rfl⟩ := hf
  exact B.cuts_calls k A0 c0 l0 a1 a2 A3 c3 more w hr0 hc0 hr3 hc3 hf
end Go.Proofs.Ytppkpleagnddeaa.P
