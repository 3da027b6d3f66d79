/- A table of which some bytes among its blocks are others: it is opened as ever; a block of which a byte is another is refused. Plain Lean. -/
import Derived.Test.YthdemdjobgbpdaaCD
namespace Go.Proofs.Ythdemdjobgbpdaa.Q
open Go.RowKit Go.Proofs.YthdemdjobgbpdaaW.PrintWords Go.Proofs.YthdemdjobgbpdaaW.PrintLast Go.Proofs.YthdemdjobgbpdaaW.PrintMore Go.Proofs.Ythdemdjobgbpdaa.P Go.Proofs.Ythdemdjobgbpdaa.M Go.Proofs.Ythdemdjobgbpdaa.B Go.Proofs.Ythdemdjobgbpdaa.T
set_option linter.unusedVariables false
/-- the same table, with other bytes for its blocks -/
def tabO (out : List Int) (iv : Nat) (ss : List (List S47)) (fl : List Int) (n : Nat) : List Int :=
  out ++ ((fl ++ sm fl) ++ ((ixB iv ss ++ sm (ixB iv ss)) ++ footB out.length fl.length (ixB iv ss).length n))
theorem open_tabO {l : List S47} {iv : Nat} {ss : List (List S47)} {fl : List Int} (h : TabOf l iv ss fl) (out : List Int) (hob : IsB out) (hoe : out.length = (outB iv ss).length) :
    ∃ K, ∀ k, K ≤ k → OpenOk k (tabO out iv ss fl l.length) (endB iv ss fl) out.length fl.length (out.length + fl.length + 4) (ixB iv ss).length (fun i => (footN out.length fl.length (ixB iv ss).length l.length i : Int)) fl (ixB iv ss) (idxOf 0 (ss.map (cutOf iv))) 1 (plsOf 0 (ss.map (cutOf iv))) := by
  have hol : out.length ≤ 600001200 := by rw [hoe]; exact h.out_len
  have hil := h.ix_len
  have hfl := h.fil.len
  have hll := h.len
  obtain ⟨A, hA, hAl⟩ : ∃ A, tabO out iv ss fl l.length = A ++ footB out.length fl.length (ixB iv ss).length l.length ∧ A.length = endB iv ss fl := by
    refine ⟨out ++ ((fl ++ sm fl) ++ (ixB iv ss ++ sm (ixB iv ss))), by simp only [tabO, List.append_assoc], ?_⟩
    simp only [List.length_append, sm_length, endB, hoe]
    omega
  have hB : IsB (tabO out iv ss fl l.length) := hob.append ((h.fil.b.append (sm_IsB _)).append (((lay_IsB 1 (by decide) _).append (sm_IsB _)).append ((fx_IsB _ _).append ((fx_IsB _ _).append ((fx_IsB _ _).append ((fx_IsB _ _).append ((fx_IsB _ _).append (IsB.bytesOf _))))))))
  have hT : (tabO out iv ss fl l.length).length = out.length + fl.length + (ixB iv ss).length + 36 ∧ (tabO out iv ss fl l.length).length ≤ 700000000 := by
    have h3 := h.fil.len
    have : (tabO out iv ss fl l.length).length = out.length + fl.length + (ixB iv ss).length + 36 := by
      simp only [tabO, List.length_append, sm_length, footB_len]
      omega
    exact ⟨this, by omega⟩
  obtain ⟨K0, h0⟩ := Ev.all 5 (fun i hi => foot_ev out.length fl.length (ixB iv ss).length l.length (by omega) i hi)
  have p0 := Part_ev out fl (sm fl) ((ixB iv ss ++ sm (ixB iv ss)) ++ footB out.length fl.length (ixB iv ss).length l.length) (sm_length _) (by rw [← List.append_assoc fl]; exact hB) (by rw [← List.append_assoc fl]; have := hT.2; unfold tabO at this; omega)
  rw [← List.append_assoc fl] at p0
  have e0 : ((fxd (sm fl) : Int) == mask (crc fl)) = true := by
    rw [sm, fxd_fx, Nat.mod_eq_of_lt (by have := (mask_range (crc fl)).2; have := mask_nat (crc fl); omega), mask_nat]
    exact beq_self_eq_true _
  rw [e0] at p0
  obtain ⟨K1, h1⟩ := p0
  have hq : (out ++ (fl ++ sm fl)) ++ (ixB iv ss ++ (sm (ixB iv ss) ++ footB out.length fl.length (ixB iv ss).length l.length)) = tabO out iv ss fl l.length := by simp only [tabO, List.append_assoc]
  have p1 := Part_ev (out ++ (fl ++ sm fl)) (ixB iv ss) (sm (ixB iv ss)) (footB out.length fl.length (ixB iv ss).length l.length) (sm_length _) (by rw [hq]; exact hB) (by rw [hq]; omega)
  rw [hq] at p1
  have e1 : ((fxd (sm (ixB iv ss)) : Int) == mask (crc (ixB iv ss))) = true := by
    rw [sm, fxd_fx, Nat.mod_eq_of_lt (by have := (mask_range (crc (ixB iv ss))).2; have := mask_nat (crc (ixB iv ss)); omega), mask_nat]
    exact beq_self_eq_true _
  have l1 : (out ++ (fl ++ sm fl)).length = out.length + fl.length + 4 := by simp only [List.length_append, sm_length]; omega
  rw [e1, l1] at p1
  obtain ⟨K2, h2⟩ := p1
  obtain ⟨K3, h3⟩ := open_gb_ev 1 (by decide) (by decide) (idxOf 0 (ss.map (cutOf iv))) h.ix_ck h.ix_w (by rw [h.ix_n]; have := h.ss_len; omega)
  have hmm : (ss.map (cutOf iv)).map (·.2) = ss.map (lay iv) := by rw [List.map_map]; rfl
  obtain ⟨K4, h4⟩ := places_ev (tabO out iv ss fl l.length).length (ss.map (cutOf iv)) 0 (by rw [hmm]; have := h.out_len; unfold outB at this; omega) (fun x hx => by
    obtain ⟨s, hs, rfl⟩ := List.mem_map.mp hx
    have h5 : (lay iv s).length ≤ (outB iv ss).length := by
      have h6 : (lay iv s ++ sm (lay iv s)).Sublist (outB iv ss) := by
        unfold outB outOf
        exact List.sublist_flatten_of_mem (List.mem_map.mpr ⟨lay iv s, List.mem_map.mpr ⟨s, hs, rfl⟩, rfl⟩)
      have := h6.length_le
      rw [List.length_append] at this
      omega
    show (lay iv s).length ≤ _
    rw [← hoe] at h5
    have := hT.1
    omega)
  rw [hmm, Nat.zero_add] at h4
  have h4 : ∀ k, K4 ≤ k → Places k (tabO out iv ss fl l.length).length (idxOf 0 (ss.map (cutOf iv))) 0 (plsOf 0 (ss.map (cutOf iv))) out.length := fun k hk => by rw [hoe]; exact h4 k hk
  refine ⟨K0 + K1 + K2 + K3 + K4, fun k hk => ⟨by rw [hA, List.length_append, footB_len, hAl], by have := hT.2; omega, ?_, fun i hi => ⟨0, ?_⟩, rfl, rfl, rfl, rfl, rfl, by unfold endB; omega, h1 k (by omega), h2 k (by omega), h3 k (by omega), ?_, by rw [h.ix_n]; have := h.ss_len; omega, lay_tail 1 _, h4 k (by omega)⟩⟩
  · rw [hA, ← hAl, drop_pre]
    have : (footB out.length fl.length (ixB iv ss).length l.length).drop 20 = bytesOf tabMagic := (drop_fx _ _ 16).trans ((drop_fx _ _ 12).trans ((drop_fx _ _ 8).trans ((drop_fx _ _ 4).trans (drop_fx _ _ 0))))
    rw [this]
    rfl
  · rw [hA, ← hAl, drop_pre]
    exact h0 k (by omega) i hi
  · intro e
    have h5 := congrArg List.length e
    rw [h.ix_n] at h5
    have h6 : ss = [] := List.length_eq_zero_iff.mp h5
    apply h.ne
    rw [← h.seg.fl, h6]
    rfl
/-- how the blocks of a table are read: each as it was laid, or refused -/
def Reads (B : List Int) (iv : Nat) (ss : List (List S47)) (ok : List (List S47) → Prop) : Prop :=
  ∀ (a : List (List S47)) (s : List S47) (t : List (List S47)), ss = a ++ s :: t → (ok a ∧ Ev (fun k => tread_f k B ⟨lastK s, (outB iv a).length, (lay iv s).length⟩) (some (s, (iv : Int)))) ∨ (¬ ok a ∧ Ev (fun k => tread_f k B ⟨lastK s, (outB iv a).length, (lay iv s).length⟩) none)
theorem allO_ev {l : List S47} {iv : Nat} {ss : List (List S47)} {fl : List Int} (h : TabOf l iv ss fl) {B : List Int} {ok : List (List S47) → Prop} (hr : Reads B iv ss ok) : ∀ (t a : List (List S47)), ss = a ++ t → (∃ c s d, t = c ++ s :: d ∧ ¬ ok (a ++ c)) → Ev (fun k => all_f k B (plsOf (outB iv a).length (t.map (cutOf iv))) a.flatten) none
  | [], a, ha, ⟨c, s, d, hc, _⟩ => by simp at hc
  | s :: t, a, ha, hx => by
    simp only [List.map_cons, plsOf, all_f]
    rcases hr a s t ha with ⟨o1, o2⟩ | ⟨o1, o2⟩
    · have hp := ck_pair l none h.ck0
      rw [← h.seg.fl, ha] at hp
      have hxx := (List.pairwise_append.mp (by rw [List.flatten_append] at hp; exact hp)).2.2
      have hn := next_ev (acc := a.flatten) (s := s) (fun x hx1 y hy => hxx x hx1 y (by rw [List.flatten_cons]; exact List.mem_append_left _ hy)) (h.seg.ne s (by rw [ha]; simp))
      have hx2 : ∃ c s' d, t = c ++ s' :: d ∧ ¬ ok (a ++ [s] ++ c) := by
        obtain ⟨c, s', d, hc, hno⟩ := hx
        cases c with
        | nil => exact absurd o1 (by rw [List.append_nil] at hno; exact hno)
        | cons c0 c =>
          rw [List.cons_append] at hc
          injection hc with h1 h2
          exact ⟨c, s', d, h2, by rw [List.append_assoc, List.singleton_append, h1]; exact hno⟩
      have ih := allO_ev h hr t (a ++ [s]) (by rw [ha, List.append_assoc]; rfl) hx2
      have hlen : (outB iv (a ++ [s])).length = (outB iv a).length + (lay iv s).length + 4 := by
        rw [outB_app, outB_cons]
        simp only [List.length_append, sm_length, outB, outOf, List.map_nil, List.flatten_nil, List.length_nil]
        omega
      have hfl : (a ++ [s]).flatten = a.flatten ++ s := by rw [List.flatten_append]; simp
      rw [hlen, hfl] at ih
      refine Ev.bind o2 ?_
      simp only []
      rw [hn]
      simp only [Option.bind_some]
      refine Ev.ifT ?_ ih
      have h1 : a.flatten.length + s.length ≤ l.length := by
        rw [← h.seg.fl, ha, List.flatten_append, List.flatten_cons, List.length_append, List.length_append]
        omega
      have := h.len
      omega
    · exact Ev.bind o2 (Ev.now _)
theorem alltO_ev {l : List S47} {iv : Nat} {ss : List (List S47)} {fl : List Int} (h : TabOf l iv ss fl) {B : List Int} {ok : List (List S47) → Prop} (hr : Reads B iv ss ok) (hx : ∃ c s d, ss = c ++ s :: d ∧ ¬ ok c) (cnt : Int) : Ev (fun k => all_t k B (plsOf 0 (ss.map (cutOf iv))) cnt) none := by
  have ha := allO_ev h hr ss [] rfl (by obtain ⟨c, s, d, h1, h2⟩ := hx; exact ⟨c, s, d, h1, h2⟩)
  have e0 : (outB iv []).length = 0 := rfl
  rw [e0] at ha
  simp only [all_t]
  exact Ev.ifT (by rw [plsOf_length, List.length_map]; have := h.ss_len; omega) (Ev.bind ha (Ev.now _))
theorem getO_ev {l : List S47} {iv : Nat} {ss : List (List S47)} {fl : List Int} (h : TabOf l iv ss fl) {B : List Int} {ok : List (List S47) → Prop} (hrd : Reads B iv ss ok) (user : ByteArray) (seq : Int) (hu : user.size ≤ 9223372036854775807) :
    ∃ v, Ev (fun k => get_f k B fl (plsOf 0 (ss.map (cutOf iv))) user seq) v ∧ (v = known l user seq ∨ v = (noText, 0, 122)) := by
  obtain ⟨m, hm⟩ := h.fil.any user hu
  cases m with
  | false =>
    have hk : known l user seq = (noText, 0, 0) := tell_none l _ user (fun e he heq => by
      have := Ev.one (h.fil.may user (List.mem_map.mpr ⟨e, he, heq⟩)) hm
      cases this)
    refine ⟨(noText, 0, 0), ?_, .inl hk.symm⟩
    simp only [get_f]
    exact Ev.bind hm (Ev.ifT rfl (Ev.now _))
  | true =>
    have go : ∀ v, Ev (fun k => (bs_f k (plsOf 0 (ss.map (cutOf iv))) ⟨user, capSeq seq, 1⟩).bind fun i => if (plsOf 0 (ss.map (cutOf iv))).length ≤ i.1 then (if i.1 = (plsOf 0 (ss.map (cutOf iv))).length then some (noText, 0, 0) else none) else (tread_f k B (rd_TPl (plsOf 0 (ss.map (cutOf iv))) (i.1 : Int))).bind fun r => match r with | none => some (noText, 0, 122) | some x => if 0 ≤ x.2 then (find_f k x.1 x.2.toNat ⟨user, capSeq seq, 1⟩).bind fun n => if n ≤ x.1.length then some (tell_f x.1 n user) else none else none) v → Ev (fun k => get_f k B fl (plsOf 0 (ss.map (cutOf iv))) user seq) v := by
      intro v hv
      simp only [get_f]
      exact Ev.bind hm (Ev.ifF (by decide) hv)
    obtain ⟨q, hq⟩ : ∃ q : S45, (⟨user, capSeq seq, 1⟩ : S45) = q := ⟨_, rfl⟩
    unfold known
    rw [hq] at go ⊢
    have hpl : (plsOf 0 (ss.map (cutOf iv))).length = ss.length := by rw [plsOf_length, List.length_map]
    have hkey : ∀ (i : Nat) (hi : i < ss.length), rd_TPl (plsOf 0 (ss.map (cutOf iv))) (i : Int) = ⟨lastK ss[i], (outB iv (ss.take i)).length, (lay iv ss[i]).length⟩ := by
      intro i hi
      have e := rd_pls iv (ss.take i) ss[i] (ss.drop (i + 1)) 0
      have e2 : ss.take i ++ ss[i] :: ss.drop (i + 1) = ss := by rw [← List.drop_eq_getElem_cons hi, List.take_append_drop]
      rw [e2, List.length_take, Nat.min_eq_left (by omega), Nat.zero_add] at e
      exact e
    have hp := ck_pair l none h.ck0
    rw [← h.seg.fl] at hp
    have hps := (List.pairwise_flatten.mp hp).2
    obtain ⟨r, r1, r2, r3, r4⟩ := bs_ev (plsOf 0 (ss.map (cutOf iv))) q (fun i => kcmp (rd_TPl (plsOf 0 (ss.map (cutOf iv))) (i : Int)).f0.f0 (rd_TPl (plsOf 0 (ss.map (cutOf iv))) (i : Int)).f0.f1 (rd_TPl (plsOf 0 (ss.map (cutOf iv))) (i : Int)).f0.f2 q.f0 q.f1 q.f2) (fun i hi => rfl)
      (fun i j hij hj hc => by
        rw [hpl] at hj
        rw [hkey j hj] at hc
        rw [hkey i (by omega)]
        obtain ⟨a, ha, ea⟩ := lastK_mem (h.seg.ne ss[i] (List.getElem_mem _))
        obtain ⟨b, hb, eb⟩ := lastK_mem (h.seg.ne ss[j] (List.getElem_mem _))
        have hab := List.pairwise_iff_getElem.mp hps i j (by omega) hj hij a ha b hb
        simp only [ea, eb] at hc ⊢
        exact kq_step (a := a) (b := b) hab (Int.le_of_lt hc))
      (ss.length + 1) 0 (plsOf 0 (ss.map (cutOf iv))).length (by rw [hpl]; omega) (by omega) (Nat.le_refl _) (fun m hm => by omega) (fun m h1 h2 => by omega)
    rw [hpl] at r1
    have hbs : ∃ bo, Ev (fun k => bs_f k (plsOf 0 (ss.map (cutOf iv))) q) (r, bo) := by
      have hl : ∀ (k i j g : Nat), g ≤ k → bs_l g (plsOf 0 (ss.map (cutOf iv))) q i j = some r → bs_l k (plsOf 0 (ss.map (cutOf iv))) q i j = some r := bs_mono _ _ r
      by_cases hrl : r < (plsOf 0 (ss.map (cutOf iv))).length
      · refine ⟨kcmp (rd_TPl (plsOf 0 (ss.map (cutOf iv))) (r : Int)).f0.f0 (rd_TPl (plsOf 0 (ss.map (cutOf iv))) (r : Int)).f0.f1 (rd_TPl (plsOf 0 (ss.map (cutOf iv))) (r : Int)).f0.f2 q.f0 q.f1 q.f2 == 0, ss.length + 1, fun k hk => ?_⟩
        unfold bs_f
        dsimp only
        rw [if_pos (by rw [hpl]; have := h.ss_len; omega), hl k _ _ _ hk r2, Option.bind_some, if_pos hrl]
        rfl
      · refine ⟨false, ss.length + 1, fun k hk => ?_⟩
        unfold bs_f
        dsimp only
        rw [if_pos (by rw [hpl]; have := h.ss_len; omega), hl k _ _ _ hk r2, Option.bind_some, if_neg hrl]
    obtain ⟨bo, hbs⟩ := hbs
    have hbelow : ∀ x ∈ (ss.take r).flatten, kq x q < 0 := by
      intro x hx
      obtain ⟨s, hs, hxs⟩ := List.mem_flatten.mp hx
      obtain ⟨i, hi, rfl⟩ := List.getElem_of_mem hs
      rw [List.length_take] at hi
      rw [List.getElem_take] at hxs
      have h3 := r3 i (by omega)
      simp only [hkey i (by omega)] at h3
      exact seg_below (h.seg.ne _ (List.getElem_mem _)) (h.seg.seg_ck h.ck0 (List.getElem_mem _)) h3 x hxs
    by_cases hr : r = ss.length
    · have hf : fi l q = l.length := by
        have := fi_app (ss.take r).flatten [] q hbelow
        rw [hr, List.take_length, h.seg.fl, List.append_nil] at this
        rw [this]
        rfl
      have ht : tell_f l (fi l q) user = (noText, 0, 0) := by
        unfold tell_f
        rw [hf, if_neg (by omega)]
      exact ⟨(noText, 0, 0), go _ (Ev.bind hbs (Ev.ifT (by rw [hpl]; omega) (Ev.ifT (by rw [hpl]; exact hr) (Ev.now _)))), .inl ht.symm⟩
    · have hr2 : r < ss.length := by omega
      have hsplit : ss = ss.take r ++ ss[r] :: ss.drop (r + 1) := by rw [← List.drop_eq_getElem_cons hr2, List.take_append_drop]
      have hsm : ss[r] ∈ ss := List.getElem_mem _
      have h4 := r4 r (Nat.le_refl _) (by rw [hpl]; exact hr2)
      simp only [hkey r hr2] at h4
      obtain ⟨s1, s2⟩ := seg_in (t := (ss.drop (r + 1)).flatten) (h.seg.ne _ hsm) h4
      have hle : l = (ss.take r).flatten ++ (ss[r] ++ (ss.drop (r + 1)).flatten) := by
        conv => lhs; rw [← h.seg.fl, hsplit]
        rw [List.flatten_append, List.flatten_cons]
      have hfl : fi l q = (ss.take r).flatten.length + fi ss[r] q := by
        conv => lhs; rw [hle]
        rw [fi_app _ _ q hbelow, s1]
      have ht : tell_f l (fi l q) user = tell_f ss[r] (fi ss[r] q) user := by
        rw [hfl]
        conv => lhs; rw [hle]
        exact tell_app _ _ _ _ user s2
      have hfd := find_ev ss[r] iv q h.i1 h.i16 (by have := h.seg.seg_len hsm; have := h.len; omega) (h.seg.seg_ck h.ck0 hsm)
      rcases hrd _ _ _ hsplit with ⟨_, hrd⟩ | ⟨_, hrd⟩
      · refine ⟨tell_f ss[r] (fi ss[r] q) user, go _ (Ev.bind hbs (Ev.ifF (by rw [hpl]; omega) ?_)), .inl ht.symm⟩
        simp only []
        rw [hkey r hr2]
        refine Ev.bind hrd ?_
        simp only []
        refine Ev.ifT (Int.natCast_nonneg _) ?_
        rw [Int.toNat_natCast]
        exact Ev.bind hfd (Ev.ifT (by omega) (Ev.now _))
      · refine ⟨(noText, 0, 122), go _ (Ev.bind hbs (Ev.ifF (by rw [hpl]; omega) ?_)), .inr rfl⟩
        simp only []
        rw [hkey r hr2]
        exact Ev.bind hrd (Ev.now _)
end Go.Proofs.Ythdemdjobgbpdaa.Q
