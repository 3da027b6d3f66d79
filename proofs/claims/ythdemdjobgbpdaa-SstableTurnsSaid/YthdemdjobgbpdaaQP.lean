/- A byte among a table's blocks is another: the block that it lies in is refused, the others are read. Plain Lean. -/
import Derived.Test.YthdemdjobgbpdaaQO
namespace Go.Proofs.Ythdemdjobgbpdaa.Q
open Go.RowKit Go.Proofs.YthdemdjobgbpdaaW.PrintWords Go.Proofs.YthdemdjobgbpdaaW.PrintLast Go.Proofs.YthdemdjobgbpdaaW.PrintMore Go.Proofs.Ythdemdjobgbpdaa.P Go.Proofs.Ythdemdjobgbpdaa.M Go.Proofs.Ythdemdjobgbpdaa.B Go.Proofs.Ythdemdjobgbpdaa.T
set_option linter.unusedVariables false
theorem set_IsB {l : List Int} (h : IsB l) (p : Nat) {c : Int} (h0 : 0 ≤ c) (h1 : c < 256) : IsB (l.set p c) := fun x hx => by
  rcases List.mem_or_eq_of_mem_set hx with hx | rfl
  · exact h x hx
  · exact ⟨h0, h1⟩
theorem set_split (l : List Int) (p : Nat) (c : Int) (h : p < l.length) : ∃ a b, l = a ++ l[p] :: b ∧ l.set p c = a ++ c :: b := by
  refine ⟨l.take p, l.drop (p + 1), ?_, ?_⟩
  · rw [← List.drop_eq_getElem_cons h, List.take_append_drop]
  · exact List.set_eq_take_append_cons_drop.trans (by rw [if_pos h])
theorem crc_set {l : List Int} (hb : IsB l) (p : Nat) (c : Int) (h : p < l.length) (h0 : 0 ≤ c) (h1 : c < 256) (hne : c ≠ l[p]) : ((mask (crc l)) == mask (crc (l.set p c))) = false := by
  obtain ⟨a, b, e1, e2⟩ := set_split l p c h
  rw [beq_eq_false_iff_ne]
  intro e
  have hc := mask_inj (crc_range l).1 (crc_range l).2 (crc_range (l.set p c)).1 (crc_range (l.set p c)).2 e
  have hlp := hb l[p] (List.getElem_mem _)
  rw [e2] at hc
  conv at hc => lhs; rw [e1]
  exact crc_turn a b l[p] c hlp.1 hlp.2 h0 h1 (Ne.symm hne) hc
theorem fxd_set {l : List Int} (hb : IsB l) (hl : l.length = 4) (p : Nat) (c : Int) (h : p < l.length) (h0 : 0 ≤ c) (h1 : c < 256) (hne : c ≠ l[p]) : fxd (l.set p c) ≠ fxd l := by
  intro e
  have e1 := fx_fxd l hb
  have e2 := fx_fxd (l.set p c) (set_IsB hb p h0 h1)
  rw [List.length_set, e, e1] at e2
  have : l[p] = (l.set p c)[p]'(by rw [List.length_set]; exact h) := by
    congr 1
  rw [List.getElem_set_self] at this
  exact hne this.symm
theorem own_fxd (b : List Int) : (fxd (sm b) : Int) = mask (crc b) := beq_iff_eq.mp (sm_own b)
theorem locate (iv : Nat) : ∀ (ss : List (List S47)) (p : Nat), p < (outB iv ss).length → ∃ a s t, ss = a ++ s :: t ∧ (outB iv a).length ≤ p ∧ p < (outB iv a).length + (lay iv s).length + 4
  | [], p, h => by simp [outB, outOf] at h
  | s :: t, p, h => by
    rw [outB_cons] at h
    simp only [List.length_append, sm_length] at h
    by_cases hp : p < (lay iv s).length + 4
    · exact ⟨[], s, t, rfl, Nat.zero_le _, by simp [outB, outOf]; omega⟩
    · obtain ⟨a, s', t', h1, h2, h3⟩ := locate iv t (p - ((lay iv s).length + 4)) (by omega)
      refine ⟨s :: a, s', t', by rw [h1]; rfl, ?_, ?_⟩ <;> rw [outB_cons] <;> simp only [List.length_append, sm_length] <;> omega
theorem turn_reads {l : List S47} {iv : Nat} {ss : List (List S47)} {fl : List Int} (h : TabOf l iv ss fl) (p : Nat) (hp : p < (outB iv ss).length) (c : Int) (h0 : 0 ≤ c) (h1 : c < 256) (hne : c ≠ (outB iv ss)[p]) :
    ∃ ok : List (List S47) → Prop, Reads (tabO ((outB iv ss).set p c) iv ss fl l.length) iv ss ok ∧ ∃ a s t, ss = a ++ s :: t ∧ ¬ ok a := by
  refine ⟨fun a => ¬ ∃ s t, ss = a ++ s :: t ∧ (outB iv a).length ≤ p ∧ p < (outB iv a).length + (lay iv s).length + 4, ?_, ?_⟩
  case refine_2 =>
    obtain ⟨a, s, t, e1, e2, e3⟩ := locate iv ss p hp
    exact ⟨a, s, t, e1, fun hn => hn ⟨s, t, e1, e2, e3⟩⟩
  intro a s t hs
  have hm : s ∈ ss := by rw [hs]; simp
  have ho := open_gb_ev iv h.i1 h.i16 s (h.seg.seg_ck h.ck0 hm) (fun e he => h.w e (h.seg.mem hm he)) (by have := h.seg.seg_len hm; have := h.len; omega)
  have hout : outB iv ss = outB iv a ++ ((lay iv s ++ sm (lay iv s)) ++ outB iv t) := by rw [hs, outB_app, outB_cons]
  obtain ⟨F, hF⟩ : ∃ F, (fl ++ sm fl) ++ ((ixB iv ss ++ sm (ixB iv ss)) ++ footB ((outB iv ss).set p c).length fl.length (ixB iv ss).length l.length) = F := ⟨_, rfl⟩
  have hFb : IsB F := by
    rw [← hF]
    exact (h.fil.b.append (sm_IsB _)).append (((lay_IsB 1 (by decide) _).append (sm_IsB _)).append ((fx_IsB _ _).append ((fx_IsB _ _).append ((fx_IsB _ _).append ((fx_IsB _ _).append ((fx_IsB _ _).append (IsB.bytesOf _)))))))
  have hFl : F.length ≤ 10000 + 2000000 + 36 := by
    rw [← hF]
    have h2 := h.ix_len
    have h3 := h.fil.len
    simp only [List.length_append, sm_length, footB_len]
    omega
  have hol := h.out_len
  have hTab : tabO ((outB iv ss).set p c) iv ss fl l.length = (outB iv ss).set p c ++ F := by unfold tabO; rw [hF]
  have hOb : IsB ((outB iv ss).set p c ++ F) := (set_IsB h.out_IsB p h0 h1).append hFb
  have hOl : ((outB iv ss).set p c ++ F).length < 1000000000000 := by rw [List.length_append, List.length_set]; omega
  rw [hTab]
  have good : ∀ (A' R' : List Int), A'.length = (outB iv a).length → (outB iv ss).set p c ++ F = A' ++ (lay iv s ++ (sm (lay iv s) ++ R')) → Ev (fun k => tread_f k ((outB iv ss).set p c ++ F) ⟨lastK s, (outB iv a).length, (lay iv s).length⟩) (some (s, (iv : Int))) := by
    intro A' R' hA hq
    have q := Part_ev A' (lay iv s) (sm (lay iv s)) R' (sm_length _) (by rw [← hq]; exact hOb) (by rw [← hq]; exact hOl)
    rw [← hq, sm_own, hA] at q
    simp only [tread_f]
    refine Ev.bind q (Ev.ifT rfl (Ev.bind ho ?_))
    simp only []
    exact Ev.ifT ⟨List.length_pos_iff.mpr (h.seg.ne s hm), by have := h.seg.seg_len hm; have := h.len; omega, rfl, rfl, rfl⟩ (Ev.now _)
  have bad : ∀ (b' s' R' : List Int), b'.length = (lay iv s).length → s'.length = 4 → ((fxd s' : Int) == mask (crc b')) = false → (outB iv ss).set p c ++ F = outB iv a ++ (b' ++ (s' ++ R')) → Ev (fun k => tread_f k ((outB iv ss).set p c ++ F) ⟨lastK s, (outB iv a).length, (lay iv s).length⟩) none := by
    intro b' s' R' hb hs' hv hq
    have q := Part_ev (outB iv a) b' s' R' hs' (by rw [← hq]; exact hOb) (by rw [← hq]; exact hOl)
    rw [← hq, hv, hb] at q
    simp only [tread_f]
    exact Ev.bind q (Ev.ifF (by simp) (Ev.now _))
  by_cases c1 : p < (outB iv a).length
  · refine .inl ⟨?_, good ((outB iv a).set p c) (outB iv t ++ F) (List.length_set ..) ?_⟩
    · rintro ⟨s2, t2, _, h5, _⟩
      omega
    · rw [hout, List.set_append_left _ _ c1]
      simp only [List.append_assoc]
  · by_cases c2 : p < (outB iv a).length + (lay iv s).length + 4
    · refine .inr ⟨fun hn => hn ⟨s, t, hs, by omega, c2⟩, ?_⟩
      have hq0 : (outB iv ss).set p c = outB iv a ++ (((lay iv s ++ sm (lay iv s)) ++ outB iv t).set (p - (outB iv a).length) c) := by
        rw [hout, List.set_append_right _ _ (by omega)]
      obtain ⟨q, hq⟩ : ∃ q, p - (outB iv a).length = q := ⟨_, rfl⟩
      have hel : (outB iv ss)[p] = ((lay iv s ++ sm (lay iv s)) ++ outB iv t)[q]'(by simp only [List.length_append, sm_length]; omega) := by
        have : (outB iv ss)[p]? = ((lay iv s ++ sm (lay iv s)) ++ outB iv t)[q]? := by
          rw [hout, List.getElem?_append_right (by omega), hq]
        rw [List.getElem?_eq_getElem hp, List.getElem?_eq_getElem (by simp only [List.length_append, sm_length]; omega)] at this
        exact Option.some.inj this
      rw [hel] at hne
      rw [hq] at hq0
      by_cases c3 : q < (lay iv s).length
      · refine bad ((lay iv s).set q c) (sm (lay iv s)) (outB iv t ++ F) (List.length_set ..) (sm_length _) ?_ ?_
        · rw [own_fxd]
          refine crc_set (lay_IsB iv h.i16 s) q c c3 h0 h1 (fun e => hne ?_)
          rw [e, List.getElem_append_left (by rw [List.length_append]; omega), List.getElem_append_left c3]
        · rw [hq0, List.set_append_left _ _ (by rw [List.length_append]; omega), List.set_append_left _ _ c3]
          simp only [List.append_assoc]
      · have hq4 : q - (lay iv s).length < (sm (lay iv s)).length := by rw [sm_length]; omega
        refine bad (lay iv s) ((sm (lay iv s)).set (q - (lay iv s).length) c) (outB iv t ++ F) rfl (by rw [List.length_set, sm_length]) ?_ ?_
        · rw [beq_eq_false_iff_ne, ← own_fxd]
          intro e
          refine fxd_set (sm_IsB _) (sm_length _) _ c hq4 h0 h1 (fun e2 => hne ?_) (by omega)
          rw [e2, List.getElem_append_left (by rw [List.length_append, sm_length]; omega), List.getElem_append_right (by omega)]
        · rw [hq0, List.set_append_left _ _ (by rw [List.length_append, sm_length]; omega), List.set_append_right _ _ (by omega)]
          simp only [List.append_assoc]
    · refine .inl ⟨?_, good (outB iv a) ((outB iv t).set (p - (outB iv a).length - (lay iv s ++ sm (lay iv s)).length) c ++ F) rfl ?_⟩
      · rintro ⟨s2, t2, h4, h5, h6⟩
        have : s :: t = s2 :: t2 := List.append_cancel_left (hs.symm.trans h4)
        injection this with e1 e2
        rw [← e1] at h6
        omega
      · rw [hout, List.set_append_right _ _ (by omega), List.set_append_right _ _ (by rw [List.length_append, sm_length]; omega)]
        simp only [List.append_assoc]
end Go.Proofs.Ythdemdjobgbpdaa.Q
