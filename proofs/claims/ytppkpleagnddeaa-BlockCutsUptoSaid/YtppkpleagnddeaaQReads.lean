/- Any bytes, read: what read, Open and the document's Read come to. Plain Lean. -/
import Derived.Test.YtppkpleagnddeaaQBack
import Derived.Test.YtppkpleagnddeaaBQ
namespace Go.Proofs.Ytppkpleagnddeaa.Q
open Go.RowKit Go.Proofs.YtppkpleagnddeaaW.PrintWords Go.Proofs.YtppkpleagnddeaaW.PrintLast Go.Proofs.YtppkpleagnddeaaW.PrintMore Go.Proofs.Ytppkpleagnddeaa.P Go.Proofs.Ytppkpleagnddeaa.M Go.Proofs.Ytppkpleagnddeaa.B

def ua (D : List Int) : Nat := (uvd D 0 0).1
def uk (D : List Int) : Nat := (uvd D 0 0).2.1
def ue (D : List Int) : Nat := (uvd D 0 0).2.2
def ud (D : List Int) : List Int := D.drop (uk D)
theorem ue_ok {D : List Int} (hb : IsB D) (h : ue D = 0) : 0 < uk D ∧ uk D ≤ D.length ∧ ua D < 18446744073709551616 := by
  have := uvd_ok D 0 0 (ua D) (uk D) hb (by omega) (by decide) (by unfold ua uk; exact Prod.ext rfl (Prod.ext rfl h))
  omega
theorem ue_bad {D : List Int} (h : ue D ≠ 0) : uk D = 0 := (uvd_err D 0 0 h).2.1
theorem uk_le {D : List Int} (hb : IsB D) : uk D ≤ D.length := by
  by_cases h : ue D = 0
  · exact (ue_ok hb h).2.1
  · rw [ue_bad h]; omega
theorem ud_IsB {D : List Int} (hb : IsB D) : IsB (ud D) := hb.drop _
theorem ud_length (D : List Int) : (ud D).length = D.length - uk D := List.length_drop
/-- the bytes of the next key, and what is behind -/
def pkey (D last : List Int) : List Int := last.take (ua D) ++ (ud (ud (ud D))).take (ua (ud D))
def prest (D : List Int) : List Int := (ud (ud (ud D))).drop (ua (ud D))
def POk (D last : List Int) : Prop := ue D = 0 ∧ ua D ≤ last.length ∧ ue (ud D) = 0 ∧ ue (ud (ud D)) = 0 ∧ ua (ud D) ≤ (ud (ud (ud D))).length ∧ (dec (pkey D last)).2.2.2 = 0 ∧ ua (ud (ud D)) ≤ (prest D).length
instance (D last : List Int) : Decidable (POk D last) := by unfold POk; infer_instance
def pent (D last : List Int) : S42 := ⟨⟨(dec (pkey D last)).1, (dec (pkey D last)).2.1, (dec (pkey D last)).2.2.1⟩, strOfNums ((prest D).take (ua (ud (ud D))))⟩
def pr : Nat → List Int → List Int → List S42 → Option (List S42)
  | 0, _, _, _ => none
  | f + 1, D, last, acc => if D.length = 0 then some acc else if POk D last then pr f ((prest D).drop (ua (ud (ud D)))) (pkey D last) (acc ++ [pent D last]) else none
theorem pkey_IsB {D last : List Int} (hb : IsB D) (hl : IsB last) : IsB (pkey D last) := (hl.take _).append ((ud_IsB (ud_IsB (ud_IsB hb))).take _)
theorem prest_IsB {D : List Int} (hb : IsB D) : IsB (prest D) := (ud_IsB (ud_IsB (ud_IsB hb))).drop _
theorem POk_less {D last : List Int} (hb : IsB D) (h : POk D last) : ((prest D).drop (ua (ud (ud D)))).length < D.length := by
  have h1 := ue_ok hb h.1
  have e1 := ud_length D
  have e2 := ud_length (ud D)
  have e3 := ud_length (ud (ud D))
  unfold prest
  simp only [List.length_drop]
  omega
theorem pkey_short {D last : List Int} (hb : IsB D) (hl : IsB last) (h : POk D last) : (pkey D last).length ≤ 72 := (dec_ok (pkey_IsB hb hl) h.2.2.2.2.2.1).2.1
theorem pent_pos {D last : List Int} (hb : IsB D) (hl : IsB last) (h : POk D last) : 0 ≤ (pent D last).f0.f1 := by
  have := (dec_ok (pkey_IsB hb hl) h.2.2.2.2.2.1).2.2.2
  unfold pent
  dsimp only
  rw [this]
  exact Int.natCast_nonneg _
theorem pr_facts : ∀ (f : Nat) (D last : List Int) (acc l : List S42), IsB D → IsB last → (∀ e ∈ acc, 0 ≤ e.f0.f1) → pr f D last acc = some l → (∀ e ∈ l, 0 ≤ e.f0.f1) ∧ l.length ≤ acc.length + D.length
  | 0, _, _, _, _, _, _, _, h => by simp [pr] at h
  | f + 1, D, last, acc, l, hb, hl, ha, h => by
    rw [pr] at h
    by_cases h0 : D.length = 0
    · rw [if_pos h0] at h
      obtain rfl := Option.some.inj h
      exact ⟨ha, by omega⟩
    · rw [if_neg h0] at h
      by_cases hp : POk D last
      · rw [if_pos hp] at h
        have hlt := POk_less hb hp
        obtain ⟨i1, i2⟩ := pr_facts f _ _ _ l ((prest_IsB hb).drop _) (pkey_IsB hb hl) (fun e he => by
          rcases List.mem_append.1 he with he | he
          · exact ha e he
          · rw [List.mem_singleton.1 he]; exact pent_pos hb hl hp) h
        refine ⟨i1, ?_⟩
        simp only [List.length_append, List.length_singleton] at i2
        omega
      · rw [if_neg hp] at h; cases h

/-! ### block.read -/
theorem nm_good {α : Type} {D : List Int} {most : Int} {F : Nat → Int → List Int → Option (Option α)} {r : Option α} (hb : IsB D) (h : ue D = 0) (h2 : (ua D : Int) ≤ most) (hF : Ev (fun k => F k (ua D : Int) (ud D)) r) : Ev (fun k => nm k D most (F k)) r := by
  unfold nm
  refine Ev.bind (Uvarint_ev D hb) (Ev.ifT ⟨?_, ?_, ?_, ?_, ?_⟩ ?_)
  · dsimp only; unfold ue at h; omega
  · dsimp only; omega
  · exact h2
  · dsimp only; omega
  · have := uk_le hb; unfold uk at this; dsimp only; omega
  · dsimp only
    rw [Int.toNat_natCast]
    exact hF
theorem nm_bad {α : Type} {D : List Int} {most : Int} {F : Nat → Int → List Int → Option (Option α)} (hb : IsB D) (h : ¬ (ue D = 0 ∧ (ua D : Int) ≤ most)) : Ev (fun k => nm k D most (F k)) none := by
  unfold nm
  unfold ue ua at h
  refine Ev.bind (Uvarint_ev D hb) (Ev.ifF (fun hc => h ⟨by have := hc.1; dsimp only at this; omega, hc.2.2.1⟩) (Ev.ifT ?_ (Ev.now _)))
  dsimp only
  by_cases h0 : (uvd D 0 0).2.2 = 0
  · exact .inr (by by_cases hle : (((uvd D 0 0).1 : Nat) : Int) ≤ most; exact absurd ⟨h0, hle⟩ h; omega)
  · exact .inl (by omega)
theorem rd_g_ev (bl : Nat) (hbl : bl ≤ 4000000) : ∀ (f : Nat) (D last : List Int) (acc : List S42), D.length < f → IsB D → IsB last → last.length ≤ 72 → acc.length + D.length ≤ 4000000 → D.length ≤ bl → Ev (fun k => rd_g k bl D last acc) (pr f D last acc)
  | 0, D, _, _, hf, _, _, _, _, _ => by omega
  | f + 1, D, last, acc, hf, hb, hl, hla, hacc, hD => by
    rw [pr]
    by_cases h0 : D.length = 0
    · rw [if_pos h0]
      exact Ev.step (fun k => rd_g.eq_2 (k := k) ..) (Ev.ifT h0 (Ev.now _))
    rw [if_neg h0]
    refine Ev.step (fun k => rd_g.eq_2 (k := k) ..) (Ev.ifF h0 ?_)
    have b1 := ud_IsB hb
    have b2 := ud_IsB b1
    have b3 := ud_IsB b2
    have e1 := ud_length D
    have e2 := ud_length (ud D)
    have e3 := ud_length (ud (ud D))
    by_cases c1 : ue D = 0 ∧ (ua D : Int) ≤ (last.length : Int)
    case neg => rw [if_neg (fun h => c1 ⟨h.1, by have := h.2.1; omega⟩)]; exact nm_bad hb c1
    refine nm_good hb c1.1 c1.2 ?_
    by_cases c2 : ue (ud D) = 0 ∧ (ua (ud D) : Int) ≤ (bl : Int)
    case neg => rw [if_neg (fun h => c2 ⟨h.2.2.1, by have := h.2.2.2.2.1; omega⟩)]; exact nm_bad b1 c2
    refine nm_good b1 c2.1 c2.2 ?_
    by_cases c3 : ue (ud (ud D)) = 0 ∧ (ua (ud (ud D)) : Int) ≤ (bl : Int)
    case neg =>
      rw [if_neg (fun h => c3 ⟨h.2.2.2.1, by have := h.2.2.2.2.2.2; unfold prest at this; rw [List.length_drop] at this; omega⟩)]
      exact nm_bad b2 c3
    refine nm_good b2 c3.1 c3.2 ?_
    simp only [Int.toNat_natCast, tk]
    refine Ev.ifT (by rw [List.length_take]; omega) ?_
    by_cases c4 : ua (ud D) ≤ (ud (ud (ud D))).length
    case neg => rw [if_neg (fun h => c4 h.2.2.2.2.1)]; exact Ev.ifF (by omega) (Ev.now _)
    refine Ev.ifT (by omega) ?_
    have hk := pkey_IsB hb hl
    have hkl : (pkey D last).length ≤ 140737488351232 := by unfold pkey; rw [List.length_append, List.length_take, List.length_take]; omega
    refine Ev.bind (Decode_ev (pkey D last) hk hkl) ?_
    by_cases c5 : (dec (pkey D last)).2.2.2 = 0
    case neg => rw [if_neg (fun h => c5 h.2.2.2.2.2.1)]; exact Ev.ifF c5 (Ev.now _)
    refine Ev.ifT c5 ?_
    by_cases c6 : ua (ud (ud D)) ≤ (prest D).length
    case neg => rw [if_neg (fun h => c6 h.2.2.2.2.2.2)]; exact Ev.ifF (by unfold prest at c6; omega) (Ev.now _)
    have hp : POk D last := ⟨c1.1, by omega, c2.1, c3.1, c4, c5, c6⟩
    rw [if_pos hp]
    have hlt := POk_less hb hp
    refine Ev.ifT (by unfold prest at c6; omega) (Ev.ifT (by omega) ?_)
    show Ev (fun k => rd_g k bl ((prest D).drop (ua (ud (ud D)))) (pkey D last) (acc ++ [pent D last])) _
    exact rd_g_ev bl hbl f _ _ _ (by omega) ((prest_IsB hb).drop _) hk (pkey_short hb hl hp) (by simp only [List.length_append, List.length_singleton]; omega) (by omega)
def mk4 (b : List Int) : Nat := fxd (b.drop (b.length - 4))
def rg (b : List Int) : Option (List S42 × Int) := if b.length < 5 then none else if mk4 b ≤ (b.length - 5) / 4 then (pr (b.length + 1) (b.take (b.length - 5 - 4 * mk4 b)) [] []).map (fun l => (l, rd b ((b.length : Int) - 5))) else none
theorem rd_byte {b : List Int} (hb : IsB b) (i : Int) (h0 : 0 ≤ i) (h1 : i < b.length) : 0 ≤ rd b i ∧ rd b i < 256 := by
  unfold rd
  rw [List.getD_eq_getElem?_getD, List.getElem?_eq_getElem (by omega)]
  exact hb _ (List.getElem_mem _)
theorem fixed4 (b : List Int) (hb : IsB b) (h : 5 ≤ b.length) : Ev (fun k => codec_Fixed.f k (b.drop (b.length - 4)) 4) ((mk4 b : Int), 0) := by
  have hl : (b.drop (b.length - 4)).length = 4 := by rw [List.length_drop]; omega
  have := Fixed_ev (b.drop (b.length - 4)) (hb.drop _) 4 (by decide) (by decide)
  rw [if_neg (by omega), List.take_of_length_le (by omega)] at this
  exact this
theorem mk4_lt (b : List Int) (hb : IsB b) (h : 5 ≤ b.length) : mk4 b < 4294967296 := by
  have hl : (b.drop (b.length - 4)).length = 4 := by rw [List.length_drop]; omega
  have := fxd_lt _ (hb.drop (b.length - 4))
  rw [hl] at this
  exact this
theorem read_g_ev (b : List Int) (hb : IsB b) (hl : b.length ≤ 4000000) : Ev (fun k => read_g k b) (rg b) := by
  unfold rg read_g
  by_cases h5 : b.length < 5
  · rw [if_pos h5]
    exact Ev.ifT h5 (Ev.now _)
  rw [if_neg h5]
  refine Ev.ifF h5 (Ev.ifT (by omega) (Ev.bind (fixed4 b hb (by omega)) (Ev.ifT (by dsimp only; omega) ?_)))
  by_cases hm : mk4 b ≤ (b.length - 5) / 4
  · rw [if_pos hm]
    refine Ev.ifT (by dsimp only; omega) ?_
    dsimp only
    rw [Int.toNat_natCast]
    have h := rd_g_ev b.length (by omega) (b.length + 1) (b.take (b.length - 5 - 4 * mk4 b)) [] [] (by rw [List.length_take]; omega) (hb.take _) IsB.nil (by simp) (by rw [List.length_take, List.length_nil]; omega) (by rw [List.length_take]; omega)
    have hr := rd_byte hb ((b.length : Int) - 5) (by omega) (by omega)
    rw [w64 (by omega) (by omega)]
    exact Ev.bind h (Ev.now _)
  · rw [if_neg hm]
    exact Ev.ifF (by dsimp only; omega) (Ev.now _)
def og (b : List Int) : Option (List S42 × Int) := match rg b with
  | none => none
  | some x => if (blt x.1 x.2).2 = 0 then (if (strOfNums (blt x.1 x.2).1).toList = (strOfNums b).toList then some x else none) else none
theorem rg_facts {b : List Int} (hb : IsB b) {x : List S42 × Int} (h : rg b = some x) : (∀ e ∈ x.1, 0 ≤ e.f0.f1) ∧ x.1.length ≤ b.length ∧ 5 ≤ b.length ∧ x.2 = rd b ((b.length : Int) - 5) := by
  unfold rg at h
  by_cases h5 : b.length < 5
  · rw [if_pos h5] at h; cases h
  · rw [if_neg h5] at h
    by_cases hm : mk4 b ≤ (b.length - 5) / 4
    · rw [if_pos hm] at h
      obtain ⟨l, hl, rfl⟩ := Option.map_eq_some_iff.1 h
      obtain ⟨f1, f2⟩ := pr_facts _ _ _ [] l (hb.take _) IsB.nil (fun e he => by cases he) hl
      rw [List.length_nil, List.length_take] at f2
      exact ⟨f1, by dsimp only; omega, by omega, rfl⟩
    · rw [if_neg hm] at h; cases h
theorem pr_len11 : ∀ (f : Nat) (D last : List Int) (acc l : List S42), IsB D → IsB last → pr f D last acc = some l → l.length * 3 ≤ acc.length * 3 + D.length
  | 0, _, _, _, _, _, _, h => by simp [pr] at h
  | f + 1, D, last, acc, l, hb, hl, h => by
    rw [pr] at h
    by_cases h0 : D.length = 0
    · rw [if_pos h0] at h
      obtain rfl := Option.some.inj h
      omega
    · rw [if_neg h0] at h
      by_cases hp : POk D last
      · rw [if_pos hp] at h
        have i2 := pr_len11 f _ _ _ l ((prest_IsB hb).drop _) (pkey_IsB hb hl) h
        have h1 := ue_ok hb hp.1
        have h2 := ue_ok (ud_IsB hb) hp.2.2.1
        have h3 := ue_ok (ud_IsB (ud_IsB hb)) hp.2.2.2.1
        have e1 := ud_length D
        have e2 := ud_length (ud D)
        have e3 := ud_length (ud (ud D))
        simp only [List.length_append, List.length_singleton] at i2
        unfold prest at i2
        simp only [List.length_drop] at i2
        omega
      · rw [if_neg hp] at h; cases h
theorem rg_few {b : List Int} (hb : IsB b) (hl : b.length ≤ 4000000) {x : List S42 × Int} (h : rg b = some x) : x.1.length ≤ 1333334 := by
  unfold rg at h
  by_cases h5 : b.length < 5
  · rw [if_pos h5] at h; cases h
  · rw [if_neg h5] at h
    by_cases hm : mk4 b ≤ (b.length - 5) / 4
    · rw [if_pos hm] at h
      obtain ⟨l, hl, rfl⟩ := Option.map_eq_some_iff.1 h
      have := pr_len11 _ _ _ [] l (hb.take _) IsB.nil hl
      rw [List.length_nil, List.length_take] at this
      dsimp only
      omega
    · rw [if_neg hm] at h; cases h
theorem open_g_ev (b : List Int) (hb : IsB b) (hl : b.length ≤ 4000000) : Ev (fun k => open_g k b) (og b) := by
  unfold open_g og
  refine Ev.bind (read_g_ev b hb hl) ?_
  cases h : rg b with
  | none => exact Ev.now _
  | some x =>
    obtain ⟨f1, _, _, _⟩ := rg_facts hb h
    dsimp only
    refine Ev.bind (Build_evg x.1 x.2 (Nat.le_trans (rg_few hb hl h) (by decide)) f1) ?_
    by_cases h0 : (blt x.1 x.2).2 = 0
    · refine Ev.ifT h0 ?_
      rw [if_pos h0]
      unfold bytes_Equal.f
      refine Ev.some_ ?_
      by_cases he : (strOfNums (blt x.1 x.2).1).toList = (strOfNums b).toList
      · rw [if_pos he]
        exact Ev.ifT (beq_iff_eq.mpr he) (Ev.now _)
      · rw [if_neg he]
        exact Ev.ifF (fun h => he (beq_iff_eq.mp h)) (Ev.now _)
    · refine Ev.ifF h0 ?_
      rw [if_neg h0]
      exact Ev.now _
theorem og_some {b : List Int} {x : List S42 × Int} (h : og b = some x) : rg b = some x ∧ (blt x.1 x.2).2 = 0 ∧ (strOfNums (blt x.1 x.2).1).toList = (strOfNums b).toList := by
  unfold og at h
  cases hr : rg b with
  | none => rw [hr] at h; cases h
  | some y =>
    rw [hr] at h
    dsimp only at h
    by_cases c : (blt y.1 y.2).2 = 0
    · rw [if_pos c] at h
      by_cases d : (strOfNums (blt y.1 y.2).1).toList = (strOfNums b).toList
      · rw [if_pos d] at h; obtain rfl := Option.some.inj h; exact ⟨rfl, c, d⟩
      · rw [if_neg d] at h; cases h
    · rw [if_neg c] at h; cases h
theorem blt_zero {l : List S42} {iv : Int} (h : (blt l iv).2 = 0) : 1 ≤ iv ∧ iv ≤ 16 ∧ ck none l = 0 := by
  unfold blt at h
  by_cases h1 : iv < 1 ∨ 16 < iv
  · rw [if_pos h1] at h; exact absurd h (by decide)
  · rw [if_neg h1] at h
    by_cases hc : ck none l = 0
    · exact ⟨by omega, by omega, hc⟩
    · rw [if_neg hc] at h; exact absurd h hc
end Go.Proofs.Ytppkpleagnddeaa.Q
