/- What is laid is read, and found: plain Lean over what QA says and over what is read (BR, BO, BF). Any bytes, read: what read, Open and the document's Read come to. Plain Lean. What is proved: for all bytes, every key and every index staddlelaw11.BlockReads answers true, where the arguments' bulk is small. -/
import Derived.Test.YtppkpleagnddeaaQA
import Derived.Test.YtppkpleagnddeaaBO
import Derived.Test.YtppkpleagnddeaaBF
import Derived.Test.YtppkpleagnddeaaP10
import Derived.Test.YtppkpleagnddeaaBQ
import Derived.Test.YtppkpleagnddeaaQR
import Derived.Test.YtppkpleagnddeaaP20
import Derived.Test.YtppkpleagnddeaaP21
import Derived.Test.YtppkpleagnddeaaBJ
namespace Go.Proofs.Ytppkpleagnddeaa.Q
open Go.RowKit Go.Proofs.YtppkpleagnddeaaW.PrintWords Go.Proofs.YtppkpleagnddeaaW.PrintLast Go.Proofs.YtppkpleagnddeaaW.PrintMore Go.Proofs.Ytppkpleagnddeaa.P Go.Proofs.Ytppkpleagnddeaa.M Go.Proofs.Ytppkpleagnddeaa.B

def Fit (l : List S42) : Prop := ∀ e ∈ l, ck1 e = 0 ∧ e.f1.size ≤ 1000 ∧ 0 ≤ e.f0.f1
/-! ### What is found -/
def kq (x : S42) (q : S32) : Int := kcmp x.f0.f0 x.f0.f1 x.f0.f2 q.f0 q.f1 q.f2
def fi : List S42 → S32 → Nat
  | [], _ => 0
  | e :: t, q => if kq e q < 0 then fi t q + 1 else 0
theorem fi_le : ∀ (l : List S42) (q : S32), fi l q ≤ l.length
  | [], _ => by simp [fi]
  | e :: t, q => by
    have := fi_le t q
    rw [fi]
    split
    · rw [List.length_cons]; omega
    · omega
theorem rdT_cons (e : S42) (t : List S42) (i : Nat) : rd_T42 (e :: t) ((i + 1 : Nat) : Int) = rd_T42 t (i : Int) := by
  unfold rd_T42
  rw [Int.toNat_natCast, Int.toNat_natCast, List.getD_cons_succ]
theorem fi_spec : ∀ (l : List S42) (q : S32), (∀ j, j < fi l q → kq (rd_T42 l (j : Int)) q < 0) ∧ (fi l q < l.length → ¬ kq (rd_T42 l (fi l q : Int)) q < 0)
  | [], q => ⟨fun j h => by simp [fi] at h, fun h => by simp at h⟩
  | e :: t, q => by
    obtain ⟨h1, h2⟩ := fi_spec t q
    rw [fi]
    by_cases he : kq e q < 0
    · rw [if_pos he]
      refine ⟨fun j hj => ?_, fun hl => ?_⟩
      · match j with
        | 0 => exact he
        | j + 1 => rw [rdT_cons]; exact h1 j (by omega)
      · rw [rdT_cons]
        exact h2 (by rw [List.length_cons] at hl; omega)
    · rw [if_neg he]
      exact ⟨fun j hj => by omega, fun _ => he⟩
theorem fi_is (l : List S42) (q : S32) (n : Nat) (hn : n ≤ l.length) (h1 : ∀ j, j < n → kq (rd_T42 l (j : Int)) q < 0) (h2 : n < l.length → ¬ kq (rd_T42 l (n : Int)) q < 0) : fi l q = n := by
  obtain ⟨s1, s2⟩ := fi_spec l q
  have hle := fi_le l q
  rcases Nat.lt_trichotomy (fi l q) n with h | h | h
  · exact absurd (h1 _ h) (s2 (by omega))
  · exact h
  · exact absurd (s1 _ h) (h2 (by omega))
theorem kq_step {a b : S42} {q : S32} (h : kk a b < 0) (hq : kq b q ≤ 0) : kq a q < 0 := by
  have h1 := (kcmp_less a.f0.f0 a.f0.f1 a.f0.f2 b.f0.f0 b.f0.f1 b.f0.f2).1 h
  unfold kq at *
  by_cases hz : kcmp b.f0.f0 b.f0.f1 b.f0.f2 q.f0 q.f1 q.f2 = 0
  · obtain ⟨e1, e2, e3⟩ := (kcmp_zero ..).1 hz
    rw [← e1, ← e2, ← e3]
    exact h
  · exact (kcmp_less ..).2 (kless_trans h1 ((kcmp_less ..).1 (by omega)))
/-- keys that rise -/
theorem ck_rise : ∀ (l : List S42) (p : Option S42), ck p l = 0 → ∀ j, j + 1 < l.length → kk (rd_T42 l (j : Int)) (rd_T42 l ((j + 1 : Nat) : Int)) < 0
  | [], _, _, j, hj => by simp at hj
  | [_], _, _, j, hj => by simp at hj
  | a :: b :: t, p, h, j, hj => by
    obtain ⟨_, h2⟩ := ck_cons h
    match j with
    | 0 => exact (ckAt_zero (ck_cons h2).1).2.2 a rfl
    | j + 1 =>
      rw [rdT_cons, rdT_cons]
      exact ck_rise (b :: t) (some a) h2 j (by simp only [List.length_cons] at hj ⊢; omega)
theorem rise_down {l : List S42} (hr : ∀ j, j + 1 < l.length → kk (rd_T42 l (j : Int)) (rd_T42 l ((j + 1 : Nat) : Int)) < 0) (q : S32) : ∀ (d j : Nat), j + d < l.length → kq (rd_T42 l ((j + d : Nat) : Int)) q ≤ 0 → 0 < d → kq (rd_T42 l (j : Int)) q < 0
  | 0, j, _, _, h0 => by omega
  | 1, j, hj, hq, _ => kq_step (hr j hj) hq
  | d + 2, j, hj, hq, _ => by
    have := rise_down hr q (d + 1) (j + 1) (by omega) (by rw [show j + 1 + (d + 1) = j + (d + 2) by omega]; exact hq) (by omega)
    exact kq_step (hr j (by omega)) (Int.le_of_lt this)
theorem find_s_ev (l : List S42) (q : S32) : ∀ (d at_ : Nat), at_ + d = l.length → (∀ j, j < at_ → kq (rd_T42 l (j : Int)) q < 0) → Ev (fun k => find_s k l q at_) (fi l q)
  | 0, at_, hd, h => by
    have : fi l q = at_ := fi_is l q at_ (by omega) h (fun h => by omega)
    rw [this]
    exact Ev.step (fun k => find_s.eq_2 (k := k) ..) (Ev.ifF (by omega) (Ev.now _))
  | d + 1, at_, hd, h => by
    refine Ev.step (fun k => find_s.eq_2 (k := k) ..) (Ev.ifT (by omega) (Ev.bind (a := kq (rd_T42 l (at_ : Int)) q) (Ev.now _) ?_))
    by_cases hq : kq (rd_T42 l (at_ : Int)) q < 0
    · refine Ev.ifT hq (find_s_ev l q d (at_ + 1) (by omega) (fun j hj => ?_))
      rcases Nat.lt_or_ge j at_ with hj' | hj'
      · exact h j hj'
      · rw [show j = at_ by omega]; exact hq
    · have : fi l q = at_ := fi_is l q at_ (by omega) h (fun _ => hq)
      rw [this]
      exact Ev.ifF hq (Ev.now _)
theorem find_b_ev (l : List S42) (iv : Nat) (q : S32) (h1 : 1 ≤ iv) (hhi : ∀ m, m < (l.length + iv - 1) / iv → m * iv < l.length) : ∀ (d lo hi : Nat), hi - lo ≤ d → lo ≤ hi → hi ≤ (l.length + iv - 1) / iv → hi ≤ l.length → (0 < lo → (lo - 1) * iv < l.length ∧ kq (rd_T42 l (((lo - 1) * iv : Nat) : Int)) q < 0) →
    ∃ lo', lo' ≤ l.length ∧ (0 < lo' → (lo' - 1) * iv < l.length ∧ kq (rd_T42 l (((lo' - 1) * iv : Nat) : Int)) q < 0) ∧ Ev (fun k => find_b k l iv q lo hi) lo'
  | 0, lo, hi, hd, hlh, hc, hle, hI => ⟨lo, by omega, hI, Ev.step (fun k => find_b.eq_2 (k := k) ..) (Ev.ifF (by omega) (Ev.now _))⟩
  | d + 1, lo, hi, hd, hlh, hc, hle, hI => by
    by_cases hlt : lo < hi
    · have hmid := hhi ((lo + hi) / 2) (by omega)
      by_cases hq : kq (rd_T42 l (((lo + hi) / 2 * iv : Nat) : Int)) q < 0
      · obtain ⟨lo', a, b, c⟩ := find_b_ev l iv q h1 hhi d ((lo + hi) / 2 + 1) hi (by omega) (by omega) hc hle (fun _ => by rw [Nat.add_sub_cancel]; exact ⟨hmid, hq⟩)
        exact ⟨lo', a, b, Ev.step (fun k => find_b.eq_2 (k := k) ..) (Ev.ifT hlt (Ev.ifT ⟨hmid, hle⟩ (Ev.bind (a := kq (rd_T42 l (((lo + hi) / 2 * iv : Nat) : Int)) q) (Ev.now _) (Ev.ifT hq c))))⟩
      · obtain ⟨lo', a, b, c⟩ := find_b_ev l iv q h1 hhi d lo ((lo + hi) / 2) (by omega) (by omega) (by omega) (by omega) hI
        exact ⟨lo', a, b, Ev.step (fun k => find_b.eq_2 (k := k) ..) (Ev.ifT hlt (Ev.ifT ⟨hmid, hle⟩ (Ev.bind (a := kq (rd_T42 l (((lo + hi) / 2 * iv : Nat) : Int)) q) (Ev.now _) (Ev.ifF hq c))))⟩
    · exact ⟨lo, by omega, hI, Ev.step (fun k => find_b.eq_2 (k := k) ..) (Ev.ifF hlt (Ev.now _))⟩
theorem ceil_mul (n iv m : Nat) (h1 : 1 ≤ iv) (h : m < (n + iv - 1) / iv) : m * iv < n := by
  have h2 := (Nat.le_div_iff_mul_le (by omega : 0 < iv)).1 (show m + 1 ≤ (n + iv - 1) / iv from h)
  rw [Nat.add_mul] at h2
  omega
theorem ceil_le (n iv : Nat) (h1 : 1 ≤ iv) : (n + iv - 1) / iv ≤ n := by
  rcases Nat.eq_zero_or_pos n with h | h
  · subst h
    rw [Nat.zero_add, Nat.div_eq_of_lt (by omega)]
    exact Nat.le_refl _
  · have := Nat.div_mul_le_self (n + iv - 1) iv
    have h3 : (n + iv - 1) / iv < n + 1 := (Nat.div_lt_iff_lt_mul (by omega)).2 (by
      have : (n + 1) * iv = n * iv + iv := by rw [Nat.add_mul, Nat.one_mul]
      have h4 : n * 1 ≤ n * iv := Nat.mul_le_mul_left n h1
      omega)
    omega
theorem find_ev (l : List S42) (iv : Nat) (q : S32) (h1 : 1 ≤ iv) (h16 : iv ≤ 16) (hl : l.length < 281474976710656) (hc : ck none l = 0) : Ev (fun k => find_f k l iv q) (fi l q) := by
  have hr := ck_rise l none hc
  obtain ⟨lo, a, b, c⟩ := find_b_ev l iv q h1 (fun m hm => ceil_mul l.length iv m h1 hm) ((l.length + iv - 1) / iv) 0 ((l.length + iv - 1) / iv) (Nat.sub_le _ _) (Nat.zero_le _) (Nat.le_refl _) (ceil_le _ _ h1) (fun h => by omega)
  unfold find_f
  refine Ev.ifT ⟨hl, h1, h16⟩ (Ev.bind c (Ev.ifT a ?_))
  rcases Nat.eq_zero_or_pos lo with h0 | h0
  · subst h0
    rw [show (0 - 1) * iv = 0 by omega]
    exact find_s_ev l q l.length 0 (by omega) (fun j hj => by omega)
  · obtain ⟨b1, b2⟩ := b h0
    refine find_s_ev l q (l.length - (lo - 1) * iv) ((lo - 1) * iv) (by omega) (fun j hj => ?_)
    refine rise_down hr q ((lo - 1) * iv - j) j (by omega) ?_ (by omega)
    rw [show j + ((lo - 1) * iv - j) = (lo - 1) * iv by omega]
    exact Int.le_of_lt b2
end Go.Proofs.Ytppkpleagnddeaa.Q
namespace Go.Proofs.Ytppkpleagnddeaa.Q
open Go.RowKit Go.Proofs.YtppkpleagnddeaaW.PrintWords Go.Proofs.YtppkpleagnddeaaW.PrintLast Go.Proofs.YtppkpleagnddeaaW.PrintMore Go.Proofs.Ytppkpleagnddeaa.P Go.Proofs.Ytppkpleagnddeaa.M Go.Proofs.Ytppkpleagnddeaa.B

def ua (D : List Int) : Nat := (uvd D 0 0).1
def uk (D : List Int) : Nat := (uvd D 0 0).2.1
def ue (D : List Int) : Nat := (uvd D 0 0).2.2
def ud (D : List Int) : List Int := D.drop (uk D)
theorem ue_ok {D : List Int} (hb : IsB D) (h : ue D = 0) : 0 < uk D ∧ uk D ≤ D.length ∧ ua D < 18446744073709551616 := by
  have := uvd_ok D 0 0 (ua D) (uk D) hb (by omega) (by decide) (by unfold ua uk; exact Prod.ext rfl (Prod.ext rfl h))
  omega
theorem ue_bad {D : List Int} (h : ue D ≠ 0) : uk D = 0 := (uvd_err D 0 0 h).2.1
theorem uk_le {D : List Int} (hb : IsB D) : uk D ≤ D.length := by
  by_cases h : ue D = 0
  · exact (ue_ok hb h).2.1
  · rw [ue_bad h]; omega
theorem ud_IsB {D : List Int} (hb : IsB D) : IsB (ud D) := hb.drop _
theorem ud_length (D : List Int) : (ud D).length = D.length - uk D := List.length_drop
/-- the bytes of the next key, and what is behind -/
def pkey (D last : List Int) : List Int := last.take (ua D) ++ (ud (ud (ud D))).take (ua (ud D))
def prest (D : List Int) : List Int := (ud (ud (ud D))).drop (ua (ud D))
def POk (D last : List Int) : Prop := ue D = 0 ∧ ua D ≤ last.length ∧ ue (ud D) = 0 ∧ ue (ud (ud D)) = 0 ∧ ua (ud D) ≤ (ud (ud (ud D))).length ∧ (dec (pkey D last)).2.2.2 = 0 ∧ ua (ud (ud D)) ≤ (prest D).length
instance (D last : List Int) : Decidable (POk D last) := by unfold POk; infer_instance
def pent (D last : List Int) : S42 := ⟨⟨(dec (pkey D last)).1, (dec (pkey D last)).2.1, (dec (pkey D last)).2.2.1⟩, strOfNums ((prest D).take (ua (ud (ud D))))⟩
def pr : Nat → List Int → List Int → List S42 → Option (List S42)
  | 0, _, _, _ => none
  | f + 1, D, last, acc => if D.length = 0 then some acc else if POk D last then pr f ((prest D).drop (ua (ud (ud D)))) (pkey D last) (acc ++ [pent D last]) else none
theorem pkey_IsB {D last : List Int} (hb : IsB D) (hl : IsB last) : IsB (pkey D last) := (hl.take _).append ((ud_IsB (ud_IsB (ud_IsB hb))).take _)
theorem prest_IsB {D : List Int} (hb : IsB D) : IsB (prest D) := (ud_IsB (ud_IsB (ud_IsB hb))).drop _
theorem POk_less {D last : List Int} (hb : IsB D) (h : POk D last) : ((prest D).drop (ua (ud (ud D)))).length < D.length := by
  have h1 := ue_ok hb h.1
  have e1 := ud_length D
  have e2 := ud_length (ud D)
  have e3 := ud_length (ud (ud D))
  unfold prest
  simp only [List.length_drop]
  omega
theorem pkey_short {D last : List Int} (hb : IsB D) (hl : IsB last) (h : POk D last) : (pkey D last).length ≤ 72 := (dec_ok (pkey_IsB hb hl) h.2.2.2.2.2.1).2.1
theorem pent_pos {D last : List Int} (hb : IsB D) (hl : IsB last) (h : POk D last) : 0 ≤ (pent D last).f0.f1 := by
  have := (dec_ok (pkey_IsB hb hl) h.2.2.2.2.2.1).2.2.2
  unfold pent
  dsimp only
  rw [this]
  exact Int.natCast_nonneg _
theorem pr_facts : ∀ (f : Nat) (D last : List Int) (acc l : List S42), IsB D → IsB last → (∀ e ∈ acc, 0 ≤ e.f0.f1) → pr f D last acc = some l → (∀ e ∈ l, 0 ≤ e.f0.f1) ∧ l.length ≤ acc.length + D.length
  | 0, _, _, _, _, _, _, _, h => by simp [pr] at h
  | f + 1, D, last, acc, l, hb, hl, ha, h => by
    rw [pr] at h
    by_cases h0 : D.length = 0
    · rw [if_pos h0] at h
      obtain rfl := Option.some.inj h
      exact ⟨ha, by omega⟩
    · rw [if_neg h0] at h
      by_cases hp : POk D last
      · rw [if_pos hp] at h
        have hlt := POk_less hb hp
        obtain ⟨i1, i2⟩ := pr_facts f _ _ _ l ((prest_IsB hb).drop _) (pkey_IsB hb hl) (fun e he => by
          rcases List.mem_append.1 he with he | he
          · exact ha e he
          · rw [List.mem_singleton.1 he]; exact pent_pos hb hl hp) h
        refine ⟨i1, ?_⟩
        simp only [List.length_append, List.length_singleton] at i2
        omega
      · rw [if_neg hp] at h; cases h

/-! ### block.read -/
theorem nm_good {α : Type} {D : List Int} {most : Int} {F : Nat → Int → List Int → Option (Option α)} {r : Option α} (hb : IsB D) (h : ue D = 0) (h2 : (ua D : Int) ≤ most) (hF : Ev (fun k => F k (ua D : Int) (ud D)) r) : Ev (fun k => nm k D most (F k)) r := by
  unfold nm
  refine Ev.bind (Uvarint_ev D hb) (Ev.ifT ⟨?_, ?_, ?_, ?_, ?_⟩ ?_)
  · dsimp only; unfold ue at h; omega
  · dsimp only; omega
  · exact h2
  · dsimp only; omega
  · have := uk_le hb; unfold uk at this; dsimp only; omega
  · dsimp only
    rw [Int.toNat_natCast]
    exact hF
theorem nm_bad {α : Type} {D : List Int} {most : Int} {F : Nat → Int → List Int → Option (Option α)} (hb : IsB D) (h : ¬ (ue D = 0 ∧ (ua D : Int) ≤ most)) : Ev (fun k => nm k D most (F k)) none := by
  unfold nm
  unfold ue ua at h
  refine Ev.bind (Uvarint_ev D hb) (Ev.ifF (fun hc => h ⟨by have := hc.1; dsimp only at this; omega, hc.2.2.1⟩) (Ev.ifT ?_ (Ev.now _)))
  dsimp only
  by_cases h0 : (uvd D 0 0).2.2 = 0
  · exact .inr (by by_cases hle : (((uvd D 0 0).1 : Nat) : Int) ≤ most; exact absurd ⟨h0, hle⟩ h; omega)
  · exact .inl (by omega)
theorem rd_g_ev (bl : Nat) (hbl : bl ≤ 2000000) : ∀ (f : Nat) (D last : List Int) (acc : List S42), D.length < f → IsB D → IsB last → last.length ≤ 72 → acc.length + D.length ≤ 2000000 → D.length ≤ bl → Ev (fun k => rd_g k bl D last acc) (pr f D last acc)
  | 0, D, _, _, hf, _, _, _, _, _ => by omega
  | f + 1, D, last, acc, hf, hb, hl, hla, hacc, hD => by
    rw [pr]
    by_cases h0 : D.length = 0
    · rw [if_pos h0]
      exact Ev.step (fun k => rd_g.eq_2 (k := k) ..) (Ev.ifT h0 (Ev.now _))
    rw [if_neg h0]
    refine Ev.step (fun k => rd_g.eq_2 (k := k) ..) (Ev.ifF h0 ?_)
    have b1 := ud_IsB hb
    have b2 := ud_IsB b1
    have b3 := ud_IsB b2
    have e1 := ud_length D
    have e2 := ud_length (ud D)
    have e3 := ud_length (ud (ud D))
    by_cases c1 : ue D = 0 ∧ (ua D : Int) ≤ (last.length : Int)
    case neg => rw [if_neg (fun h => c1 ⟨h.1, by have := h.2.1; omega⟩)]; exact nm_bad hb c1
    refine nm_good hb c1.1 c1.2 ?_
    by_cases c2 : ue (ud D) = 0 ∧ (ua (ud D) : Int) ≤ (bl : Int)
    case neg => rw [if_neg (fun h => c2 ⟨h.2.2.1, by have := h.2.2.2.2.1; omega⟩)]; exact nm_bad b1 c2
    refine nm_good b1 c2.1 c2.2 ?_
    by_cases c3 : ue (ud (ud D)) = 0 ∧ (ua (ud (ud D)) : Int) ≤ (bl : Int)
    case neg =>
      rw [if_neg (fun h => c3 ⟨h.2.2.2.1, by have := h.2.2.2.2.2.2; unfold prest at this; rw [List.length_drop] at this; omega⟩)]
      exact nm_bad b2 c3
    refine nm_good b2 c3.1 c3.2 ?_
    simp only [Int.toNat_natCast, tk]
    refine Ev.ifT (by rw [List.length_take]; omega) ?_
    by_cases c4 : ua (ud D) ≤ (ud (ud (ud D))).length
    case neg => rw [if_neg (fun h => c4 h.2.2.2.2.1)]; exact Ev.ifF (by omega) (Ev.now _)
    refine Ev.ifT (by omega) ?_
    have hk := pkey_IsB hb hl
    have hkl : (pkey D last).length ≤ 140737488351232 := by unfold pkey; rw [List.length_append, List.length_take, List.length_take]; omega
    refine Ev.bind (Decode_ev (pkey D last) hk hkl) ?_
    by_cases c5 : (dec (pkey D last)).2.2.2 = 0
    case neg => rw [if_neg (fun h => c5 h.2.2.2.2.2.1)]; exact Ev.ifF c5 (Ev.now _)
    refine Ev.ifT c5 ?_
    by_cases c6 : ua (ud (ud D)) ≤ (prest D).length
    case neg => rw [if_neg (fun h => c6 h.2.2.2.2.2.2)]; exact Ev.ifF (by unfold prest at c6; omega) (Ev.now _)
    have hp : POk D last := ⟨c1.1, by omega, c2.1, c3.1, c4, c5, c6⟩
    rw [if_pos hp]
    have hlt := POk_less hb hp
    refine Ev.ifT (by unfold prest at c6; omega) (Ev.ifT (by omega) ?_)
    show Ev (fun k => rd_g k bl ((prest D).drop (ua (ud (ud D)))) (pkey D last) (acc ++ [pent D last])) _
    exact rd_g_ev bl hbl f _ _ _ (by omega) ((prest_IsB hb).drop _) hk (pkey_short hb hl hp) (by simp only [List.length_append, List.length_singleton]; omega) (by omega)
def mk4 (b : List Int) : Nat := fxd (b.drop (b.length - 4))
def rg (b : List Int) : Option (List S42 × Int) := if b.length < 5 then none else if mk4 b ≤ (b.length - 5) / 4 then (pr (b.length + 1) (b.take (b.length - 5 - 4 * mk4 b)) [] []).map (fun l => (l, rd b ((b.length : Int) - 5))) else none
theorem rd_byte {b : List Int} (hb : IsB b) (i : Int) (h0 : 0 ≤ i) (h1 : i < b.length) : 0 ≤ rd b i ∧ rd b i < 256 := by
  unfold rd
  rw [List.getD_eq_getElem?_getD, List.getElem?_eq_getElem (by omega)]
  exact hb _ (List.getElem_mem _)
theorem fixed4 (b : List Int) (hb : IsB b) (h : 5 ≤ b.length) : Ev (fun k => codec_Fixed.f k (b.drop (b.length - 4)) 4) ((mk4 b : Int), 0) := by
  have hl : (b.drop (b.length - 4)).length = 4 := by rw [List.length_drop]; omega
  have := Fixed_ev (b.drop (b.length - 4)) (hb.drop _) 4 (by decide) (by decide)
  rw [if_neg (by omega), List.take_of_length_le (by omega)] at this
  exact this
theorem mk4_lt (b : List Int) (hb : IsB b) (h : 5 ≤ b.length) : mk4 b < 4294967296 := by
  have hl : (b.drop (b.length - 4)).length = 4 := by rw [List.length_drop]; omega
  have := fxd_lt _ (hb.drop (b.length - 4))
  rw [hl] at this
  exact this
theorem read_g_ev (b : List Int) (hb : IsB b) (hl : b.length ≤ 1048576) : Ev (fun k => read_g k b) (rg b) := by
  unfold rg read_g
  by_cases h5 : b.length < 5
  · rw [if_pos h5]
    exact Ev.ifT h5 (Ev.now _)
  rw [if_neg h5]
  refine Ev.ifF h5 (Ev.ifT (by omega) (Ev.bind (fixed4 b hb (by omega)) (Ev.ifT (by dsimp only; omega) ?_)))
  by_cases hm : mk4 b ≤ (b.length - 5) / 4
  · rw [if_pos hm]
    refine Ev.ifT (by dsimp only; omega) ?_
    dsimp only
    rw [Int.toNat_natCast]
    have h := rd_g_ev b.length (by omega) (b.length + 1) (b.take (b.length - 5 - 4 * mk4 b)) [] [] (by rw [List.length_take]; omega) (hb.take _) IsB.nil (by simp) (by rw [List.length_take, List.length_nil]; omega) (by rw [List.length_take]; omega)
    have hr := rd_byte hb ((b.length : Int) - 5) (by omega) (by omega)
    rw [w64 (by omega) (by omega)]
    exact Ev.bind h (Ev.now _)
  · rw [if_neg hm]
    exact Ev.ifF (by dsimp only; omega) (Ev.now _)
def og (b : List Int) : Option (List S42 × Int) := match rg b with
  | none => none
  | some x => if (blt x.1 x.2).2 = 0 then (if (strOfNums (blt x.1 x.2).1).toList = (strOfNums b).toList then some x else none) else none
theorem rg_facts {b : List Int} (hb : IsB b) {x : List S42 × Int} (h : rg b = some x) : (∀ e ∈ x.1, 0 ≤ e.f0.f1) ∧ x.1.length ≤ b.length ∧ 5 ≤ b.length ∧ x.2 = rd b ((b.length : Int) - 5) := by
  unfold rg at h
  by_cases h5 : b.length < 5
  · rw [if_pos h5] at h; cases h
  · rw [if_neg h5] at h
    by_cases hm : mk4 b ≤ (b.length - 5) / 4
    · rw [if_pos hm] at h
      obtain ⟨l, hl, rfl⟩ := Option.map_eq_some_iff.1 h
      obtain ⟨f1, f2⟩ := pr_facts _ _ _ [] l (hb.take _) IsB.nil (fun e he => by cases he) hl
      rw [List.length_nil, List.length_take] at f2
      exact ⟨f1, by dsimp only; omega, by omega, rfl⟩
    · rw [if_neg hm] at h; cases h
theorem pr_len11 : ∀ (f : Nat) (D last : List Int) (acc l : List S42), IsB D → IsB last → pr f D last acc = some l → l.length * 3 ≤ acc.length * 3 + D.length
  | 0, _, _, _, _, _, _, h => by simp [pr] at h
  | f + 1, D, last, acc, l, hb, hl, h => by
    rw [pr] at h
    by_cases h0 : D.length = 0
    · rw [if_pos h0] at h
      obtain rfl := Option.some.inj h
      omega
    · rw [if_neg h0] at h
      by_cases hp : POk D last
      · rw [if_pos hp] at h
        have i2 := pr_len11 f _ _ _ l ((prest_IsB hb).drop _) (pkey_IsB hb hl) h
        have h1 := ue_ok hb hp.1
        have h2 := ue_ok (ud_IsB hb) hp.2.2.1
        have h3 := ue_ok (ud_IsB (ud_IsB hb)) hp.2.2.2.1
        have e1 := ud_length D
        have e2 := ud_length (ud D)
        have e3 := ud_length (ud (ud D))
        simp only [List.length_append, List.length_singleton] at i2
        unfold prest at i2
        simp only [List.length_drop] at i2
        omega
      · rw [if_neg hp] at h; cases h
theorem rg_few {b : List Int} (hb : IsB b) (hl : b.length ≤ 1048576) {x : List S42 × Int} (h : rg b = some x) : x.1.length ≤ 349525 := by
  unfold rg at h
  by_cases h5 : b.length < 5
  · rw [if_pos h5] at h; cases h
  · rw [if_neg h5] at h
    by_cases hm : mk4 b ≤ (b.length - 5) / 4
    · rw [if_pos hm] at h
      obtain ⟨l, hl, rfl⟩ := Option.map_eq_some_iff.1 h
      have := pr_len11 _ _ _ [] l (hb.take _) IsB.nil hl
      rw [List.length_nil, List.length_take] at this
      dsimp only
      omega
    · rw [if_neg hm] at h; cases h
theorem open_g_ev (b : List Int) (hb : IsB b) (hl : b.length ≤ 1048576) : Ev (fun k => open_g k b) (og b) := by
  unfold open_g og
  refine Ev.bind (read_g_ev b hb hl) ?_
  cases h : rg b with
  | none => exact Ev.now _
  | some x =>
    obtain ⟨f1, _, _, _⟩ := rg_facts hb h
    dsimp only
    refine Ev.bind (Build_evg x.1 x.2 (Nat.le_trans (rg_few hb hl h) (by decide)) f1) ?_
    by_cases h0 : (blt x.1 x.2).2 = 0
    · refine Ev.ifT h0 ?_
      rw [if_pos h0]
      unfold bytes_Equal.f
      refine Ev.some_ ?_
      by_cases he : (strOfNums (blt x.1 x.2).1).toList = (strOfNums b).toList
      · rw [if_pos he]
        exact Ev.ifT (beq_iff_eq.mpr he) (Ev.now _)
      · rw [if_neg he]
        exact Ev.ifF (fun h => he (beq_iff_eq.mp h)) (Ev.now _)
    · refine Ev.ifF h0 ?_
      rw [if_neg h0]
      exact Ev.now _

/-! ### The document's Read -/
def fin (b : List Int) (iv : Int) (l : List S42) : List S42 × Int := if (blt l iv).2 = 0 then (if (strOfNums (blt l iv).1).toList = (strOfNums b).toList then (l, 0) else ([], 111)) else ([], 111)
def out (b : List Int) (iv : Int) : Option (List S42) → List S42 × Int
  | none => ([], 111)
  | some l => fin b iv l
theorem w_len (n : Nat) (h : n ≤ 4000000) : IntKind.u64.wrap (n : Int) = (n : Int) := wU64 (by omega) (by omega)
theorem w_add (a b : Nat) (h : a + b ≤ 4000000) : wrap64 ((a : Int) + (b : Int)) = ((a + b : Nat) : Int) := by rw [w64 (by omega) (by omega)]; rfl
theorem w_addu (a b : Nat) (h : a + b ≤ 4000000) : IntKind.u64.wrap ((a : Int) + (b : Int)) = ((a + b : Nat) : Int) := by rw [wU64 (by omega) (by omega)]; rfl
theorem w_subu (a b : Nat) (h : a ≤ 4000000) (hb : b ≤ a) : IntKind.u64.wrap ((a : Int) - (b : Int)) = ((a - b : Nat) : Int) := by rw [wU64 (by omega) (by omega)]; omega
theorem j2_true (b : List Int) (iv : Int) (D : List Int) (acc : List S42) (last : List Int) (a1 a2 a3 a4 a5 a6 : Int) : Ev (fun k => staddleref11_Read.j2 k b iv D acc last a1 a2 a3 a4 a5 a6 true) ([], 111) :=
  Ev.step (fun k => staddleref11_Read.j2.eq_2 (k := k) ..) (Ev.ifT rfl (Ev.now _))
theorem j3_true (b : List Int) (iv : Int) (D : List Int) (acc : List S42) (last : List Int) (a1 a2 a3 : Int) : Ev (fun k => staddleref11_Read.j3 k b iv D acc last a1 a2 a3 true) ([], 111) :=
  Ev.step (fun k => staddleref11_Read.j3.eq_2 (k := k) ..) (Ev.ifT rfl (Ev.now _))
theorem refRead_l0 (b : List Int) (iv : Int) : ∀ (f : Nat) (D last : List Int) (acc : List S42), D.length < f → IsB D → IsB last → last.length ≤ 72 → acc.length * 3 + D.length ≤ 1048576 → (∀ e ∈ acc, 0 ≤ e.f0.f1) →
    Ev (fun k => staddleref11_Read.l0 k b iv D acc last) (out b iv (pr f D last acc))
  | 0, D, _, _, hf, _, _, _, _, _ => by omega
  | f + 1, D, last, acc, hf, hb, hl, hla, hacc, hpos => by
    rw [pr]
    by_cases h0 : D.length = 0
    · rw [if_pos h0]
      refine Ev.step (fun k => staddleref11_Read.l0.eq_2 (k := k) ..) (Ev.ifF (by omega) (Ev.bind (refBuild_evg acc iv (by omega) hpos) ?_))
      unfold out fin
      by_cases c : (blt acc iv).2 = 0
      · dsimp only
        refine Ev.ifT c ?_
        rw [if_pos c]
        by_cases d : (strOfNums (blt acc iv).1).toList = (strOfNums b).toList
        · refine Ev.ifT d ?_
          rw [if_pos d]; exact Ev.now _
        · refine Ev.ifF d ?_
          rw [if_neg d]; exact Ev.now _
      · dsimp only
        refine Ev.ifF c ?_
        rw [if_neg c]
        exact Ev.now _
    rw [if_neg h0]
    have b1 := ud_IsB hb
    have b2 := ud_IsB b1
    have b3 := ud_IsB b2
    have e1 := ud_length D
    have e2 := ud_length (ud D)
    have e3 := ud_length (ud (ud D))
    have k1 := uk_le hb
    have k2 := uk_le b1
    have k3 := uk_le b2
    refine Ev.step (fun k => staddleref11_Read.l0.eq_2 (k := k) ..) (Ev.ifT (by omega) (Ev.bind (refUvarint_ev D hb) ?_))
    show Ev (fun k => if (0 : Int) ≤ (uk D : Int) then (if (uk D : Int) ≤ (D.length : Int) then _ else _) else _) _
    refine Ev.ifT (by omega) (Ev.ifT (by omega) ?_)
    rw [Int.toNat_natCast]
    refine Ev.bind (a := ((ua (ud D) : Int), (uk (ud D) : Int), (ue (ud D) : Int))) (refUvarint_ev (ud D) b1) ?_
    dsimp only
    rw [show ((uvd D 0 0).2.1 : Int) = (uk D : Int) from rfl, w_add _ _ (by omega), Int.toNat_natCast, show D.drop (uk D + uk (ud D)) = ud (ud D) by unfold ud; rw [List.drop_drop]]
    refine Ev.ifT (by omega) (Ev.ifT (by omega) (Ev.bind (a := ((ua (ud (ud D)) : Int), (uk (ud (ud D)) : Int), (ue (ud (ud D)) : Int))) (refUvarint_ev (ud (ud D)) b2) ?_))
    dsimp only
    rw [show ((uvd D 0 0).2.2 : Int) = (ue D : Int) from rfl, show ((uvd D 0 0).1 : Int) = (ua D : Int) from rfl]
    by_cases c1 : ue D = 0
    case neg => rw [if_neg (fun h => c1 h.1)]; exact Ev.ifF (by omega) (j2_true ..)
    refine Ev.ifT (by omega) ?_
    by_cases c2 : ue (ud D) = 0
    case neg => rw [if_neg (fun h => c2 h.2.2.1)]; exact Ev.ifF (by omega) (j2_true ..)
    refine Ev.ifT (by omega) ?_
    by_cases c3 : ue (ud (ud D)) = 0
    case neg =>
      rw [if_neg (fun h => c3 h.2.2.2.1), show (((ue (ud (ud D)) : Nat) : Int) != 0) = true from bne_iff_ne.mpr (by omega)]
      exact j2_true ..
    rw [show (((ue (ud (ud D)) : Nat) : Int) != 0) = false from bne_eq_false_iff_eq.mpr (by omega)]
    have ha1 := ue_ok hb c1
    have ha2 := ue_ok b1 c2
    have ha3 := ue_ok b2 c3
    refine Ev.step (fun k => staddleref11_Read.j2.eq_2 (k := k) ..) (Ev.ifF (by decide) ?_)
    rw [w_add _ _ (by omega), w_add _ _ (by omega)]
    refine Ev.ifT (by omega) (Ev.ifT (by omega) (Ev.some_ ?_))
    rw [Int.toNat_natCast, show D.drop (uk D + uk (ud D) + uk (ud (ud D))) = ud (ud (ud D)) by unfold ud; rw [List.drop_drop, List.drop_drop], w_len last.length (by omega), w_len (ud (ud (ud D))).length (by omega)]
    by_cases c4 : ua D ≤ last.length
    case neg => rw [if_neg (fun h => c4 h.2.1)]; exact Ev.ifT (by omega) (j3_true ..)
    refine Ev.ifF (by omega) ?_
    by_cases c5 : ua (ud D) ≤ (ud (ud (ud D))).length
    case neg => rw [if_neg (fun h => c5 h.2.2.2.2.1)]; exact Ev.ifT (by omega) (j3_true ..)
    refine Ev.ifF (by omega) ?_
    rw [w_subu _ _ (by omega) c5]
    have hpl : (prest D).length = (ud (ud (ud D))).length - ua (ud D) := List.length_drop
    have hk := pkey_IsB hb hl
    have hkl : (pkey D last).length ≤ 140737488351232 := by unfold pkey; rw [List.length_append, List.length_take, List.length_take]; omega
    by_cases c6 : ua (ud (ud D)) ≤ (prest D).length
    case neg =>
      rw [if_neg (fun h => c6 h.2.2.2.2.2.2), decide_eq_true (by omega)]
      exact j3_true ..
    rw [decide_eq_false (by omega)]
    refine Ev.step (fun k => staddleref11_Read.j3.eq_2 (k := k) ..) (Ev.ifF (by decide) (Ev.some_ (Ev.ifT (by omega) (Ev.ifT (by omega) (Ev.some_ ?_)))))
    rw [Int.toNat_natCast]
    refine Ev.ifT (by rw [List.length_take, List.length_nil]; omega) (Ev.some_ (Ev.ifT (by omega) (Ev.ifT (by omega) (Ev.some_ ?_))))
    rw [Int.toNat_natCast]
    refine Ev.ifT (by rw [List.length_append, List.length_take, List.length_take, List.length_nil]; omega) (Ev.some_ ?_)
    rw [List.nil_append]
    refine Ev.bind (refDecode_ev (pkey D last) hk hkl) ?_
    by_cases c7 : (dec (pkey D last)).2.2.2 = 0
    case neg => rw [if_neg (fun h => c7 h.2.2.2.2.2.1)]; exact Ev.ifF c7 (Ev.now _)
    have hp : POk D last := ⟨c1, c4, c2, c3, c5, c7, c6⟩
    rw [if_pos hp]
    have hlt := POk_less hb hp
    refine Ev.ifT c7 ?_
    rw [w_addu _ _ (by omega)]
    refine Ev.ifT (by omega) (Ev.ifT (by omega) (Ev.ifT (by omega) (Ev.ifT (by omega) ?_)))
    rw [Int.toNat_natCast, List.drop_take, Nat.add_sub_cancel_left]
    have hd : (ud (ud (ud D))).drop (ua (ud D) + ua (ud (ud D))) = (prest D).drop (ua (ud (ud D))) := by unfold prest; rw [List.drop_drop]
    rw [hd]
    have h3 : ((prest D).drop (ua (ud (ud D)))).length + 3 ≤ D.length := by rw [List.length_drop]; omega
    have hps := pkey_short hb hl hp
    have hpp := pent_pos hb hl hp
    exact refRead_l0 b iv f ((prest D).drop (ua (ud (ud D)))) (pkey D last) (acc ++ [pent D last]) (by omega) ((prest_IsB hb).drop _) hk hps (by simp only [List.length_append, List.length_singleton]; omega) (fun e he => by
      rcases List.mem_append.1 he with he | he
      · exact hpos e he
      · rw [List.mem_singleton.1 he]; exact hpp)
def rout (b : List Int) : List S42 × Int := match og b with
  | some x => (x.1, 0)
  | none => ([], 111)
theorem refFixed4 (b : List Int) (hb : IsB b) (h : 5 ≤ b.length) : Ev (fun k => staddleref01_Fixed.f k (b.drop (b.length - 4)) 4) ((mk4 b : Int), 0) := by
  have hl : (b.drop (b.length - 4)).length = 4 := by rw [List.length_drop]; omega
  have := refFixed_ev (b.drop (b.length - 4)) (hb.drop _) 4 (by decide) (by decide)
  rw [if_neg (by omega), List.take_of_length_le (by omega)] at this
  exact this
theorem w_s4 (n : Nat) (h : 5 ≤ n) (h2 : n ≤ 4000000) : wrap64 ((n : Int) - 4) = ((n - 4 : Nat) : Int) := by rw [w64 (by omega) (by omega)]; omega
theorem w_s5 (n : Nat) (h : 5 ≤ n) (h2 : n ≤ 4000000) : wrap64 ((n : Int) - 5) = ((n - 5 : Nat) : Int) := by rw [w64 (by omega) (by omega)]; omega
theorem w_m (m : Nat) (h : m < 4294967296) : wrap64 (4 * wrap64 (m : Int)) = ((4 * m : Nat) : Int) := by rw [w64 (n := (m : Int)) (by omega) (by omega), w64 (by omega) (by omega)]; omega
theorem w_5m (m : Nat) (h : m < 4294967296) : wrap64 (5 + ((4 * m : Nat) : Int)) = ((5 + 4 * m : Nat) : Int) := by rw [w64 (by omega) (by omega)]; omega
theorem w_sm (n m : Nat) (h : m ≤ n) (h2 : n ≤ 4000000) : wrap64 ((n : Int) - (m : Int)) = ((n - m : Nat) : Int) := by rw [w64 (by omega) (by omega)]; omega
theorem refRead_ev (b : List Int) (hb : IsB b) (hl : b.length ≤ 1048576) : Ev (fun k => staddleref11_Read.f k b) (rout b) := by
  unfold staddleref11_Read.f rout og
  by_cases h5 : b.length < 5
  · have : rg b = none := by unfold rg; rw [if_pos h5]
    rw [this]
    exact Ev.ifT (by omega) (Ev.now _)
  refine Ev.ifF (by omega) ?_
  rw [w_s4 _ (by omega) (by omega)]
  refine Ev.ifT (by omega) (Ev.ifT (by omega) ?_)
  rw [Int.toNat_natCast]
  refine Ev.bind (refFixed4 b hb (by omega)) ?_
  dsimp only
  have hm := mk4_lt b hb (by omega)
  have jt : Ev (fun k => staddleref11_Read.j0 k b (mk4 b : Int) true) ([], 111) := Ev.step (fun k => staddleref11_Read.j0.eq_2 (k := k) ..) (Ev.ifT rfl (Ev.now _))
  rw [w_len _ (by omega), w_m _ hm, w_5m _ hm]
  by_cases h4 : mk4 b ≤ (b.length - 5) / 4
  case neg =>
    have : rg b = none := by unfold rg; rw [if_neg h5, if_neg h4]
    rw [this]
    by_cases hg : (mk4 b : Int) > (b.length : Int)
    · exact Ev.ifT hg jt
    · refine Ev.ifF hg ?_
      rw [decide_eq_true (by omega)]
      exact jt
  refine Ev.ifF (by omega) ?_
  rw [decide_eq_false (by omega)]
  refine Ev.step (fun k => staddleref11_Read.j0.eq_2 (k := k) ..) (Ev.ifF (by decide) ?_)
  rw [w_m _ hm, w_s5 _ (by omega) (by omega), w_sm _ _ (by omega) (by omega)]
  have hr := rd_byte hb ((b.length : Int) - 5) (by omega) (by omega)
  have e5 : ((b.length - 5 : Nat) : Int) = (b.length : Int) - 5 := by omega
  refine Ev.ifT (by omega) (Ev.ifT (by omega) (Ev.ifT (by omega) (Ev.ifT (by omega) ?_)))
  rw [Int.toNat_natCast, e5, w64 (n := rd b ((b.length : Int) - 5)) (by omega) (by omega)]
  have h := refRead_l0 b (rd b ((b.length : Int) - 5)) (b.length + 1) (b.take (b.length - 5 - 4 * mk4 b)) [] [] (by rw [List.length_take]; omega) (hb.take _) IsB.nil (by simp) (by rw [List.length_take, List.length_nil]; omega) (fun e he => by cases he)
  refine ev_eq ?_ h
  unfold rg
  rw [if_neg h5, if_pos h4]
  cases pr (b.length + 1) (b.take (b.length - 5 - 4 * mk4 b)) [] [] with
  | none => rfl
  | some l =>
    unfold out fin
    dsimp only [Option.map]
    by_cases c : (blt l (rd b ((b.length : Int) - 5))).2 = 0
    · rw [if_pos c, if_pos c]
      by_cases d : (strOfNums (blt l (rd b ((b.length : Int) - 5))).1).toList = (strOfNums b).toList
      · rw [if_pos d, if_pos d]
      · rw [if_neg d, if_neg d]
    · rw [if_neg c, if_neg c]
/-- the document's Find -/
theorem refFind_l0 (l : List S42) (q : S32) (hl : l.length ≤ 4000000) : ∀ (d i : Nat), i + d = l.length → (∀ j, j < i → kq (rd_T42 l (j : Int)) q < 0) → Ev (fun k => staddleref11_Find.l0 k l (i : Int) q.f0 q.f1 q.f2) (fi l q : Int)
  | 0, i, hd, h => by
    have : fi l q = i := fi_is l q i (by omega) h (fun h => by omega)
    rw [this]
    refine Ev.step (fun k => staddleref11_Find.l0.eq_2 (k := k) ..) (Ev.ifF (by omega) (ev_eq (by omega) (Ev.now _)))
  | d + 1, i, hd, h => by
    refine Ev.step (fun k => staddleref11_Find.l0.eq_2 (k := k) ..) (Ev.ifT (by omega) (Ev.ifT (by omega) (Ev.bind (a := kq (rd_T42 l (i : Int)) q) (refCompare_ev ..) ?_)))
    by_cases hq : kq (rd_T42 l (i : Int)) q < 0
    · refine Ev.ifF (by omega) ?_
      rw [w64 (by omega) (by omega)]
      exact refFind_l0 l q hl d (i + 1) (by omega) (fun j hj => by
        rcases Nat.lt_or_ge j i with hj' | hj'
        · exact h j hj'
        · rw [show j = i by omega]; exact hq)
    · have : fi l q = i := fi_is l q i (by omega) h (fun _ => hq)
      rw [this]
      exact Ev.ifT (by omega) (Ev.now _)
theorem refFind_ev (l : List S42) (q : S32) (hl : l.length ≤ 4000000) : Ev (fun k => staddleref11_Find.f k l q.f0 q.f1 q.f2) (fi l q : Int) := refFind_l0 l q hl l.length 0 (by omega) (fun j hj => by omega)
end Go.Proofs.Ytppkpleagnddeaa.Q
namespace Go.Proofs.Ytppkpleagnddeaa.Pure
open Go.RowKit Go.Proofs.YtppkpleagnddeaaW.PrintWords Go.Proofs.YtppkpleagnddeaaW.PrintLast Go.Proofs.YtppkpleagnddeaaW.PrintMore Go.Proofs.Ytppkpleagnddeaa.P Go.Proofs.Ytppkpleagnddeaa.M Go.Proofs.Ytppkpleagnddeaa.Q Go.Proofs.Ytppkpleagnddeaa.B

theorem og_some {b : List Int} {x : List S42 × Int} (h : og b = some x) : rg b = some x ∧ (blt x.1 x.2).2 = 0 ∧ (strOfNums (blt x.1 x.2).1).toList = (strOfNums b).toList := by
  unfold og at h
  cases hr : rg b with
  | none => rw [hr] at h; cases h
  | some y =>
    rw [hr] at h
    dsimp only at h
    by_cases c : (blt y.1 y.2).2 = 0
    · rw [if_pos c] at h
      by_cases d : (strOfNums (blt y.1 y.2).1).toList = (strOfNums b).toList
      · rw [if_pos d] at h; obtain rfl := Option.some.inj h; exact ⟨rfl, c, d⟩
      · rw [if_neg d] at h; cases h
    · rw [if_neg c] at h; cases h
theorem blt_zero {l : List S42} {iv : Int} (h : (blt l iv).2 = 0) : 1 ≤ iv ∧ iv ≤ 16 ∧ ck none l = 0 := by
  unfold blt at h
  by_cases h1 : iv < 1 ∨ 16 < iv
  · rw [if_pos h1] at h; exact absurd h (by decide)
  · rw [if_neg h1] at h
    by_cases hc : ck none l = 0
    · exact ⟨by omega, by omega, hc⟩
    · rw [if_neg hc] at h; exact absurd h hc
theorem BlockReadsU (b : List Int) (q0 : ByteArray) (q1 q2 : Int) (a2 : Int) (h0 : b.length ≤ 1048576) (w0 : ∀ x ∈ b, (Lit.int .u8 x).wf = true) (_z : q0.size ≤ 9223372036854775807) (_v1 : (Lit.int .u64 q1).wf = true) (_v2 : (Lit.int .i64 q2).wf = true) (_w : (Lit.int .i64 a2).wf = true) :
    ∃ k, B.Rds k b ⟨q0, q1, q2⟩ ∧ true = true := by
  have hb := IsB.of_wf w0
  obtain ⟨K1, e1⟩ := open_g_ev b hb h0
  obtain ⟨K2, e2⟩ := refRead_ev b hb h0
  unfold rout at e2
  cases h : og b with
  | none =>
    rw [h] at e1 e2
    exact ⟨K1 + K2, ⟨none, e1 _ (by omega), e2 _ (by omega), by omega, fun x hx => by cases hx⟩, rfl⟩
  | some x =>
    rw [h] at e1 e2
    obtain ⟨o1, o2, o3⟩ := og_some h
    obtain ⟨b1, b2, b3⟩ := blt_zero o2
    have hfew := rg_few hb h0 o1
    obtain ⟨iv, hiv⟩ : ∃ iv : Nat, x.2 = (iv : Int) := ⟨x.2.toNat, by omega⟩
    obtain ⟨K3, e3⟩ := find_ev x.1 iv ⟨q0, q1, q2⟩ (by omega) (by omega) (by omega) b3
    obtain ⟨K4, e4⟩ := refFind_ev x.1 ⟨q0, q1, q2⟩ (by omega)
    refine ⟨K1 + K2 + K3 + K4, ⟨some x, e1 _ (by omega), e2 _ (by omega), by omega, fun y hy => ?_⟩, rfl⟩
    obtain rfl := Option.some.inj hy
    exact ⟨by omega, iv, hiv, fi x.1 ⟨q0, q1, q2⟩, e3 _ (by omega), e4 _ (by omega)⟩
end Go.Proofs.Ytppkpleagnddeaa.Pure
