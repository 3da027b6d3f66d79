/- What is laid is read, and found: plain Lean over what QA says and over what is read (BR, BO, BF). -/
import Derived.Test.YtppkpleagnddeaaQA
import Derived.Test.YtppkpleagnddeaaBO
import Derived.Test.YtppkpleagnddeaaBF
import Derived.Test.YtppkpleagnddeaaP10
namespace Go.Proofs.Ytppkpleagnddeaa.Q
open Go.RowKit Go.Proofs.YtppkpleagnddeaaW.PrintWords Go.Proofs.YtppkpleagnddeaaW.PrintLast Go.Proofs.YtppkpleagnddeaaW.PrintMore Go.Proofs.Ytppkpleagnddeaa.P Go.Proofs.Ytppkpleagnddeaa.M Go.Proofs.Ytppkpleagnddeaa.B

def Fit (l : List S42) : Prop := ∀ e ∈ l, ck1 e = 0 ∧ e.f1.size ≤ 1000 ∧ 0 ≤ e.f0.f1
theorem Fit.of {l : List S42} (h : ck none l = 0) (hw : ∀ e ∈ l, 0 ≤ e.f0.f1) : Fit l := fun e he => ⟨(ck_all h e he).1, (ck_all h e he).2, hw e he⟩
theorem kb_IsB (e : S42) : IsB (kb e) := (IsB.bytesOf _).append (fx_IsB _ _)
theorem ent_IsB (n : Nat) {key : List Int} (v : ByteArray) (h : IsB key) : IsB (ent n key v) := (uv_IsB _).append ((uv_IsB _).append ((uv_IsB _).append ((h.drop _).append (IsB.bytesOf _))))
theorem body_IsB (iv : Nat) : ∀ (l : List S42) (i : Nat) (last : List Int), IsB (body iv i last l)
  | [], _, _ => IsB.nil
  | e :: t, i, last => by rw [body]; exact (ent_IsB _ _ (kb_IsB e)).append (body_IsB iv t (i + 1) (kb e))
theorem mfx_IsB : ∀ l : List Nat, IsB (mfx l)
  | [] => IsB.nil
  | o :: t => by rw [mfx]; exact (fx_IsB _ _).append (mfx_IsB t)
theorem lay_IsB (iv : Nat) (h : iv ≤ 16) (l : List S42) : IsB (lay iv l) := (body_IsB iv l 0 []).append ((mfx_IsB _).append (IsB.cons (by omega) (by omega) (fx_IsB _ _)))
theorem body_length (iv : Nat) : ∀ (l : List S42) (i : Nat) (last : List Int), Fit l → (body iv i last l).length ≤ 1110 * l.length
  | [], _, _, _ => by simp [body]
  | e :: t, i, last, hf => by
    obtain ⟨h0, hv, _⟩ := hf e (by simp)
    have hs := ck1_size h0
    have hkl := kb_length e
    have h1 := ent_length (nsh iv i last (kb e)) (kb e) e.f1 (by omega) (nsh_le ..) hv
    have h2 := body_length iv t (i + 1) (kb e) (fun x hx => hf x (by simp [hx]))
    rw [body, List.length_append, List.length_cons]
    omega
theorem mks_length (iv : Nat) : ∀ (l : List S42) (i : Nat) (last : List Int) (o : Nat), (mks iv i last o l).length ≤ l.length
  | [], _, _, _ => by simp [mks]
  | e :: t, i, last, o => by
    have := mks_length iv t (i + 1) (kb e) (o + (ent (nsh iv i last (kb e)) (kb e) e.f1).length)
    rw [mks, List.length_append, List.length_cons]
    split <;> simp only [List.length_cons, List.length_nil] <;> omega
theorem sh_take : ∀ (a b : List Int), a.take (sh a b) = b.take (sh a b)
  | [], _ => by simp [sh]
  | _ :: _, [] => by simp [sh]
  | a :: s, b :: t => by
    unfold sh
    split
    · rename_i h
      rw [List.take_succ_cons, List.take_succ_cons, sh_take s t, h]
    · simp
theorem nsh_take (iv i : Nat) (last key : List Int) : last.take (nsh iv i last key) = key.take (nsh iv i last key) := by
  unfold nsh
  split
  · simp
  · exact sh_take _ _
theorem nsh_last (iv i : Nat) (last key : List Int) : nsh iv i last key ≤ last.length := by
  unfold nsh
  split
  · omega
  · exact (sh_le _ _).1
theorem Uv_ev (n : Nat) (more : List Int) (hn : n < 18446744073709551616) (hm : IsB more) : Ev (fun k => codec_Uvarint.f k (uv n ++ more)) ((n : Int), ((uv n).length : Int), 0) := by
  have h := Uvarint_ev (uv n ++ more) ((uv_IsB n).append hm)
  rw [uvd_uv more n 0 0 (by omega) (by simpa using hn)] at h
  simpa using h
theorem rd_l_ev (iv bl : Nat) (hbl : bl < 140737488355328) : ∀ (l : List S42) (i : Nat) (last : List Int) (acc : List S42), Fit l → last.length ≤ 72 → acc.length + l.length ≤ 1000000 → (body iv i last l).length ≤ bl →
    Ev (fun k => rd_l k bl (body iv i last l) last acc) (acc ++ l)
  | [], i, last, acc, _, _, _, _ => by
    refine Ev.step (fun k => rd_l.eq_2 (k := k) ..) (Ev.ifT rfl (ev_eq ?_ (Ev.now _)))
    rw [List.append_nil]
  | e :: t, i, last, acc, hf, hla, ha, hb => by
    obtain ⟨h0, hv, hq⟩ := hf e (by simp)
    have hs := ck1_size h0
    have hkl := kb_length e
    have hft : Fit t := fun x hx => hf x (by simp [hx])
    have hn1 := nsh_le iv i last (kb e)
    have hn2 := nsh_last iv i last (kb e)
    have htk := nsh_take iv i last (kb e)
    rw [body, ent] at hb ⊢
    generalize nsh iv i last (kb e) = n at *
    simp only [List.append_assoc] at hb ⊢
    have hm : ((kb e).drop n).length = (kb e).length - n := List.length_drop
    have hbv : (bytesOf e.f1).length = e.f1.size := bytesOf_length _
    have hrest := body_IsB iv t (i + 1) (kb e)
    have ih := rd_l_ev iv bl hbl t (i + 1) (kb e) (acc ++ [e]) hft (by omega) (by simp only [List.length_append, List.length_nil, List.length_cons] at ha ⊢; omega) (by simp only [List.length_append] at hb; omega)
    generalize body iv (i + 1) (kb e) t = rest at *
    have i4 : IsB (bytesOf e.f1 ++ rest) := (IsB.bytesOf _).append hrest
    have i3 : IsB ((kb e).drop n ++ (bytesOf e.f1 ++ rest)) := ((kb_IsB e).drop n).append i4
    have i2 : IsB (uv e.f1.size ++ ((kb e).drop n ++ (bytesOf e.f1 ++ rest))) := (uv_IsB _).append i3
    have i1 : IsB (uv ((kb e).length - n) ++ (uv e.f1.size ++ ((kb e).drop n ++ (bytesOf e.f1 ++ rest)))) := (uv_IsB _).append i2
    have p1 := uv_pos n
    simp only [List.length_append] at hb
    refine Ev.step (fun k => rd_l.eq_2 (k := k) ..) (Ev.ifF (by simp only [List.length_append]; omega) (Ev.bind (Uv_ev n _ (by omega) i1) (Ev.ifT ⟨rfl, by dsimp only; omega, by dsimp only; omega, by dsimp only; omega, by dsimp only; simp only [List.length_append]; omega⟩ ?_)))
    simp only [Int.toNat_natCast, List.drop_left]
    refine Ev.bind (Uv_ev ((kb e).length - n) _ (by omega) i2) (Ev.ifT ⟨rfl, by dsimp only; omega, by dsimp only; omega, by dsimp only; omega, by dsimp only; simp only [List.length_append]; omega⟩ ?_)
    simp only [Int.toNat_natCast, List.drop_left]
    refine Ev.bind (Uv_ev e.f1.size _ (by omega) i3) (Ev.ifT ⟨rfl, by dsimp only; omega, by dsimp only; omega, by dsimp only; omega, by dsimp only; simp only [List.length_append]; omega⟩ ?_)
    simp only [Int.toNat_natCast, List.drop_left]
    rw [← hm, ← hbv]
    simp only [List.take_left, List.drop_left]
    have hkk : last.take n ++ (kb e).drop n = kb e := by rw [htk, List.take_append_drop]
    rw [hkk]
    refine Ev.ifT ⟨by simp only [List.length_append]; omega, by simp only [List.length_take]; omega⟩ ?_
    have hd := Decode_ev (kb e) (kb_IsB e) (by omega)
    have hdec : dec (kb e) = (e.f0.f0, e.f0.f1, e.f0.f2, 0) := dec_enc e.f0.f0 e.f0.f1 e.f0.f2 hq h0
    rw [hdec] at hd
    refine Ev.bind hd (Ev.ifT ⟨rfl, by simp only [List.length_append]; omega, by simp only [List.length_cons] at ha; omega⟩ ?_)
    rw [str_bytesOf]
    simpa only [List.append_assoc, List.singleton_append] using ih
theorem lay_length (iv : Nat) (l : List S42) (hf : Fit l) (hl : l.length ≤ 1000) : (lay iv l).length = (body iv 0 [] l).length + 4 * (mks iv 0 [] 0 l).length + 5 ∧ (lay iv l).length ≤ 2000000 := by
  have h1 := body_length iv l 0 [] hf
  have h2 := mks_length iv l 0 [] 0
  unfold lay
  simp only [List.length_append, List.length_cons, fx_length, mfx_length]
  omega
theorem read_ev (iv : Nat) (h1 : 1 ≤ iv) (h16 : iv ≤ 16) (l : List S42) (hf : Fit l) (hl : l.length ≤ 1000) : Ev (fun k => read_f k (lay iv l)) (l, (iv : Int)) := by
  obtain ⟨hlen, hbig⟩ := lay_length iv l hf hl
  have h2 := mks_length iv l 0 [] 0
  have hB := rd_l_ev iv (lay iv l).length (by omega) l 0 [] [] hf (by simp) (by simp only [List.length_nil]; omega) (by omega)
  have hlay : lay iv l = (body iv 0 [] l ++ (mfx (mks iv 0 [] 0 l) ++ [(iv : Int)])) ++ fx 4 (mks iv 0 [] 0 l).length := by unfold lay; simp
  have hpre : (body iv 0 [] l ++ (mfx (mks iv 0 [] 0 l) ++ [(iv : Int)])).length = (lay iv l).length - 4 := by simp only [List.length_append, mfx_length, List.length_singleton]; omega
  have hdr : (lay iv l).drop ((lay iv l).length - 4) = fx 4 (mks iv 0 [] 0 l).length := by
    rw [← hpre]
    conv => lhs; rw [hlay]
    exact List.drop_left
  have hfx := Fixed_ev (fx 4 (mks iv 0 [] 0 l).length) (fx_IsB _ _) 4 (by decide) (by decide)
  rw [if_neg (by rw [fx_length]; omega), List.take_of_length_le (by rw [fx_length]; omega), fxd_fx, Nat.mod_eq_of_lt (by omega)] at hfx
  have hrd : rd (lay iv l) (((lay iv l).length : Int) - 5) = (iv : Int) := by
    have hpos : (((lay iv l).length : Int) - 5).toNat = (body iv 0 [] l ++ mfx (mks iv 0 [] 0 l)).length := by simp only [List.length_append, mfx_length]; omega
    unfold rd
    rw [hpos]
    have hl2 : lay iv l = (body iv 0 [] l ++ mfx (mks iv 0 [] 0 l)) ++ ((iv : Int) :: fx 4 (mks iv 0 [] 0 l).length) := by unfold lay; simp
    rw [hl2]
    simp [List.getD_eq_getElem?_getD]
  have htk : (lay iv l).take ((lay iv l).length - 5 - 4 * (mks iv 0 [] 0 l).length) = body iv 0 [] l := by
    rw [show (lay iv l).length - 5 - 4 * (mks iv 0 [] 0 l).length = (body iv 0 [] l).length by omega]
    unfold lay
    exact List.take_left
  unfold read_f
  refine Ev.ifT ⟨by omega, by omega⟩ ?_
  rw [hdr]
  refine Ev.bind hfx (Ev.ifT ⟨by dsimp only; omega, by dsimp only; omega⟩ ?_)
  rw [hrd]
  simp only [Int.toNat_natCast]
  rw [htk, w64 (by omega) (by omega)]
  refine Ev.bind hB ?_
  rw [List.nil_append]
  exact Ev.now _
theorem blt_ok {l : List S42} {iv : Nat} (h1 : 1 ≤ iv) (h16 : iv ≤ 16) (hc : ck none l = 0) : blt l (iv : Int) = (lay iv l, 0) := by
  unfold blt
  rw [if_neg (by omega), if_pos hc, Int.toNat_natCast]
theorem open_ev (iv : Nat) (h1 : 1 ≤ iv) (h16 : iv ≤ 16) (l : List S42) (hc : ck none l = 0) (hw : ∀ e ∈ l, 0 ≤ e.f0.f1) (hl : l.length ≤ 1000) : Ev (fun k => open_f k (lay iv l)) (some (l, (iv : Int))) := by
  unfold open_f
  have hb := Build_ev l (iv : Int) hl hw
  rw [blt_ok h1 h16 hc] at hb
  refine Ev.bind (read_ev iv h1 h16 l (Fit.of hc hw) hl) (Ev.bind hb ?_)
  refine Ev.ifT rfl (Ev.bind (a := true) (Ev.congr (f := fun _ => some true) (fun k => ?_) (Ev.now _)) (Ev.ifT rfl (Ev.now _)))
  unfold bytes_Equal.f
  rw [beq_self_eq_true]

/-! ### What is found -/
def kq (x : S42) (q : S32) : Int := kcmp x.f0.f0 x.f0.f1 x.f0.f2 q.f0 q.f1 q.f2
theorem cmpK_eq (x : S42) (q : S32) : cmpK x q = some (kq x q) := rfl
def fi : List S42 → S32 → Nat
  | [], _ => 0
  | e :: t, q => if kq e q < 0 then fi t q + 1 else 0
theorem fi_le : ∀ (l : List S42) (q : S32), fi l q ≤ l.length
  | [], _ => by simp [fi]
  | e :: t, q => by
    have := fi_le t q
    rw [fi]
    split
    · rw [List.length_cons]; omega
    · omega
theorem rdT_cons (e : S42) (t : List S42) (i : Nat) : rd_T42 (e :: t) ((i + 1 : Nat) : Int) = rd_T42 t (i : Int) := by
  unfold rd_T42
  rw [Int.toNat_natCast, Int.toNat_natCast, List.getD_cons_succ]
theorem rdT_zero (e : S42) (t : List S42) : rd_T42 (e :: t) ((0 : Nat) : Int) = e := rfl
theorem fi_spec : ∀ (l : List S42) (q : S32), (∀ j, j < fi l q → kq (rd_T42 l (j : Int)) q < 0) ∧ (fi l q < l.length → ¬ kq (rd_T42 l (fi l q : Int)) q < 0)
  | [], q => ⟨fun j h => by simp [fi] at h, fun h => by simp at h⟩
  | e :: t, q => by
    obtain ⟨h1, h2⟩ := fi_spec t q
    rw [fi]
    by_cases he : kq e q < 0
    · rw [if_pos he]
      refine ⟨fun j hj => ?_, fun hl => ?_⟩
      · match j with
        | 0 => exact he
        | j + 1 => rw [rdT_cons]; exact h1 j (by omega)
      · rw [rdT_cons]
        exact h2 (by rw [List.length_cons] at hl; omega)
    · rw [if_neg he]
      exact ⟨fun j hj => by omega, fun _ => he⟩
theorem fi_is (l : List S42) (q : S32) (n : Nat) (hn : n ≤ l.length) (h1 : ∀ j, j < n → kq (rd_T42 l (j : Int)) q < 0) (h2 : n < l.length → ¬ kq (rd_T42 l (n : Int)) q < 0) : fi l q = n := by
  obtain ⟨s1, s2⟩ := fi_spec l q
  have hle := fi_le l q
  rcases Nat.lt_trichotomy (fi l q) n with h | h | h
  · exact absurd (h1 _ h) (s2 (by omega))
  · exact h
  · exact absurd (s1 _ h) (h2 (by omega))
theorem kq_step {a b : S42} {q : S32} (h : kk a b < 0) (hq : kq b q ≤ 0) : kq a q < 0 := by
  have h1 := (kcmp_less a.f0.f0 a.f0.f1 a.f0.f2 b.f0.f0 b.f0.f1 b.f0.f2).1 h
  unfold kq at *
  by_cases hz : kcmp b.f0.f0 b.f0.f1 b.f0.f2 q.f0 q.f1 q.f2 = 0
  · obtain ⟨e1, e2, e3⟩ := (kcmp_zero ..).1 hz
    rw [← e1, ← e2, ← e3]
    exact h
  · exact (kcmp_less ..).2 (kless_trans h1 ((kcmp_less ..).1 (by omega)))
/-- keys that rise -/
theorem ck_rise : ∀ (l : List S42) (p : Option S42), ck p l = 0 → ∀ j, j + 1 < l.length → kk (rd_T42 l (j : Int)) (rd_T42 l ((j + 1 : Nat) : Int)) < 0
  | [], _, _, j, hj => by simp at hj
  | [_], _, _, j, hj => by simp at hj
  | a :: b :: t, p, h, j, hj => by
    obtain ⟨_, h2⟩ := ck_cons h
    match j with
    | 0 => exact (ckAt_zero (ck_cons h2).1).2.2 a rfl
    | j + 1 =>
      rw [rdT_cons, rdT_cons]
      exact ck_rise (b :: t) (some a) h2 j (by simp only [List.length_cons] at hj ⊢; omega)
theorem rise_down {l : List S42} (hr : ∀ j, j + 1 < l.length → kk (rd_T42 l (j : Int)) (rd_T42 l ((j + 1 : Nat) : Int)) < 0) (q : S32) : ∀ (d j : Nat), j + d < l.length → kq (rd_T42 l ((j + d : Nat) : Int)) q ≤ 0 → 0 < d → kq (rd_T42 l (j : Int)) q < 0
  | 0, j, _, _, h0 => by omega
  | 1, j, hj, hq, _ => kq_step (hr j hj) hq
  | d + 2, j, hj, hq, _ => by
    have := rise_down hr q (d + 1) (j + 1) (by omega) (by rw [show j + 1 + (d + 1) = j + (d + 2) by omega]; exact hq) (by omega)
    exact kq_step (hr j (by omega)) (Int.le_of_lt this)
theorem find_s_ev (l : List S42) (q : S32) : ∀ (d at_ : Nat), at_ + d = l.length → (∀ j, j < at_ → kq (rd_T42 l (j : Int)) q < 0) → Ev (fun k => find_s k l q at_) (fi l q)
  | 0, at_, hd, h => by
    have : fi l q = at_ := fi_is l q at_ (by omega) h (fun h => by omega)
    rw [this]
    exact Ev.step (fun k => find_s.eq_2 (k := k) ..) (Ev.ifF (by omega) (Ev.now _))
  | d + 1, at_, hd, h => by
    refine Ev.step (fun k => find_s.eq_2 (k := k) ..) (Ev.ifT (by omega) (Ev.bind (a := kq (rd_T42 l (at_ : Int)) q) (Ev.now _) ?_))
    by_cases hq : kq (rd_T42 l (at_ : Int)) q < 0
    · refine Ev.ifT hq (find_s_ev l q d (at_ + 1) (by omega) (fun j hj => ?_))
      rcases Nat.lt_or_ge j at_ with hj' | hj'
      · exact h j hj'
      · rw [show j = at_ by omega]; exact hq
    · have : fi l q = at_ := fi_is l q at_ (by omega) h (fun _ => hq)
      rw [this]
      exact Ev.ifF hq (Ev.now _)
theorem find_b_ev (l : List S42) (iv : Nat) (q : S32) (h1 : 1 ≤ iv) (hhi : ∀ m, m < (l.length + iv - 1) / iv → m * iv < l.length) : ∀ (d lo hi : Nat), hi - lo ≤ d → lo ≤ hi → hi ≤ (l.length + iv - 1) / iv → hi ≤ l.length → (0 < lo → (lo - 1) * iv < l.length ∧ kq (rd_T42 l (((lo - 1) * iv : Nat) : Int)) q < 0) →
    ∃ lo', lo' ≤ l.length ∧ (0 < lo' → (lo' - 1) * iv < l.length ∧ kq (rd_T42 l (((lo' - 1) * iv : Nat) : Int)) q < 0) ∧ Ev (fun k => find_b k l iv q lo hi) lo'
  | 0, lo, hi, hd, hlh, hc, hle, hI => ⟨lo, by omega, hI, Ev.step (fun k => find_b.eq_2 (k := k) ..) (Ev.ifF (by omega) (Ev.now _))⟩
  | d + 1, lo, hi, hd, hlh, hc, hle, hI => by
    by_cases hlt : lo < hi
    · have hmid := hhi ((lo + hi) / 2) (by omega)
      by_cases hq : kq (rd_T42 l (((lo + hi) / 2 * iv : Nat) : Int)) q < 0
      · obtain ⟨lo', a, b, c⟩ := find_b_ev l iv q h1 hhi d ((lo + hi) / 2 + 1) hi (by omega) (by omega) hc hle (fun _ => by rw [Nat.add_sub_cancel]; exact ⟨hmid, hq⟩)
        exact ⟨lo', a, b, Ev.step (fun k => find_b.eq_2 (k := k) ..) (Ev.ifT hlt (Ev.ifT ⟨hmid, hle⟩ (Ev.bind (a := kq (rd_T42 l (((lo + hi) / 2 * iv : Nat) : Int)) q) (Ev.now _) (Ev.ifT hq c))))⟩
      · obtain ⟨lo', a, b, c⟩ := find_b_ev l iv q h1 hhi d lo ((lo + hi) / 2) (by omega) (by omega) (by omega) (by omega) hI
        exact ⟨lo', a, b, Ev.step (fun k => find_b.eq_2 (k := k) ..) (Ev.ifT hlt (Ev.ifT ⟨hmid, hle⟩ (Ev.bind (a := kq (rd_T42 l (((lo + hi) / 2 * iv : Nat) : Int)) q) (Ev.now _) (Ev.ifF hq c))))⟩
    · exact ⟨lo, by omega, hI, Ev.step (fun k => find_b.eq_2 (k := k) ..) (Ev.ifF hlt (Ev.now _))⟩
theorem ceil_mul (n iv m : Nat) (h1 : 1 ≤ iv) (h : m < (n + iv - 1) / iv) : m * iv < n := by
  have h2 := (Nat.le_div_iff_mul_le (by omega : 0 < iv)).1 (show m + 1 ≤ (n + iv - 1) / iv from h)
  rw [Nat.add_mul] at h2
  omega
theorem ceil_le (n iv : Nat) (h1 : 1 ≤ iv) : (n + iv - 1) / iv ≤ n := by
  rcases Nat.eq_zero_or_pos n with h | h
  · subst h
    rw [Nat.zero_add, Nat.div_eq_of_lt (by omega)]
    exact Nat.le_refl _
  · have := Nat.div_mul_le_self (n + iv - 1) iv
    have h3 : (n + iv - 1) / iv < n + 1 := (Nat.div_lt_iff_lt_mul (by omega)).2 (by
      have : (n + 1) * iv = n * iv + iv := by rw [Nat.add_mul, Nat.one_mul]
      have h4 : n * 1 ≤ n * iv := Nat.mul_le_mul_left n h1
      omega)
    omega
theorem find_ev (l : List S42) (iv : Nat) (q : S32) (h1 : 1 ≤ iv) (h16 : iv ≤ 16) (hl : l.length < 281474976710656) (hc : ck none l = 0) : Ev (fun k => find_f k l iv q) (fi l q) := by
  have hr := ck_rise l none hc
  obtain ⟨lo, a, b, c⟩ := find_b_ev l iv q h1 (fun m hm => ceil_mul l.length iv m h1 hm) ((l.length + iv - 1) / iv) 0 ((l.length + iv - 1) / iv) (Nat.sub_le _ _) (Nat.zero_le _) (Nat.le_refl _) (ceil_le _ _ h1) (fun h => by omega)
  unfold find_f
  refine Ev.ifT ⟨hl, h1, h16⟩ (Ev.bind c (Ev.ifT a ?_))
  rcases Nat.eq_zero_or_pos lo with h0 | h0
  · subst h0
    rw [show (0 - 1) * iv = 0 by omega]
    exact find_s_ev l q l.length 0 (by omega) (fun j hj => by omega)
  · obtain ⟨b1, b2⟩ := b h0
    refine find_s_ev l q (l.length - (lo - 1) * iv) ((lo - 1) * iv) (by omega) (fun j hj => ?_)
    refine rise_down hr q ((lo - 1) * iv - j) j (by omega) ?_ (by omega)
    rw [show j + ((lo - 1) * iv - j) = (lo - 1) * iv by omega]
    exact Int.le_of_lt b2
theorem kk_self (x : S42) : kq x x.f0 = 0 := (kcmp_zero ..).2 ⟨rfl, rfl, rfl⟩
theorem fi_self (l : List S42) (hc : ck none l = 0) (i : Nat) (hi : i < l.length) : fi l (rd_T42 l (i : Int)).f0 = i := by
  refine fi_is l _ i (by omega) (fun j hj => ?_) (fun _ => by rw [kk_self]; decide)
  refine rise_down (ck_rise l none hc) _ (i - j) j (by omega) ?_ (by omega)
  rw [show j + (i - j) = i by omega, kk_self]
  exact Int.le_refl _
theorem Ev.all {α : Type} {f : Nat → Nat → Option α} {r : Nat → α} : ∀ n : Nat, (∀ i, i < n → Ev (f i) (r i)) → ∃ K, ∀ k, K ≤ k → ∀ i, i < n → f i k = some (r i)
  | 0, _ => ⟨0, fun _ _ i hi => by omega⟩
  | n + 1, h => by
    obtain ⟨K1, h1⟩ := Ev.all n (fun i hi => h i (by omega))
    obtain ⟨K2, h2⟩ := h n (by omega)
    refine ⟨max K1 K2, fun k hk i hi => ?_⟩
    rcases Nat.lt_or_ge i n with hin | hin
    · exact h1 k (by omega) i hin
    · rw [show i = n by omega]; exact h2 k (by omega)
end Go.Proofs.Ytppkpleagnddeaa.Q
