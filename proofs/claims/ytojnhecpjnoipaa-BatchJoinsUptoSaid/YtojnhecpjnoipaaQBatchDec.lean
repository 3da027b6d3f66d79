/- What batch's Decode, and the document's, come to. -/
import Derived.Test.YtojnhecpjnoipaaP8
import Derived.Test.YtojnhecpjnoipaaP14
import Derived.Test.YtojnhecpjnoipaaP7
import Derived.Test.YtojnhecpjnoipaaQBatch
namespace Go.Proofs.Ytojnhecpjnoipaa.Q
open Go.RowKit Go.Proofs.YtojnhecpjnoipaaW.PrintWords Go.Proofs.YtojnhecpjnoipaaW.PrintLast Go.Proofs.YtojnhecpjnoipaaW.PrintMore Go.Proofs.Ytojnhecpjnoipaa.P Go.Proofs.Ytojnhecpjnoipaa.M
set_option linter.unusedVariables false

theorem ba_ext {a b : ByteArray} (h : a.data.toList = b.data.toList) : a = b := by
  obtain ⟨⟨a⟩⟩ := a
  obtain ⟨⟨b⟩⟩ := b
  cases h
  rfl
theorem ba_toList {a b : ByteArray} (h : a.toList = b.toList) : a = b := by
  rw [ByteArray.toList_eq, ByteArray.toList_eq] at h
  exact ba_ext h
theorem ba_none {s : ByteArray} (h : s.size = 0) : s = (⟨#[]⟩ : ByteArray) := ba_ext (by
  have : s.data.toList.length = 0 := by rw [Array.length_toList]; exact h
  rw [List.eq_nil_of_length_eq_zero this])
theorem same_str {a b : List Int} (ha : IsB a) (hb : IsB b) : (strOfNums a).toList = (strOfNums b).toList ↔ a = b := ⟨fun h => str_inj ha hb (ba_toList h), fun h => by rw [h]⟩
theorem txd_le (l : List Int) (hb : IsB l) : ((txd l).2.2 = 0 ∧ (txd l).2.1 ≤ l.length) ∨ ((txd l).2.2 ≠ 0 ∧ (txd l).2.1 = 0) := by
  obtain ⟨n, hn⟩ : ∃ n, (uvd l 0 0).1 = n := ⟨_, rfl⟩
  obtain ⟨m, hm⟩ : ∃ m, (uvd l 0 0).2.1 = m := ⟨_, rfl⟩
  obtain ⟨e, he⟩ : ∃ e, (uvd l 0 0).2.2 = e := ⟨_, rfl⟩
  unfold txd
  rw [hn, hm, he]
  by_cases h0 : e = 0
  · subst h0
    have hok := uvd_ok l 0 0 n m hb (by omega) (by decide) (by rw [← hn, ← hm]; exact Prod.ext rfl (Prod.ext rfl he))
    rw [if_pos rfl]
    by_cases hgt : n > l.length - m
    · rw [if_pos hgt]; right; exact ⟨by decide, rfl⟩
    · rw [if_neg hgt]; left; exact ⟨rfl, by show m + n ≤ _; omega⟩
  · rw [if_neg h0]
    right
    exact ⟨h0, rfl⟩
def dec : Nat → List Int → Option (List S39 × List Int)
  | 0, r => some ([], r)
  | _ + 1, [] => none
  | n + 1, c :: r =>
    if (txd r).2.2 = 0 then
      (if c = 1 then
        (if (txd (r.drop (txd r).2.1)).2.2 = 0 then (dec n ((r.drop (txd r).2.1).drop (txd (r.drop (txd r).2.1)).2.1)).map fun p => (⟨c, strOfNums (txd r).1, strOfNums (txd (r.drop (txd r).2.1)).1⟩ :: p.1, p.2) else none)
      else (dec n (r.drop (txd r).2.1)).map fun p => (⟨c, strOfNums (txd r).1, (⟨#[]⟩ : ByteArray)⟩ :: p.1, p.2))
    else none
theorem dec_op : ∀ (l : List S39) (more : List Int), (∀ x ∈ l, okOp x) → dec l.length (opsB l ++ more) = some (l, more)
  | [], _, _ => rfl
  | x :: r, more, h => by
    have ih := dec_op r more fun y hy => h y (List.mem_cons_of_mem _ hy)
    obtain ⟨h1, h2, h3, h4⟩ := h x (List.mem_cons_self ..)
    obtain ⟨c, s, t⟩ := x
    simp only at h1 h2 h3 h4
    have hs : (bytesOf s).length < 18446744073709551616 := by rw [bytesOf_length]; omega
    have ht : (bytesOf t).length < 18446744073709551616 := by rw [bytesOf_length]; omega
    by_cases hk : c = 1
    · have e : opsB (⟨c, s, t⟩ :: r) ++ more = c :: (tx (bytesOf s) ++ (tx (bytesOf t) ++ (opsB r ++ more))) := by
        show (op _ ++ opsB r) ++ more = _
        unfold op
        rw [if_pos hk]
        simp
      rw [e, List.length_cons]
      unfold dec
      rw [txd_tx _ _ hs]
      simp only [if_pos hk]
      rw [if_pos trivial, List.drop_left' rfl, txd_tx _ _ ht]
      simp only
      rw [if_pos trivial, List.drop_left' rfl, ih, str_bytesOf, str_bytesOf]
      rfl
    · have e : opsB (⟨c, s, t⟩ :: r) ++ more = c :: (tx (bytesOf s) ++ (opsB r ++ more)) := by
        show (op _ ++ opsB r) ++ more = _
        unfold op
        rw [if_neg hk]
        simp
      rw [e, List.length_cons]
      unfold dec
      rw [txd_tx _ _ hs]
      simp only [if_neg hk]
      rw [if_pos trivial, List.drop_left' rfl, ih, str_bytesOf, ba_none (h4 (by omega))]
      rfl
theorem dec_len : ∀ (n : Nat) (r : List Int) (xs : List S39) (more : List Int), dec n r = some (xs, more) → xs.length = n
  | 0, r, xs, more, h => by
    simp only [dec, Option.some.injEq, Prod.mk.injEq] at h
    rw [← h.1]
    rfl
  | n + 1, [], xs, more, h => by simp [dec] at h
  | n + 1, c :: r, xs, more, h => by
    unfold dec at h
    split at h
    · split at h
      · split at h
        · obtain ⟨p, hp, he⟩ := Option.map_eq_some_iff.1 h
          have := dec_len n _ p.1 p.2 hp
          cases he
          rw [List.length_cons, this]
        · cases h
      · obtain ⟨p, hp, he⟩ := Option.map_eq_some_iff.1 h
        have := dec_len n _ p.1 p.2 hp
        cases he
        rw [List.length_cons, this]
    · cases h
def bad : Int × List S39 × Int := (0, [], 32)
open Classical in
/-- behind the loop: what was parsed, against the bytes -/
noncomputable def fin (l0 : List Int) (q : Int) (xs : List S39) : Int × List S39 × Int := if chk q xs = 0 ∧ enc q xs = l0 then (q, xs, 0) else bad
noncomputable def D (b : List Int) : Int × List S39 × Int := if b.length < 12 then bad else
  match dec (fxd ((b.drop 8).take 4)) (b.drop 12) with
  | none => bad
  | some (xs, _) => fin b (fxd (b.take 8) : Int) xs
theorem enc_IsB {q : Int} {l : List S39} (h : chk q l = 0) : IsB (enc q l) := (fx_IsB _ _).append ((fx_IsB _ _).append (opsB_IsB (chk_zero h).2.2))
theorem ref_fin (l0 : List Int) (hb : IsB l0) (q : Int) (xs : List S39) (h0 : 0 ≤ q) (h1 : q < 18446744073709551616) :
    Ev (fun k => (staddleref03_Encode.f k q xs).bind fun t => (if t.2 = 0 then (if (strOfNums t.1).toList = (strOfNums l0).toList then (some (q, xs, 0)) else (some (0, ([] : List S39), 32))) else (some (0, ([] : List S39), 32)))) (fin l0 q xs) := by
  refine Ev.bind (refEncode_ev q xs h0 h1) ?_
  by_cases hc : chk q xs = 0
  · have hR : encR q xs = (enc q xs, 0) := by unfold encR; rw [if_pos hc]
    rw [hR]
    refine Ev.ifT rfl ?_
    by_cases he : enc q xs = l0
    · have hf : fin l0 q xs = (q, xs, 0) := by unfold fin; rw [if_pos ⟨hc, he⟩]
      rw [hf]
      exact Ev.ifT (by rw [he]) (Ev.now _)
    · have hf : fin l0 q xs = bad := by unfold fin; rw [if_neg (fun h => he h.2)]
      rw [hf]
      exact Ev.ifF (fun h => he ((same_str (enc_IsB hc) hb).1 h)) (Ev.now _)
  · have hR : encR q xs = ([], chk q xs) := by unfold encR; rw [if_neg hc]
    have hf : fin l0 q xs = bad := by unfold fin; rw [if_neg (fun h => hc h.1)]
    rw [hR, hf]
    exact Ev.ifF hc (Ev.now _)
theorem real_fin (l0 : List Int) (hb : IsB l0) (q : Int) (xs : List S39) (at_ : Nat) (h0 : 0 ≤ q) (h1 : q < 18446744073709551616) (hat : at_ ≤ l0.length) :
    Ev (fun k => batch_Decode.p k l0 q xs (at_ : Int) true) (if l0.drop at_ = [] then fin l0 q xs else bad) := by
  unfold batch_Decode.p
  refine Ev.ifT rfl ?_
  by_cases hl : at_ = l0.length
  · rw [if_pos (show l0.drop at_ = [] by rw [hl]; exact List.drop_length)]
    refine Ev.ifT (by omega) (Ev.bind (Encode_ev q xs h0 h1) ?_)
    by_cases hc : chk q xs = 0
    · have hR : encR q xs = (enc q xs, 0) := by unfold encR; rw [if_pos hc]
      rw [hR]
      refine Ev.ifT rfl ?_
      unfold bytes_Equal.f
      refine Ev.some_ ?_
      by_cases he : enc q xs = l0
      · have hf : fin l0 q xs = (q, xs, 0) := by unfold fin; rw [if_pos ⟨hc, he⟩]
        rw [hf]
        exact Ev.ifT (by rw [he]; exact beq_self_eq_true _) (Ev.now _)
      · have hf : fin l0 q xs = bad := by unfold fin; rw [if_neg (fun h => he h.2)]
        rw [hf]
        exact Ev.ifF (fun h => he ((same_str (enc_IsB hc) hb).1 (beq_iff_eq.1 h))) (Ev.now _)
    · have hR : encR q xs = ([], chk q xs) := by unfold encR; rw [if_neg hc]
      have hf : fin l0 q xs = bad := by unfold fin; rw [if_neg (fun h => hc h.1)]
      rw [hR, hf]
      exact Ev.ifF hc (Ev.now _)
  · rw [if_neg (fun h => by have := List.drop_eq_nil_iff.1 h; omega)]
    exact Ev.ifF (by omega) (Ev.now _)
theorem real_off (l0 : List Int) (q cnt : Int) (ops : List S39) (at_ i : Int) : Ev (fun k => batch_Decode.l k l0 q cnt ops at_ false i) bad := by
  refine Ev.step (f := fun _ => some bad) (fun k => ?_) (Ev.now _)
  simp only [batch_Decode.l, batch_Decode.p]
  by_cases h : i < cnt
  · rw [if_pos h, if_neg (by simp), if_neg (by decide)]
    rfl
  · rw [if_neg h, if_neg (by decide)]
    rfl
theorem wadd (a b : Nat) (h : a + b ≤ 9223372036854775807) : wrap64 ((a : Int) + (b : Int)) = ((a + b : Nat) : Int) := by rw [w64 (by omega) (by omega)]; omega
theorem wadd1 (a : Nat) (h : a + 1 ≤ 9223372036854775807) : wrap64 ((a : Int) + 1) = ((a + 1 : Nat) : Int) := by rw [w64 (by omega) (by omega)]; omega
theorem w1add (a : Nat) (h : a + 1 ≤ 9223372036854775807) : wrap64 (1 + (a : Int)) = ((a + 1 : Nat) : Int) := by rw [w64 (by omega) (by omega)]; omega
theorem wbyte (c : Int) (h0 : 0 ≤ c) (h1 : c < 256) : wrap64 c = c := w64 (by omega) (by omega)
theorem wnat (c : Nat) (h : c ≤ 9223372036854775807) : wrap64 (c : Int) = (c : Int) := w64 (by omega) (by omega)
/-- the real loop's end, by what was parsed -/
noncomputable def outR (l0 : List Int) (q : Int) (ops : List S39) : Option (List S39 × List Int) → Int × List S39 × Int
  | none => bad
  | some (xs, r) => if r = [] then fin l0 q (ops ++ xs) else bad
theorem outR_map (l0 : List Int) (q : Int) (ops : List S39) (x : S39) (o : Option (List S39 × List Int)) : outR l0 q ops (o.map fun p => (x :: p.1, p.2)) = outR l0 q (ops ++ [x]) o := by
  cases o with
  | none => rfl
  | some p => simp only [Option.map_some, outR, List.append_assoc, List.singleton_append]
theorem real_l (l0 : List Int) (hb : IsB l0) (hl0 : l0.length ≤ 140737488355328) (q : Int) (h0 : 0 ≤ q) (h1 : q < 18446744073709551616) (cnt : Nat) (hc : cnt ≤ 65) : ∀ (d i : Nat) (ops : List S39) (at_ : Nat), i + d = cnt → ops.length = i → at_ ≤ l0.length →
    Ev (fun k => batch_Decode.l k l0 q (cnt : Int) ops (at_ : Int) true (i : Int)) (outR l0 q ops (dec d (l0.drop at_))) := by
  intro d
  induction d with
  | zero =>
    intro i ops at_ hi ho hat
    have := real_fin l0 hb q ops at_ h0 h1 hat
    refine Ev.step (fun k => ?_) (show Ev (fun k => batch_Decode.p k l0 q ops (at_ : Int) true) (outR l0 q ops (dec 0 (l0.drop at_))) from ?_)
    · simp only [batch_Decode.l]
      rw [if_neg (by omega)]
    · simp only [dec, outR, List.append_nil]
      exact this
  | succ d ih =>
    intro i ops at_ hi ho hat
    by_cases hlt : at_ < l0.length
    · have hd := List.drop_eq_getElem_cons hlt
      have hcb := hb _ (List.getElem_mem hlt)
      have hrd : rd l0 (at_ : Int) = l0[at_] := by simp [rd, List.getD_eq_getElem?_getD, hlt]
      rw [hd]
      obtain ⟨c, hcc⟩ : ∃ c, l0[at_] = c := ⟨_, rfl⟩
      rw [hcc] at hcb hrd ⊢
      obtain ⟨r, hr⟩ : ∃ r, l0.drop (at_ + 1) = r := ⟨_, rfl⟩
      have hbr : IsB r := by rw [← hr]; exact hb.drop _
      have hrl : r.length = l0.length - (at_ + 1) := by rw [← hr, List.length_drop]
      rw [hr]
      have ht := Text_ev r hbr (by omega)
      have hte := txd_le r hbr
      obtain ⟨T, hT⟩ : ∃ T, txd r = T := ⟨_, rfl⟩
      obtain ⟨t1, t2, t3⟩ := T
      rw [hT] at ht hte
      simp only at ht hte
      unfold dec
      rw [hT]
      simp only
      have hstep : ∀ k, batch_Decode.l (k + 1) l0 q (cnt : Int) ops (at_ : Int) true (i : Int) = (codec_Text.f k r).bind fun t =>
            (if (c == 1 && t.2.2 == 0) = true then
              (if 0 ≤ wrap64 (((at_ + 1 : Nat) : Int) + t.2.1) then (if wrap64 (((at_ + 1 : Nat) : Int) + t.2.1) ≤ (l0.length : Int) then
                ((codec_Text.f k (l0.drop (wrap64 (((at_ + 1 : Nat) : Int) + t.2.1)).toNat)).bind fun u =>
                  (batch_Decode.l k l0 q (cnt : Int) (ops ++ [(⟨c, t.1, u.1⟩ : S39)]) (wrap64 (wrap64 (((at_ + 1 : Nat) : Int) + t.2.1) + u.2.1)) (u.2.2 == 0) ((i : Int) + 1)))
              else (none)) else (none))
            else (batch_Decode.l k l0 q (cnt : Int) (ops ++ [(⟨c, t.1, (⟨#[]⟩ : ByteArray)⟩ : S39)]) (wrap64 (((at_ + 1 : Nat) : Int) + t.2.1)) (t.2.2 == 0) ((i : Int) + 1))) := by
        intro k
        simp only [batch_Decode.l]
        rw [if_pos (by omega), if_pos (by simp; omega), if_pos (by omega), wadd1 at_ (by omega), if_pos (by omega), if_pos (by omega), Int.toNat_natCast, hr, hrd, wbyte c hcb.1 hcb.2]
        simp only [if_pos (show ops.length < 3518437208883 by omega)]
      refine Ev.step hstep (Ev.bind ht ?_)
      simp only
      have ei : (i : Int) + 1 = ((i + 1 : Nat) : Int) := by omega
      rcases hte with ⟨z3, z2⟩ | ⟨z3, z2⟩
      · subst z3
        rw [if_pos rfl]
        by_cases hk : c = 1
        · rw [if_pos hk]
          refine Ev.ifT (by rw [hk]; rfl) ?_
          rw [wadd (at_ + 1) t2 (by omega)]
          refine Ev.ifT (by omega) (Ev.ifT (by omega) ?_)
          have hdr : l0.drop (((at_ + 1 + t2 : Nat) : Int)).toNat = r.drop t2 := by rw [Int.toNat_natCast, ← hr, List.drop_drop]
          rw [hdr]
          have hbr2 := hbr.drop t2
          have hrl2 : (r.drop t2).length = r.length - t2 := List.length_drop
          have ht2 := Text_ev (r.drop t2) hbr2 (by omega)
          have hte2 := txd_le (r.drop t2) hbr2
          obtain ⟨T2, hT2⟩ : ∃ T, txd (r.drop t2) = T := ⟨_, rfl⟩
          obtain ⟨u1, u2, u3⟩ := T2
          rw [hT2] at ht2 hte2 ⊢
          simp only at ht2 hte2 ⊢
          refine Ev.bind ht2 ?_
          simp only
          rcases hte2 with ⟨z3, z2'⟩ | ⟨z3, z2'⟩
          · subst z3
            rw [if_pos rfl, outR_map]
            have := ih (i + 1) (ops ++ [⟨c, strOfNums t1, strOfNums u1⟩]) (at_ + 1 + t2 + u2) (by omega) (by simp [ho]) (by omega)
            rw [show (r.drop t2).drop u2 = l0.drop (at_ + 1 + t2 + u2) by rw [← hr, List.drop_drop, List.drop_drop, Nat.add_assoc (at_ + 1)]]
            rw [wadd (at_ + 1 + t2) u2 (by omega), ei]
            exact this
          · rw [if_neg z3]
            have : ((u3 : Int) == 0) = false := by simp; omega
            rw [this]
            exact real_off _ _ _ _ _ _
        · rw [if_neg hk, outR_map]
          refine Ev.ifF (by simp [hk]) ?_
          have := ih (i + 1) (ops ++ [⟨c, strOfNums t1, (⟨#[]⟩ : ByteArray)⟩]) (at_ + 1 + t2) (by omega) (by simp [ho]) (by omega)
          rw [show r.drop t2 = l0.drop (at_ + 1 + t2) by rw [← hr, List.drop_drop]]
          rw [wadd (at_ + 1) t2 (by omega), ei]
          exact this
      · rw [if_neg z3]
        have : ((t3 : Int) == 0) = false := by simp; omega
        refine Ev.ifF (by simp [this]) ?_
        simp only [this]
        exact real_off _ _ _ _ _ _
    · have hn : l0.drop at_ = [] := by rw [List.drop_eq_nil_iff]; omega
      rw [hn]
      refine Ev.step (f := fun _ => some bad) (fun k => ?_) (Ev.now _)
      simp only [batch_Decode.l, batch_Decode.p]
      rw [if_pos (by omega), if_neg (by simp; omega), if_neg (by decide)]
      rfl
/-- the document's loop's end -/
noncomputable def outD (l0 : List Int) (q : Int) (ops : List S39) : Option (List S39 × List Int) → Int × List S39 × Int
  | none => bad
  | some (xs, _) => fin l0 q (ops ++ xs)
theorem outD_map (l0 : List Int) (q : Int) (ops : List S39) (x : S39) (o : Option (List S39 × List Int)) : outD l0 q ops (o.map fun p => (x :: p.1, p.2)) = outD l0 q (ops ++ [x]) o := by
  cases o with
  | none => rfl
  | some p => simp only [Option.map_some, outD, List.append_assoc, List.singleton_append]
theorem ref_l (l0 : List Int) (hb : IsB l0) (q : Int) (h0 : 0 ≤ q) (h1 : q < 18446744073709551616) (cnt : Nat) (hc : cnt ≤ 64) : ∀ (d i : Nat) (ops : List S39) (r : List Int), i + d = cnt → ops.length = i → IsB r → r.length ≤ 140737488355328 →
    Ev (fun k => staddleref03_Decode.l0 k l0 q (cnt : Int) ops r (i : Int)) (outD l0 q ops (dec d r)) := by
  intro d
  induction d with
  | zero =>
    intro i ops r hi ho hbr hrl
    have := ref_fin l0 hb q ops h0 h1
    have hf : outD l0 q ops (dec 0 r) = fin l0 q ops := by simp only [dec, outD, List.append_nil]
    rw [hf]
    refine Ev.step (fun k => ?_) this
    simp only [staddleref03_Decode.l0]
    rw [wnat cnt (by omega), if_neg (by omega)]
  | succ d ih =>
    intro i ops r hi ho hbr hrl
    cases r with
    | nil =>
      refine Ev.step (f := fun _ => some bad) (fun k => ?_) (Ev.now _)
      simp only [staddleref03_Decode.l0]
      rw [wnat cnt (by omega), if_pos (by omega), if_pos (by rfl)]
      rfl
    | cons c r =>
      have hcb := hbr.head
      have hbr := hbr.tail
      simp only [List.length_cons] at hrl
      have ht := refText_ev r hbr (by omega)
      have hte := txd_le r hbr
      obtain ⟨T, hT⟩ : ∃ T, txd r = T := ⟨_, rfl⟩
      obtain ⟨t1, t2, t3⟩ := T
      rw [hT] at ht hte
      simp only at ht hte
      unfold dec
      rw [hT]
      simp only
      have hstep : ∀ k, staddleref03_Decode.l0 (k + 1) l0 q (cnt : Int) ops (c :: r) (i : Int) = (staddleref01_Text.f k r).bind fun t =>
          (if t.2.2 = 0 then (if 0 ≤ (wrap64 (1 + t.2.1)) then (if (wrap64 (1 + t.2.1)) ≤ ((c :: r).length : Int) then ((some ((c :: r).drop ((wrap64 (1 + t.2.1)) : Int).toNat : List Int)).bind fun y => (if c = 1 then ((staddleref01_Text.f k y).bind fun u => (if u.2.2 = 0 then (if 0 ≤ u.2.1 then (if u.2.1 ≤ (y.length : Int) then (staddleref03_Decode.l0 k l0 q (cnt : Int) (ops ++ [(⟨c, t.1, u.1⟩ : S39)]) (y.drop (u.2.1 : Int).toNat) ((i + 1 : Nat) : Int)) else (none)) else (none)) else (some (0, ([] : List (S39)), 32)))) else (staddleref03_Decode.l0 k l0 q (cnt : Int) (ops ++ [(⟨c, t.1, (⟨#[]⟩ : ByteArray)⟩ : S39)]) y ((i + 1 : Nat) : Int)))) else (none)) else (none)) else (some (0, ([] : List (S39)), 32))) := by
        intro k
        simp only [staddleref03_Decode.l0]
        rw [wnat cnt (by omega), if_pos (by omega), if_neg (by simp only [List.length_cons]; omega), if_pos (by simp only [List.length_cons]; omega), if_pos (by simp only [List.length_cons]; omega), wadd1 i (by omega), show rd (c :: r) 0 = c from rfl, wbyte c hcb.1 hcb.2]
        simp only [if_pos (show ops.length < 3518437208883 by omega)]
        rfl
      refine Ev.step hstep (Ev.bind ht ?_)
      simp only
      rcases hte with ⟨z3, z2⟩ | ⟨z3, z2⟩
      · subst z3
        rw [if_pos rfl]
        refine Ev.ifT rfl ?_
        rw [w1add t2 (by omega)]
        refine Ev.ifT (by omega) (Ev.ifT (by simp only [List.length_cons]; omega) (Ev.some_ ?_))
        have hdr : (c :: r).drop (((t2 + 1 : Nat) : Int)).toNat = r.drop t2 := by rw [Int.toNat_natCast, List.drop_succ_cons]
        rw [hdr]
        by_cases hk : c = 1
        · rw [if_pos hk]
          refine Ev.ifT hk ?_
          have hbr2 := hbr.drop t2
          have hrl2 : (r.drop t2).length = r.length - t2 := List.length_drop
          have ht2 := refText_ev (r.drop t2) hbr2 (by omega)
          have hte2 := txd_le (r.drop t2) hbr2
          obtain ⟨T2, hT2⟩ : ∃ T, txd (r.drop t2) = T := ⟨_, rfl⟩
          obtain ⟨u1, u2, u3⟩ := T2
          rw [hT2] at ht2 hte2 ⊢
          simp only at ht2 hte2 ⊢
          refine Ev.bind ht2 ?_
          simp only
          rcases hte2 with ⟨z3, z2'⟩ | ⟨z3, z2'⟩
          · subst z3
            rw [if_pos rfl, outD_map]
            refine Ev.ifT rfl (Ev.ifT (by omega) (Ev.ifT (by omega) ?_))
            rw [Int.toNat_natCast]
            exact ih (i + 1) (ops ++ [⟨c, strOfNums t1, strOfNums u1⟩]) ((r.drop t2).drop u2) (by omega) (by simp [ho]) (hbr2.drop _) (by rw [List.length_drop]; omega)
          · rw [if_neg z3]
            exact Ev.ifF (by omega) (Ev.now _)
        · rw [if_neg hk, outD_map]
          refine Ev.ifF hk ?_
          exact ih (i + 1) (ops ++ [⟨c, strOfNums t1, (⟨#[]⟩ : ByteArray)⟩]) (r.drop t2) (by omega) (by simp [ho]) (hbr.drop _) (by rw [List.length_drop]; omega)
      · rw [if_neg z3]
        exact Ev.ifF (by omega) (Ev.now _)
theorem q64 (b : List Int) (hb : IsB b) (s : Nat) (hs : s ≤ 8) : fxd (b.take s) < 18446744073709551616 := by
  have := fxd_lt _ (hb.take s)
  have h2 : 256 ^ (b.take s).length ≤ 256 ^ 8 := Nat.pow_le_pow_right (by decide) (by rw [List.length_take]; omega)
  exact Nat.lt_of_lt_of_le this (Nat.le_trans h2 (by decide))
theorem fin_many {b : List Int} {q : Int} {xs : List S39} (h : 64 < xs.length) : fin b q xs = bad := by
  unfold fin
  rw [if_neg]
  intro hc
  have := (chk_zero hc.1).1
  omega
theorem D_many {b : List Int} (h : 64 < fxd ((b.drop 8).take 4)) : D b = bad := by
  unfold D
  split
  · rfl
  split
  · rfl
  · rename_i xs r hd
    exact fin_many (by have := dec_len _ _ _ _ hd; omega)
theorem enc_drop (q : Int) (l : List S39) (more : List Int) : (enc q l ++ more).take 8 = fx 8 q.toNat ∧ ((enc q l ++ more).drop 8).take 4 = fx 4 l.length ∧ (enc q l ++ more).drop 12 = opsB l ++ more := by
  unfold enc
  refine ⟨?_, ?_, ?_⟩
  · rw [List.append_assoc, List.take_left' (fx_length 8 _)]
  · rw [List.append_assoc, List.drop_left' (fx_length 8 _), List.append_assoc, List.take_left' (fx_length 4 _)]
  · rw [show (12 : Nat) = 8 + 4 from rfl, ← List.drop_drop, List.append_assoc, List.drop_left' (fx_length 8 _), List.append_assoc, List.drop_left' (fx_length 4 _)]
theorem enc_len (q : Int) (l : List S39) : 12 ≤ (enc q l).length := by
  unfold enc
  rw [List.length_append, List.length_append, fx_length, fx_length]
  omega
theorem fxd4 {n : Nat} (h : n ≤ 64) : fxd (fx 4 n) = n := by rw [fxd_fx]; exact Nat.mod_eq_of_lt (by omega)
theorem real_D (l0 : List Int) (hb : IsB l0) (hl0 : l0.length ≤ 140737488355328) : Ev (fun k => batch_Decode.f k l0) (D l0) := by
  unfold batch_Decode.f
  refine Ev.bind (Fixed_ev l0 hb 8 (by omega) (by omega)) ?_
  by_cases h8 : l0.length < 8
  · rw [if_pos h8]
    unfold D
    rw [if_pos (by omega)]
    exact Ev.ifF (by decide) (Ev.now _)
  · rw [if_neg h8]
    refine Ev.ifT rfl ?_
    by_cases h12 : l0.length < 12
    · unfold D
      rw [if_pos h12]
      exact Ev.ifT (by omega) (Ev.now _)
    · have hq := q64 l0 hb 8 (by omega)
      obtain ⟨c, hc⟩ : ∃ c, fxd ((l0.drop 8).take 4) = c := ⟨_, rfl⟩
      have hF2 := Fixed_ev (l0.drop 8) (hb.drop 8) 4 (by omega) (by omega)
      rw [if_neg (by rw [List.length_drop]; omega), hc] at hF2
      refine Ev.ifF (by omega) (Ev.bind hF2 ?_)
      simp only
      have e12 : (12 : Int) = ((12 : Nat) : Int) := rfl
      by_cases hc64 : c ≤ 64
      · rw [if_neg (by omega), e12]
        have := real_l l0 hb hl0 (fxd (l0.take 8) : Int) (by omega) (by omega) c (by omega) c 0 [] 12 (by omega) rfl (by omega)
        have hD : D l0 = outR l0 (fxd (l0.take 8) : Int) [] (dec c (l0.drop 12)) := by
          unfold D
          rw [if_neg h12, hc]
          rcases hd : dec c (l0.drop 12) with _ | ⟨xs, r⟩
          · rfl
          · simp only [outR, List.nil_append]
            by_cases hr : r = []
            · rw [if_pos hr]
            · rw [if_neg hr]
              unfold fin
              rw [if_neg]
              rintro ⟨ha, he⟩
              have hz := chk_zero ha
              have := enc_drop (fxd (l0.take 8) : Int) xs []
              rw [List.append_nil, he, List.append_nil] at this
              have h3 := dec_op xs [] hz.2.2
              rw [List.append_nil, ← this.2.2, dec_len _ _ _ _ hd, hd] at h3
              simp at h3
              exact hr h3
        rw [hD]
        exact this
      · rw [D_many (by omega)]
        by_cases hc65 : 65 < c
        · rw [if_pos (by omega), e12]
          have := real_l l0 hb hl0 (fxd (l0.take 8) : Int) (by omega) (by omega) 65 (by omega) 65 0 [] 12 (by omega) rfl (by omega)
          have hD : outR l0 (fxd (l0.take 8) : Int) [] (dec 65 (l0.drop 12)) = bad := by
            rcases hd : dec 65 (l0.drop 12) with _ | ⟨xs, r⟩
            · rfl
            · simp only [outR, List.nil_append]
              rw [fin_many (by have := dec_len _ _ _ _ hd; omega)]
              split <;> rfl
          rw [hD] at this
          exact this
        · rw [if_neg (by omega), e12]
          have := real_l l0 hb hl0 (fxd (l0.take 8) : Int) (by omega) (by omega) c (by omega) c 0 [] 12 (by omega) rfl (by omega)
          have hD : outR l0 (fxd (l0.take 8) : Int) [] (dec c (l0.drop 12)) = bad := by
            rcases hd : dec c (l0.drop 12) with _ | ⟨xs, r⟩
            · rfl
            · simp only [outR, List.nil_append]
              rw [fin_many (by have := dec_len _ _ _ _ hd; omega)]
              split <;> rfl
          rw [hD] at this
          exact this
theorem ref_D (l0 : List Int) (hb : IsB l0) (hl0 : l0.length ≤ 140737488355328) : Ev (fun k => staddleref03_Decode.f k l0) (D l0) := by
  unfold staddleref03_Decode.f
  by_cases h12 : l0.length < 12
  · unfold D
    rw [if_pos h12]
    exact Ev.ifT (by omega) (Ev.now _)
  · refine Ev.ifF (by omega) (Ev.bind (refFixed_ev l0 hb 8 (by omega) (by omega)) ?_)
    rw [if_neg (by omega)]
    have hq := q64 l0 hb 8 (by omega)
    obtain ⟨c, hc⟩ : ∃ c, fxd ((l0.drop 8).take 4) = c := ⟨_, rfl⟩
    have hF2 := refFixed_ev (l0.drop 8) (hb.drop 8) 4 (by omega) (by omega)
    rw [if_neg (by rw [List.length_drop]; omega), hc] at hF2
    refine Ev.ifT (by omega) (Ev.bind hF2 ?_)
    simp only
    by_cases hc64 : c ≤ 64
    · refine Ev.ifF (by omega) (Ev.ifT (by omega) ?_)
      have := ref_l l0 hb (fxd (l0.take 8) : Int) (by omega) (by omega) c (by omega) c 0 [] (l0.drop 12) (by omega) rfl (hb.drop _) (by rw [List.length_drop]; omega)
      have hD : D l0 = outD l0 (fxd (l0.take 8) : Int) [] (dec c (l0.drop 12)) := by
        unfold D
        rw [if_neg h12, hc]
        rcases hd : dec c (l0.drop 12) with _ | ⟨xs, r⟩
        · rfl
        · simp only [outD, List.nil_append]
      rw [hD]
      exact this
    · rw [D_many (by omega)]
      exact Ev.ifT (by omega) (Ev.now _)
/-- What is read: the bytes' own, or refused. -/
theorem D_cases (b : List Int) (hb : IsB b) : D b = bad ∨ ∃ q xs, 0 ≤ q ∧ q < 18446744073709551616 ∧ chk q xs = 0 ∧ enc q xs = b ∧ D b = (q, xs, 0) := by
  have hq := q64 b hb 8 (by omega)
  unfold D
  split
  · exact .inl rfl
  split
  · exact .inl rfl
  · rename_i xs r hd
    unfold fin
    split
    · rename_i h
      exact .inr ⟨_, xs, by omega, by omega, h.1, h.2, rfl⟩
    · exact .inl rfl
theorem D_enc (q : Int) (l : List S39) (h0 : 0 ≤ q) (h1 : q < 18446744073709551616) (h : chk q l = 0) : D (enc q l) = (q, l, 0) := by
  have hz := chk_zero h
  have e := enc_drop q l []
  simp only [List.append_nil] at e
  unfold D
  rw [if_neg (by have := enc_len q l; omega), e.1, e.2.1, e.2.2, fxd4 hz.1]
  have := dec_op l [] hz.2.2
  rw [List.append_nil] at this
  rw [this]
  have e8 : ((fxd (fx 8 q.toNat) : Nat) : Int) = q := by rw [fxd_fx, Nat.mod_eq_of_lt (by omega)]; omega
  simp only
  rw [e8]
  unfold fin
  rw [if_pos ⟨h, rfl⟩]
theorem enc_more (q q' : Int) (l l' : List S39) (more : List Int) (h : chk q l = 0) (h' : chk q' l' = 0) (he : enc q l ++ more = enc q' l') : more = [] := by
  have hz := chk_zero h
  have hz' := chk_zero h'
  have e := enc_drop q l more
  have e' := enc_drop q' l' []
  rw [List.append_nil, List.append_nil, ← he] at e'
  have hn : l.length = l'.length := by
    rw [← fxd4 hz.1, ← fxd4 hz'.1, ← e.2.1, ← e'.2.1]
  have d := dec_op l more hz.2.2
  have d' := dec_op l' [] hz'.2.2
  rw [List.append_nil, ← e'.2.2, e.2.2, ← hn, d] at d'
  simp at d'
  exact d'.2
theorem D_more (q : Int) (l : List S39) (more : List Int) (h : chk q l = 0) (hb : IsB more) (hm : more ≠ []) : D (enc q l ++ more) = bad := by
  rcases D_cases (enc q l ++ more) ((enc_IsB h).append hb) with hd | ⟨q', xs, _, _, hc, he, _⟩
  · exact hd
  · exact absurd (enc_more q q' l xs more h hc he.symm) hm
theorem D_cut (q : Int) (l : List S39) (j : Nat) (h : chk q l = 0) (hj : j < (enc q l).length) : D ((enc q l).take j) = bad := by
  rcases D_cases ((enc q l).take j) ((enc_IsB h).take j) with hd | ⟨q', xs, _, _, hc, he, _⟩
  · exact hd
  · have := enc_more q' q xs l ((enc q l).drop j) hc h (by rw [he]; exact List.take_append_drop j _)
    rw [List.drop_eq_nil_iff] at this
    omega
end Go.Proofs.Ytojnhecpjnoipaa.Q
