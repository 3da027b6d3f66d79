/- What edit's Decode comes to: what is laid is read; what is read was laid. -/
import Derived.Test.YthkkbgehmiobaaaQA
import Derived.Test.YthkkbgehmiobaaaEA
namespace Go.Proofs.Ythkkbgehmiobaaa.Q
open Go.RowKit Go.Proofs.YthkkbgehmiobaaaW.PrintWords Go.Proofs.YthkkbgehmiobaaaW.PrintLast Go.Proofs.YthkkbgehmiobaaaW.PrintMore Go.Proofs.Ythkkbgehmiobaaa.P Go.Proofs.Ythkkbgehmiobaaa.M Go.Proofs.Ythkkbgehmiobaaa.E
/-! ### numbers and keys -/
def numd (D : List Int) (most : Nat) : Option (Int × List Int) := if (uvd D 0 0).2.2 = 0 ∧ (uvd D 0 0).1 ≤ most then some (((uvd D 0 0).1 : Int), D.drop (uvd D 0 0).2.1) else none
/-- a rest of bytes -/
def Sfx (D E : List Int) : Prop := ∃ n, E = D.drop n
theorem Sfx.IsB {D E : List Int} (h : Sfx D E) (hb : IsB D) : M.IsB E := by obtain ⟨n, rfl⟩ := h; exact hb.drop n
theorem Sfx.len {D E : List Int} (h : Sfx D E) : E.length ≤ D.length := by obtain ⟨n, rfl⟩ := h; rw [List.length_drop]; omega
theorem Sfx.trans {D E F : List Int} (h : Sfx D E) (h2 : Sfx E F) : Sfx D F := by obtain ⟨n, rfl⟩ := h; obtain ⟨m, rfl⟩ := h2; exact ⟨n + m, by rw [List.drop_drop]⟩
theorem Sfx.refl (D : List Int) : Sfx D D := ⟨0, rfl⟩
theorem numd_out {D : List Int} {most : Nat} {x : Int × List Int} (h : numd D most = some x) : (0 ≤ x.1 ∧ x.1 ≤ (most : Int)) ∧ Sfx D x.2 := by
  unfold numd at h
  split at h
  · rename_i hc
    injection h with h
    subst h
    exact ⟨⟨by omega, by omega⟩, ⟨_, rfl⟩⟩
  · cases h
theorem num_ev (D : List Int) (hb : IsB D) (most : Nat) : Ev (fun k => num_g k D (most : Int)) (numd D most) := by
  have hu := Uvarint_ev D hb
  have hok := uvd_ok D 0 0 (uvd D 0 0).1 (uvd D 0 0).2.1 hb (by omega) (by decide)
  unfold num_g numd
  generalize huv : uvd D 0 0 = u at *
  obtain ⟨n, m, e⟩ := u
  dsimp only at *
  refine Ev.bind hu ?_
  dsimp only
  by_cases h0 : e = 0
  · subst h0
    have hm := hok rfl
    by_cases hle : n ≤ most
    · refine Ev.ifT ⟨rfl, by omega, by omega, by omega, by omega⟩ ?_
      rw [if_pos ⟨rfl, hle⟩, Int.toNat_natCast]
      exact Ev.now _
    · refine Ev.ifF (fun h => hle (by have := h.2.2.1; omega)) (Ev.ifT (.inr (by omega)) ?_)
      rw [if_neg (fun h => hle h.2)]
      exact Ev.now _
  · refine Ev.ifF (fun h => h0 (by have := h.1; omega)) (Ev.ifT (.inl (by omega)) ?_)
    rw [if_neg (fun h => h0 h.1)]
    exact Ev.now _
theorem numd_uv (n most : Nat) (D : List Int) (hn : n ≤ most) (hm : most < 18446744073709551616) : numd (uv n ++ D) most = some ((n : Int), D) := by
  have h := uvd_uv D n 0 0 (by omega) (by simp; omega)
  simp only [Nat.mul_zero, Nat.pow_zero, Nat.mul_one, Nat.zero_add] at h
  unfold numd
  rw [h]
  dsimp only
  rw [if_pos ⟨rfl, hn⟩, List.drop_left]
def keyd (D : List Int) : Option (S42 × List Int) := if (txd D).2.2 = 0 then (if (dec (txd D).1).2.2.2 = 0 then some (⟨(dec (txd D).1).1, (dec (txd D).1).2.1, (dec (txd D).1).2.2.1⟩, D.drop (txd D).2.1) else none) else none
theorem txd_facts (D : List Int) (hb : IsB D) : IsB (txd D).1 ∧ (txd D).1.length ≤ D.length ∧ (txd D).2.1 ≤ D.length := by
  have hok := uvd_ok D 0 0 (uvd D 0 0).1 (uvd D 0 0).2.1 hb (by omega) (by decide)
  unfold txd
  split
  · rename_i h0
    have hm := hok (Prod.ext rfl (Prod.ext rfl h0))
    split
    · exact ⟨IsB.nil, by simp, by simp⟩
    · refine ⟨(hb.drop _).take _, ?_, ?_⟩
      · rw [List.length_take, List.length_drop]; omega
      · dsimp only; omega
  · exact ⟨IsB.nil, by simp, by simp⟩
theorem keyd_out {D : List Int} {x : S42 × List Int} (h : keyd D = some x) : 0 ≤ x.1.f1 ∧ Sfx D x.2 := by
  unfold keyd at h
  split at h
  case isFalse => cases h
  split at h
  case isFalse => cases h
  injection h with h
  subst h
  refine ⟨?_, ⟨_, rfl⟩⟩
  dsimp only
  unfold dec
  split
  · exact Int.le_refl 0
  · exact Int.natCast_nonneg _
theorem key_ev' (D : List Int) (hb : IsB D) (hl : D.length ≤ 140737488351232) : Ev (fun k => key_g k D) (keyd D) := by
  have hf := txd_facts D hb
  unfold key_g keyd
  refine Ev.bind (Text_ev D hb (by omega)) ?_
  dsimp only
  by_cases h0 : (txd D).2.2 = 0
  case neg =>
    refine Ev.ifF (fun h => h0 (by exact_mod_cast h)) ?_
    rw [if_neg h0]
    exact Ev.now _
  refine Ev.ifT (by exact_mod_cast h0) (Ev.ifT ⟨by rw [str_size]; omega, by omega, by omega⟩ ?_)
  rw [if_pos h0]
  have hd := Decode_ev (txd D).1 hf.1 (by omega)
  have e : bytesOf (strOfNums (txd D).1) = (txd D).1 := bytesOf_str _ hf.1
  refine Ev.congr (f := fun k => (ikey_Decode.f k (txd D).1).bind fun y => if y.2.2.2 = 0 then some (some (⟨y.1, y.2.1, y.2.2.1⟩, D.drop (txd D).2.1)) else some none) (fun k => ?_) (Ev.bind hd ?_)
  · rw [e, Int.toNat_natCast]
  · by_cases h1 : (dec (txd D).1).2.2.2 = 0
    · refine Ev.ifT h1 ?_; rw [if_pos h1]; exact Ev.now _
    · refine Ev.ifF h1 ?_; rw [if_neg h1]; exact Ev.now _
theorem keyd_tx (x : S42) (D : List Int) (h : kchk x = 0) (h0 : 0 ≤ x.f1) : keyd (tx (kb x) ++ D) = some (x, D) := by
  have hk := kb_len h
  have ht := txd_tx (kb x) D (by omega)
  have hd := dec_enc x.f0 x.f1 x.f2 h0 h
  unfold keyd
  rw [ht]
  dsimp only
  rw [show dec (kb x) = (x.f0, x.f1, x.f2, 0) from hd]
  dsimp only
  rw [if_pos rfl, if_pos rfl, List.drop_left]
/-! ### the lists -/
def gonesd : Nat → List Int → List S40 → Option (List Int × List S40)
  | 0, D, acc => some (D, acc)
  | c + 1, D, acc => (numd D 4).bind fun u => (numd u.2 1099511627776).bind fun v => gonesd c v.2 (acc ++ [⟨u.1, v.1⟩])
def filesd : Nat → List Int → List S44 → Option (List Int × List S44)
  | 0, D, acc => some (D, acc)
  | c + 1, D, acc => (numd D 4).bind fun u => (numd u.2 1099511627776).bind fun v => (numd v.2 2147483648).bind fun z => (keyd z.2).bind fun s => (keyd s.2).bind fun g => filesd c g.2 (acc ++ [⟨u.1, v.1, z.1, s.1, g.1⟩])
theorem nm_ev {α : Type} (D : List Int) (hb : IsB D) (most : Nat) (f : Nat → Int → List Int → Option (Option α)) (g : Int → List Int → Option α) (hf : ∀ n E, (0 ≤ n ∧ n ≤ (most : Int)) → Sfx D E → Ev (fun k => f k n E) (g n E)) : Ev (fun k => nm k D (most : Int) (f k)) ((numd D most).bind fun u => g u.1 u.2) := by
  refine Ev.bind (num_ev D hb most) ?_
  cases hq : numd D most with
  | none => exact Ev.now _
  | some x => have := numd_out hq; exact hf x.1 x.2 this.1 this.2
theorem ky_ev {α : Type} (D : List Int) (hb : IsB D) (hl : D.length ≤ 140737488351232) (f : Nat → S42 → List Int → Option (Option α)) (g : S42 → List Int → Option α) (hf : ∀ x E, 0 ≤ x.f1 → Sfx D E → Ev (fun k => f k x E) (g x E)) : Ev (fun k => ky k D (f k)) ((keyd D).bind fun u => g u.1 u.2) := by
  refine Ev.bind (key_ev' D hb hl) ?_
  cases hq : keyd D with
  | none => exact Ev.now _
  | some x => have := keyd_out hq; exact hf x.1 x.2 this.1 this.2
theorem gones_ev {α : Type} (f : Nat → List Int → List S40 → Option (Option α)) (g : List Int → List S40 → Option α) : ∀ (c : Nat) (D : List Int) (acc : List S40), IsB D → (∀ E acc', Sfx D E → Ev (fun k => f k E acc') (g E acc')) → Ev (fun k => gones_g k c D acc (f k)) ((gonesd c D acc).bind fun r => g r.1 r.2)
  | 0, D, acc, _, hf => hf D acc (Sfx.refl D)
  | c + 1, D, acc, hb, hf => by
    have h := nm_ev (α := α) D hb 4 (fun k l D1 => nm k D1 1099511627776 fun n D2 => gones_g k c D2 (acc ++ [⟨l, n⟩]) (f k)) (fun l D1 => (numd D1 1099511627776).bind fun v => (gonesd c v.2 (acc ++ [⟨l, v.1⟩])).bind fun r => g r.1 r.2)
      (fun l D1 _ s1 => nm_ev (α := α) D1 (s1.IsB hb) 1099511627776 (fun k n D2 => gones_g k c D2 (acc ++ [⟨l, n⟩]) (f k)) (fun n D2 => (gonesd c D2 (acc ++ [⟨l, n⟩])).bind fun r => g r.1 r.2)
        (fun n D2 _ s2 => gones_ev f g c D2 _ ((s1.trans s2).IsB hb) (fun E acc' s => hf E acc' ((s1.trans s2).trans s))))
    refine ev_eq ?_ h
    show _ = ((numd D 4).bind fun u => (numd u.2 1099511627776).bind fun v => gonesd c v.2 (acc ++ [⟨u.1, v.1⟩])).bind _
    rw [Option.bind_assoc]
    congr 1
    funext u
    rw [Option.bind_assoc]
set_option maxHeartbeats 4000000 in
theorem files_ev {α : Type} (f : Nat → List Int → List S44 → Option (Option α)) (g : List Int → List S44 → Option α) : ∀ (c : Nat) (D : List Int) (acc : List S44), IsB D → D.length ≤ 140737488351232 → KW acc → (∀ E acc', KW acc' → Sfx D E → Ev (fun k => f k E acc') (g E acc')) → Ev (fun k => files_g k c D acc (f k)) ((filesd c D acc).bind fun r => g r.1 r.2)
  | 0, D, acc, _, _, hw, hf => hf D acc hw (Sfx.refl D)
  | c + 1, D, acc, hb, hl, hw, hf => by
    have h := nm_ev (α := α) D hb 4 (fun k l D1 => nm k D1 1099511627776 fun n D2 => nm k D2 2147483648 fun z D3 => ky k D3 fun s D4 => ky k D4 fun t D5 => files_g k c D5 (acc ++ [⟨l, n, z, s, t⟩]) (f k))
      (fun l D1 => (numd D1 1099511627776).bind fun v => (numd v.2 2147483648).bind fun z => (keyd z.2).bind fun s => (keyd s.2).bind fun t => (filesd c t.2 (acc ++ [⟨l, v.1, z.1, s.1, t.1⟩])).bind fun r => g r.1 r.2)
      (fun l D1 _ s1 => nm_ev (α := α) D1 (s1.IsB hb) 1099511627776 (fun k n D2 => nm k D2 2147483648 fun z D3 => ky k D3 fun s D4 => ky k D4 fun t D5 => files_g k c D5 (acc ++ [⟨l, n, z, s, t⟩]) (f k))
        (fun n D2 => (numd D2 2147483648).bind fun z => (keyd z.2).bind fun s => (keyd s.2).bind fun t => (filesd c t.2 (acc ++ [⟨l, n, z.1, s.1, t.1⟩])).bind fun r => g r.1 r.2)
        (fun n D2 _ s2 => nm_ev (α := α) D2 ((s1.trans s2).IsB hb) 2147483648 (fun k z D3 => ky k D3 fun s D4 => ky k D4 fun t D5 => files_g k c D5 (acc ++ [⟨l, n, z, s, t⟩]) (f k))
          (fun z D3 => (keyd D3).bind fun s => (keyd s.2).bind fun t => (filesd c t.2 (acc ++ [⟨l, n, z, s.1, t.1⟩])).bind fun r => g r.1 r.2)
          (fun z D3 _ s3 => by
            have q3 := (s1.trans s2).trans s3
            have l3 := q3.len
            exact ky_ev (α := α) D3 (q3.IsB hb) (by omega) (fun k s D4 => ky k D4 fun t D5 => files_g k c D5 (acc ++ [⟨l, n, z, s, t⟩]) (f k))
              (fun s D4 => (keyd D4).bind fun t => (filesd c t.2 (acc ++ [⟨l, n, z, s, t.1⟩])).bind fun r => g r.1 r.2)
              (fun s D4 hs s4 => by
                have q4 := q3.trans s4
                have l4 := q4.len
                exact ky_ev (α := α) D4 (q4.IsB hb) (by omega) (fun k t D5 => files_g k c D5 (acc ++ [⟨l, n, z, s, t⟩]) (f k))
                  (fun t D5 => (filesd c D5 (acc ++ [⟨l, n, z, s, t⟩])).bind fun r => g r.1 r.2)
                  (fun t D5 ht s5 => by
                    have q5 := q4.trans s5
                    have l5 := q5.len
                    exact files_ev f g c D5 _ (q5.IsB hb) (by omega) (fun x hx => by rcases List.mem_append.1 hx with h1 | h1; exact hw x h1; simp only [List.mem_singleton] at h1; subst h1; exact ⟨hs, ht⟩) (fun E acc' hw' s => hf E acc' hw' (q5.trans s)))))))
    refine ev_eq ?_ h
    show _ = ((numd D 4).bind fun u => (numd u.2 1099511627776).bind fun v => (numd v.2 2147483648).bind fun z => (keyd z.2).bind fun s => (keyd s.2).bind fun t => filesd c t.2 (acc ++ [⟨u.1, v.1, z.1, s.1, t.1⟩])).bind _
    simp only [Option.bind_assoc]
/-! ### an edit -/
def W (x : Ed) : Prop := 0 ≤ x.l0 ∧ 0 ≤ x.l1 ∧ 0 ≤ x.l2 ∧ KW x.fs
def layx (x : Ed) : List Int := lay x.l0 x.l1 x.l2 x.ds x.fs
def eckx (x : Ed) : Int := eck x.l0 x.l1 x.l2 x.ds x.fs
def find_ (b : List Int) (x : Ed) : Option Ed := if eckx x = 0 ∧ layx x = b then some x else none
theorem uv_lay_IsB : ∀ (D : List S40), IsB (dbs D)
  | [] => IsB.nil
  | _ :: l => (uv_IsB _).append ((uv_IsB _).append (uv_lay_IsB l))
theorem fbs_IsB : ∀ (L : List S44), IsB (fbs L)
  | [] => IsB.nil
  | _ :: l => IsB.append ((uv_IsB _).append ((uv_IsB _).append ((uv_IsB _).append ((tx_IsB (kb_IsB _)).append (tx_IsB (kb_IsB _)))))) (fbs_IsB l)
theorem lay_IsB (a b c : Int) (D : List S40) (L : List S44) : IsB (lay a b c D L) := (uv_IsB _).append ((uv_IsB _).append ((uv_IsB _).append ((uv_IsB _).append ((uv_lay_IsB D).append ((uv_IsB _).append (fbs_IsB L))))))
theorem fin_ev (b : List Int) (hb : IsB b) (x : Ed) (hw : W x) : Ev (fun k => fin_g k b x) (find_ b x) := by
  unfold fin_g
  refine Ev.bind (Enc_ev x.l0 x.l1 x.l2 x.ds x.fs hw.1 hw.2.1 hw.2.2.1 hw.2.2.2) ?_
  unfold find_
  by_cases h : eckx x = 0
  case neg =>
    have h2 : (eblt x.l0 x.l1 x.l2 x.ds x.fs).2 ≠ 0 := by rw [eblt_err]; exact h
    refine Ev.ifF h2 ?_
    rw [if_neg (fun hh => h hh.1)]
    exact Ev.now _
  have h2 : (eblt x.l0 x.l1 x.l2 x.ds x.fs).2 = 0 := by rw [eblt_err]; exact h
  have h1 : (eblt x.l0 x.l1 x.l2 x.ds x.fs).1 = layx x := by unfold eblt; rw [if_pos (show eck x.l0 x.l1 x.l2 x.ds x.fs = 0 from h)]; rfl
  refine Ev.ifT h2 ?_
  rw [h1]
  unfold bytes_Equal.f
  refine Ev.some_ ?_
  by_cases he : layx x = b
  · rw [he, beq_self_eq_true]
    refine Ev.ifT rfl ?_
    rw [if_pos ⟨h, rfl⟩]
    exact Ev.now _
  · have hne : ((strOfNums (layx x)).toList == (strOfNums b).toList) = false := by
      rw [beq_eq_false_iff_ne]
      intro hh
      exact he (str_inj (lay_IsB _ _ _ _ _) hb (ba_ext (by rw [← ByteArray.toList_eq, ← ByteArray.toList_eq]; exact hh)))
    rw [hne]
    refine Ev.ifF (by decide) ?_
    rw [if_neg (fun hh => he hh.2)]
    exact Ev.now _
def decd (b : List Int) : Option Ed := (numd b 1099511627776).bind fun u0 => (numd u0.2 1099511627776).bind fun u1 => (numd u1.2 72057594037927935).bind fun u2 => (numd u2.2 20000).bind fun uc => (gonesd uc.1.toNat uc.2 []).bind fun r => (numd r.1 100).bind fun ud => (filesd ud.1.toNat ud.2 []).bind fun q => find_ b ⟨u0.1, u1.1, u2.1, r.2, q.2⟩
theorem dec_ev (b : List Int) (hb : IsB b) (hl : b.length ≤ 140737488351232) : Ev (fun k => dec_g k b) (decd b) := by
  unfold dec_g decd
  refine nm_ev b hb 1099511627776 _ (fun l0 D => (numd D 1099511627776).bind fun u1 => (numd u1.2 72057594037927935).bind fun u2 => (numd u2.2 20000).bind fun uc => (gonesd uc.1.toNat uc.2 []).bind fun r => (numd r.1 100).bind fun ud => (filesd ud.1.toNat ud.2 []).bind fun q => find_ b ⟨l0, u1.1, u2.1, r.2, q.2⟩) (fun l0 D h0 s0 => ?_)
  refine nm_ev D (s0.IsB hb) 1099511627776 _ (fun l1 D => (numd D 72057594037927935).bind fun u2 => (numd u2.2 20000).bind fun uc => (gonesd uc.1.toNat uc.2 []).bind fun r => (numd r.1 100).bind fun ud => (filesd ud.1.toNat ud.2 []).bind fun q => find_ b ⟨l0, l1, u2.1, r.2, q.2⟩) (fun l1 D1 h1 s1 => ?_)
  have t1 := s0.trans s1
  refine nm_ev D1 (t1.IsB hb) 72057594037927935 _ (fun l2 D => (numd D 20000).bind fun uc => (gonesd uc.1.toNat uc.2 []).bind fun r => (numd r.1 100).bind fun ud => (filesd ud.1.toNat ud.2 []).bind fun q => find_ b ⟨l0, l1, l2, r.2, q.2⟩) (fun l2 D2 h2 s2 => ?_)
  have t2 := t1.trans s2
  refine nm_ev D2 (t2.IsB hb) 20000 _ (fun c D => (gonesd c.toNat D []).bind fun r => (numd r.1 100).bind fun ud => (filesd ud.1.toNat ud.2 []).bind fun q => find_ b ⟨l0, l1, l2, r.2, q.2⟩) (fun c D3 h3 s3 => ?_)
  have t3 := t2.trans s3
  refine gones_ev (fun k D ds => nm k D 100 fun c2 D => files_g k c2.toNat D [] fun _ fs => fin_g k b ⟨l0, l1, l2, ds, fs⟩) (fun D ds => (numd D 100).bind fun ud => (filesd ud.1.toNat ud.2 []).bind fun q => find_ b ⟨l0, l1, l2, ds, q.2⟩) c.toNat D3 [] (t3.IsB hb) (fun D4 ds s4 => ?_)
  have t4 := t3.trans s4
  refine nm_ev D4 (t4.IsB hb) 100 _ (fun c D => (filesd c.toNat D []).bind fun q => find_ b ⟨l0, l1, l2, ds, q.2⟩) (fun c2 D5 h5 s5 => ?_)
  have t5 := t4.trans s5
  have l5 := t5.len
  refine files_ev (fun k _ fs => fin_g k b ⟨l0, l1, l2, ds, fs⟩) (fun _ fs => find_ b ⟨l0, l1, l2, ds, fs⟩) c2.toNat D5 [] (t5.IsB hb) (by omega) (fun _ h => by cases h) (fun E fs hw s => ?_)
  exact fin_ev b hb ⟨l0, l1, l2, ds, fs⟩ ⟨h0.1, h1.1, h2.1, hw⟩
/-! ### what is read was laid -/
theorem filesd_KW : ∀ (c : Nat) (D : List Int) (acc : List S44) (r : List Int × List S44), KW acc → filesd c D acc = some r → KW r.2
  | 0, D, acc, r, hw, h => by injection h with h; subst h; exact hw
  | c + 1, D, acc, r, hw, h => by
    obtain ⟨u, _, h⟩ := Option.bind_eq_some_iff.mp h
    obtain ⟨v, _, h⟩ := Option.bind_eq_some_iff.mp h
    obtain ⟨z, _, h⟩ := Option.bind_eq_some_iff.mp h
    obtain ⟨s, hs, h⟩ := Option.bind_eq_some_iff.mp h
    obtain ⟨g, hg, h⟩ := Option.bind_eq_some_iff.mp h
    exact filesd_KW c g.2 _ r (fun x hx => by rcases List.mem_append.1 hx with h1 | h1; exact hw x h1; simp only [List.mem_singleton] at h1; subst h1; exact ⟨(keyd_out hs).1, (keyd_out hg).1⟩) h
theorem decd_some {b : List Int} {x : Ed} (h : decd b = some x) : W x ∧ eckx x = 0 ∧ layx x = b := by
  obtain ⟨u0, h0, h⟩ := Option.bind_eq_some_iff.mp h
  obtain ⟨u1, h1, h⟩ := Option.bind_eq_some_iff.mp h
  obtain ⟨u2, h2, h⟩ := Option.bind_eq_some_iff.mp h
  obtain ⟨uc, h3, h⟩ := Option.bind_eq_some_iff.mp h
  obtain ⟨r, h4, h⟩ := Option.bind_eq_some_iff.mp h
  obtain ⟨ud, h5, h⟩ := Option.bind_eq_some_iff.mp h
  obtain ⟨q, h6, h⟩ := Option.bind_eq_some_iff.mp h
  unfold find_ at h
  split at h
  case isFalse => cases h
  rename_i hc
  injection h with h
  subst h
  exact ⟨⟨(numd_out h0).1.1, (numd_out h1).1.1, (numd_out h2).1.1, filesd_KW _ _ [] q (fun _ h => by cases h) h6⟩, hc⟩
/-! ### what is laid is read -/
theorem gonesd_lay : ∀ (l acc : List S40) (D : List Int), dl l = 0 → gonesd l.length (dbs l ++ D) acc = some (D, acc ++ l)
  | [], acc, D, _ => by simp [gonesd, dbs]
  | d :: l, acc, D, hd => by
    have hp := pl_zero (dl_all hd d (List.mem_cons_self ..))
    have ht : dl l = 0 := dl_of (fun x hx => dl_all hd x (List.mem_cons_of_mem _ hx))
    have e1 := numd_uv d.f0.toNat 4 (uv d.f1.toNat ++ (dbs l ++ D)) (by omega) (by decide)
    have e2 := numd_uv d.f1.toNat 1099511627776 (dbs l ++ D) (by omega) (by decide)
    have hE : dbs (d :: l) ++ D = uv d.f0.toNat ++ (uv d.f1.toNat ++ (dbs l ++ D)) := by simp [dbs]
    rw [hE, List.length_cons]
    unfold gonesd
    rw [e1]
    dsimp only [Option.bind]
    rw [e2]
    dsimp only [Option.bind]
    rw [Int.toNat_of_nonneg hp.1.1, Int.toNat_of_nonneg (by omega)]
    have ih := gonesd_lay l (acc ++ [⟨d.f0, d.f1⟩]) D ht
    rw [ih]
    simp
theorem filesd_lay : ∀ (l acc : List S44) (D : List Int), fls l = 0 → KW l → filesd l.length (fbs l ++ D) acc = some (D, acc ++ l)
  | [], acc, D, _, _ => by simp [filesd, fbs]
  | f :: l, acc, D, hf, hw => by
    have ht := fls_tail hf
    have hp := fl_parts ht.1
    have e1 := numd_uv f.f0.toNat 4 (uv f.f1.toNat ++ (uv f.f2.toNat ++ (tx (kb f.f3) ++ (tx (kb f.f4) ++ (fbs l ++ D))))) (by omega) (by decide)
    have e2 := numd_uv f.f1.toNat 1099511627776 (uv f.f2.toNat ++ (tx (kb f.f3) ++ (tx (kb f.f4) ++ (fbs l ++ D)))) (by omega) (by decide)
    have e3 := numd_uv f.f2.toNat 2147483648 (tx (kb f.f3) ++ (tx (kb f.f4) ++ (fbs l ++ D))) (by omega) (by decide)
    have e4 := keyd_tx f.f3 (tx (kb f.f4) ++ (fbs l ++ D)) hp.2.2.2.1 hw.head.1
    have e5 := keyd_tx f.f4 (fbs l ++ D) hp.2.2.2.2 hw.head.2
    have hE : fbs (f :: l) ++ D = uv f.f0.toNat ++ (uv f.f1.toNat ++ (uv f.f2.toNat ++ (tx (kb f.f3) ++ (tx (kb f.f4) ++ (fbs l ++ D))))) := by simp [fbs, fb]
    rw [hE, List.length_cons]
    unfold filesd
    rw [e1]
    dsimp only [Option.bind]
    rw [e2]
    dsimp only [Option.bind]
    rw [e3]
    dsimp only [Option.bind]
    rw [e4]
    dsimp only [Option.bind]
    rw [e5]
    dsimp only [Option.bind]
    rw [Int.toNat_of_nonneg hp.1.1, Int.toNat_of_nonneg (by omega), Int.toNat_of_nonneg (by omega)]
    have ih := filesd_lay l (acc ++ [⟨f.f0, f.f1, f.f2, f.f3, f.f4⟩]) D ht.2 hw.tail
    rw [ih]
    simp
theorem decd_lay {x : Ed} (hw : W x) (h : eckx x = 0) : decd (layx x) = some x := by
  have hz := eck_zero h
  have e0 := numd_uv x.l0.toNat 1099511627776 (uv x.l1.toNat ++ (uv x.l2.toNat ++ (uv x.ds.length ++ (dbs x.ds ++ (uv x.fs.length ++ fbs x.fs))))) (by have := hw.1; omega) (by decide)
  have e1 := numd_uv x.l1.toNat 1099511627776 (uv x.l2.toNat ++ (uv x.ds.length ++ (dbs x.ds ++ (uv x.fs.length ++ fbs x.fs)))) (by have := hw.2.1; omega) (by decide)
  have e2 := numd_uv x.l2.toNat 72057594037927935 (uv x.ds.length ++ (dbs x.ds ++ (uv x.fs.length ++ fbs x.fs))) (by have := hw.2.2.1; omega) (by decide)
  have e3 := numd_uv x.ds.length 20000 (dbs x.ds ++ (uv x.fs.length ++ fbs x.fs)) hz.1 (by decide)
  have e4 := gonesd_lay x.ds [] (uv x.fs.length ++ fbs x.fs) hz.2.2.2.2.2.1
  have e5 := numd_uv x.fs.length 100 (fbs x.fs) hz.2.1 (by decide)
  have e6 := filesd_lay x.fs [] [] hz.2.2.2.2.2.2 hw.2.2.2
  rw [List.append_nil] at e6
  unfold decd
  rw [show layx x = uv x.l0.toNat ++ (uv x.l1.toNat ++ (uv x.l2.toNat ++ (uv x.ds.length ++ (dbs x.ds ++ (uv x.fs.length ++ fbs x.fs))))) from rfl, e0]
  dsimp only [Option.bind]
  rw [e1]
  dsimp only [Option.bind]
  rw [e2]
  dsimp only [Option.bind]
  rw [e3]
  dsimp only [Option.bind]
  rw [Int.toNat_natCast, e4]
  dsimp only [Option.bind]
  rw [e5]
  dsimp only [Option.bind]
  rw [Int.toNat_natCast, e6]
  dsimp only [Option.bind]
  rw [Int.toNat_of_nonneg hw.1, Int.toNat_of_nonneg hw.2.1, Int.toNat_of_nonneg hw.2.2.1, List.nil_append, List.nil_append]
  unfold find_
  rw [if_pos ⟨h, rfl⟩]
end Go.Proofs.Ythkkbgehmiobaaa.Q
