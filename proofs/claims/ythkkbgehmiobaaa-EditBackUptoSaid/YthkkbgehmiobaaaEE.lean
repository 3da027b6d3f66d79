/- edit's Encode: what the closure puts behind the bytes. edit's Encode. edit's Encode: more rounds, the same answer. -/
import Derived.Test.YthkkbgehmiobaaaP9
import Derived.Test.YthkkbgehmiobaaaP7
import Derived.Laws.ByValue
import Derived.Deep.DeepMust
namespace Go.Proofs.Ythkkbgehmiobaaa.E
open Go.RowKit Go.Proofs.YthkkbgehmiobaaaW.PrintWords Go.Proofs.YthkkbgehmiobaaaW.PrintLast Go.Proofs.YthkkbgehmiobaaaW.PrintMore Go.Proofs.Ythkkbgehmiobaaa.P
set_option linter.unusedVariables false
set_option linter.unusedSimpArgs false
theorem blk_lt {w : World} {g : Nat} {o : Obj} (h : w.heap[g]? = some o) : g < w.heap.size := (Array.getElem?_eq_some_iff.1 h).1
theorem ew_w1 (n : Nat) (h : n < 9223372036854775807) : wrap64 ((n : Int) + 1) = ((n + 1 : Nat) : Int) := by unfold wrap64; omega
/-! ### what stays -/
def Kp (Z : Nat → Prop) (a c : World) : Prop := a.heap.size ≤ c.heap.size ∧ ∀ k, Z k → c.heap[k]? = a.heap[k]?
theorem Kp.refl (Z : Nat → Prop) (a : World) : Kp Z a a := ⟨Nat.le_refl _, fun _ _ => rfl⟩
theorem Kp.trans {Z : Nat → Prop} {a b c : World} (h : Kp Z a b) (h2 : Kp Z b c) : Kp Z a c := ⟨Nat.le_trans h.1 h2.1, fun k hk => (h2.2 k hk).trans (h.2 k hk)⟩
theorem Kp.below {Z : Nat → Prop} {a b c : World} (h : Kp Z a b) (hb : Below b.heap.size b c) (hl : ∀ k, Z k → k < a.heap.size) : Kp Z a c :=
  h.trans ⟨hb.size, fun k hk => hb.block k (Nat.lt_of_lt_of_le (hl k hk) h.1)⟩
theorem Kp.set {Z : Nat → Prop} {a b : World} (h : Kp Z a b) (go : Nat) (v : Value) (hk : ¬ Z go) : Kp Z a (b.setCell ⟨go, 0, none⟩ v) :=
  h.trans ⟨(Below.setCell (p := ⟨go, 0, none⟩) (Below.refl 0 b) (Nat.zero_le _) v).size, fun k h1 => Below.heap_setCell b ⟨go, 0, none⟩ v k (fun e => hk (by have : k = go := e; exact this ▸ h1))⟩
/-- the bytes that are written, in memory: a row of one's own, apart from what is kept -/
structure PSt (w0 : World) (go : Nat) (Z : Nat → Prop) (out : List Int) (wx : World) : Prop where
  blk : ∃ Ao co, wx.heap[go]? = some (.cells #[.slice Ao out.length co] 28 (0, 0)) ∧ Kd.R (Kd.int .u8) 5 wx w0.heap.size (fun k => k ≠ go ∧ ¬ Z k) (.slice Ao out.length co) out
  ge : w0.heap.size ≤ go
  nk : ¬ Z go
  lt : ∀ k, Z k → k < wx.heap.size
  bel : Below w0.heap.size w0 wx
/-- more is made, and kept -/
theorem PSt.more {w0 wx wy : World} {go : Nat} {Z Z' : Nat → Prop} {out : List Int} (h : PSt w0 go Z out wx) (hb : Below wx.heap.size wx wy) (hK : ∀ k, Z' k → (Z k ∨ wx.heap.size ≤ k) ∧ k < wy.heap.size) : PSt w0 go Z' out wy := by
  obtain ⟨Ao, co, h1, h2⟩ := h.blk
  have hgo := blk_lt h1
  have hnk : ¬ Z' go := fun hk => (hK go hk).1.elim h.nk (fun h3 => by omega)
  exact ⟨⟨Ao, co, blk_below h1 hb, Kd.R_below (Kd.R_mono (Kd.R_bound h2) (fun k hk => ⟨hk.1.1, fun hk' => (hK k hk').1.elim hk.1.2 (fun h3 => by have := hk.2.2.1; omega)⟩)) hb⟩, h.ge, hnk, fun k hk => (hK k hk).2, below_step h.bel hb⟩
theorem PSt.less {w0 wx : World} {go : Nat} {Z Z' : Nat → Prop} {out : List Int} (h : PSt w0 go Z out wx) (hK : ∀ k, Z' k → Z k) : PSt w0 go Z' out wx := by
  obtain ⟨Ao, co, h1, h2⟩ := h.blk
  exact ⟨⟨Ao, co, h1, Kd.R_mono h2 (fun k hk => ⟨hk.1, fun h3 => hk.2 (hK k h3)⟩)⟩, h.ge, fun h3 => h.nk (hK go h3), fun k hk => h.lt k (hK k hk), h.bel⟩
theorem Kp.less {Z Z' : Nat → Prop} {a c : World} (h : Kp Z a c) (hK : ∀ k, Z' k → Z k) : Kp Z' a c := ⟨h.1, fun k hk => h.2 k (hK k hk)⟩
/-! ### a number and a text, put behind nothing -/
theorem putU_nil (k : Nat) (n : Int) (t : List Int) (w : World) (h : codec_PutUvarint.f k [] n = some t) :
    Calls Try.prog 17 #[.slice none 0 0, .int .u64 n] w fun e w' => ∃ A c, e = .returned (.slice A t.length c) ∧ Kd.R (Kd.int .u8) 5 w' w.heap.size (fun _ => True) (.slice A t.length c) t ∧ Below w.heap.size w w' := by
  refine (codec_PutUvarint.calls k none 0 ([] : List Int) n t w (Kd.C_nil _ _) (Nat.le_refl _) h).mono ?_
  rintro e w' ⟨v, rfl, ho, hb⟩
  obtain ⟨A, c, rfl⟩ := Kd.R_slice ho
  exact ⟨A, c, rfl, ho, hb⟩
theorem putT_nil (k : Nat) (s : ByteArray) (t : List Int) (w : World) (h : codec_PutText.f k [] s = some t) :
    Calls Try.prog 19 #[.slice none 0 0, .string s] w fun e w' => ∃ A c, e = .returned (.slice A t.length c) ∧ Kd.R (Kd.int .u8) 5 w' w.heap.size (fun _ => True) (.slice A t.length c) t ∧ Below w.heap.size w w' := by
  refine (codec_PutText.calls k none 0 ([] : List Int) s t w (Kd.C_nil _ _) (Nat.le_refl _) h).mono ?_
  rintro e w' ⟨v, rfl, ho, hb⟩
  obtain ⟨A, c, rfl⟩ := Kd.R_slice ho
  exact ⟨A, c, rfl, ho, hb⟩
/-- numbers, one behind the other -/
def put_f (k : Nat) : List Int → List Int → Option (List Int)
  | [], out => some out
  | n :: l, out => (codec_PutUvarint.f k [] n).bind fun t => if out.length + t.length < 140737488355328 then put_f k l (out ++ t) else none
set_option maxHeartbeats 2000000 in
set_option maxRecDepth 100000 in
theorem put_calls (k : Nat) (ad : Addr) (c : Nat) (l : List Int) (go : Nat) (out r : List Int) (w0 w : World) (Z : Nat → Prop) (hs : PSt w0 go Z out w) (hr : ∀ wx, Kp Z w wx → ∀ i : Nat, i < l.length → wx.cell? (ad.add i) = some (.int .u64 (rd l (i : Int)))) (hl : l.length < 100) (hf : put_f k l out = some r) :
    Calls Try.prog 16 #[.slice (some ad) l.length c, .pointer (some ⟨go, 0, none⟩)] w fun e w' => e = .returned (.tuple #[]) ∧ PSt w0 go Z r w' ∧ Kp Z w w' := by
  have HS0 := Aside0.mk hs
  have HR := Aside0.mk hr
  have HF := Aside0.mk hf
  have HLL := Aside0.mk hl
  clear hs hr hf hl
  go_enter Try.func16, Try.ntmps16
  go_upto_region 1 with fail
  go_loopg [7] (l.length + 1) (fun gf v7 wx => ∃ (i : Nat) (o : List Int), v7 = .int .i64 (i : Int) ∧ Aside0 (gf + i = l.length + 1 ∧ i ≤ l.length) ∧ Aside0 (put_f k (l.drop i) o = some r) ∧ Aside0 (PSt w0 go Z o wx) ∧ Aside0 (Kp Z w wx))
  case atStart => exact ⟨0, out, rfl, ⟨by omega, by omega⟩, HF, HS0, ⟨Kp.refl _ _⟩⟩
  case round =>
    clear HF HS0
    obtain ⟨i, o, rfl, HI, HF, HS, HK⟩ := hrel
    cases gk with
    | zero => exact absurd HI.out.1 (by have := HI.out.2; omega)
    | succ g1 =>
    by_cases cc : i < l.length
    · have d1 : decide ((i : Int) < (l.length : Int)) = true := decide_eq_true (by omega)
      have d2 : decide (i < l.length) = true := decide_eq_true cc
      have HIB := Aside0.mk cc
      obtain ⟨n, hn⟩ : ∃ x, rd l (i : Int) = x := ⟨_, rfl⟩
      have HD : l.drop i = n :: l.drop (i + 1) := by
        rw [← hn]
        simp only [rd, Int.toNat_natCast]
        rw [List.drop_eq_getElem_cons cc]
        simp [List.getD, cc]
      have F := HF.out
      rw [HD] at F
      simp only [put_f] at F
      obtain ⟨t, ht, F⟩ := Option.bind_eq_some_iff.mp F
      split at F
      case isFalse => cases F
      rename_i hl
      have HT := Aside0.mk ht
      have HL := Aside0.mk hl
      have HF2 := Aside0.mk F
      have HW : Aside0 (wrap64 ((i : Int) + 1) = ((i + 1 : Nat) : Int)) := ⟨ew_w1 i (by have := HLL.out; omega)⟩
      have hc := HR.out wr HK.out i HIB.out
      rw [hn] at hc
      have p1 := eq_true (show 0 ≤ (i : Int) by omega)
      have p2 := eq_true (show (i : Int) < (l.length : Int) by omega)
      have p1b : decide (0 ≤ (i : Int)) = true := decide_eq_true (by omega)
      obtain ⟨Ao, co, hBK, hRO⟩ := HS.out.blk
      have BK := Aside0.mk hBK
      have RO := Aside0.mk hRO
      have hcell : wr.cell? ⟨go, 0, none⟩ = some (.slice Ao o.length co) := (blk_cell hBK 0).trans rfl
      have hfz := blk_frozen hBK 0
      clear F HF HD hn ht hl cc hBK hRO
      go_upto_region 3 with fail
      refine start_ (n := 5) (S := fun w' => w'.cell? ⟨go, 0, none⟩ = some (.slice Ao o.length co)) (ds := [4]) #[false, false, false, false, false] (by kernel_rfl) rfl rfl ((blk_cell (blk_drew BK.out) 0).trans rfl) (fun hHeld => ?_)
      have BK1 : Aside0 (wr.drew.heap[go]? = some (.cells #[.slice Ao o.length co] 28 (0, 0))) := ⟨blk_drew BK.out⟩
      have RO1 := Aside0.mk (Kd.R_drew RO.out)
      have HB1 := Aside0.mk (below_drew1 HS.out.bel)
      have KP1 : Aside0 (Kp Z wr wr.drew) := ⟨Nat.le_refl _, fun _ _ => rfl⟩
      generalize wr.drew = W1 at BK1 RO1 HB1 KP1 hHeld ⊢
      refine pure_ (i := 1) (N := some 12) (v := ?_) (a' := ?_) #[false, true, false, false, false] rfl rfl (by kernel_rfl) (fun _ _ _ h => h) (Or.inl ⟨by rfl, ?_⟩) ?_ ?_
      rotate_left
      · intro w'
        go_simp
        with_reducible rfl
      rotate_left
      · simp only [Act.put, List.setIfInBounds_toArray, List.set_cons_zero, List.set_cons_succ, i64_w, i32_w]
        rfl
      refine take_ (i := 0) (N := some 11) (v := ?_) (a' := ?_) #[true, true, false, false, false] rfl rfl (by kernel_rfl) (fun _ _ _ h => h) (Or.inl ⟨by rfl, ?_⟩) hHeld ?_ ?_
      rotate_left
      · intro w' s0
        go_simp
        with_reducible rfl
      rotate_left
      · simp only [Act.put, List.setIfInBounds_toArray, List.set_cons_zero, List.set_cons_succ, i64_w, i32_w]
        rfl
      refine one_ (i := 2) (N := some 13) #[true, true, true, false, false] rfl rfl (by kernel_rfl) (by decide) (fun K hK => ?_)
      refine goes_ Try.func17 (by kernel_rfl) rfl #[.slice none 0 0, .int .u64 n] (by rfl) rfl rfl (by simp only [List.map_toArray, List.map_cons, List.map_nil]; rfl) ?_
      with_reducible refine (putU_nil k n t W1 HT.out).mono ?_
      rintro e W2 ⟨At, ct, rfl, hot, hb⟩
      refine ⟨_, rfl, ?_⟩
      have BK2 := Aside0.mk (blk_below BK1.out hb)
      have RO2 := Aside0.mk (Kd.R_below RO1.out hb)
      have HB2 := Aside0.mk (below_step HB1.out hb)
      have KP2 : Aside0 (Kp Z wr W2) := ⟨KP1.out.below hb (fun k hk => HS.out.lt k hk)⟩
      have HT2 := Aside0.mk hot
      clear hb hot
      refine hK.out _ _ ((blk_cell BK2.out 0).trans rfl) (fun hHeld => ?_)
      clear hK K
      refine norm_ (a' := ?_) ?_ ?_
      rotate_left
      · show Act.put _ (some 13) _ = _
        simp only [Act.put, List.setIfInBounds_toArray, List.set_cons_zero, List.set_cons_succ, i64_w, i32_w]
        rfl
      refine one_ (i := 3) (N := some 14) #[true, true, true, true, false] rfl rfl (by kernel_rfl) (by decide) (fun K hK => ?_)
      refine Kd.R_append_rows_step (Kd.int .u8) (w0 := w0) w0.heap.size (by rfl) (.tmp 11) (.tmp 13) 28 5 (.int .u8 0) 1 rfl Try.underlying28 info5 rfl (by decide) (by omega) (.slice Ao o.length co) o t At _ ct (fun k => k ≠ go ∧ ¬ Z k) (fun _ => False) rfl rfl ?aO ?aR (fun _ _ h => h) (fun _ h => h.elim) ?aF ?aB ?aS ?aL ?_
      (case aR => exact (Kd.R_reads' HT2.out).2.2)
      (case aB => exact HB2.out)
      (case aF => exact (fun k_ hk => ⟨fun e_ => by have := blk_lt BK2.out; omega, fun hK_ => by have := HS.out.lt k_ hK_; have := KP2.out.1; omega⟩))
      (case aO => exact RO2.out)
      (case aS => exact below_size HB2.out)
      (case aL => have := HL.out; omega)
      intro v3 W3 ho hb hg hat
      have hown : ∀ k, (Value.slice Ao o.length co).ownBlock = some k → k ≠ go ∧ ¬ Z k := RO2.out.1
      have BK3 : Aside0 (W3.heap[go]? = some (.cells #[.slice Ao o.length co] 28 (0, 0))) := ⟨(hg.block go (blk_lt BK2.out) (fun e_ => (hown go e_.symm).1 rfl)).trans BK2.out⟩
      have RO3 := Aside0.mk ho
      have HB3 := Aside0.mk hb
      have KP3 : Aside0 (Kp Z wr W3) := ⟨KP2.out.trans ⟨hg.size, fun k hk => hg.block k (Nat.lt_of_lt_of_le (HS.out.lt k hk) KP2.out.1) (fun e_ => (hown k e_.symm).2 hk)⟩⟩
      have hcell3 : W3.cell? ⟨go, 0, none⟩ = some (.slice Ao o.length co) := (blk_cell BK3.out 0).trans rfl
      have hfz3 := blk_frozen BK3.out 0
      obtain ⟨A3, c3, e3⟩ := Kd.R_slice ho
      subst e3
      clear ho hb hg hat hown hcell hfz
      refine hK.out _ _ (hcell3) (fun hHeld => ?_)
      clear hK K
      refine norm_ (a' := ?_) ?_ ?_
      rotate_left
      · show Act.put _ (some 14) _ = _
        simp only [Act.put, List.setIfInBounds_toArray, List.set_cons_zero, List.set_cons_succ, i64_w, i32_w]
        rfl
      refine last_ (i := 4) (N := none) #[true, true, true, true, true] rfl rfl (by kernel_rfl) (by decide) (fun K hK => ?_)
      refine skip_ (w1 := ?_) (by rfl) rfl ?_ ?_
      rotate_left
      · go_simp
        rfl
      refine hK.out _ _ ?_
      clear hK K
      refine done_ (by kernel_rfl) ?_
      have hS4 : Aside0 (PSt w0 go Z (o ++ t) (W3.setCell ⟨go, 0, none⟩ (.slice A3 (o ++ t).length c3))) := ⟨⟨A3, c3, blk_put (cs := #[.slice Ao o.length co]) BK3.out 0 _ rfl, Kd.R_move RO3.out (fun k hk => Below.heap_setCell _ _ _ k hk.1)⟩, HS.out.ge, HS.out.nk, fun k hk => by have := HS.out.lt k hk; have := (KP3.out.set go (.slice A3 (o ++ t).length c3) HS.out.nk).1; omega, below_set HB3.out HS.out.ge⟩
      have hK4 : Aside0 (Kp Z w (W3.setCell ⟨go, 0, none⟩ (.slice A3 (o ++ t).length c3))) := ⟨HK.out.trans (KP3.out.set go (.slice A3 (o ++ t).length c3) HS.out.nk)⟩
      go_wp2
      go_roundg g1
      case measure => omega
      case rel => exact ⟨i + 1, o ++ t, by rw [HW.out], ⟨by have := HI.out.1; omega, by have := HIB.out; omega⟩, HF2, ⟨by rw [← List.length_append]; exact hS4.out⟩, ⟨by rw [← List.length_append]; exact hK4.out⟩⟩
    · have d1 : decide ((i : Int) < (l.length : Int)) = false := decide_eq_false (by omega)
      have d2 : decide (i < l.length) = false := decide_eq_false cc
      have F := HF.out
      rw [List.drop_eq_nil_of_le (by omega)] at F
      simp only [put_f, Option.some.injEq] at F
      subst F
      go_wp2
      refine bodyPost_end (v := .tuple #[]) ?_ rfl ⟨rfl, HS.out, HK.out⟩
      simp [results, Try.results16, go_sem]
theorem at_lit {w : World} {g : Nat} {l : List Int} (h : w.heap[g]? = some (.cells (l.map fun n => Value.int .u64 n).toArray 23 (0, 0))) (i : Nat) (hi : i < l.length) : w.cell? ((⟨g, 0, none⟩ : Addr).add i) = some (.int .u64 (rd l (i : Int))) := by
  have h1 := blk_cell h i
  have h2 : (⟨g, 0, none⟩ : Addr).add i = ⟨g, i, none⟩ := by
    unfold Addr.add
    split
    · rename_i h0; rw [h0]
    · simp
  rw [h2, h1]
  simp [rd, List.getD, hi]
theorem put_lit (k g m : Nat) (l : List Int) (go : Nat) (out r : List Int) (w0 w : World) (Z : Nat → Prop) (hm : l.length = m) (hs : PSt w0 go Z out w) (hg : Z g) (hbox : w.heap[g]? = some (.cells (l.map fun n => Value.int .u64 n).toArray 23 (0, 0))) (hl : m < 100) (hf : put_f k l out = some r) :
    Calls Try.prog 16 #[.slice (some ⟨g, 0, none⟩) m m, .pointer (some ⟨go, 0, none⟩)] w fun e w' => e = .returned (.tuple #[]) ∧ PSt w0 go Z r w' ∧ Kp Z w w' := by
  subst hm
  exact put_calls k ⟨g, 0, none⟩ l.length l go out r w0 w Z hs (fun wx hx i hi => at_lit ((hx.2 g hg).trans hbox) i hi) hl hf
end Go.Proofs.Ythkkbgehmiobaaa.E
namespace Go.Proofs.Ythkkbgehmiobaaa.E
open Go.RowKit Go.Proofs.YthkkbgehmiobaaaW.PrintWords Go.Proofs.YthkkbgehmiobaaaW.PrintLast Go.Proofs.YthkkbgehmiobaaaW.PrintMore Go.Proofs.Ythkkbgehmiobaaa.P
set_option linter.unusedVariables false
set_option linter.unusedSimpArgs false
theorem len1 (a : Int) : [a].length = 1 := rfl
theorem len2 (a b : Int) : [a, b].length = 2 := rfl
theorem len3 (a b c : Int) : [a, b, c].length = 3 := rfl
theorem len4 (a b c d : Int) : [a, b, c, d].length = 4 := rfl
/-- what is taken away, one behind the other -/
def dels_f (k : Nat) : List S40 → List Int → Option (List Int)
  | [], o => some o
  | d :: l, o => (put_f k [IntKind.u64.wrap d.f0, d.f1] o).bind fun o2 => dels_f k l o2
/-- a key -/
def key_f (k : Nat) (x : S42) (o : List Int) : Option (List Int) := (ikey_Encode.f k x.f0 x.f1 x.f2).bind fun y => (codec_PutText.f k [] (strOfNums y.1)).bind fun t => if o.length + t.length < 140737488355328 then some (o ++ t) else none
/-- what is added, one behind the other -/
def adds_f (k : Nat) : List S44 → List Int → Option (List Int)
  | [], o => some o
  | f :: l, o => (put_f k [IntKind.u64.wrap f.f0, f.f1, IntKind.u64.wrap f.f2] o).bind fun o2 => (key_f k f.f3 o2).bind fun o3 => (key_f k f.f4 o3).bind fun o4 => adds_f k l o4
def enc_f (k : Nat) (a0 a1 a2 : Int) (D : List S40) (L : List S44) : Option (List Int × Int) :=
  (edit_Check.f k a0 a1 a2 D L).bind fun e => if e = 0 then (put_f k [a0, a1, a2, IntKind.u64.wrap (D.length : Int)] []).bind fun o1 => (dels_f k D o1).bind fun o2 => (put_f k [IntKind.u64.wrap (L.length : Int)] o2).bind fun o3 => (adds_f k L o3).bind fun o4 => some (o4, 0) else some ([], e)
section
variable {P : Program} {ops : Array Oper} {rest : List Oper} {o : Oper} {a : Act} {Q : Exit → Act → World → Prop}
/-- a literal of values, each of one cell -/
theorem lits_event {W : World} (hgd : o.guard = none) {N : Tmp} (_hd : o.dst = some N) {cs : Array Value} {t : TypeId} {m : Nat}
    (hrun : (execOp a.eval o).run P W = .ok (.value (.slice (some ⟨W.heap.size, 0, none⟩) m m)) (W.alloc (.cells cs t (0, 0))))
    (h : ∀ g, g = W.heap.size → ∀ w1, w1.heap[g]? = some (.cells cs t (0, 0)) → Below W.heap.size W w1 → wpList P ops Q rest (a.put o.dst (.slice (some ⟨g, 0, none⟩) m m)) w1) : wpList P ops Q (o :: rest) a W :=
  Kd.event_run hgd hrun (h _ rfl _ (blk_new W _) (below_alloc (Below.refl _ _) _))
end
/-- what stands while Encode runs -/
structure XSt (w : World) (g1 go : Nat) (cs : Array Value) (o : List Int) (wx : World) : Prop where
  bx : wx.heap[g1]? = some (.cells cs 27 (0, 0))
  st : PSt w go (fun k => k = g1) o wx
  ge : w.heap.size ≤ g1
theorem XSt.more {w wx wy : World} {g1 go g : Nat} {cs : Array Value} {o : List Int} (h : XSt w g1 go cs o wx) (hb : Below wx.heap.size wx wy) (hg : wx.heap.size ≤ g) (hgl : g < wy.heap.size) : PSt w go (fun k => k = g1 ∨ k = g) o wy ∧ wy.heap[g1]? = some (.cells cs 27 (0, 0)) :=
  ⟨h.st.more hb (fun k hk => hk.elim (fun e => ⟨.inl e, by have := blk_lt h.bx; have := hb.size; omega⟩) (fun e => ⟨.inr (by omega), by omega⟩)), blk_below h.bx hb⟩
theorem XSt.back {w wx wy : World} {g1 go g : Nat} {cs : Array Value} {o : List Int} (hge : w.heap.size ≤ g1) (hb : wx.heap[g1]? = some (.cells cs 27 (0, 0))) (h : PSt w go (fun k => k = g1 ∨ k = g) o wy) (hk : Kp (fun k => k = g1 ∨ k = g) wx wy) : XSt w g1 go cs o wy :=
  ⟨(hk.2 g1 (.inl rfl)).trans hb, h.less (fun _ h => .inl h), hge⟩
theorem XSt.step {w wx wy : World} {g1 go : Nat} {cs : Array Value} {o : List Int} (h : XSt w g1 go cs o wx) (hb : Below wx.heap.size wx wy) : XSt w g1 go cs o wy :=
  ⟨blk_below h.bx hb, h.st.more hb (fun k hk => ⟨.inl hk, by have := blk_lt h.bx; have := hb.size; omega⟩), h.ge⟩
/-- one of two keys, in memory -/
def two (x y : S42) (j : Nat) : S42 := if j = 0 then x else y
def keys_f (k : Nat) (x y : S42) (j : Nat) (o : List Int) : Option (List Int) := match j with
  | 0 => (key_f k x o).bind fun o2 => key_f k y o2
  | 1 => key_f k y o
  | _ => some o
theorem keys_0 (k : Nat) (x y : S42) (o : List Int) : keys_f k x y 0 o = (key_f k x o).bind fun o2 => key_f k y o2 := rfl
theorem keys_s (k : Nat) (x y : S42) (j : Nat) (o : List Int) (h : j < 2) : keys_f k x y j o = (key_f k (two x y j) o).bind fun o2 => keys_f k x y (j + 1) o2 := by
  match j, h with
  | 0, _ => rfl
  | 1, _ => show key_f k y o = (key_f k y o).bind fun o2 => some o2; cases key_f k y o <;> rfl
theorem keys_e (k : Nat) (x y : S42) (j : Nat) (o : List Int) (h : ¬ j < 2) : keys_f k x y j o = some o := by
  match j, h with
  | 0, h => exact absurd (by decide) h
  | 1, h => exact absurd (by decide) h
  | j + 2, _ => rfl
theorem at_two {w : World} {g : Nat} {x y : S42} {t : TypeId} {ad : Addr} (had : (⟨g, 0, none⟩ : Addr) = ad) (h : w.heap[g]? = some (.cells #[.string x.f0, .int .u64 x.f1, .int .i64 x.f2, .string y.f0, .int .u64 y.f1, .int .i64 y.f2] t (0, 0))) (j : Nat) (hj : j < 2) :
    w.cell? (ad.add (j * 3)) = some (.string (two x y j).f0) ∧ w.cell? ⟨(ad.add (j * 3)).block, (ad.add (j * 3)).off + 1, none⟩ = some (.int .u64 (two x y j).f1) ∧ w.cell? ⟨(ad.add (j * 3)).block, (ad.add (j * 3)).off + 2, none⟩ = some (.int .i64 (two x y j).f2) := by
  subst had
  match j, hj with
  | 0, _ => exact ⟨(blk_cell h 0).trans rfl, (blk_cell h 1).trans rfl, (blk_cell h 2).trans rfl⟩
  | 1, _ => exact ⟨(blk_cell h 3).trans rfl, (blk_cell h 4).trans rfl, (blk_cell h 5).trans rfl⟩
theorem drop_T40 (l : List S40) (i : Nat) (h : i < l.length) : l.drop i = rd_T40 l (i : Int) :: l.drop (i + 1) := by
  simp only [rd_T40, Int.toNat_natCast]
  rw [List.drop_eq_getElem_cons h]
  simp [List.getD, h]
theorem drop_T44 (l : List S44) (i : Nat) (h : i < l.length) : l.drop i = rd_T44 l (i : Int) :: l.drop (i + 1) := by
  simp only [rd_T44, Int.toNat_natCast]
  rw [List.drop_eq_getElem_cons h]
  simp [List.getD, h]
set_option maxHeartbeats 8000000 in
set_option maxRecDepth 100000 in
theorem enc_calls (k : Nat) (a0 a1 a2 : Int) (A3 : Option Addr) (c3 : Nat) (D : List S40) (A4 : Option Addr) (c4 : Nat) (L : List S44) (r1 : List Int) (r2 : Int) (w : World) (hr3 : Kd.C k40 w A3 D.length D) (hc3 : D.length ≤ c3) (hr4 : Kd.C k44 w A4 L.length L) (hc4 : L.length ≤ c4) (h : enc_f k a0 a1 a2 D L = some (r1, r2)) :
    Calls Try.prog 9 #[.agg #[.int .u64 a0, .int .u64 a1, .int .u64 a2, .slice A3 D.length c3, .slice A4 L.length c4]] w fun e w' => ∃ v0_ : Value, e = .returned (.tuple #[v0_, .int .i64 r2]) ∧ Kd.R (Kd.int .u8) 5 w' w.heap.size (fun _ => True) v0_ r1 ∧ Below w.heap.size w w' := by
  unfold enc_f at h
  obtain ⟨e0, he, h⟩ := Option.bind_eq_some_iff.mp h
  have HR3 := Aside0.mk hr3
  have HC3 := Aside0.mk hc3
  have HR4 := Aside0.mk hr4
  have HC4 := Aside0.mk hc4
  have HE := Aside0.mk he
  have HH := Aside0.mk h
  have HLD : Aside0 (D.length ≤ 9223372036854775807) := ⟨by have := hr3.2.1; omega⟩
  have HLL : Aside0 (L.length ≤ 9223372036854775807) := ⟨by have := hr4.2.1; omega⟩
  have HB := Aside0.mk (Below.refl w.heap.size w)
  have hmf : ∀ (fn : Fn) (first cap : Array Value) (w : World), (Instr.makeFunc fn first cap).run Try.prog w = .ok (.func fn first cap) w := fun _ _ _ _ => rfl
  clear hr3 hc3 hr4 hc4 he h
  go_enter Try.func9, Try.ntmps9
  go_upto_region 2 with (first
    | ((with_reducible refine gate_dst (N := 1) rfl ?_); refine box_event ?hg (N := 1) ?hd (cs := #[Value.int .u64 a0, .int .u64 a1, .int .u64 a2, .slice A3 D.length c3, .slice A4 L.length c4]) (t := 27) ?hr ?_; (case hd => rfl); (case hg => rfl); (case hr => first | (go_simp; done) | (go_simp; rfl)); intro g1 hg w1 hbox hb
       have BX1 := Aside0.mk hbox
       have GE1 : Aside0 (w.heap.size ≤ g1) := ⟨by rw [hg]; exact Nat.le_refl _⟩
       have HB1 := Aside0.mk (below_step HB.out hb)
       have qc0 : w1.cell? ⟨g1, 0, none⟩ = some (Value.int .u64 a0) := (blk_cell hbox 0).trans rfl
       have qc1 : w1.cell? ⟨g1, 1, none⟩ = some (.int .u64 a1) := (blk_cell hbox 1).trans rfl
       have qc2 : w1.cell? ⟨g1, 2, none⟩ = some (.int .u64 a2) := (blk_cell hbox 2).trans rfl
       have qc3 : w1.cell? ⟨g1, 3, none⟩ = some (.slice A3 D.length c3) := (blk_cell hbox 3).trans rfl
       have qc4 : w1.cell? ⟨g1, 4, none⟩ = some (.slice A4 L.length c4) := (blk_cell hbox 4).trans rfl
       have qf0 := blk_frozen hbox 0
       have qf1 := blk_frozen hbox 1
       have qf2 := blk_frozen hbox 2
       have qf3 := blk_frozen hbox 3
       have qf4 := blk_frozen hbox 4
       clear hg hbox hb)
    | (go_at_call 12; (with_reducible refine (edit_Check.calls k a0 a1 a2 A3 c3 D A4 c4 L e0 _ (Kd.C_below HR3.out HB1.out) HC3.out (Kd.C_below HR4.out HB1.out) HC4.out HE.out).mono ?_); (rintro ee w2 ⟨rfl, hb⟩)
       have BX2 := Aside0.mk (blk_below BX1.out hb)
       have HB2 := Aside0.mk (below_step HB1.out hb)
       clear hb))
  clear qc0 qc1 qc2 qc3 qc4 qf0 qf1 qf2 qf3 qf4 HB HB1 BX1
  by_cases he0 : e0 = 0
  case neg =>
    have hb1 : (e0 != 0) = true := bne_iff_ne.mpr he0
    have hb0 : (e0 == 0) = false := beq_eq_false_iff_ne.mpr he0
    have F := HH.out
    rw [if_neg he0] at F
    injection F with F
    injection F with F1 F2
    subst F1 F2
    clear he0 HH
    go_wp2
    go_ret2
    exact ⟨_, rfl, Kd.R_nil _ _ _ _ _, HB2.out⟩
  subst he0
  have F := HH.out
  rw [if_pos rfl] at F
  obtain ⟨o1, ho1, F⟩ := Option.bind_eq_some_iff.mp F
  obtain ⟨o2, ho2, F⟩ := Option.bind_eq_some_iff.mp F
  obtain ⟨o3, ho3, F⟩ := Option.bind_eq_some_iff.mp F
  obtain ⟨o4, ho4, F⟩ := Option.bind_eq_some_iff.mp F
  injection F with F
  injection F with F1 F2
  subst F1 F2
  have HO1 := Aside0.mk ho1
  have HO2 := Aside0.mk ho2
  have HO3 := Aside0.mk ho3
  have HO4 := Aside0.mk ho4
  clear ho1 ho2 ho3 ho4 HH HE
  have qc0 : w2.cell? ⟨g1, 0, none⟩ = some (.int .u64 a0) := (blk_cell BX2.out 0).trans rfl
  go_upto_region 6 with (first
    | ((with_reducible refine gate_dst (N := 5) rfl ?_); refine box_event ?hg (N := 5) ?hd (cs := #[Value.slice none 0 0]) (t := 28) ?hr ?_; (case hd => rfl); (case hg => rfl); (case hr => first | (go_simp; done) | (go_simp; rfl)); intro go hg w3 hbox hb
       have BO3 := Aside0.mk hbox
       have GO : Aside0 (w2.heap.size ≤ go) := ⟨by rw [hg]; exact Nat.le_refl _⟩
       have BX3 := Aside0.mk (blk_below BX2.out hb)
       have HB3 := Aside0.mk (below_step HB2.out hb)
       clear hg hbox hb))
  have hx0 : w3.cell? ⟨g1, 0, none⟩ = some (.int .u64 a0) := (blk_cell BX3.out 0).trans rfl
  have hx1 : w3.cell? ⟨g1, 1, none⟩ = some (.int .u64 a1) := (blk_cell BX3.out 1).trans rfl
  have hx2 : w3.cell? ⟨g1, 2, none⟩ = some (.int .u64 a2) := (blk_cell BX3.out 2).trans rfl
  have hx3 : w3.cell? ⟨g1, 3, none⟩ = some (.slice A3 D.length c3) := (blk_cell BX3.out 3).trans rfl
  clear qc0
  go_upto_region 7 with (first
    | ((with_reducible refine gate_dst (N := 32) rfl ?_); refine lits_event ?hg (N := 32) ?hd (cs := #[Value.int .u64 a0, .int .u64 a1, .int .u64 a2, .int .u64 (IntKind.u64.wrap (D.length : Int))]) (m := 4) (t := 23) ?hr ?_; (case hd => rfl); (case hg => rfl); (case hr => first | (go_simp; done) | (go_simp; rfl)); intro gl hg w4 hbox hb
       have BL : Aside0 (w4.heap[gl]? = some (.cells (([a0, a1, a2, IntKind.u64.wrap (D.length : Int)] : List Int).map fun n => Value.int .u64 n).toArray 23 (0, 0))) := ⟨hbox⟩
       have PS3 : PSt w go (fun k => k = g1) [] w3 := ⟨⟨none, 0, BO3.out, Kd.R_nil _ _ _ _ _⟩, by have := GO.out; have := below_size HB2.out; omega, by have := GO.out; have := blk_lt BX2.out; omega, fun k hk => by have := blk_lt BX3.out; omega, HB3.out⟩
       have XS4 := Aside0.mk (XSt.more (⟨BX3.out, PS3, GE1.out⟩ : XSt w g1 go #[.int .u64 a0, .int .u64 a1, .int .u64 a2, .slice A3 D.length c3, .slice A4 L.length c4] [] w3) hb (by omega) (blk_lt hbox))
       clear hg hbox hb PS3)
    | (go_at_call 16; (with_reducible refine (put_lit k gl 4 [a0, a1, a2, IntKind.u64.wrap (D.length : Int)] go [] o1 w _ _ (len4 _ _ _ _) XS4.out.1 (.inr rfl) BL.out (by omega) HO1.out).mono ?_); (rintro ep w5 ⟨rfl, hps, hkp⟩)
       have XS5 : Aside0 (XSt w g1 go #[.int .u64 a0, .int .u64 a1, .int .u64 a2, .slice A3 D.length c3, .slice A4 L.length c4] o1 w5) := ⟨XSt.back GE1.out XS4.out.2 hps hkp⟩
       clear hps hkp))
  clear hx0 hx1 hx2 hx3
  obtain ⟨cs0, hcs0⟩ : ∃ x : Array Value, #[.int .u64 a0, .int .u64 a1, .int .u64 a2, .slice A3 D.length c3, .slice A4 L.length c4] = x := ⟨_, rfl⟩
  rw [hcs0] at XS5
  have HCS := Aside0.mk hcs0
  clear hcs0
  have hx3 : w5.cell? ⟨g1, 3, none⟩ = some (.slice A3 D.length c3) := (blk_cell XS5.out.bx 3).trans (by rw [← HCS.out]; rfl)
  go_upto_region 8 with fail
  go_loopg [37] (D.length + 1) (fun gf v37 wx => ∃ (i : Nat) (o : List Int), v37 = .int .i64 (i : Int) ∧ Aside0 (gf + i = D.length + 1 ∧ i ≤ D.length) ∧ Aside0 (dels_f k (D.drop i) o = some o2) ∧ Aside0 (XSt w g1 go cs0 o wx))
  case atStart => exact ⟨0, o1, rfl, ⟨by omega, by omega⟩, HO2, XS5⟩
  case round =>
    clear HO2 XS5 hx3
    obtain ⟨i, o, rfl, HI, HF, XS⟩ := hrel
    cases gk with
    | zero => exact absurd HI.out.1 (by have := HI.out.2; omega)
    | succ g1_ =>
    by_cases cc : i < D.length
    · have d1 : decide ((i : Int) < (D.length : Int)) = true := decide_eq_true (by omega)
      have d2 : decide (i < D.length) = true := decide_eq_true cc
      have HIB := Aside0.mk cc
      have F := HF.out
      rw [drop_T40 D i cc] at F
      obtain ⟨X, hX⟩ : ∃ x, rd_T40 D (i : Int) = x := ⟨_, rfl⟩
      rw [hX] at F
      simp only [dels_f] at F
      obtain ⟨oo, hoo, F⟩ := Option.bind_eq_some_iff.mp F
      have HOO := Aside0.mk hoo
      have HF2 := Aside0.mk F
      have HW : Aside0 (wrap64 ((i : Int) + 1) = ((i + 1 : Nat) : Int)) := ⟨ew_w1 i (by have := HLD.out; omega)⟩
      obtain ⟨ad, eA, k0, k1⟩ := at_T40 (Kd.C_below HR3.out XS.out.st.bel) (i : Int) (Int.natCast_nonneg _) (Int.ofNat_lt.2 cc)
      cases eA
      rw [hX, Int.toNat_natCast] at k0 k1
      have p1 := eq_true (show 0 ≤ (i : Int) by omega)
      have p2 := eq_true (show (i : Int) < (D.length : Int) by omega)
      have p1b : decide (0 ≤ (i : Int)) = true := decide_eq_true (by omega)
      clear F HF hoo hX cc
      go_upto_region 10 with (first
        | ((with_reducible refine gate_dst (N := 8) rfl ?_); refine box_event ?hg (N := 8) ?hd (cs := #[Value.int .i64 0, .int .u64 0]) (t := 40) ?hr ?_; (case hd => rfl); (case hg => rfl); (case hr => first | (go_simp; done) | (go_simp; rfl)); intro gd hg w7 hbox hb
           have BD7 := Aside0.mk hbox
           have GD : Aside0 (wr.heap.size ≤ gd) := ⟨by rw [hg]; exact Nat.le_refl _⟩
           have HB7 := Aside0.mk hb
           have zc0 : w7.cell? ⟨gd, 0, none⟩ = some (Value.int .i64 0) := (blk_cell hbox 0).trans rfl
           have zc1 : w7.cell? ⟨gd, 1, none⟩ = some (.int .u64 0) := (blk_cell hbox 1).trans rfl
           have zf0 := blk_frozen hbox 0
           have zf1 := blk_frozen hbox 1
           clear hg hbox hb))
      obtain ⟨W8, hW8⟩ : ∃ x, ((w7.setCell ⟨gd, 0, none⟩ (Value.int .i64 X.f0)).setCell ⟨gd, 1, none⟩ (.int .u64 X.f1)) = x := ⟨_, rfl⟩
      rw [hW8]
      have BD : W8.heap[gd]? = some (.cells #[Value.int .i64 X.f0, .int .u64 X.f1] 40 (0, 0)) := by rw [← hW8]; exact blk_put (cs := #[Value.int .i64 X.f0, .int .u64 0]) (blk_put (cs := #[Value.int .i64 0, .int .u64 0]) (BD7.out) 0 _ rfl) 1 _ rfl
      have HB8 : Below wr.heap.size wr W8 := by rw [← hW8]; exact below_set (below_set HB7.out GD.out) GD.out
      have BD8 := Aside0.mk BD
      have XS8 : Aside0 (XSt w g1 go cs0 o W8) := ⟨XSt.step XS.out HB8⟩
      have dc0 : W8.cell? ⟨gd, 0, none⟩ = some (.int .i64 X.f0) := (blk_cell BD 0).trans rfl
      have dc1 : W8.cell? ⟨gd, 1, none⟩ = some (.int .u64 X.f1) := (blk_cell BD 1).trans rfl
      clear hW8 BD HB8 zc0 zc1 zf0 zf1 k0 k1 HB7
      go_upto_region 11 with (first
        | ((with_reducible refine gate_dst (N := 47) rfl ?_); refine lits_event ?hg (N := 47) ?hd (cs := #[Value.int .u64 (IntKind.u64.wrap X.f0), .int .u64 X.f1]) (m := 2) (t := 23) ?hr ?_; (case hd => rfl); (case hg => rfl); (case hr => first | (go_simp; done) | (go_simp; rfl)); intro gl hg w9 hbox hb
           have BL : Aside0 (w9.heap[gl]? = some (.cells (([IntKind.u64.wrap X.f0, X.f1] : List Int).map fun n => Value.int .u64 n).toArray 23 (0, 0))) := ⟨hbox⟩
           have XS9 := Aside0.mk (XSt.more XS8.out hb (by omega) (blk_lt hbox))
           clear hg hbox hb)
        | (go_at_call 16; (with_reducible refine (put_lit k gl 2 [IntKind.u64.wrap X.f0, X.f1] go o oo w _ _ (len2 _ _) XS9.out.1 (.inr rfl) BL.out (by omega) HOO.out).mono ?_); (rintro ep w10 ⟨rfl, hps, hkp⟩)
           have XS10 : Aside0 (XSt w g1 go cs0 oo w10) := ⟨XSt.back GE1.out XS9.out.2 hps hkp⟩
           clear hps hkp))
      clear dc0 dc1
      go_wp2
      go_roundg g1_
      case measure => omega
      case rel => exact ⟨i + 1, oo, by rw [HW.out], ⟨by have := HI.out.1; omega, by have := HIB.out; omega⟩, HF2, XS10⟩
    · have d1 : decide ((i : Int) < (D.length : Int)) = false := decide_eq_false (by omega)
      have d2 : decide (i < D.length) = false := decide_eq_false cc
      have F := HF.out
      rw [List.drop_eq_nil_of_le (by omega)] at F
      simp only [dels_f, Option.some.injEq] at F
      subst F
      clear HF cc
      have hx4 : wr.cell? ⟨g1, 4, none⟩ = some (.slice A4 L.length c4) := (blk_cell XS.out.bx 4).trans (by rw [← HCS.out]; rfl)
      go_upto_region 13 with (first
        | ((with_reducible refine gate_dst (N := 55) rfl ?_); refine lits_event ?hg (N := 55) ?hd (cs := #[Value.int .u64 (IntKind.u64.wrap (L.length : Int))]) (m := 1) (t := 23) ?hr ?_; (case hd => rfl); (case hg => rfl); (case hr => first | (go_simp; done) | (go_simp; rfl)); intro gl hg w11 hbox hb
           have BL : Aside0 (w11.heap[gl]? = some (.cells (([IntKind.u64.wrap (L.length : Int)] : List Int).map fun n => Value.int .u64 n).toArray 23 (0, 0))) := ⟨hbox⟩
           have XS11 := Aside0.mk (XSt.more XS.out hb (by omega) (blk_lt hbox))
           clear hg hbox hb)
        | (go_at_call 16; (with_reducible refine (put_lit k gl 1 [IntKind.u64.wrap (L.length : Int)] go _ o3 w _ _ (len1 _) XS11.out.1 (.inr rfl) BL.out (by omega) HO3.out).mono ?_); (rintro ep w12 ⟨rfl, hps, hkp⟩)
           have XS12 : Aside0 (XSt w g1 go cs0 o3 w12) := ⟨XSt.back GE1.out XS11.out.2 hps hkp⟩
           clear hps hkp))
      clear hx4
      have hx4 : w12.cell? ⟨g1, 4, none⟩ = some (.slice A4 L.length c4) := (blk_cell XS12.out.bx 4).trans (by rw [← HCS.out]; rfl)
      go_upto_region 14 with fail
      clear HI d1 d2
      go_loopg [60] (L.length + 1) (fun gf v60 wx => ∃ (i : Nat) (o : List Int), v60 = .int .i64 (i : Int) ∧ Aside0 (gf + i = L.length + 1 ∧ i ≤ L.length) ∧ Aside0 (adds_f k (L.drop i) o = some o4) ∧ Aside0 (XSt w g1 go cs0 o wx))
      case atStart => exact ⟨0, o3, rfl, ⟨by omega, by omega⟩, HO4, XS12⟩
      case round =>
        clear HO4 XS12 hx4 HO3
        obtain ⟨i, o, rfl, HI, HF, XS⟩ := hrel
        cases gk with
        | zero => exact absurd HI.out.1 (by have := HI.out.2; omega)
        | succ g2_ =>
        by_cases cc : i < L.length
        · have d1 : decide ((i : Int) < (L.length : Int)) = true := decide_eq_true (by omega)
          have d2 : decide (i < L.length) = true := decide_eq_true cc
          have HIB := Aside0.mk cc
          have F := HF.out
          rw [drop_T44 L i cc] at F
          obtain ⟨X, hX⟩ : ∃ x, rd_T44 L (i : Int) = x := ⟨_, rfl⟩
          rw [hX] at F
          simp only [adds_f] at F
          obtain ⟨oa, hoa, F⟩ := Option.bind_eq_some_iff.mp F
          obtain ⟨ob, hob, F⟩ := Option.bind_eq_some_iff.mp F
          obtain ⟨oc, hoc, F⟩ := Option.bind_eq_some_iff.mp F
          have HOA := Aside0.mk hoa
          have HOB := Aside0.mk hob
          have HOC := Aside0.mk hoc
          have HF2 := Aside0.mk F
          have HW : Aside0 (wrap64 ((i : Int) + 1) = ((i + 1 : Nat) : Int)) := ⟨ew_w1 i (by have := HLL.out; omega)⟩
          obtain ⟨ad, eA, k0, k1, k2, k3, k4, k5, k6, k7, k8⟩ := at_T44 (Kd.C_below HR4.out XS.out.st.bel) (i : Int) (Int.natCast_nonneg _) (Int.ofNat_lt.2 cc)
          cases eA
          rw [hX, Int.toNat_natCast] at k0 k1 k2 k3 k4 k5 k6 k7 k8
          have p1 := eq_true (show 0 ≤ (i : Int) by omega)
          have p2 := eq_true (show (i : Int) < (L.length : Int) by omega)
          have p1b : decide (0 ≤ (i : Int)) = true := decide_eq_true (by omega)
          clear F HF hoa hob hoc hX cc
          go_upto_region 16 with (first
            | ((with_reducible refine gate_dst (N := 10) rfl ?_); refine box_event ?hg (N := 10) ?hd (cs := #[Value.int .i64 0, .int .u64 0, .int .i64 0, .string (⟨#[]⟩ : ByteArray), .int .u64 0, .int .i64 0, .string (⟨#[]⟩ : ByteArray), .int .u64 0, .int .i64 0]) (t := 44) ?hr ?_; (case hd => rfl); (case hg => rfl); (case hr => first | (go_simp; done) | (go_simp; rfl)); intro gf_ hg w13 hbox hb
               have BF13 := Aside0.mk hbox
               have GF : Aside0 (wr.heap.size ≤ gf_) := ⟨by rw [hg]; exact Nat.le_refl _⟩
               have HB13 := Aside0.mk hb
               have zc0 : w13.cell? ⟨gf_, 0, none⟩ = some (Value.int .i64 0) := (blk_cell hbox 0).trans rfl
               have zc1 : w13.cell? ⟨gf_, 1, none⟩ = some (.int .u64 0) := (blk_cell hbox 1).trans rfl
               have zc2 : w13.cell? ⟨gf_, 2, none⟩ = some (.int .i64 0) := (blk_cell hbox 2).trans rfl
               have zc3 : w13.cell? ⟨gf_, 3, none⟩ = some (.string (⟨#[]⟩ : ByteArray)) := (blk_cell hbox 3).trans rfl
               have zc4 : w13.cell? ⟨gf_, 4, none⟩ = some (.int .u64 0) := (blk_cell hbox 4).trans rfl
               have zc5 : w13.cell? ⟨gf_, 5, none⟩ = some (.int .i64 0) := (blk_cell hbox 5).trans rfl
               have zc6 : w13.cell? ⟨gf_, 6, none⟩ = some (.string (⟨#[]⟩ : ByteArray)) := (blk_cell hbox 6).trans rfl
               have zc7 : w13.cell? ⟨gf_, 7, none⟩ = some (.int .u64 0) := (blk_cell hbox 7).trans rfl
               have zc8 : w13.cell? ⟨gf_, 8, none⟩ = some (.int .i64 0) := (blk_cell hbox 8).trans rfl
               have zf0 := blk_frozen hbox 0
               have zf1 := blk_frozen hbox 1
               have zf2 := blk_frozen hbox 2
               have zf3 := blk_frozen hbox 3
               have zf4 := blk_frozen hbox 4
               have zf5 := blk_frozen hbox 5
               have zf6 := blk_frozen hbox 6
               have zf7 := blk_frozen hbox 7
               have zf8 := blk_frozen hbox 8
               clear hg hbox hb))
          obtain ⟨W14, hW14⟩ : ∃ x, (((((((((w13.setCell ⟨gf_, 0, none⟩ (Value.int .i64 X.f0)).setCell ⟨gf_, 1, none⟩ (.int .u64 X.f1)).setCell ⟨gf_, 2, none⟩ (.int .i64 X.f2)).setCell ⟨gf_, 3, none⟩ (.string X.f3.f0)).setCell ⟨gf_, 4, none⟩ (.int .u64 X.f3.f1)).setCell ⟨gf_, 5, none⟩ (.int .i64 X.f3.f2)).setCell ⟨gf_, 6, none⟩ (.string X.f4.f0)).setCell ⟨gf_, 7, none⟩ (.int .u64 X.f4.f1)).setCell ⟨gf_, 8, none⟩ (.int .i64 X.f4.f2)) = x := ⟨_, rfl⟩
          rw [hW14]
          have BF : W14.heap[gf_]? = some (.cells #[Value.int .i64 X.f0, .int .u64 X.f1, .int .i64 X.f2, .string X.f3.f0, .int .u64 X.f3.f1, .int .i64 X.f3.f2, .string X.f4.f0, .int .u64 X.f4.f1, .int .i64 X.f4.f2] 44 (0, 0)) := by rw [← hW14]; exact blk_put (cs := #[Value.int .i64 X.f0, .int .u64 X.f1, .int .i64 X.f2, .string X.f3.f0, .int .u64 X.f3.f1, .int .i64 X.f3.f2, .string X.f4.f0, .int .u64 X.f4.f1, .int .i64 0]) (blk_put (cs := #[Value.int .i64 X.f0, .int .u64 X.f1, .int .i64 X.f2, .string X.f3.f0, .int .u64 X.f3.f1, .int .i64 X.f3.f2, .string X.f4.f0, .int .u64 0, .int .i64 0]) (blk_put (cs := #[Value.int .i64 X.f0, .int .u64 X.f1, .int .i64 X.f2, .string X.f3.f0, .int .u64 X.f3.f1, .int .i64 X.f3.f2, .string (⟨#[]⟩ : ByteArray), .int .u64 0, .int .i64 0]) (blk_put (cs := #[Value.int .i64 X.f0, .int .u64 X.f1, .int .i64 X.f2, .string X.f3.f0, .int .u64 X.f3.f1, .int .i64 0, .string (⟨#[]⟩ : ByteArray), .int .u64 0, .int .i64 0]) (blk_put (cs := #[Value.int .i64 X.f0, .int .u64 X.f1, .int .i64 X.f2, .string X.f3.f0, .int .u64 0, .int .i64 0, .string (⟨#[]⟩ : ByteArray), .int .u64 0, .int .i64 0]) (blk_put (cs := #[Value.int .i64 X.f0, .int .u64 X.f1, .int .i64 X.f2, .string (⟨#[]⟩ : ByteArray), .int .u64 0, .int .i64 0, .string (⟨#[]⟩ : ByteArray), .int .u64 0, .int .i64 0]) (blk_put (cs := #[Value.int .i64 X.f0, .int .u64 X.f1, .int .i64 0, .string (⟨#[]⟩ : ByteArray), .int .u64 0, .int .i64 0, .string (⟨#[]⟩ : ByteArray), .int .u64 0, .int .i64 0]) (blk_put (cs := #[Value.int .i64 X.f0, .int .u64 0, .int .i64 0, .string (⟨#[]⟩ : ByteArray), .int .u64 0, .int .i64 0, .string (⟨#[]⟩ : ByteArray), .int .u64 0, .int .i64 0]) (blk_put (cs := #[Value.int .i64 0, .int .u64 0, .int .i64 0, .string (⟨#[]⟩ : ByteArray), .int .u64 0, .int .i64 0, .string (⟨#[]⟩ : ByteArray), .int .u64 0, .int .i64 0]) (BF13.out) 0 _ rfl) 1 _ rfl) 2 _ rfl) 3 _ rfl) 4 _ rfl) 5 _ rfl) 6 _ rfl) 7 _ rfl) 8 _ rfl
          have HB14 : Below wr.heap.size wr W14 := by rw [← hW14]; exact below_set (below_set (below_set (below_set (below_set (below_set (below_set (below_set (below_set HB13.out GF.out) GF.out) GF.out) GF.out) GF.out) GF.out) GF.out) GF.out) GF.out
          have BF14 := Aside0.mk BF
          have XS14 := Aside0.mk (XSt.more XS.out HB14 GF.out (blk_lt BF))
          have dc0 : W14.cell? ⟨gf_, 0, none⟩ = some (.int .i64 X.f0) := (blk_cell BF 0).trans rfl
          have dc1 : W14.cell? ⟨gf_, 1, none⟩ = some (.int .u64 X.f1) := (blk_cell BF 1).trans rfl
          have dc2 : W14.cell? ⟨gf_, 2, none⟩ = some (.int .i64 X.f2) := (blk_cell BF 2).trans rfl
          clear hW14 BF HB14 zc0 zc1 zc2 zc3 zc4 zc5 zc6 zc7 zc8 zf0 zf1 zf2 zf3 zf4 zf5 zf6 zf7 zf8 k0 k1 k2 k3 k4 k5 k6 k7 k8 HB13 XS
          go_upto_region 17 with (first
            | ((with_reducible refine gate_dst (N := 73) rfl ?_); refine lits_event ?hg (N := 73) ?hd (cs := #[Value.int .u64 (IntKind.u64.wrap X.f0), .int .u64 X.f1, .int .u64 (IntKind.u64.wrap X.f2)]) (m := 3) (t := 23) ?hr ?_; (case hd => rfl); (case hg => rfl); (case hr => first | (go_simp; done) | (go_simp; rfl)); intro gl hg w15 hbox hb
               have BL : Aside0 (w15.heap[gl]? = some (.cells (([IntKind.u64.wrap X.f0, X.f1, IntKind.u64.wrap X.f2] : List Int).map fun n => Value.int .u64 n).toArray 23 (0, 0))) := ⟨hbox⟩
               have BF15 := Aside0.mk (blk_below BF14.out hb)
               have BX15 := Aside0.mk (blk_below XS14.out.2 hb)
               have PS15 : Aside0 (PSt w go (fun k => (k = g1 ∨ k = gf_) ∨ k = gl) o w15) := ⟨XS14.out.1.more hb (fun k hk => hk.elim (fun e => ⟨.inl e, by have := XS14.out.1.lt k e; have := hb.size; omega⟩) (fun e => ⟨.inr (by omega), by have := blk_lt hbox; omega⟩))⟩
               clear hg hbox hb)
            | (go_at_call 16; (with_reducible refine (put_lit k gl 3 [IntKind.u64.wrap X.f0, X.f1, IntKind.u64.wrap X.f2] go o oa w _ _ (len3 _ _ _) PS15.out (.inr rfl) BL.out (by omega) HOA.out).mono ?_); (rintro ep w16 ⟨rfl, hps, hkp⟩)
               have BX16 : Aside0 (w16.heap[g1]? = some (.cells cs0 27 (0, 0))) := ⟨(hkp.2 g1 (.inl (.inl rfl))).trans BX15.out⟩
               have BF16 : Aside0 (w16.heap[gf_]? = some (.cells #[Value.int .i64 X.f0, .int .u64 X.f1, .int .i64 X.f2, .string X.f3.f0, .int .u64 X.f3.f1, .int .i64 X.f3.f2, .string X.f4.f0, .int .u64 X.f4.f1, .int .i64 X.f4.f2] 44 (0, 0))) := ⟨(hkp.2 gf_ (.inl (.inr rfl))).trans BF15.out⟩
               have PS16 : Aside0 (PSt w go (fun k => k = g1) oa w16) := ⟨hps.less (fun k hk => .inl (.inl hk))⟩
               clear hps hkp))
          clear dc0 dc1 dc2
          have dc3 : w16.cell? ⟨gf_, 3, none⟩ = some (.string X.f3.f0) := (blk_cell BF16.out 3).trans rfl
          have dc4 : w16.cell? ⟨gf_, 4, none⟩ = some (.int .u64 X.f3.f1) := (blk_cell BF16.out 4).trans rfl
          have dc5 : w16.cell? ⟨gf_, 5, none⟩ = some (.int .i64 X.f3.f2) := (blk_cell BF16.out 5).trans rfl
          have dc6 : w16.cell? ⟨gf_, 6, none⟩ = some (.string X.f4.f0) := (blk_cell BF16.out 6).trans rfl
          have dc7 : w16.cell? ⟨gf_, 7, none⟩ = some (.int .u64 X.f4.f1) := (blk_cell BF16.out 7).trans rfl
          have dc8 : w16.cell? ⟨gf_, 8, none⟩ = some (.int .i64 X.f4.f2) := (blk_cell BF16.out 8).trans rfl
          go_upto_region 18 with (first
            | ((with_reducible refine gate_dst (N := 79) rfl ?_); refine lits_event ?hg (N := 79) ?hd (cs := #[Value.string X.f3.f0, .int .u64 X.f3.f1, .int .i64 X.f3.f2, .string X.f4.f0, .int .u64 X.f4.f1, .int .i64 X.f4.f2]) (m := 2) (t := 42) ?hr ?_; (case hd => rfl); (case hg => rfl); (case hr => first | (go_simp; done) | (go_simp; rfl)); intro gk_ hg w17 hbox hb
               have BK17 := Aside0.mk hbox
               have BX17 := Aside0.mk (blk_below BX16.out hb)
               have PS17 : Aside0 (PSt w go (fun k => k = g1 ∨ k = gk_) oa w17) := ⟨PS16.out.more hb (fun k hk => hk.elim (fun e => ⟨.inl e, by have := blk_lt BX16.out; have := hb.size; omega⟩) (fun e => ⟨.inr (by omega), by have := blk_lt hbox; omega⟩))⟩
               clear hg hbox hb))
          clear dc3 dc4 dc5 dc6 dc7 dc8 d1 d2 p1 p2 p1b
          obtain ⟨ak, hak⟩ : ∃ x : Addr, (⟨gk_, 0, none⟩ : Addr) = x := ⟨_, rfl⟩
          rw [hak]
          have HAK := Aside0.mk hak
          clear hak
          obtain ⟨Z4, hZ4⟩ : ∃ z : Nat → Prop, (fun k => k = g1 ∨ k = gk_) = z := ⟨_, rfl⟩
          rw [hZ4] at PS17
          have HZ4 := Aside0.mk hZ4
          have HGE := GE1
          clear hZ4
          go_loopg [81] 3 (fun gf v81 wx => ∃ (j : Nat) (o : List Int), v81 = .int .i64 (j : Int) ∧ Aside0 (gf + j = 3 ∧ j ≤ 2) ∧ Aside0 (keys_f k X.f3 X.f4 j o = some oc) ∧ Aside0 (PSt w go Z4 o wx) ∧ Aside0 (wx.heap[g1]? = some (.cells cs0 27 (0, 0))) ∧ Aside0 (wx.heap[gk_]? = some (.cells #[.string X.f3.f0, .int .u64 X.f3.f1, .int .i64 X.f3.f2, .string X.f4.f0, .int .u64 X.f4.f1, .int .i64 X.f4.f2] 42 (0, 0))))
          case atStart => exact ⟨0, oa, rfl, ⟨by omega, by omega⟩, ⟨by rw [keys_0, HOB.out]; exact HOC.out⟩, PS17, BX17, BK17⟩
          case round =>
            clear PS17 BX17 BK17 HOA HOB HOC
            obtain ⟨j, o, rfl, HJ, HG, HS, BX, BT⟩ := hrel
            cases gk with
            | zero => exact absurd HJ.out.1 (by have := HJ.out.2; omega)
            | succ g3_ =>
            by_cases cc : j < 2
            · have d1 : decide ((j : Int) < 2) = true := decide_eq_true (by omega)
              have d2 : decide (j < 2) = true := decide_eq_true cc
              have HJB := Aside0.mk cc
              have G := HG.out
              rw [keys_s _ _ _ _ _ cc] at G
              obtain ⟨Y, hY⟩ : ∃ x, two X.f3 X.f4 j = x := ⟨_, rfl⟩
              obtain ⟨k0, k1, k2⟩ := at_two HAK.out BT.out j cc
              rw [hY] at G k0 k1 k2
              obtain ⟨oy, hoy, G⟩ := Option.bind_eq_some_iff.mp G
              unfold key_f at hoy
              obtain ⟨⟨yb, ye⟩, hyb, hoy⟩ := Option.bind_eq_some_iff.mp hoy
              obtain ⟨tb, htb, hoy⟩ := Option.bind_eq_some_iff.mp hoy
              split at hoy
              case isFalse => cases hoy
              rename_i htl
              injection hoy with hoy
              subst hoy
              dsimp only at htb
              have HYB := Aside0.mk hyb
              have HTB := Aside0.mk htb
              have HTL := Aside0.mk htl
              have HG2 := Aside0.mk G
              have HW2 : Aside0 (wrap64 ((j : Int) + 1) = ((j + 1 : Nat) : Int)) := ⟨ew_w1 j (by omega)⟩
              have p1 := eq_true (show 0 ≤ (j : Int) by omega)
              have p2 := eq_true (show (j : Int) < 2 by omega)
              have p1b : decide (0 ≤ (j : Int)) = true := decide_eq_true (by omega)
              clear G HG hyb htb htl hY cc
              go_upto_region 20 with (first
                | ((with_reducible refine gate_dst (N := 12) rfl ?_); refine box_event ?hg (N := 12) ?hd (cs := #[Value.string (⟨#[]⟩ : ByteArray), .int .u64 0, .int .i64 0]) (t := 42) ?hr ?_; (case hd => rfl); (case hg => rfl); (case hr => first | (go_simp; done) | (go_simp; rfl)); intro gy hg w18 hbox hb
                   have BY18 := Aside0.mk hbox
                   have GY : Aside0 (wr.heap.size ≤ gy) := ⟨by rw [hg]; exact Nat.le_refl _⟩
                   have HB18 := Aside0.mk hb
                   have zc0 : w18.cell? ⟨gy, 0, none⟩ = some (Value.string (⟨#[]⟩ : ByteArray)) := (blk_cell hbox 0).trans rfl
                   have zc1 : w18.cell? ⟨gy, 1, none⟩ = some (.int .u64 0) := (blk_cell hbox 1).trans rfl
                   have zc2 : w18.cell? ⟨gy, 2, none⟩ = some (.int .i64 0) := (blk_cell hbox 2).trans rfl
                   have zf0 := blk_frozen hbox 0
                   have zf1 := blk_frozen hbox 1
                   have zf2 := blk_frozen hbox 2
                   clear hg hbox hb))
              obtain ⟨W19, hW19⟩ : ∃ x, (((w18.setCell ⟨gy, 0, none⟩ (Value.string Y.f0)).setCell ⟨gy, 1, none⟩ (.int .u64 Y.f1)).setCell ⟨gy, 2, none⟩ (.int .i64 Y.f2)) = x := ⟨_, rfl⟩
              rw [hW19]
              have BY : W19.heap[gy]? = some (.cells #[Value.string Y.f0, .int .u64 Y.f1, .int .i64 Y.f2] 42 (0, 0)) := by rw [← hW19]; exact blk_put (cs := #[Value.string Y.f0, .int .u64 Y.f1, .int .i64 0]) (blk_put (cs := #[Value.string Y.f0, .int .u64 0, .int .i64 0]) (blk_put (cs := #[Value.string (⟨#[]⟩ : ByteArray), .int .u64 0, .int .i64 0]) (BY18.out) 0 _ rfl) 1 _ rfl) 2 _ rfl
              have HB19 : Below wr.heap.size wr W19 := by rw [← hW19]; exact below_set (below_set (below_set HB18.out GY.out) GY.out) GY.out
              have HB19 := Aside0.mk HB19
              have dc0 : W19.cell? ⟨gy, 0, none⟩ = some (.string Y.f0) := (blk_cell BY 0).trans rfl
              have dc1 : W19.cell? ⟨gy, 1, none⟩ = some (.int .u64 Y.f1) := (blk_cell BY 1).trans rfl
              have dc2 : W19.cell? ⟨gy, 2, none⟩ = some (.int .i64 Y.f2) := (blk_cell BY 2).trans rfl
              clear hW19 BY zc0 zc1 zc2 zf0 zf1 zf2 k0 k1 k2 HB18
              go_upto_region 21 with (first
                | (go_at_call 18; (with_reducible refine (ikey_Encode.calls k Y.f0 Y.f1 Y.f2 yb ye _ HYB.out).mono ?_); (rintro ek W9 ⟨vy, rfl, hoy, hb⟩)
                   have RY := Aside0.mk hoy
                   have HB9 : Aside0 (Below wr.heap.size wr W9) := ⟨below_step HB19.out hb⟩
                   obtain ⟨Ak, ck, ey⟩ := Kd.R_slice hoy
                   subst ey
                   clear hoy hb))
              obtain ⟨Ao, co, hBK, hRO⟩ := HS.out.blk
              have BKD : Aside0 (W9.drew.heap[go]? = some (.cells #[.slice Ao o.length co] 28 (0, 0))) := ⟨blk_drew (blk_below hBK HB9.out)⟩
              have ROD : Aside0 (Kd.R (Kd.int .u8) 5 W9.drew w.heap.size (fun k => k ≠ go ∧ ¬ Z4 k) (.slice Ao o.length co) o) := ⟨Kd.R_drew (Kd.R_below hRO HB9.out)⟩
              have RYD := Aside0.mk (Kd.R_drew RY.out)
              have HBD : Aside0 (Below w.heap.size w W9.drew) := ⟨below_drew1 (below_step HS.out.bel HB9.out)⟩
              have KPD : Aside0 (Kp Z4 wr W9.drew) := ⟨(Kp.refl Z4 wr).below (below_drew1 HB9.out) (fun k hk => HS.out.lt k hk)⟩
              clear hBK hRO dc0 dc1 dc2 HB19 RY
              refine start_ (n := 6) (S := fun w' => w'.cell? ⟨go, 0, none⟩ = some (.slice Ao o.length co) ∧ Sem.run Try.prog (convert 28 9 (.slice Ak yb.length ck)) w' = Result.ok (.string (strOfNums yb)) w') (ds := [4, 5]) #[false, false, false, false, false, false] (by kernel_rfl) rfl rfl ⟨(blk_cell BKD.out 0).trans rfl, Kd.C_string (P := Try.prog) (A := Ak) (c := ck) Try.underlying28 Try.underlying5 Try.underlying9 (Kd.R_reads' RYD.out).2.2⟩ (fun hHeld => ?_)
              generalize W9.drew = W1 at BKD ROD RYD HBD KPD hHeld ⊢
              have BK1 := BKD
              have RO1 := ROD
              have RY1 := RYD
              have HB1 := HBD
              have KP1 := KPD
              clear BKD ROD RYD HBD KPD
              refine pure_ (i := 1) (N := some 91) (v := ?_) (a' := ?_) #[false, true, false, false, false, false] rfl rfl (by kernel_rfl) (fun _ _ _ h => h) (Or.inl ⟨by rfl, ?_⟩) ?_ ?_
              rotate_left
              · intro w'
                go_simp
                with_reducible rfl
              rotate_left
              · simp only [Act.put, List.setIfInBounds_toArray, List.set_cons_zero, List.set_cons_succ, i64_w, i32_w]
                rfl
              refine take_ (i := 0) (N := some 90) (v := ?_) (a' := ?_) #[true, true, false, false, false, false] rfl rfl (by kernel_rfl) (fun _ _ _ h => h) (Or.inl ⟨by rfl, ?_⟩) hHeld ?_ ?_
              rotate_left
              · rintro w' ⟨s0, s1⟩
                go_simp
                with_reducible rfl
              rotate_left
              · simp only [Act.put, List.setIfInBounds_toArray, List.set_cons_zero, List.set_cons_succ, i64_w, i32_w]
                rfl
              refine take_ (i := 2) (N := some 92) (v := ?_) (a' := ?_) #[true, true, true, false, false, false] rfl rfl (by kernel_rfl) (fun _ _ _ h => h) (Or.inl ⟨by rfl, ?_⟩) hHeld ?_ ?_
              rotate_left
              · rintro w' ⟨s0, s1⟩
                go_simp
                with_reducible rfl
              rotate_left
              · simp only [Act.put, List.setIfInBounds_toArray, List.set_cons_zero, List.set_cons_succ, i64_w, i32_w]
                rfl
              refine one_ (i := 3) (N := some 93) #[true, true, true, true, false, false] rfl rfl (by kernel_rfl) (by decide) (fun K hK => ?_)
              refine goes_ Try.func19 (by kernel_rfl) rfl #[.slice none 0 0, .string (strOfNums yb)] (by rfl) rfl rfl (by simp only [List.map_toArray, List.map_cons, List.map_nil]; rfl) ?_
              with_reducible refine (putT_nil k (strOfNums yb) tb W1 HTB.out).mono ?_
              rintro e W2 ⟨At, ct, rfl, hot, hb⟩
              refine ⟨_, rfl, ?_⟩
              have BK2 := Aside0.mk (blk_below BK1.out hb)
              have RO2 := Aside0.mk (Kd.R_below RO1.out hb)
              have RY2 := Aside0.mk (Kd.R_below RY1.out hb)
              have HB2 := Aside0.mk (below_step HB1.out hb)
              have KP2 : Aside0 (Kp Z4 wr W2) := ⟨KP1.out.below hb (fun k hk => HS.out.lt k hk)⟩
              have HT2 := Aside0.mk hot
              clear hb hot
              refine hK.out _ _ ⟨(blk_cell BK2.out 0).trans rfl, Kd.C_string (P := Try.prog) (A := Ak) (c := ck) Try.underlying28 Try.underlying5 Try.underlying9 (Kd.R_reads' RY2.out).2.2⟩ (fun hHeld => ?_)
              clear hK K
              refine norm_ (a' := ?_) ?_ ?_
              rotate_left
              · show Act.put _ (some 93) _ = _
                simp only [Act.put, List.setIfInBounds_toArray, List.set_cons_zero, List.set_cons_succ, i64_w, i32_w]
                rfl
              refine last_ (i := 4) (N := some 94) #[true, true, true, true, true, false] rfl rfl (by kernel_rfl) (by decide) (fun K hK => ?_)
              refine Kd.R_append_rows_step (Kd.int .u8) (w0 := w) w.heap.size (by rfl) (.tmp 90) (.tmp 93) 28 5 (.int .u8 0) 1 rfl Try.underlying28 info5 rfl (by decide) (by omega) (.slice Ao o.length co) o tb At _ ct (fun k => k ≠ go ∧ ¬ Z4 k) (fun _ => False) rfl rfl ?aO ?aR (fun _ _ h => h) (fun _ h => h.elim) ?aF ?aB ?aS ?aL ?_
              (case aR => exact (Kd.R_reads' HT2.out).2.2)
              (case aB => exact HB2.out)
              (case aF => exact (fun k_ hk => ⟨fun e_ => by have := blk_lt BK2.out; omega, fun hK_ => by have := HS.out.lt k_ hK_; have := KP2.out.1; omega⟩))
              (case aO => exact RO2.out)
              (case aS => exact below_size HB2.out)
              (case aL => have := HTL.out; omega)
              intro v3 W3 ho hb hg hat
              have hown : ∀ k, (Value.slice Ao o.length co).ownBlock = some k → k ≠ go ∧ ¬ Z4 k := RO2.out.1
              have BK3 : Aside0 (W3.heap[go]? = some (.cells #[.slice Ao o.length co] 28 (0, 0))) := ⟨(hg.block go (blk_lt BK2.out) (fun e_ => (hown go e_.symm).1 rfl)).trans BK2.out⟩
              have RO3 := Aside0.mk ho
              have HB3 := Aside0.mk hb
              have KP3 : Aside0 (Kp Z4 wr W3) := ⟨KP2.out.trans ⟨hg.size, fun k hk => hg.block k (Nat.lt_of_lt_of_le (HS.out.lt k hk) KP2.out.1) (fun e_ => (hown k e_.symm).2 hk)⟩⟩
              have hcell3 : W3.cell? ⟨go, 0, none⟩ = some (.slice Ao o.length co) := (blk_cell BK3.out 0).trans rfl
              have hfz3 := blk_frozen BK3.out 0
              obtain ⟨A3_, c3_, e3⟩ := Kd.R_slice ho
              subst e3
              clear ho hb hg hat hown
              refine hK.out _ _ ?_
              clear hK K
              refine norm_ (a' := ?_) ?_ ?_
              rotate_left
              · show Act.put _ (some 94) _ = _
                simp only [Act.put, List.setIfInBounds_toArray, List.set_cons_zero, List.set_cons_succ, i64_w, i32_w]
                rfl
              refine last_ (i := 5) (N := none) #[true, true, true, true, true, true] rfl rfl (by kernel_rfl) (by decide) (fun K hK => ?_)
              refine skip_ (w1 := ?_) (by rfl) rfl ?_ ?_
              rotate_left
              · go_simp
                rfl
              refine hK.out _ _ ?_
              clear hK K
              refine done_ (by kernel_rfl) ?_
              have hnl : (o ++ tb).length = o.length + tb.length := List.length_append
              have KP4 : Kp Z4 wr (W3.setCell ⟨go, 0, none⟩ (.slice A3_ (o ++ tb).length c3_)) := KP3.out.set go _ HS.out.nk
              have hS4 : Aside0 (PSt w go Z4 (o ++ tb) (W3.setCell ⟨go, 0, none⟩ (.slice A3_ (o ++ tb).length c3_))) := ⟨⟨A3_, c3_, blk_put (cs := #[.slice Ao o.length co]) BK3.out 0 _ rfl, Kd.R_move RO3.out (fun k hk => Below.heap_setCell _ _ _ k hk.1)⟩, HS.out.ge, HS.out.nk, fun k hk => by have := HS.out.lt k hk; have := KP4.1; omega, below_set HB3.out HS.out.ge⟩
              have hX4 : Aside0 ((W3.setCell ⟨go, 0, none⟩ (.slice A3_ (o ++ tb).length c3_)).heap[g1]? = some (.cells cs0 27 (0, 0))) := ⟨(KP4.2 g1 (by rw [← HZ4.out]; exact .inl rfl)).trans BX.out⟩
              have hT4 : Aside0 ((W3.setCell ⟨go, 0, none⟩ (.slice A3_ (o ++ tb).length c3_)).heap[gk_]? = some (.cells #[.string X.f3.f0, .int .u64 X.f3.f1, .int .i64 X.f3.f2, .string X.f4.f0, .int .u64 X.f4.f1, .int .i64 X.f4.f2] 42 (0, 0))) := ⟨(KP4.2 gk_ (by rw [← HZ4.out]; exact .inr rfl)).trans BT.out⟩
              clear KP4 hcell3 hfz3
              rw [hnl] at hS4 hX4 hT4
              go_wp2
              go_roundg g3_
              case measure => omega
              case rel => exact ⟨j + 1, o ++ tb, by rw [HW2.out], ⟨by have := HJ.out.1; omega, by have := HJB.out; omega⟩, HG2, hS4, hX4, hT4⟩
            · have d1 : decide ((j : Int) < 2) = false := decide_eq_false (by omega)
              have d2 : decide (j < 2) = false := decide_eq_false cc
              have G := HG.out
              rw [keys_e _ _ _ _ _ cc] at G
              injection G with G
              subst G
              have XS20 : Aside0 (XSt w g1 go cs0 o wr) := ⟨⟨BX.out, HS.out.less (fun k hk => by rw [← HZ4.out]; exact .inl hk), HGE.out⟩⟩
              clear HS BX BT HJ HG cc
              go_wp2
              go_roundg g2_
              case measure => omega
              case rel => exact ⟨i + 1, o, by rw [HW.out], ⟨by have := HI.out.1; omega, by have := HIB.out; omega⟩, HF2, XS20⟩
        · have d1 : decide ((i : Int) < (L.length : Int)) = false := decide_eq_false (by omega)
          have d2 : decide (i < L.length) = false := decide_eq_false cc
          have F := HF.out
          rw [List.drop_eq_nil_of_le (by omega)] at F
          simp only [adds_f, Option.some.injEq] at F
          subst F
          obtain ⟨Ao, co, hBK, hRO⟩ := XS.out.st.blk
          have hcell : wr.cell? ⟨go, 0, none⟩ = some (.slice Ao o.length co) := (blk_cell hBK 0).trans rfl
          have RO := Aside0.mk hRO
          clear hBK hRO HF cc
          go_wp2
          go_ret2
          exact ⟨_, rfl, Kd.R_mono RO.out (fun _ _ => trivial), XS.out.st.bel⟩
end Go.Proofs.Ythkkbgehmiobaaa.E
namespace Go.Proofs.Ythkkbgehmiobaaa.E
open Go.RowKit Go.Proofs.YthkkbgehmiobaaaW.PrintWords Go.Proofs.YthkkbgehmiobaaaW.PrintLast Go.Proofs.YthkkbgehmiobaaaW.PrintMore Go.Proofs.Ythkkbgehmiobaaa.P
theorem put_mono (k : Nat) : ∀ l o, LeO (put_f k l o) (put_f (k + 1) l o)
  | [], _ => LeO.refl _
  | _ :: l, _ => LeO.bind (codec_PutUvarint.mono _ _ _) (fun _ => LeO.ite (put_mono k l _) (LeO.none _))
theorem dels_mono (k : Nat) : ∀ l o, LeO (dels_f k l o) (dels_f (k + 1) l o)
  | [], _ => LeO.refl _
  | _ :: l, _ => LeO.bind (put_mono k _ _) (fun _ => dels_mono k l _)
theorem key_mono (k : Nat) (x : S42) (o : List Int) : LeO (key_f k x o) (key_f (k + 1) x o) :=
  LeO.bind (ikey_Encode.mono _ _ _ _) (fun _ => LeO.bind (codec_PutText.mono _ _ _) (fun _ => LeO.refl _))
theorem adds_mono (k : Nat) : ∀ l o, LeO (adds_f k l o) (adds_f (k + 1) l o)
  | [], _ => LeO.refl _
  | _ :: l, _ => LeO.bind (put_mono k _ _) (fun _ => LeO.bind (key_mono k _ _) (fun _ => LeO.bind (key_mono k _ _) (fun _ => adds_mono k l _)))
theorem enc_mono (k : Nat) (a b c : Int) (D : List S40) (L : List S44) : LeO (enc_f k a b c D L) (enc_f (k + 1) a b c D L) :=
  LeO.bind (edit_Check.mono _ _ _ _ _ _) (fun _ => LeO.ite (LeO.bind (put_mono k _ _) (fun _ => LeO.bind (dels_mono k _ _) (fun _ => LeO.bind (put_mono k _ _) (fun _ => LeO.bind (adds_mono k _ _) (fun _ => LeO.refl _))))) (LeO.refl _))
end Go.Proofs.Ythkkbgehmiobaaa.E
