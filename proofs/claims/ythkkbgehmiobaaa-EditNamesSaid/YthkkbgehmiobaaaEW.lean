/- edit's Encode: what the closure puts behind the bytes. -/
import Derived.Test.YthkkbgehmiobaaaP9
import Derived.Test.YthkkbgehmiobaaaP7
import Derived.Laws.ByValue
import Derived.Deep.DeepMust
namespace Go.Proofs.Ythkkbgehmiobaaa.E
open Go.RowKit Go.Proofs.YthkkbgehmiobaaaW.PrintWords Go.Proofs.YthkkbgehmiobaaaW.PrintLast Go.Proofs.YthkkbgehmiobaaaW.PrintMore Go.Proofs.Ythkkbgehmiobaaa.P
set_option linter.unusedVariables false
set_option linter.unusedSimpArgs false
theorem blk_lt {w : World} {g : Nat} {o : Obj} (h : w.heap[g]? = some o) : g < w.heap.size := (Array.getElem?_eq_some_iff.1 h).1
theorem ew_w1 (n : Nat) (h : n < 9223372036854775807) : wrap64 ((n : Int) + 1) = ((n + 1 : Nat) : Int) := by unfold wrap64; omega
/-! ### what stays -/
def Kp (Z : Nat → Prop) (a c : World) : Prop := a.heap.size ≤ c.heap.size ∧ ∀ k, Z k → c.heap[k]? = a.heap[k]?
theorem Kp.refl (Z : Nat → Prop) (a : World) : Kp Z a a := ⟨Nat.le_refl _, fun _ _ => rfl⟩
theorem Kp.trans {Z : Nat → Prop} {a b c : World} (h : Kp Z a b) (h2 : Kp Z b c) : Kp Z a c := ⟨Nat.le_trans h.1 h2.1, fun k hk => (h2.2 k hk).trans (h.2 k hk)⟩
theorem Kp.below {Z : Nat → Prop} {a b c : World} (h : Kp Z a b) (hb : Below b.heap.size b c) (hl : ∀ k, Z k → k < a.heap.size) : Kp Z a c :=
  h.trans ⟨hb.size, fun k hk => hb.block k (Nat.lt_of_lt_of_le (hl k hk) h.1)⟩
theorem Kp.set {Z : Nat → Prop} {a b : World} (h : Kp Z a b) (go : Nat) (v : Value) (hk : ¬ Z go) : Kp Z a (b.setCell ⟨go, 0, none⟩ v) :=
  h.trans ⟨(Below.setCell (p := ⟨go, 0, none⟩) (Below.refl 0 b) (Nat.zero_le _) v).size, fun k h1 => Below.heap_setCell b ⟨go, 0, none⟩ v k (fun e => hk (by have : k = go := e; exact this ▸ h1))⟩
/-- the bytes that are written, in memory: a row of one's own, apart from what is kept -/
structure PSt (w0 : World) (go : Nat) (Z : Nat → Prop) (out : List Int) (wx : World) : Prop where
  blk : ∃ Ao co, wx.heap[go]? = some (.cells #[.slice Ao out.length co] 28 (0, 0)) ∧ Kd.R (Kd.int .u8) 5 wx w0.heap.size (fun k => k ≠ go ∧ ¬ Z k) (.slice Ao out.length co) out
  ge : w0.heap.size ≤ go
  nk : ¬ Z go
  lt : ∀ k, Z k → k < wx.heap.size
  bel : Below w0.heap.size w0 wx
/-- more is made, and kept -/
theorem PSt.more {w0 wx wy : World} {go : Nat} {Z Z' : Nat → Prop} {out : List Int} (h : PSt w0 go Z out wx) (hb : Below wx.heap.size wx wy) (hK : ∀ k, Z' k → (Z k ∨ wx.heap.size ≤ k) ∧ k < wy.heap.size) : PSt w0 go Z' out wy := by
  obtain ⟨Ao, co, h1, h2⟩ := h.blk
  have hgo := blk_lt h1
  have hnk : ¬ Z' go := fun hk => (hK go hk).1.elim h.nk (fun h3 => by omega)
  exact ⟨⟨Ao, co, blk_below h1 hb, Kd.R_below (Kd.R_mono (Kd.R_bound h2) (fun k hk => ⟨hk.1.1, fun hk' => (hK k hk').1.elim hk.1.2 (fun h3 => by have := hk.2.2.1; omega)⟩)) hb⟩, h.ge, hnk, fun k hk => (hK k hk).2, below_step h.bel hb⟩
theorem PSt.less {w0 wx : World} {go : Nat} {Z Z' : Nat → Prop} {out : List Int} (h : PSt w0 go Z out wx) (hK : ∀ k, Z' k → Z k) : PSt w0 go Z' out wx := by
  obtain ⟨Ao, co, h1, h2⟩ := h.blk
  exact ⟨⟨Ao, co, h1, Kd.R_mono h2 (fun k hk => ⟨hk.1, fun h3 => hk.2 (hK k h3)⟩)⟩, h.ge, fun h3 => h.nk (hK go h3), fun k hk => h.lt k (hK k hk), h.bel⟩
theorem Kp.less {Z Z' : Nat → Prop} {a c : World} (h : Kp Z a c) (hK : ∀ k, Z' k → Z k) : Kp Z' a c := ⟨h.1, fun k hk => h.2 k (hK k hk)⟩
/-! ### a number and a text, put behind nothing -/
theorem putU_nil (k : Nat) (n : Int) (t : List Int) (w : World) (h : codec_PutUvarint.f k [] n = some t) :
    Calls Try.prog 17 #[.slice none 0 0, .int .u64 n] w fun e w' => ∃ A c, e = .returned (.slice A t.length c) ∧ Kd.R (Kd.int .u8) 5 w' w.heap.size (fun _ => True) (.slice A t.length c) t ∧ Below w.heap.size w w' := by
  refine (codec_PutUvarint.calls k none 0 ([] : List Int) n t w (Kd.C_nil _ _) (Nat.le_refl _) h).mono ?_
  rintro e w' ⟨v, rfl, ho, hb⟩
  obtain ⟨A, c, rfl⟩ := Kd.R_slice ho
  exact ⟨A, c, rfl, ho, hb⟩
theorem putT_nil (k : Nat) (s : ByteArray) (t : List Int) (w : World) (h : codec_PutText.f k [] s = some t) :
    Calls Try.prog 19 #[.slice none 0 0, .string s] w fun e w' => ∃ A c, e = .returned (.slice A t.length c) ∧ Kd.R (Kd.int .u8) 5 w' w.heap.size (fun _ => True) (.slice A t.length c) t ∧ Below w.heap.size w w' := by
  refine (codec_PutText.calls k none 0 ([] : List Int) s t w (Kd.C_nil _ _) (Nat.le_refl _) h).mono ?_
  rintro e w' ⟨v, rfl, ho, hb⟩
  obtain ⟨A, c, rfl⟩ := Kd.R_slice ho
  exact ⟨A, c, rfl, ho, hb⟩
/-- numbers, one behind the other -/
def put_f (k : Nat) : List Int → List Int → Option (List Int)
  | [], out => some out
  | n :: l, out => (codec_PutUvarint.f k [] n).bind fun t => if out.length + t.length < 140737488355328 then put_f k l (out ++ t) else none
set_option maxHeartbeats 2000000 in
set_option maxRecDepth 100000 in
theorem put_calls (k : Nat) (ad : Addr) (c : Nat) (l : List Int) (go : Nat) (out r : List Int) (w0 w : World) (Z : Nat → Prop) (hs : PSt w0 go Z out w) (hr : ∀ wx, Kp Z w wx → ∀ i : Nat, i < l.length → wx.cell? (ad.add i) = some (.int .u64 (rd l (i : Int)))) (hl : l.length < 100) (hf : put_f k l out = some r) :
    Calls Try.prog 16 #[.slice (some ad) l.length c, .pointer (some ⟨go, 0, none⟩)] w fun e w' => e = .returned (.tuple #[]) ∧ PSt w0 go Z r w' ∧ Kp Z w w' := by
  have HS0 := Aside0.mk hs
  have HR := Aside0.mk hr
  have HF := Aside0.mk hf
  have HLL := Aside0.mk hl
  clear hs hr hf hl
  go_enter Try.func16, Try.ntmps16
  go_upto_region 1 with fail
  go_loopg [7] (l.length + 1) (fun gf v7 wx => ∃ (i : Nat) (o : List Int), v7 = .int .i64 (i : Int) ∧ Aside0 (gf + i = l.length + 1 ∧ i ≤ l.length) ∧ Aside0 (put_f k (l.drop i) o = some r) ∧ Aside0 (PSt w0 go Z o wx) ∧ Aside0 (Kp Z w wx))
  case atStart => exact ⟨0, out, rfl, ⟨by omega, by omega⟩, HF, HS0, ⟨Kp.refl _ _⟩⟩
  case round =>
    clear HF HS0
    obtain ⟨i, o, rfl, HI, HF, HS, HK⟩ := hrel
    cases gk with
    | zero => exact absurd HI.out.1 (by have := HI.out.2; omega)
    | succ g1 =>
    by_cases cc : i < l.length
    · have d1 : decide ((i : Int) < (l.length : Int)) = true := decide_eq_true (by omega)
      have d2 : decide (i < l.length) = true := decide_eq_true cc
      have HIB := Aside0.mk cc
      obtain ⟨n, hn⟩ : ∃ x, rd l (i : Int) = x := ⟨_, rfl⟩
      have HD : l.drop i = n :: l.drop (i + 1) := by
        rw [← hn]
        simp only [rd, Int.toNat_natCast]
        rw [List.drop_eq_getElem_cons cc]
        simp [List.getD, cc]
      have F := HF.out
      rw [HD] at F
      simp only [put_f] at F
      obtain ⟨t, ht, F⟩ := Option.bind_eq_some_iff.mp F
      split at F
      case isFalse => cases F
      rename_i hl
      have HT := Aside0.mk ht
      have HL := Aside0.mk hl
      have HF2 := Aside0.mk F
      have HW : Aside0 (wrap64 ((i : Int) + 1) = ((i + 1 : Nat) : Int)) := ⟨ew_w1 i (by have := HLL.out; omega)⟩
      have hc := HR.out wr HK.out i HIB.out
      rw [hn] at hc
      have p1 := eq_true (show 0 ≤ (i : Int) by omega)
      have p2 := eq_true (show (i : Int) < (l.length : Int) by omega)
      have p1b : decide (0 ≤ (i : Int)) = true := decide_eq_true (by omega)
      obtain ⟨Ao, co, hBK, hRO⟩ := HS.out.blk
      have BK := Aside0.mk hBK
      have RO := Aside0.mk hRO
      have hcell : wr.cell? ⟨go, 0, none⟩ = some (.slice Ao o.length co) := (blk_cell hBK 0).trans rfl
      have hfz := blk_frozen hBK 0
      clear F HF HD hn ht hl cc hBK hRO
      go_upto_region 3 with fail
      refine start_ (n := 5) (S := fun w' => w'.cell? ⟨go, 0, none⟩ = some (.slice Ao o.length co)) (ds := [4]) #[false, false, false, false, false] (by kernel_rfl) rfl rfl ((blk_cell (blk_drew BK.out) 0).trans rfl) (fun hHeld => ?_)
      have BK1 : Aside0 (wr.drew.heap[go]? = some (.cells #[.slice Ao o.length co] 28 (0, 0))) := ⟨blk_drew BK.out⟩
      have RO1 := Aside0.mk (Kd.R_drew RO.out)
      have HB1 := Aside0.mk (below_drew1 HS.out.bel)
      have KP1 : Aside0 (Kp Z wr wr.drew) := ⟨Nat.le_refl _, fun _ _ => rfl⟩
      generalize wr.drew = W1 at BK1 RO1 HB1 KP1 hHeld ⊢
      refine pure_ (i := 1) (N := some 12) (v := ?_) (a' := ?_) #[false, true, false, false, false] rfl rfl (by kernel_rfl) (fun _ _ _ h => h) (Or.inl ⟨by rfl, ?_⟩) ?_ ?_
      rotate_left
      · intro w'
        go_simp
        with_reducible rfl
      rotate_left
      · simp only [Act.put, List.setIfInBounds_toArray, List.set_cons_zero, List.set_cons_succ, i64_w, i32_w]
        rfl
      refine take_ (i := 0) (N := some 11) (v := ?_) (a' := ?_) #[true, true, false, false, false] rfl rfl (by kernel_rfl) (fun _ _ _ h => h) (Or.inl ⟨by rfl, ?_⟩) hHeld ?_ ?_
      rotate_left
      · intro w' s0
        go_simp
        with_reducible rfl
      rotate_left
      · simp only [Act.put, List.setIfInBounds_toArray, List.set_cons_zero, List.set_cons_succ, i64_w, i32_w]
        rfl
      refine one_ (i := 2) (N := some 13) #[true, true, true, false, false] rfl rfl (by kernel_rfl) (by decide) (fun K hK => ?_)
      refine goes_ Try.func17 (by kernel_rfl) rfl #[.slice none 0 0, .int .u64 n] (by rfl) rfl rfl (by simp only [List.map_toArray, List.map_cons, List.map_nil]; rfl) ?_
      with_reducible refine (putU_nil k n t W1 HT.out).mono ?_
      rintro e W2 ⟨At, ct, rfl, hot, hb⟩
      refine ⟨_, rfl, ?_⟩
      have BK2 := Aside0.mk (blk_below BK1.out hb)
      have RO2 := Aside0.mk (Kd.R_below RO1.out hb)
      have HB2 := Aside0.mk (below_step HB1.out hb)
      have KP2 : Aside0 (Kp Z wr W2) := ⟨KP1.out.below hb (fun k hk => HS.out.lt k hk)⟩
      have HT2 := Aside0.mk hot
      clear hb hot
      refine hK.out _ _ ((blk_cell BK2.out 0).trans rfl) (fun hHeld => ?_)
      clear hK K
      refine norm_ (a' := ?_) ?_ ?_
      rotate_left
      · show Act.put _ (some 13) _ = _
        simp only [Act.put, List.setIfInBounds_toArray, List.set_cons_zero, List.set_cons_succ, i64_w, i32_w]
        rfl
      refine one_ (i := 3) (N := some 14) #[true, true, true, true, false] rfl rfl (by kernel_rfl) (by decide) (fun K hK => ?_)
      refine Kd.R_append_rows_step (Kd.int .u8) (w0 := w0) w0.heap.size (by rfl) (.tmp 11) (.tmp 13) 28 5 (.int .u8 0) 1 rfl Try.underlying28 info5 rfl (by decide) (by omega) (.slice Ao o.length co) o t At _ ct (fun k => k ≠ go ∧ ¬ Z k) (fun _ => False) rfl rfl ?aO ?aR (fun _ _ h => h) (fun _ h => h.elim) ?aF ?aB ?aS ?aL ?_
      (case aR => exact (Kd.R_reads' HT2.out).2.2)
      (case aB => exact HB2.out)
      (case aF => exact (fun k_ hk => ⟨fun e_ => by have := blk_lt BK2.out; omega, fun hK_ => by have := HS.out.lt k_ hK_; have := KP2.out.1; omega⟩))
      (case aO => exact RO2.out)
      (case aS => exact below_size HB2.out)
      (case aL => have := HL.out; omega)
      intro v3 W3 ho hb hg hat
      have hown : ∀ k, (Value.slice Ao o.length co).ownBlock = some k → k ≠ go ∧ ¬ Z k := RO2.out.1
      have BK3 : Aside0 (W3.heap[go]? = some (.cells #[.slice Ao o.length co] 28 (0, 0))) := ⟨(hg.block go (blk_lt BK2.out) (fun e_ => (hown go e_.symm).1 rfl)).trans BK2.out⟩
      have RO3 := Aside0.mk ho
      have HB3 := Aside0.mk hb
      have KP3 : Aside0 (Kp Z wr W3) := ⟨KP2.out.trans ⟨hg.size, fun k hk => hg.block k (Nat.lt_of_lt_of_le (HS.out.lt k hk) KP2.out.1) (fun e_ => (hown k e_.symm).2 hk)⟩⟩
      have hcell3 : W3.cell? ⟨go, 0, none⟩ = some (.slice Ao o.length co) := (blk_cell BK3.out 0).trans rfl
      have hfz3 := blk_frozen BK3.out 0
      obtain ⟨A3, c3, e3⟩ := Kd.R_slice ho
      subst e3
      clear ho hb hg hat hown hcell hfz
      refine hK.out _ _ (hcell3) (fun hHeld => ?_)
      clear hK K
      refine norm_ (a' := ?_) ?_ ?_
      rotate_left
      · show Act.put _ (some 14) _ = _
        simp only [Act.put, List.setIfInBounds_toArray, List.set_cons_zero, List.set_cons_succ, i64_w, i32_w]
        rfl
      refine last_ (i := 4) (N := none) #[true, true, true, true, true] rfl rfl (by kernel_rfl) (by decide) (fun K hK => ?_)
      refine skip_ (w1 := ?_) (by rfl) rfl ?_ ?_
      rotate_left
      · go_simp
        rfl
      refine hK.out _ _ ?_
      clear hK K
      refine done_ (by kernel_rfl) ?_
      have hS4 : Aside0 (PSt w0 go Z (o ++ t) (W3.setCell ⟨go, 0, none⟩ (.slice A3 (o ++ t).length c3))) := ⟨⟨A3, c3, blk_put (cs := #[.slice Ao o.length co]) BK3.out 0 _ rfl, Kd.R_move RO3.out (fun k hk => Below.heap_setCell _ _ _ k hk.1)⟩, HS.out.ge, HS.out.nk, fun k hk => by have := HS.out.lt k hk; have := (KP3.out.set go (.slice A3 (o ++ t).length c3) HS.out.nk).1; omega, below_set HB3.out HS.out.ge⟩
      have hK4 : Aside0 (Kp Z w (W3.setCell ⟨go, 0, none⟩ (.slice A3 (o ++ t).length c3))) := ⟨HK.out.trans (KP3.out.set go (.slice A3 (o ++ t).length c3) HS.out.nk)⟩
      go_wp2
      go_roundg g1
      case measure => omega
      case rel => exact ⟨i + 1, o ++ t, by rw [HW.out], ⟨by have := HI.out.1; omega, by have := HIB.out; omega⟩, HF2, ⟨by rw [← List.length_append]; exact hS4.out⟩, ⟨by rw [← List.length_append]; exact hK4.out⟩⟩
    · have d1 : decide ((i : Int) < (l.length : Int)) = false := decide_eq_false (by omega)
      have d2 : decide (i < l.length) = false := decide_eq_false cc
      have F := HF.out
      rw [List.drop_eq_nil_of_le (by omega)] at F
      simp only [put_f, Option.some.injEq] at F
      subst F
      go_wp2
      refine bodyPost_end (v := .tuple #[]) ?_ rfl ⟨rfl, HS.out, HK.out⟩
      simp [results, Try.results16, go_sem]
theorem at_lit {w : World} {g : Nat} {l : List Int} (h : w.heap[g]? = some (.cells (l.map fun n => Value.int .u64 n).toArray 23 (0, 0))) (i : Nat) (hi : i < l.length) : w.cell? ((⟨g, 0, none⟩ : Addr).add i) = some (.int .u64 (rd l (i : Int))) := by
  have h1 := blk_cell h i
  have h2 : (⟨g, 0, none⟩ : Addr).add i = ⟨g, i, none⟩ := by
    unfold Addr.add
    split
    · rename_i h0; rw [h0]
    · simp
  rw [h2, h1]
  simp [rd, List.getD, hi]
theorem put_lit (k g m : Nat) (l : List Int) (go : Nat) (out r : List Int) (w0 w : World) (Z : Nat → Prop) (hm : l.length = m) (hs : PSt w0 go Z out w) (hg : Z g) (hbox : w.heap[g]? = some (.cells (l.map fun n => Value.int .u64 n).toArray 23 (0, 0))) (hl : m < 100) (hf : put_f k l out = some r) :
    Calls Try.prog 16 #[.slice (some ⟨g, 0, none⟩) m m, .pointer (some ⟨go, 0, none⟩)] w fun e w' => e = .returned (.tuple #[]) ∧ PSt w0 go Z r w' ∧ Kp Z w w' := by
  subst hm
  exact put_calls k ⟨g, 0, none⟩ l.length l go out r w0 w Z hs (fun wx hx i hi => at_lit ((hx.2 g hg).trans hbox) i hi) hl hf
end Go.Proofs.Ythkkbgehmiobaaa.E
