/- block's Build, walked by hand: what it comes to. -/
import Derived.Test.YthdemdjobgbpdaaP7
import Derived.Test.YthdemdjobgbpdaaP5
import Derived.Test.YthdemdjobgbpdaaP4
import Derived.WalkSpells
import Derived.OneCell
import Derived.RangeFuncBox
import Derived.Deep.CutRange
namespace Go.Proofs.Ythdemdjobgbpdaa.P
open Go.RowKit Go.Proofs.YthdemdjobgbpdaaW.PrintWords Go.Proofs.YthdemdjobgbpdaaW.PrintLast Go.Proofs.YthdemdjobgbpdaaW.PrintMore
attribute [local go_sem] Oper.semAt_some
set_option linter.unusedVariables false
set_option linter.unusedSimpArgs false
/-! ### block_Build: function 19 -/
/-- the beginning that two rows share -/
def shp : List Int → List Int → Nat
  | a :: s, b :: t => if a = b then shp s t + 1 else 0
  | [], _ => 0
  | _, [] => 0
def bbk_sz (k : Nat) : List Int → List Int → Option (List Int)
  | [], out => some out
  | z :: t, out => (codec_PutUvarint.f k [] (IntKind.u64.wrap z)).bind fun p => if out.length + p.length < 1000000000000 then bbk_sz k t (out ++ p) else none
/-- one entry -/
def bbk_row (k n : Nat) (key : List Int) (v : ByteArray) (out : List Int) : Option (List Int) :=
  (bbk_sz k [(n : Int), ((key.length - n : Nat) : Int), (v.size : Int)] out).bind fun o => if o.length + key.length + v.size < 1000000000000 then some (o ++ key.drop n ++ bytesOf v) else none
def bbk_mk (k i iv : Nat) (out ms : List Int) : Option (List Int) :=
  if i % iv = 0 then (codec_PutFixed.f k [] (IntKind.u64.wrap (out.length : Int)) 4).bind fun m => if ms.length + m.length < 1000000000000 then some (ms ++ m) else none else some ms
def bbk_q : Option S47 → S47 → Option Int
  | none, _ => some (-1)
  | some y, x => ikey_Compare.f y.f0.f0 y.f0.f1 y.f0.f2 x.f0.f0 x.f0.f1 x.f0.f2
/-- all entries -/
def bbk_l (k iv : Nat) : Option S47 → List S47 → Nat → List Int → List Int → List Int → Nat → Option (List Int × Int)
  | _, [], _, out, ms, _, c => if out.length + ms.length < 1000000000000 then (codec_PutFixed.f k (out ++ ms ++ [(iv : Int)]) (c : Int) 4).map fun z => (z, 0) else none
  | p, x :: t, i, out, ms, last, c => (ikey_Encode.f k x.f0.f0 x.f0.f1 x.f0.f2).bind fun key => if key.2 ≠ 0 then some ([], key.2) else if 1000 < (x.f1.size : Int) then some ([], 31) else
      (bbk_q p x).bind fun q => if 0 ≤ q then some ([], 110) else
      if key.1.length < 1000000000 ∧ last.length < 1000000000 ∧ c < 1000000000 then
        (bbk_mk k i iv out ms).bind fun ms2 => (bbk_row k (if i % iv = 0 then 0 else shp last key.1) key.1 x.f1 out).bind fun out2 => bbk_l k iv (some x) t (i + 1) out2 ms2 key.1 (if i % iv = 0 then c + 1 else c)
      else none
def block_Build.f (k : Nat) (l : List S47) (iv : Int) : Option (List Int × Int) :=
  if iv < 1 then some ([], 1) else if 16 < iv then some ([], 1) else if l.length < 1000000000 then bbk_l k iv.toNat none l 0 [] [] [] 0 else none
theorem bt3 {e' : Nat} (h : 3 ≠ e') : ∀ q, q ∈ 3 :: (Kd.int .i64).E → q ≠ e' := by
  intro q hq
  rcases List.mem_cons.1 hq with rfl | hq
  · exact h
  · exact absurd hq (by simp [Kd.int, Kd.scalar])
theorem blt_ {w : World} {g : Nat} {o : Obj} (h : w.heap[g]? = some o) : g < w.heap.size := (Array.getElem?_eq_some_iff.1 h).1
/-- a row beside the one that grows -/
theorem bb_beside {wx wy : World} {b : Nat} {v vo vo' : Value} {xs : List Int} {p : Nat → Prop} (h : Kd.R (Kd.int .u8) 5 wx b (fun q => some q ≠ vo.ownBlock ∧ p q) v xs) (hg : wx.grownBy wy vo.ownBlock) (hat : vo'.ownBlock = vo.ownBlock ∨ ∃ q, vo'.ownBlock = some q ∧ wx.heap.size ≤ q) : Kd.R (Kd.int .u8) 5 wy b (fun q => some q ≠ vo'.ownBlock ∧ p q) v xs :=
  Kd.R_mono (Kd.R_grown (Kd.R_bound h) hg (fun q hq => hq.1.1)) (fun q hq => ⟨by
    rcases hat with e | ⟨z, e, hz⟩
    · rw [e]; exact hq.1.1
    · rw [e]; intro h2; injection h2 with h2; have := hq.2.2.1; omega, hq.1.2⟩)
/-- what holds while entries are laid: the rows, and a row that is only read -/
structure BbI (w wx : World) (vo : Value) (out : List Int) (vm : Value) (ms : List Int) (vk : Value) (key : List Int) : Prop where
  ro : Kd.R (Kd.int .u8) 5 wx w.heap.size (fun _ => True) vo out
  rm : Kd.R (Kd.int .u8) 5 wx w.heap.size (fun q => some q ≠ vo.ownBlock ∧ True) vm ms
  rk : Kd.R (Kd.int .u8) 5 wx w.heap.size (fun q => some q ≠ vo.ownBlock ∧ some q ≠ vm.ownBlock) vk key
  hb : Below w.heap.size w wx
theorem BbI.below {w wx wy : World} {vo : Value} {out : List Int} {vm : Value} {ms : List Int} {vk : Value} {key : List Int} (h : BbI w wx vo out vm ms vk key) (hb : Below wx.heap.size wx wy) : BbI w wy vo out vm ms vk key :=
  ⟨Kd.R_below h.ro hb, Kd.R_below h.rm hb, Kd.R_below h.rk hb, below_step h.hb hb⟩
/-- another row to be read -/
theorem BbI.key {w wx wy : World} {vo : Value} {out : List Int} {vm : Value} {ms : List Int} {vk vk' : Value} {key key' : List Int} (h : BbI w wx vo out vm ms vk key) (hk : Kd.R (Kd.int .u8) 5 wy wx.heap.size (fun _ => True) vk' key') (hb : Below wx.heap.size wx wy) : BbI w wy vo out vm ms vk' key' :=
  ⟨Kd.R_below h.ro hb, Kd.R_below h.rm hb, Kd.R_mono (Kd.R_lower (Kd.R_bound hk) (below_size h.hb)) (fun q hq => ⟨fun e => by have := Kd.R_lt h.ro q e.symm; have := hq.2.1; omega, fun e => by have := Kd.R_lt h.rm q e.symm; have := hq.2.1; omega⟩), below_step h.hb hb⟩
theorem BbI.app {w wx wy : World} {vo vo' : Value} {out out' : List Int} {vm : Value} {ms : List Int} {vk : Value} {key : List Int} (h : BbI w wx vo out vm ms vk key) (ho : Kd.R (Kd.int .u8) 5 wy w.heap.size (fun _ => True) vo' out') (hb : Below w.heap.size w wy) (hg : wx.grownBy wy vo.ownBlock) (hat : vo'.ownBlock = vo.ownBlock ∨ ∃ q, vo'.ownBlock = some q ∧ wx.heap.size ≤ q) : BbI w wy vo' out' vm ms vk key :=
  ⟨ho, bb_beside h.rm hg hat, bb_beside (p := fun q => some q ≠ vm.ownBlock) h.rk hg hat, hb⟩
theorem BbI.mark {w wx wy : World} {vo : Value} {out : List Int} {vm vm' : Value} {ms ms' : List Int} {vk : Value} {key : List Int} (h : BbI w wx vo out vm ms vk key) (ho : Kd.R (Kd.int .u8) 5 wy w.heap.size (fun q => some q ≠ vo.ownBlock ∧ True) vm' ms') (hb : Below w.heap.size w wy) (hg : wx.grownBy wy vm.ownBlock) (hat : vm'.ownBlock = vm.ownBlock ∨ ∃ q, vm'.ownBlock = some q ∧ wx.heap.size ≤ q) : BbI w wy vo out vm' ms' vk key :=
  ⟨Kd.R_grown2 h.ro rfl hg (fun q e e2 => (h.rm.1 q e).1 e2), ho, Kd.R_mono (bb_beside (p := fun q => some q ≠ vo.ownBlock) (Kd.R_mono h.rk (fun q hq => ⟨hq.2, hq.1⟩)) hg hat) (fun q hq => ⟨hq.2, hq.1⟩), hb⟩
/-- the entry, copied -/
def bbObj (X : S47) : Obj := .cells #[.string X.f0.f0, .int .u64 X.f0.f1, .int .i64 X.f0.f2, .string X.f1] 47 (0, 0)
theorem bbObj_app {wx wy : World} {vo : Value} {out : List Int} {X : S47} {g b : Nat} {ok : Nat → Prop} (h : wx.heap[g]? = some (bbObj X)) (hr : Kd.R (Kd.int .u8) 5 wx b ok vo out) (hg : wx.grownBy wy vo.ownBlock) : wy.heap[g]? = some (bbObj X) :=
  (hg.block _ (blt_ h) (Kd.R_ne hr h (by decide))).trans h
theorem cutB (A : Option Addr) (c : Nat) (l : List Int) (m : Nat) (hm : m ≤ l.length) (hc : l.length ≤ c) :
    ∃ (A' : Option Addr) (c' : Nat), (∀ W : World, (Instr.slice 27 (.slice A l.length c) (some (.int .i64 (m : Int))) none none).run Try.prog W = .ok (.slice A' (l.drop m).length c') W) ∧
      (∀ W : World, Kd.C (Kd.int .u8) W A l.length l → Kd.C (Kd.int .u8) W A' (l.drop m).length (l.drop m)) ∧ (l.drop m).length ≤ c' := by
  obtain ⟨i5, hi5, _, hs5, _⟩ := info_parts info5
  have h := cut_from (P := Try.prog) 27 5 .i64 Try.underlying27 hi5 1 hs5 A l.length c (m : Int) (by omega) (by omega)
  simp only [Int.toNat_natCast] at h
  refine ⟨_, c - m, fun W => (h W).trans (by rw [List.length_drop]; rfl), fun W hC => Kd.C_drop hC hm hc, by rw [List.length_drop]; omega⟩
theorem bb_w1 (n : Nat) (h : n < 1000000000) : wrap64 ((n : Int) + 1) = ((n + 1 : Nat) : Int) := by unfold wrap64; omega
theorem bb_m1 (n : Nat) (h : n < 1000000000) (h0 : 0 < n) : wrap64 ((n : Int) - 1) = ((n - 1 : Nat) : Int) := by unfold wrap64; omega
theorem bb_sub (a n : Nat) (h : n ≤ a) (ha : a < 1000000000) : wrap64 ((a : Int) - (n : Int)) = ((a - n : Nat) : Int) := by unfold wrap64; omega
theorem bb_u1 (n : Nat) (h : n < 1000000000) : IntKind.u64.wrap ((n : Int) + 1) = ((n + 1 : Nat) : Int) := by simp [IntKind.wrap, IntKind.bits, IntKind.signed]; omega
theorem bb_mod (i iv : Nat) (h : iv < 1000) : Int.tmod (i : Int) (iv : Int) = ((i % iv : Nat) : Int) := by
  rw [Int.tmod_eq_emod_of_nonneg (by omega)]
  rfl
theorem shp_le : ∀ (a b : List Int), shp a b ≤ a.length ∧ shp a b ≤ b.length
  | [], _ => by simp [shp]
  | _ :: _, [] => by simp [shp]
  | a :: s, b :: t => by
    have := shp_le s t
    simp only [shp, List.length_cons]
    split <;> omega
def bprev (l : List S47) (i : Nat) : Option S47 := if i = 0 then none else some (rd_T47 l ((i - 1 : Nat) : Int))
theorem arr_R (W : World) (a b c : Int) : Kd.R (Kd.int .i64) 3 (W.alloc (.cells #[.int .i64 a, .int .i64 b, .int .i64 c] 3)) W.heap.size (fun _ => True) (.slice (some ⟨W.heap.size, 0, none⟩) 3 3) [a, b, c] := by
  refine Kd.R_of_own ?_ (fun _ _ => trivial)
  exact ⟨by simp [encs], .inr ⟨W.heap.size, 3, _, rfl, Nat.le_refl _, blk_new W _, by simp, by simp [maxLen], by rfl, by rfl⟩⟩
theorem bpu_nil (k : Nat) (a1 : Int) (r : List Int) (w : World) (h : codec_PutUvarint.f k [] a1 = some r) :
    Calls Try.prog 21 #[.slice none 0 0, .int .u64 a1] w fun e w' => ∃ v0_ : Value, e = .returned (v0_) ∧ Kd.R (Kd.int .u8) 5 w' w.heap.size (fun _ => True) v0_ r ∧ Below w.heap.size w w' :=
  codec_PutUvarint.calls k none 0 [] a1 r w (Kd.C_nil _ _) (Nat.le_refl _) h
theorem bpf_nil (k : Nat) (a1 : Int) (r : List Int) (w : World) (h : codec_PutFixed.f k [] a1 4 = some r) :
    Calls Try.prog 23 #[.slice none 0 0, .int .u64 a1, .int .i64 4] w fun e w' => ∃ v0_ : Value, e = .returned (v0_) ∧ Kd.R (Kd.int .u8) 5 w' w.heap.size (fun _ => True) v0_ r ∧ Below w.heap.size w w' :=
  codec_PutFixed.calls k none 0 [] a1 4 r w (Kd.C_nil _ _) (Nat.le_refl _) h
set_option maxRecDepth 100000 in
set_option maxHeartbeats 4000000 in
theorem block_Build.calls (k : Nat) (A0 : Option Addr) (c0 : Nat) (l : List S47) (iv : Int) (r1 : List Int) (r2 : Int) (w : World) (hr0 : Kd.C k47 w A0 l.length l) (hc0 : l.length ≤ c0) (hf : block_Build.f k l iv = some (r1, r2)) :
    Calls Try.prog 19 #[.slice A0 l.length c0, .int .i64 iv] w fun e w' => ∃ v0_ : Value, e = .returned (.tuple #[v0_, .int .i64 r2]) ∧ Kd.R (Kd.int .u8) 5 w' w.heap.size (fun _ => True) v0_ r1 ∧ Below w.heap.size w w' := by
  have HR0 := Aside0.mk hr0
  have HC0 := Aside0.mk hc0
  clear hr0 hc0
  unfold block_Build.f at hf
  go_enter Try.func19, Try.ntmps19
  by_cases c3 : iv < 1
  case pos =>
    rw [if_pos c3] at hf
    injection hf with hf
    injection hf with h1 h2
    subst h1 h2
    have d3 : decide (iv < 1) = true := decide_eq_true c3
    clear c3
    go_wp2
    go_ret2
    exact ⟨_, rfl, Kd.R_nil _ _ _ _ _, Below.refl _ _⟩
  case neg =>
  rw [if_neg c3] at hf
  have d3 : decide (iv < 1) = false := decide_eq_false c3
  by_cases c4 : 16 < iv
  case pos =>
    rw [if_pos c4] at hf
    injection hf with hf
    injection hf with h1 h2
    subst h1 h2
    have d4 : decide (16 < iv) = true := decide_eq_true c4
    clear c3 c4
    go_wp2
    go_ret2
    exact ⟨_, rfl, Kd.R_nil _ _ _ _ _, Below.refl _ _⟩
  case neg =>
  rw [if_neg c4] at hf
  have d4 : decide (16 < iv) = false := decide_eq_false c4
  split at hf
  case isFalse => cases hf
  rename_i hln
  obtain ⟨m, rfl⟩ := Int.eq_ofNat_of_zero_le (show 0 ≤ iv by omega)
  simp only [Int.toNat_natCast] at hf
  have HIV : Aside0 (1 ≤ m ∧ m ≤ 16) := ⟨by omega⟩
  have HLN := Aside0.mk hln
  have HL : Aside0 (bbk_l k m (bprev l 0) (l.drop 0) 0 [] [] [] 0 = some (r1, r2)) := ⟨hf⟩
  have P : Aside0 (BbI w w (.slice none 0 0) [] (.slice none 0 0) [] (.slice none 0 0) []) := ⟨⟨Kd.R_nil _ _ _ _ _, Kd.R_nil _ _ _ _ _, Kd.R_nil _ _ _ _ _, Below.refl _ _⟩⟩
  clear hf hln c3 c4
  go_upto_region 5 with fail
  clear d3 d4
  go_wp2_with fail
  go_loopg [6, 7, 8, 9, 25] (l.length + 1) (fun gf v6 v7 v8 v9 v25 wx => ∃ (i : Nat) (out last ms : List Int) (c : Nat), v9 = .int .u64 (c : Int) ∧ v25 = .int .i64 (i : Int) ∧ Aside0 (gf + i = l.length + 1 ∧ i ≤ l.length) ∧ Aside0 (bbk_l k m (bprev l i) (l.drop i) i out ms last c = some (r1, r2)) ∧ Aside0 (BbI w wx v6 out v8 ms v7 last))
  case atStart => exact ⟨0, [], [], [], 0, rfl, rfl, ⟨by omega, by omega⟩, HL, P⟩
  case round =>
    clear P HL
    obtain ⟨i, out, last, ms, c, rfl, rfl, HI, HL, P⟩ := hrel
    obtain ⟨Ao, co, eo⟩ := Kd.R_slice P.out.ro
    subst eo
    obtain ⟨Am, cm, em⟩ := Kd.R_slice P.out.rm
    subst em
    obtain ⟨Al, cl, el⟩ := Kd.R_slice P.out.rk
    subst el
    cases gk with
    | zero => exact absurd HI.out.1 (by have := HI.out.2; omega)
    | succ g1 =>
      by_cases ci : i < l.length
      · have c1b : decide ((i : Int) < (l.length : Int)) = true := decide_eq_true (by omega)
        have c1d := eq_true (show (i : Int) < (l.length : Int) by omega)
        have c1e := eq_true (show (0 : Int) ≤ (i : Int) by omega)
        obtain ⟨X, hX⟩ : ∃ x, rd_T47 l (i : Int) = x := ⟨_, rfl⟩
        have hdrop : l.drop i = X :: l.drop (i + 1) := by
          rw [List.drop_eq_getElem_cons ci, ← hX]
          simp [rd_T47, ci]
        have hlp := HL.out
        rw [hdrop] at hlp
        unfold bbk_l at hlp
        obtain ⟨⟨key, ke⟩, hkey, hlp⟩ := Option.bind_eq_some_iff.mp hlp
        dsimp only at hlp
        have HKEY := Aside0.mk hkey
        have HLP := Aside0.mk hlp
        have HPN : Aside0 (bprev l (i + 1) = some X) := ⟨by unfold bprev; rw [if_neg (by omega), Nat.add_sub_cancel, hX]⟩
        have HCI := Aside0.mk ci
        obtain ⟨al, eA, j1, j2, j3, j4⟩ := at_T47 HR0.out (i : Int) (Int.natCast_nonneg i) (by omega)
        subst eA
        rw [Int.toNat_natCast] at j1 j2 j3 j4
        rw [hX] at j1 j2 j3 j4
        have k1 := (P.out.hb.cell (World.block_lt_of_cell? _ _ j1)).trans j1
        have k2 := (P.out.hb.cell (World.block_lt_of_cell? _ _ j2)).trans j2
        have k3 := (P.out.hb.cell (World.block_lt_of_cell? _ _ j3)).trans j3
        have k4 := (P.out.hb.cell (World.block_lt_of_cell? _ _ j4)).trans j4
        have HW1 := Aside0.mk (bb_w1 i (by have := HLN.out; omega))
        clear hkey hlp ci hdrop HL hX j1 j2 j3 j4
        go_upto_region 8 with (first
          | ((with_reducible refine gate_dst (N := 11) rfl ?_); refine box_event ?hg (N := 11) ?hd (cs := #[.string (⟨#[]⟩ : ByteArray), .int .u64 0, .int .i64 0, .string (⟨#[]⟩ : ByteArray)]) (t := 47) ?hr ?_; (case hd => rfl); (case hg => rfl); (case hr => first | (go_simp; done) | (go_simp; rfl)); intro gb hg w3 hbox hb
             have BK := Aside0.mk hbox
             have HB2 := Aside0.mk hb
             have HGB : Aside0 (wr.heap.size ≤ gb) := ⟨by rw [hg]; exact Nat.le_refl _⟩
             clear hb hbox hg
             have hcz0 : w3.cell? ⟨gb, 0, none⟩ = some (.string (⟨#[]⟩ : ByteArray)) := (blk_cell BK.out 0).trans rfl
             have hcz1 : w3.cell? ⟨gb, 1, none⟩ = some (.int .u64 0) := (blk_cell BK.out 1).trans rfl
             have hcz2 : w3.cell? ⟨gb, 2, none⟩ = some (.int .i64 0) := (blk_cell BK.out 2).trans rfl
             have hcz3 : w3.cell? ⟨gb, 3, none⟩ = some (.string (⟨#[]⟩ : ByteArray)) := (blk_cell BK.out 3).trans rfl
             have hfz0 := blk_frozen BK.out 0
             have hfz1 := blk_frozen BK.out 1
             have hfz2 := blk_frozen BK.out 2
             have hfz3 := blk_frozen BK.out 3))
        obtain ⟨w4, hw4⟩ : ∃ w4, (((w3.setCell ⟨gb, 0, none⟩ (.string X.f0.f0)).setCell ⟨gb, 1, none⟩ (.int .u64 X.f0.f1)).setCell ⟨gb, 2, none⟩ (.int .i64 X.f0.f2)).setCell ⟨gb, 3, none⟩ (.string X.f1) = w4 := ⟨_, rfl⟩
        have BX4 : Aside0 (w4.heap[gb]? = some (bbObj X)) := ⟨by
          rw [← hw4]
          exact blk_put (cs := #[.string X.f0.f0, .int .u64 X.f0.f1, .int .i64 X.f0.f2, .string (⟨#[]⟩ : ByteArray)]) (blk_put (cs := #[.string X.f0.f0, .int .u64 X.f0.f1, .int .i64 0, .string (⟨#[]⟩ : ByteArray)]) (blk_put (cs := #[.string X.f0.f0, .int .u64 0, .int .i64 0, .string (⟨#[]⟩ : ByteArray)]) (blk_put (cs := #[.string (⟨#[]⟩ : ByteArray), .int .u64 0, .int .i64 0, .string (⟨#[]⟩ : ByteArray)]) BK.out 0 _ rfl) 1 _ rfl) 2 _ rfl) 3 _ rfl⟩
        have hbr4 : Below wr.heap.size wr w4 := by rw [← hw4]; exact below_set (below_set (below_set (below_set HB2.out HGB.out) HGB.out) HGB.out) HGB.out
        have P4 := Aside0.mk (P.out.below hbr4)
        have k5 : w4.cell? ⟨gb, 0, none⟩ = some (.string X.f0.f0) := (blk_cell BX4.out 0).trans rfl
        have k6 : w4.cell? ⟨gb, 1, none⟩ = some (.int .u64 X.f0.f1) := (blk_cell BX4.out 1).trans rfl
        have k7 : w4.cell? ⟨gb, 2, none⟩ = some (.int .i64 X.f0.f2) := (blk_cell BX4.out 2).trans rfl
        rw [hw4]
        clear hw4 hbr4 hcz0 hcz1 hcz2 hcz3 hfz0 hfz1 hfz2 hfz3 BK HB2 HGB k1 k2 k3 k4 P
        go_upto_block 2 with (first
          | (go_at_call 45; (with_reducible refine (ikey_Encode.calls k X.f0.f0 X.f0.f1 X.f0.f2 key ke _ HKEY.out).mono ?_; rintro ex w5 ⟨v5, rfl, hob, hb⟩)
             have P5 := Aside0.mk (P4.out.below hb)
             have PK5 := Aside0.mk (P4.out.key hob hb)
             have BX5 := Aside0.mk (blk_below BX4.out hb)
             obtain ⟨Ak, ck_, ek⟩ := Kd.R_slice hob
             subst ek
             clear hob hb))
        clear k5 k6 k7
        go_cut [] from 36 to 59 (fun wc => Aside0 (ke = 0) ∧ Aside0 (¬ 1000 < (X.f1.size : Int)) ∧ Aside0 (∃ q, bbk_q (bprev l i) X = some q ∧ ¬ 0 ≤ q) ∧ Aside0 (BbI w wc (.slice Ao out.length co) out (.slice Am ms.length cm) ms (.slice Al last.length cl) last) ∧ Aside0 (BbI w wc (.slice Ao out.length co) out (.slice Am ms.length cm) ms (.slice Ak key.length ck_) key) ∧ Aside0 (wc.heap[gb]? = some (bbObj X)))
        case first =>
          by_cases hbe : ke = 0
          case neg =>
            have e1 : (ke != 0) = true := bne_iff_ne.mpr hbe
            have hf := HLP.out
            rw [if_pos hbe] at hf
            injection hf with hf
            injection hf with h1 h2
            subst h1 h2
            clear hbe
            go_wp2
            go_ret2
            exact ⟨_, rfl, Kd.R_nil _ _ _ _ _, P5.out.hb⟩
          case pos =>
          subst hbe
          have hlp := HLP.out
          rw [if_neg (by simp)] at hlp
          have k4 : w5.cell? ⟨gb, 3, none⟩ = some (.string X.f1) := (blk_cell BX5.out 3).trans rfl
          by_cases hv : 1000 < (X.f1.size : Int)
          case pos =>
            have e1 : decide (1000 < (X.f1.size : Int)) = true := decide_eq_true hv
            have e2 : decide (1000 < X.f1.size) = true := decide_eq_true (by omega)
            rw [if_pos hv] at hlp
            injection hlp with hf
            injection hf with h1 h2
            subst h1 h2
            clear hv
            go_wp2
            go_ret2
            exact ⟨_, rfl, Kd.R_nil _ _ _ _ _, P5.out.hb⟩
          case neg =>
          rw [if_neg hv] at hlp
          obtain ⟨q, hq, hlp⟩ := Option.bind_eq_some_iff.mp hlp
          have e1 : decide (1000 < (X.f1.size : Int)) = false := decide_eq_false hv
          have e2 : decide (1000 < X.f1.size) = false := decide_eq_false (by omega)
          have HLQ := Aside0.mk hlp
          have HQ := Aside0.mk hq
          have HV := Aside0.mk hv
          clear hv hlp hq
          go_upto_region 13 with fail
          clear k4 e1 e2
          go_wp2_with fail
          by_cases hi0 : i = 0
          · subst hi0
            have hq := HQ.out
            have hp0 : bprev l 0 = none := rfl
            rw [hp0] at hq
            have hq1 : (-1 : Int) = q := Option.some.inj hq
            have d1 : decide (((0 : Nat) : Int) > 0) = false := by decide
            have d2 : decide (((0 : Nat) : Int) < 0) = false := by decide
            have HQN : Aside0 (¬ 0 ≤ q) := ⟨by omega⟩
            clear hq hp0 hq1
            refine start_ (n := 15) (S := fun w' => True) (ds := []) #[false, false, false, false, false, false, false, false, false, false, false, false, false, false, false] (by kernel_rfl) rfl rfl trivial (fun hHeld => ?_)
            refine pure_ (i := 0) (N := some 46) (v := ?_) (a' := ?_) #[true, false, false, false, false, false, false, false, false, false, false, false, false, false, false] rfl rfl (by kernel_rfl) (fun _ _ _ h => h) (Or.inl ⟨by rfl, ?_⟩) ?_ ?_
            rotate_left
            · intro w'
              go_simp
              with_reducible rfl
            rotate_left
            · simp only [Act.put, List.setIfInBounds_toArray, List.set_cons_zero, List.set_cons_succ, i64_w, i32_w]
              rfl
            refine pure_ (i := 1) (N := some 47) (v := ?_) (a' := ?_) #[true, true, false, false, false, false, false, false, false, false, false, false, false, false, false] rfl rfl (by kernel_rfl) (fun _ _ _ h => h) (Or.inl ⟨by rfl, ?_⟩) ?_ ?_
            rotate_left
            · intro w'
              go_simp
              with_reducible rfl
            rotate_left
            · simp only [Act.put, List.setIfInBounds_toArray, List.set_cons_zero, List.set_cons_succ, i64_w, i32_w]
              rfl
            refine pure_ (i := 2) (N := some 48) (v := ?_) (a' := ?_) #[true, true, true, false, false, false, false, false, false, false, false, false, false, false, false] rfl rfl (by kernel_rfl) (fun _ _ _ h => h) (Or.inl ⟨by rfl, ?_⟩) ?_ ?_
            rotate_left
            · intro w'
              go_simp
              with_reducible rfl
            rotate_left
            · simp only [Act.put, List.setIfInBounds_toArray, List.set_cons_zero, List.set_cons_succ, i64_w, i32_w]
              rfl
            refine pure_ (i := 3) (N := some 49) (v := undef) (a' := ?_) #[true, true, true, true, false, false, false, false, false, false, false, false, false, false, false] rfl rfl (by kernel_rfl) (fun _ _ _ h => h) (Or.inr ⟨by rfl, rfl⟩) ?_ ?_
            rotate_left
            · simp only [Act.put, List.setIfInBounds_toArray, List.set_cons_zero, List.set_cons_succ, i64_w, i32_w]
              rfl
            refine pure_ (i := 4) (N := some 50) (v := undef) (a' := ?_) #[true, true, true, true, true, false, false, false, false, false, false, false, false, false, false] rfl rfl (by kernel_rfl) (fun _ _ _ h => h) (Or.inr ⟨by rfl, rfl⟩) ?_ ?_
            rotate_left
            · simp only [Act.put, List.setIfInBounds_toArray, List.set_cons_zero, List.set_cons_succ, i64_w, i32_w]
              rfl
            refine pure_ (i := 5) (N := some 51) (v := undef) (a' := ?_) #[true, true, true, true, true, true, false, false, false, false, false, false, false, false, false] rfl rfl (by kernel_rfl) (fun _ _ _ h => h) (Or.inr ⟨by rfl, rfl⟩) ?_ ?_
            rotate_left
            · simp only [Act.put, List.setIfInBounds_toArray, List.set_cons_zero, List.set_cons_succ, i64_w, i32_w]
              rfl
            refine pure_ (i := 6) (N := some 52) (v := undef) (a' := ?_) #[true, true, true, true, true, true, true, false, false, false, false, false, false, false, false] rfl rfl (by kernel_rfl) (fun _ _ _ h => h) (Or.inr ⟨by rfl, rfl⟩) ?_ ?_
            rotate_left
            · simp only [Act.put, List.setIfInBounds_toArray, List.set_cons_zero, List.set_cons_succ, i64_w, i32_w]
              rfl
            refine pure_ (i := 7) (N := some 53) (v := undef) (a' := ?_) #[true, true, true, true, true, true, true, true, false, false, false, false, false, false, false] rfl rfl (by kernel_rfl) (fun _ _ _ h => h) (Or.inr ⟨by rfl, rfl⟩) ?_ ?_
            rotate_left
            · simp only [Act.put, List.setIfInBounds_toArray, List.set_cons_zero, List.set_cons_succ, i64_w, i32_w]
              rfl
            refine pure_ (i := 8) (N := some 54) (v := undef) (a' := ?_) #[true, true, true, true, true, true, true, true, true, false, false, false, false, false, false] rfl rfl (by kernel_rfl) (fun _ _ _ h => h) (Or.inr ⟨by rfl, rfl⟩) ?_ ?_
            rotate_left
            · simp only [Act.put, List.setIfInBounds_toArray, List.set_cons_zero, List.set_cons_succ, i64_w, i32_w]
              rfl
            refine pure_ (i := 9) (N := some 55) (v := undef) (a' := ?_) #[true, true, true, true, true, true, true, true, true, true, false, false, false, false, false] rfl rfl (by kernel_rfl) (fun _ _ _ h => h) (Or.inr ⟨by rfl, rfl⟩) ?_ ?_
            rotate_left
            · simp only [Act.put, List.setIfInBounds_toArray, List.set_cons_zero, List.set_cons_succ, i64_w, i32_w]
              rfl
            refine pure_ (i := 10) (N := some 56) (v := undef) (a' := ?_) #[true, true, true, true, true, true, true, true, true, true, true, false, false, false, false] rfl rfl (by kernel_rfl) (fun _ _ _ h => h) (Or.inr ⟨by rfl, rfl⟩) ?_ ?_
            rotate_left
            · simp only [Act.put, List.setIfInBounds_toArray, List.set_cons_zero, List.set_cons_succ, i64_w, i32_w]
              rfl
            refine pure_ (i := 11) (N := some 57) (v := undef) (a' := ?_) #[true, true, true, true, true, true, true, true, true, true, true, true, false, false, false] rfl rfl (by kernel_rfl) (fun _ _ _ h => h) (Or.inr ⟨by rfl, rfl⟩) ?_ ?_
            rotate_left
            · simp only [Act.put, List.setIfInBounds_toArray, List.set_cons_zero, List.set_cons_succ, i64_w, i32_w]
              rfl
            refine pure_ (i := 12) (N := some 58) (v := undef) (a' := ?_) #[true, true, true, true, true, true, true, true, true, true, true, true, true, false, false] rfl rfl (by kernel_rfl) (fun _ _ _ h => h) (Or.inr ⟨by rfl, rfl⟩) ?_ ?_
            rotate_left
            · simp only [Act.put, List.setIfInBounds_toArray, List.set_cons_zero, List.set_cons_succ, i64_w, i32_w]
              rfl
            refine pure_ (i := 13) (N := some 59) (v := ?_) (a' := ?_) #[true, true, true, true, true, true, true, true, true, true, true, true, true, true, false] rfl rfl (by kernel_rfl) (fun _ _ _ h => h) (Or.inl ⟨by rfl, ?_⟩) ?_ ?_
            rotate_left
            · intro w'
              go_simp
              with_reducible rfl
            rotate_left
            · simp only [Act.put, List.setIfInBounds_toArray, List.set_cons_zero, List.set_cons_succ, i64_w, i32_w]
              rfl
            refine pure_ (i := 14) (N := some 45) (v := ?_) (a' := ?_) #[true, true, true, true, true, true, true, true, true, true, true, true, true, true, true] rfl rfl (by kernel_rfl) (fun _ _ _ h => h) (Or.inl ⟨by rfl, ?_⟩) ?_ ?_
            rotate_left
            · intro w'
              go_simp
              with_reducible rfl
            rotate_left
            · simp only [Act.put, List.setIfInBounds_toArray, List.set_cons_zero, List.set_cons_succ, i64_w, i32_w]
              rfl
            refine done_ (by kernel_rfl) ?_
            have P6 := Aside0.mk (P5.out.below (below_drew1 (Below.refl _ _)))
            have PK6 := Aside0.mk (PK5.out.below (below_drew1 (Below.refl _ _)))
            have BX6 := Aside0.mk (blk_below BX5.out (below_drew1 (Below.refl _ _)))
            go_wp2
            go_meet
            case rel => exact ⟨⟨by trivial⟩, HV, ⟨q, HQ.out, HQN.out⟩, P6, PK6, BX6⟩
          · obtain ⟨z, hz⟩ : ∃ y, i - 1 = y := ⟨_, rfl⟩
            have hwz : wrap64 ((i : Int) - 1) = (z : Int) := by rw [← hz]; exact bb_m1 i (by have := HLN.out; have := HCI.out; omega) (by omega)
            obtain ⟨Y, hY⟩ : ∃ y, rd_T47 l (z : Int) = y := ⟨_, rfl⟩
            have hp0 : bprev l i = some Y := by unfold bprev; rw [if_neg hi0, hz, hY]
            have hq := HQ.out
            rw [hp0] at hq
            have HCV : Aside0 (ikey_Compare.f Y.f0.f0 Y.f0.f1 Y.f0.f2 X.f0.f0 X.f0.f1 X.f0.f2 = some q) := ⟨hq⟩
            have hzl : z < l.length := by have := HCI.out; omega
            have d1 : decide ((i : Int) > 0) = true := decide_eq_true (by omega)
            have d2 : decide (0 < (i : Int)) = true := decide_eq_true (by omega)
            have d2b : decide (0 < i) = true := decide_eq_true (by omega)
            have d3 := eq_true (show (z : Int) < (l.length : Int) by omega)
            have d4 := eq_true (show (0 : Int) ≤ (z : Int) by omega)
            obtain ⟨al2, eA2, m1, m2, m3, m4⟩ := at_T47 HR0.out (z : Int) (Int.natCast_nonneg z) (by omega)
            obtain rfl := Option.some.inj eA2
            rw [Int.toNat_natCast] at m1 m2 m3
            rw [hY] at m1 m2 m3
            have P6 := Aside0.mk (P5.out.below (below_drew1 (Below.refl _ _)))
            have PK6 := Aside0.mk (PK5.out.below (below_drew1 (Below.refl _ _)))
            have BX6 := Aside0.mk (blk_below BX5.out (below_drew1 (Below.refl _ _)))
            have k1 : w5.drew.cell? ⟨gb, 0, none⟩ = some (.string X.f0.f0) := (blk_cell BX6.out 0).trans rfl
            have k2 : w5.drew.cell? ⟨gb, 1, none⟩ = some (.int .u64 X.f0.f1) := (blk_cell BX6.out 1).trans rfl
            have k3 : w5.drew.cell? ⟨gb, 2, none⟩ = some (.int .i64 X.f0.f2) := (blk_cell BX6.out 2).trans rfl
            have k5 := (P6.out.hb.cell (World.block_lt_of_cell? _ _ m1)).trans m1
            have k6 := (P6.out.hb.cell (World.block_lt_of_cell? _ _ m2)).trans m2
            have k7 := (P6.out.hb.cell (World.block_lt_of_cell? _ _ m3)).trans m3
            clear hq hp0 hzl hz hi0 m1 m2 m3 m4 eA2 hY
            refine start_ (n := 15) (S := fun w' => w'.cell? ⟨gb, 0, none⟩ = some (.string X.f0.f0) ∧ w'.cell? ⟨gb, 1, none⟩ = some (.int .u64 X.f0.f1) ∧ w'.cell? ⟨gb, 2, none⟩ = some (.int .i64 X.f0.f2) ∧ w'.cell? (al.add (z * 4)) = some (.string Y.f0.f0) ∧ w'.cell? ⟨(al.add (z * 4)).block, (al.add (z * 4)).off + 1, none⟩ = some (.int .u64 Y.f0.f1) ∧ w'.cell? ⟨(al.add (z * 4)).block, (al.add (z * 4)).off + 2, none⟩ = some (.int .i64 Y.f0.f2)) (ds := []) #[false, false, false, false, false, false, false, false, false, false, false, false, false, false, false] (by kernel_rfl) rfl rfl ⟨(by exact k1), (by exact k2), (by exact k3), (by exact k5), (by exact k6), (by exact k7)⟩ (fun hHeld => ?_)
            refine pure_ (i := 0) (N := some 46) (v := ?_) (a' := ?_) #[true, false, false, false, false, false, false, false, false, false, false, false, false, false, false] rfl rfl (by kernel_rfl) (fun _ _ _ h => h) (Or.inl ⟨by rfl, ?_⟩) ?_ ?_
            rotate_left
            · intro w'
              go_simp
              with_reducible rfl
            rotate_left
            · simp only [Act.put, List.setIfInBounds_toArray, List.set_cons_zero, List.set_cons_succ, i64_w, i32_w]
              rfl
            refine pure_ (i := 1) (N := some 47) (v := ?_) (a' := ?_) #[true, true, false, false, false, false, false, false, false, false, false, false, false, false, false] rfl rfl (by kernel_rfl) (fun _ _ _ h => h) (Or.inl ⟨by rfl, ?_⟩) ?_ ?_
            rotate_left
            · intro w'
              go_simp
              with_reducible rfl
            rotate_left
            · simp only [Act.put, List.setIfInBounds_toArray, List.set_cons_zero, List.set_cons_succ, i64_w, i32_w]
              rfl
            refine pure_ (i := 2) (N := some 48) (v := ?_) (a' := ?_) #[true, true, true, false, false, false, false, false, false, false, false, false, false, false, false] rfl rfl (by kernel_rfl) (fun _ _ _ h => h) (Or.inl ⟨by rfl, ?_⟩) ?_ ?_
            rotate_left
            · intro w'
              go_simp
              with_reducible rfl
            rotate_left
            · simp only [Act.put, List.setIfInBounds_toArray, List.set_cons_zero, List.set_cons_succ, i64_w, i32_w]
              rfl
            refine pure_ (i := 3) (N := some 49) (v := ?_) (a' := ?_) #[true, true, true, true, false, false, false, false, false, false, false, false, false, false, false] rfl rfl (by kernel_rfl) (fun _ _ _ h => h) (Or.inl ⟨by rfl, ?_⟩) ?_ ?_
            rotate_left
            · intro w'
              go_simp
              with_reducible rfl
            rotate_left
            · simp only [Act.put, List.setIfInBounds_toArray, List.set_cons_zero, List.set_cons_succ, i64_w, i32_w]
              rfl
            refine pure_ (i := 4) (N := some 50) (v := ?_) (a' := ?_) #[true, true, true, true, true, false, false, false, false, false, false, false, false, false, false] rfl rfl (by kernel_rfl) (fun _ _ _ h => h) (Or.inl ⟨by rfl, ?_⟩) ?_ ?_
            rotate_left
            · intro w'
              go_simp
              with_reducible rfl
            rotate_left
            · simp only [Act.put, List.setIfInBounds_toArray, List.set_cons_zero, List.set_cons_succ, i64_w, i32_w]
              rfl
            refine pure_ (i := 5) (N := some 51) (v := ?_) (a' := ?_) #[true, true, true, true, true, true, false, false, false, false, false, false, false, false, false] rfl rfl (by kernel_rfl) (fun _ _ _ h => h) (Or.inl ⟨by rfl, ?_⟩) ?_ ?_
            rotate_left
            · intro w'
              go_simp
              with_reducible rfl
            rotate_left
            · simp only [Act.put, List.setIfInBounds_toArray, List.set_cons_zero, List.set_cons_succ, i64_w, i32_w]
              rfl
            refine pure_ (i := 6) (N := some 52) (v := ?_) (a' := ?_) #[true, true, true, true, true, true, true, false, false, false, false, false, false, false, false] rfl rfl (by kernel_rfl) (fun _ _ _ h => h) (Or.inl ⟨by rfl, ?_⟩) ?_ ?_
            rotate_left
            · intro w'
              go_simp
              with_reducible rfl
            rotate_left
            · simp only [Act.put, List.setIfInBounds_toArray, List.set_cons_zero, List.set_cons_succ, i64_w, i32_w]
              rfl
            refine pure_ (i := 7) (N := some 53) (v := ?_) (a' := ?_) #[true, true, true, true, true, true, true, true, false, false, false, false, false, false, false] rfl rfl (by kernel_rfl) (fun _ _ _ h => h) (Or.inl ⟨by rfl, ?_⟩) ?_ ?_
            rotate_left
            · intro w'
              go_simp
              with_reducible rfl
            rotate_left
            · simp only [Act.put, List.setIfInBounds_toArray, List.set_cons_zero, List.set_cons_succ, i64_w, i32_w]
              rfl
            refine pure_ (i := 9) (N := some 55) (v := ?_) (a' := ?_) #[true, true, true, true, true, true, true, true, false, true, false, false, false, false, false] rfl rfl (by kernel_rfl) (fun _ _ _ h => h) (Or.inl ⟨by rfl, ?_⟩) ?_ ?_
            rotate_left
            · intro w'
              go_simp
              with_reducible rfl
            rotate_left
            · simp only [Act.put, List.setIfInBounds_toArray, List.set_cons_zero, List.set_cons_succ, i64_w, i32_w]
              rfl
            refine take_ (i := 8) (N := some 54) (v := ?_) (a' := ?_) #[true, true, true, true, true, true, true, true, true, true, false, false, false, false, false] rfl rfl (by kernel_rfl) (fun _ _ _ h => h) (Or.inl ⟨by rfl, ?_⟩) hHeld ?_ ?_
            rotate_left
            · rintro w' ⟨s0, s1, s2, s3, s4, s5⟩
              go_simp
              with_reducible rfl
            rotate_left
            · simp only [Act.put, List.setIfInBounds_toArray, List.set_cons_zero, List.set_cons_succ, i64_w, i32_w]
              rfl
            refine take_ (i := 10) (N := some 56) (v := ?_) (a' := ?_) #[true, true, true, true, true, true, true, true, true, true, true, false, false, false, false] rfl rfl (by kernel_rfl) (fun _ _ _ h => h) (Or.inl ⟨by rfl, ?_⟩) hHeld ?_ ?_
            rotate_left
            · rintro w' ⟨s0, s1, s2, s3, s4, s5⟩
              go_simp
              with_reducible rfl
            rotate_left
            · simp only [Act.put, List.setIfInBounds_toArray, List.set_cons_zero, List.set_cons_succ, i64_w, i32_w]
              rfl
            refine one_ (i := 11) (N := some 57) #[true, true, true, true, true, true, true, true, true, true, true, true, false, false, false] rfl rfl (by kernel_rfl) (by decide) (fun K hK => ?_)
            refine goes_ Try.func39 (by kernel_rfl) rfl #[.agg #[.string Y.f0.f0, .int .u64 Y.f0.f1, .int .i64 Y.f0.f2], .agg #[.string X.f0.f0, .int .u64 X.f0.f1, .int .i64 X.f0.f2]] (by rfl) rfl rfl (by simp only [List.map_toArray, List.map_cons, List.map_nil]; rfl) ?_
            with_reducible refine (ikey_Compare.calls Y.f0.f0 Y.f0.f1 Y.f0.f2 X.f0.f0 X.f0.f1 X.f0.f2 q _ HCV.out).mono ?_
            rintro ex w9 ⟨rfl, hb⟩
            refine ⟨_, rfl, ?_⟩
            have P9 := Aside0.mk (P6.out.below hb)
            have PK9 := Aside0.mk (PK6.out.below hb)
            have BX9 := Aside0.mk (blk_below BX6.out hb)
            refine hK.out _ _ ⟨(hb.cell (World.block_lt_of_cell? _ _ hHeld.1)).trans hHeld.1, (hb.cell (World.block_lt_of_cell? _ _ hHeld.2.1)).trans hHeld.2.1, (hb.cell (World.block_lt_of_cell? _ _ hHeld.2.2.1)).trans hHeld.2.2.1, (hb.cell (World.block_lt_of_cell? _ _ hHeld.2.2.2.1)).trans hHeld.2.2.2.1, (hb.cell (World.block_lt_of_cell? _ _ hHeld.2.2.2.2.1)).trans hHeld.2.2.2.2.1, (hb.cell (World.block_lt_of_cell? _ _ hHeld.2.2.2.2.2)).trans hHeld.2.2.2.2.2⟩ (fun hHeld => ?_)
            clear hK K
            refine norm_ (a' := ?_) ?_ ?_
            rotate_left
            · show Act.put _ (some 57) _ = _
              simp only [Act.put, List.setIfInBounds_toArray, List.set_cons_zero, List.set_cons_succ, i64_w, i32_w]
              rfl
            refine pure_ (i := 12) (N := some 58) (v := ?_) (a' := ?_) #[true, true, true, true, true, true, true, true, true, true, true, true, true, false, false] rfl rfl (by kernel_rfl) (fun _ _ _ h => h) (Or.inl ⟨by rfl, ?_⟩) ?_ ?_
            rotate_left
            · intro w'
              go_simp
              with_reducible rfl
            rotate_left
            · simp only [Act.put, List.setIfInBounds_toArray, List.set_cons_zero, List.set_cons_succ, i64_w, i32_w]
              rfl
            refine pure_ (i := 13) (N := some 59) (v := ?_) (a' := ?_) #[true, true, true, true, true, true, true, true, true, true, true, true, true, true, false] rfl rfl (by kernel_rfl) (fun _ _ _ h => h) (Or.inl ⟨by rfl, ?_⟩) ?_ ?_
            rotate_left
            · intro w'
              go_simp
              with_reducible rfl
            rotate_left
            · simp only [Act.put, List.setIfInBounds_toArray, List.set_cons_zero, List.set_cons_succ, i64_w, i32_w]
              rfl
            refine pure_ (i := 14) (N := some 45) (v := ?_) (a' := ?_) #[true, true, true, true, true, true, true, true, true, true, true, true, true, true, true] rfl rfl (by kernel_rfl) (fun _ _ _ h => h) (Or.inl ⟨by rfl, ?_⟩) ?_ ?_
            rotate_left
            · intro w'
              go_simp
              with_reducible rfl
            rotate_left
            · simp only [Act.put, List.setIfInBounds_toArray, List.set_cons_zero, List.set_cons_succ, i64_w, i32_w]
              rfl
            refine done_ (by kernel_rfl) ?_
            clear k1 k2 k3 k5 k6 k7 d1 d2 d2b d3 d4 hwz
            by_cases hc : 0 ≤ q
            · have hlr := HLQ.out
              rw [if_pos hc] at hlr
              injection hlr with hf
              injection hf with h1 h2
              subst h1 h2
              have HC := Aside0.mk hc
              clear hc
              go_wp2
              all_goals try (exfalso; have := HC.out; omega)
              go_ret2
              exact ⟨_, rfl, Kd.R_nil _ _ _ _ _, P9.out.hb⟩
            · have HC := Aside0.mk hc
              clear hc
              go_wp2
              all_goals try (exfalso; have := HC.out; omega)
              go_meet
              case rel => exact ⟨⟨by trivial⟩, HV, ⟨q, HQ.out, HC.out⟩, P9, PK9, BX9⟩
        case rest =>
        obtain ⟨hke, hv, hq, PL, PK, BX⟩ := hcut
        clear P4 P5 PK5 BX4 BX5
        have hk0 := hke.out
        subst hk0
        have hlp := HLP.out
        rw [if_neg (by simp), if_neg hv.out] at hlp
        obtain ⟨q, hq1, hq2⟩ := hq.out
        rw [hq1, Option.bind_some, if_neg hq2] at hlp
        split at hlp
        case isFalse => cases hlp
        rename_i hgd
        obtain ⟨ms2, hmk, hlp⟩ := Option.bind_eq_some_iff.mp hlp
        obtain ⟨out2, hrow, hlp⟩ := Option.bind_eq_some_iff.mp hlp
        obtain ⟨rm, hrm⟩ : ∃ y : Nat, i % m = y := ⟨_, rfl⟩
        unfold bbk_mk at hmk
        rw [hrm] at hmk hrow hlp
        have hmod : Int.tmod (i : Int) (m : Int) = (rm : Int) := by rw [← hrm]; exact bb_mod i m (by have := HIV.out; omega)
        have hmz : ((m : Int) == 0) = false := by rw [beq_eq_false_iff_ne]; have := HIV.out; omega
        have hmz2 : (m == 0) = false := by rw [beq_eq_false_iff_ne]; have := HIV.out; omega
        have hmz3 : ((m : Int) = 0) = False := eq_false (by have := HIV.out; omega)
        have hmz4 : (m = 0) = False := eq_false (by have := HIV.out; omega)
        obtain ⟨N, hN⟩ : ∃ y : Nat, (if rm = 0 then 0 else shp last key) = y := ⟨_, rfl⟩
        obtain ⟨c2, hc2⟩ : ∃ y : Nat, (if rm = 0 then c + 1 else c) = y := ⟨_, rfl⟩
        rw [hN] at hrow
        rw [hc2] at hlp
        have HGD := Aside0.mk hgd
        have HROW := Aside0.mk hrow
        have HLR := Aside0.mk hlp
        have HMK0 := Aside0.mk hmk
        have HNN := Aside0.mk hN
        have HC2 := Aside0.mk hc2
        have HNL : Aside0 (N ≤ key.length) := ⟨by rw [← hN]; split; omega; exact (shp_le _ _).2⟩
        clear hrm hN hc2 hgd hrow hlp hmk hq1 hq2 hq hv hke HLP
        go_upto_if 63 with fail
        clear hmod hmz hmz2 hmz3 hmz4
        go_cut [8, 9, 14] from 60 to 94 (fun v8 v9 v14 wc => v14 = .int .i64 (N : Int) ∧ v9 = .int .u64 (c2 : Int) ∧ Aside0 (BbI w wc (.slice Ao out.length co) out v8 ms2 (.slice Ak key.length ck_) key) ∧ Aside0 (wc.heap[gb]? = some (bbObj X)))
        case first =>
          by_cases cr : rm = 0
          · have cr1 : ((rm : Int) == 0) = true := by rw [cr]; rfl
            have cr2 : (rm == 0) = true := by rw [cr]; rfl
            have hmk := HMK0.out
            rw [if_pos cr] at hmk
            obtain ⟨mm, hm1, hmk⟩ := Option.bind_eq_some_iff.mp hmk
            split at hmk
            case isFalse => cases hmk
            rename_i hml
            have HM1 := Aside0.mk hm1
            have HML := Aside0.mk hml
            have HME := Aside0.mk (Option.some.inj hmk)
            have HE2 : Aside0 (N = 0) := ⟨by rw [← HNN.out, if_pos cr]⟩
            have HE3 : Aside0 (c2 = c + 1) := ⟨by rw [← HC2.out, if_pos cr]⟩
            have hu1 := bb_u1 c HGD.out.2.2
            have HU1 := Aside0.mk hu1
            clear cr hmk hm1 hml hu1
            go_wp2_with (first
              | (go_at_call 23; (with_reducible refine (bpf_nil k (IntKind.u64.wrap (out.length : Int)) mm _ HM1.out).mono ?_; rintro ex w6 ⟨v6, rfl, hob, hb⟩)
                 have PK6 := Aside0.mk (PK.out.below hb)
                 have BX6 := Aside0.mk (blk_below BX.out hb)
                 have RM6 := Aside0.mk hob
                 obtain ⟨Ap, cp, ep⟩ := Kd.R_slice hob
                 subst ep
                 clear hob hb)
              | ((with_reducible refine gate_builtin (b := .append) (xs := #[.tmp 64, .tmp 68]) rfl ?_); at_builtin; (refine Kd.R_append_rows (Kd.int .u8) (w0 := w) w.heap.size rfl (.tmp 64) (.tmp 68) 27 5 (.int .u8 0) 1 rfl Try.underlying27 info5 rfl (by decide) (by omega) (.slice Am ms.length cm) ms mm _ _ _ (fun q => some q ≠ (Value.slice Ao out.length co).ownBlock ∧ True) (fun _ => False) rfl rfl PK6.out.rm (Kd.R_reads' RM6.out).2.2 (fun _ _ h => h) (fun _ h => h.elim) (fun q hq => ⟨fun e => by have := Kd.R_lt PK6.out.ro q e.symm; omega, trivial⟩) PK6.out.hb (below_size PK6.out.hb) (by have := HML.out; omega) ?_)
                 intro v7 w7 ho hb hg hat
                 rw [HME.out] at ho
                 have PK7 := Aside0.mk (PK6.out.mark ho hb hg hat)
                 have BX7 := Aside0.mk (bbObj_app BX6.out PK6.out.rm hg)
                 clear ho hb hg hat))
            go_meet
            case rel => exact ⟨by rw [HE2.out]; rfl, by rw [HU1.out, HE3.out], PK7, BX7⟩
          · have cr1 : ((rm : Int) == 0) = false := by rw [beq_eq_false_iff_ne]; omega
            have cr2 : (rm == 0) = false := by rw [beq_eq_false_iff_ne]; omega
            have hmk := HMK0.out
            rw [if_neg cr] at hmk
            have HMK : Aside0 (ms2 = ms) := ⟨(Option.some.inj hmk).symm⟩
            have HRM := Aside0.mk cr
            have HS0 : Aside0 (shp last key = 0 + shp (last.drop 0) (key.drop 0)) := ⟨by rw [List.drop_zero, List.drop_zero, Nat.zero_add]⟩
            clear cr hmk
            go_wp2_with fail
            go_loopg [14] (last.length + 1) (fun gf v14 wx => ∃ n : Nat, v14 = .int .i64 (n : Int) ∧ Aside0 (gf + n = last.length + 1 ∧ n ≤ last.length ∧ n ≤ key.length) ∧ Aside0 (shp last key = n + shp (last.drop n) (key.drop n)) ∧ Aside0 (BbI w wx (.slice Ao out.length co) out (.slice Am ms.length cm) ms (.slice Al last.length cl) last) ∧ Aside0 (BbI w wx (.slice Ao out.length co) out (.slice Am ms.length cm) ms (.slice Ak key.length ck_) key) ∧ Aside0 (wx.heap[gb]? = some (bbObj X)))
            case atStart => exact ⟨0, rfl, ⟨by omega, by omega, by omega⟩, HS0, PL, PK, BX⟩
            case round =>
              clear HS0 PL PK BX
              obtain ⟨n, rfl, HJ, HS, PL, PK, BX⟩ := hrel
              have PL1 := Aside0.mk (PL.out.below (below_drew1 (Below.refl _ _)))
              have PK1 := Aside0.mk (PK.out.below (below_drew1 (Below.refl _ _)))
              have BX1 := Aside0.mk (blk_below BX.out (below_drew1 (Below.refl _ _)))
              cases gk with
              | zero => exact absurd HJ.out.1 (by have := HJ.out.2; omega)
              | succ g2 =>
                by_cases ca : n < last.length
                · have a1 : decide ((n : Int) < (last.length : Int)) = true := decide_eq_true (by omega)
                  have a2 : decide (n < last.length) = true := decide_eq_true ca
                  by_cases cb : n < key.length
                  · have b1 : decide ((n : Int) < (key.length : Int)) = true := decide_eq_true (by omega)
                    have b2 : decide (n < key.length) = true := decide_eq_true cb
                    have a3 := eq_true (show (n : Int) < (last.length : Int) by omega)
                    have b3 := eq_true (show (n : Int) < (key.length : Int) by omega)
                    have b4 := eq_true (show (0 : Int) ≤ (n : Int) by omega)
                    obtain ⟨ala, eA, hca⟩ := Kd.at_int (Kd.R_reads' PL1.out.rk).2.2 (n : Int) (by omega) (by omega)
                    obtain ⟨aka, eK, hck⟩ := Kd.at_int (Kd.R_reads' PK1.out.rk).2.2 (n : Int) (by omega) (by omega)
                    subst eA
                    subst eK
                    rw [Int.toNat_natCast] at hca hck
                    obtain ⟨xa, hxa⟩ : ∃ y, rd last (n : Int) = y := ⟨_, rfl⟩
                    obtain ⟨xb, hxb⟩ : ∃ y, rd key (n : Int) = y := ⟨_, rfl⟩
                    rw [hxa] at hca
                    rw [hxb] at hck
                    have k1 := hca
                    have k2 := hck
                    have hda : last.drop n = xa :: last.drop (n + 1) := by
                      rw [List.drop_eq_getElem_cons ca, ← hxa]
                      simp [rd, ca]
                    have hdb : key.drop n = xb :: key.drop (n + 1) := by
                      rw [List.drop_eq_getElem_cons cb, ← hxb]
                      simp [rd, cb]
                    have hs := HS.out
                    rw [hda, hdb] at hs
                    simp only [shp] at hs
                    have HSS := Aside0.mk hs
                    have HCA := Aside0.mk ca
                    have HCB := Aside0.mk cb
                    have HW := Aside0.mk (bb_w1 n (by have := HGD.out.1; omega))
                    clear hs hda hdb hxa hxb hca hck ca cb
                    go_upto_region 19 with fail
                    go_wp2_with fail
                    refine start_ (n := 21) (S := fun w' => w'.cell? (ala.add n) = some (.int .u8 xa) ∧ w'.cell? (aka.add n) = some (.int .u8 xb)) (ds := []) #[false, false, false, false, false, false, false, false, false, false, false, false, false, false, false, false, false, false, false, false, false] (by kernel_rfl) rfl rfl ⟨(by exact k1), (by exact k2)⟩ (fun hHeld => ?_)
                    refine pure_ (i := 0) (N := some 72) (v := ?_) (a' := ?_) #[true, false, false, false, false, false, false, false, false, false, false, false, false, false, false, false, false, false, false, false, false] rfl rfl (by kernel_rfl) (fun _ _ _ h => h) (Or.inl ⟨by rfl, ?_⟩) ?_ ?_
                    rotate_left
                    · intro w'
                      go_simp
                      with_reducible rfl
                    rotate_left
                    · simp only [Act.put, List.setIfInBounds_toArray, List.set_cons_zero, List.set_cons_succ, i64_w, i32_w]
                      rfl
                    refine pure_ (i := 1) (N := some 73) (v := ?_) (a' := ?_) #[true, true, false, false, false, false, false, false, false, false, false, false, false, false, false, false, false, false, false, false, false] rfl rfl (by kernel_rfl) (fun _ _ _ h => h) (Or.inl ⟨by rfl, ?_⟩) ?_ ?_
                    rotate_left
                    · intro w'
                      go_simp
                      with_reducible rfl
                    rotate_left
                    · simp only [Act.put, List.setIfInBounds_toArray, List.set_cons_zero, List.set_cons_succ, i64_w, i32_w]
                      rfl
                    refine pure_ (i := 2) (N := some 74) (v := ?_) (a' := ?_) #[true, true, true, false, false, false, false, false, false, false, false, false, false, false, false, false, false, false, false, false, false] rfl rfl (by kernel_rfl) (fun _ _ _ h => h) (Or.inl ⟨by rfl, ?_⟩) ?_ ?_
                    rotate_left
                    · intro w'
                      go_simp
                      with_reducible rfl
                    rotate_left
                    · simp only [Act.put, List.setIfInBounds_toArray, List.set_cons_zero, List.set_cons_succ, i64_w, i32_w]
                      rfl
                    refine pure_ (i := 3) (N := some 75) (v := ?_) (a' := ?_) #[true, true, true, true, false, false, false, false, false, false, false, false, false, false, false, false, false, false, false, false, false] rfl rfl (by kernel_rfl) (fun _ _ _ h => h) (Or.inl ⟨by rfl, ?_⟩) ?_ ?_
                    rotate_left
                    · intro w'
                      go_simp
                      with_reducible rfl
                    rotate_left
                    · simp only [Act.put, List.setIfInBounds_toArray, List.set_cons_zero, List.set_cons_succ, i64_w, i32_w]
                      rfl
                    refine pure_ (i := 4) (N := some 76) (v := ?_) (a' := ?_) #[true, true, true, true, true, false, false, false, false, false, false, false, false, false, false, false, false, false, false, false, false] rfl rfl (by kernel_rfl) (fun _ _ _ h => h) (Or.inl ⟨by rfl, ?_⟩) ?_ ?_
                    rotate_left
                    · intro w'
                      go_simp
                      with_reducible rfl
                    rotate_left
                    · simp only [Act.put, List.setIfInBounds_toArray, List.set_cons_zero, List.set_cons_succ, i64_w, i32_w]
                      rfl
                    refine pure_ (i := 5) (N := some 77) (v := ?_) (a' := ?_) #[true, true, true, true, true, true, false, false, false, false, false, false, false, false, false, false, false, false, false, false, false] rfl rfl (by kernel_rfl) (fun _ _ _ h => h) (Or.inl ⟨by rfl, ?_⟩) ?_ ?_
                    rotate_left
                    · intro w'
                      go_simp
                      with_reducible rfl
                    rotate_left
                    · simp only [Act.put, List.setIfInBounds_toArray, List.set_cons_zero, List.set_cons_succ, i64_w, i32_w]
                      rfl
                    refine pure_ (i := 6) (N := some 78) (v := ?_) (a' := ?_) #[true, true, true, true, true, true, true, false, false, false, false, false, false, false, false, false, false, false, false, false, false] rfl rfl (by kernel_rfl) (fun _ _ _ h => h) (Or.inl ⟨by rfl, ?_⟩) ?_ ?_
                    rotate_left
                    · intro w'
                      go_simp
                      with_reducible rfl
                    rotate_left
                    · simp only [Act.put, List.setIfInBounds_toArray, List.set_cons_zero, List.set_cons_succ, i64_w, i32_w]
                      rfl
                    refine pure_ (i := 7) (N := some 79) (v := ?_) (a' := ?_) #[true, true, true, true, true, true, true, true, false, false, false, false, false, false, false, false, false, false, false, false, false] rfl rfl (by kernel_rfl) (fun _ _ _ h => h) (Or.inl ⟨by rfl, ?_⟩) ?_ ?_
                    rotate_left
                    · intro w'
                      go_simp
                      with_reducible rfl
                    rotate_left
                    · simp only [Act.put, List.setIfInBounds_toArray, List.set_cons_zero, List.set_cons_succ, i64_w, i32_w]
                      rfl
                    refine pure_ (i := 8) (N := some 80) (v := ?_) (a' := ?_) #[true, true, true, true, true, true, true, true, true, false, false, false, false, false, false, false, false, false, false, false, false] rfl rfl (by kernel_rfl) (fun _ _ _ h => h) (Or.inl ⟨by rfl, ?_⟩) ?_ ?_
                    rotate_left
                    · intro w'
                      go_simp
                      with_reducible rfl
                    rotate_left
                    · simp only [Act.put, List.setIfInBounds_toArray, List.set_cons_zero, List.set_cons_succ, i64_w, i32_w]
                      rfl
                    refine pure_ (i := 9) (N := some 81) (v := ?_) (a' := ?_) #[true, true, true, true, true, true, true, true, true, true, false, false, false, false, false, false, false, false, false, false, false] rfl rfl (by kernel_rfl) (fun _ _ _ h => h) (Or.inl ⟨by rfl, ?_⟩) ?_ ?_
                    rotate_left
                    · intro w'
                      go_simp
                      with_reducible rfl
                    rotate_left
                    · simp only [Act.put, List.setIfInBounds_toArray, List.set_cons_zero, List.set_cons_succ, i64_w, i32_w]
                      rfl
                    refine pure_ (i := 10) (N := some 82) (v := ?_) (a' := ?_) #[true, true, true, true, true, true, true, true, true, true, true, false, false, false, false, false, false, false, false, false, false] rfl rfl (by kernel_rfl) (fun _ _ _ h => h) (Or.inl ⟨by rfl, ?_⟩) ?_ ?_
                    rotate_left
                    · intro w'
                      go_simp
                      with_reducible rfl
                    rotate_left
                    · simp only [Act.put, List.setIfInBounds_toArray, List.set_cons_zero, List.set_cons_succ, i64_w, i32_w]
                      rfl
                    refine pure_ (i := 11) (N := some 83) (v := ?_) (a' := ?_) #[true, true, true, true, true, true, true, true, true, true, true, true, false, false, false, false, false, false, false, false, false] rfl rfl (by kernel_rfl) (fun _ _ _ h => h) (Or.inl ⟨by rfl, ?_⟩) ?_ ?_
                    rotate_left
                    · intro w'
                      go_simp
                      with_reducible rfl
                    rotate_left
                    · simp only [Act.put, List.setIfInBounds_toArray, List.set_cons_zero, List.set_cons_succ, i64_w, i32_w]
                      rfl
                    refine pure_ (i := 12) (N := some 84) (v := ?_) (a' := ?_) #[true, true, true, true, true, true, true, true, true, true, true, true, true, false, false, false, false, false, false, false, false] rfl rfl (by kernel_rfl) (fun _ _ _ h => h) (Or.inl ⟨by rfl, ?_⟩) ?_ ?_
                    rotate_left
                    · intro w'
                      go_simp
                      with_reducible rfl
                    rotate_left
                    · simp only [Act.put, List.setIfInBounds_toArray, List.set_cons_zero, List.set_cons_succ, i64_w, i32_w]
                      rfl
                    refine pure_ (i := 13) (N := some 85) (v := ?_) (a' := ?_) #[true, true, true, true, true, true, true, true, true, true, true, true, true, true, false, false, false, false, false, false, false] rfl rfl (by kernel_rfl) (fun _ _ _ h => h) (Or.inl ⟨by rfl, ?_⟩) ?_ ?_
                    rotate_left
                    · intro w'
                      go_simp
                      with_reducible rfl
                    rotate_left
                    · simp only [Act.put, List.setIfInBounds_toArray, List.set_cons_zero, List.set_cons_succ, i64_w, i32_w]
                      rfl
                    refine pure_ (i := 15) (N := some 87) (v := ?_) (a' := ?_) #[true, true, true, true, true, true, true, true, true, true, true, true, true, true, false, true, false, false, false, false, false] rfl rfl (by kernel_rfl) (fun _ _ _ h => h) (Or.inl ⟨by rfl, ?_⟩) ?_ ?_
                    rotate_left
                    · intro w'
                      go_simp
                      with_reducible rfl
                    rotate_left
                    · simp only [Act.put, List.setIfInBounds_toArray, List.set_cons_zero, List.set_cons_succ, i64_w, i32_w]
                      rfl
                    refine pure_ (i := 16) (N := some 88) (v := ?_) (a' := ?_) #[true, true, true, true, true, true, true, true, true, true, true, true, true, true, false, true, true, false, false, false, false] rfl rfl (by kernel_rfl) (fun _ _ _ h => h) (Or.inl ⟨by rfl, ?_⟩) ?_ ?_
                    rotate_left
                    · intro w'
                      go_simp
                      with_reducible rfl
                    rotate_left
                    · simp only [Act.put, List.setIfInBounds_toArray, List.set_cons_zero, List.set_cons_succ, i64_w, i32_w]
                      rfl
                    refine pure_ (i := 17) (N := some 89) (v := ?_) (a' := ?_) #[true, true, true, true, true, true, true, true, true, true, true, true, true, true, false, true, true, true, false, false, false] rfl rfl (by kernel_rfl) (fun _ _ _ h => h) (Or.inl ⟨by rfl, ?_⟩) ?_ ?_
                    rotate_left
                    · intro w'
                      go_simp
                      with_reducible rfl
                    rotate_left
                    · simp only [Act.put, List.setIfInBounds_toArray, List.set_cons_zero, List.set_cons_succ, i64_w, i32_w]
                      rfl
                    refine take_ (i := 14) (N := some 86) (v := ?_) (a' := ?_) #[true, true, true, true, true, true, true, true, true, true, true, true, true, true, true, true, true, true, false, false, false] rfl rfl (by kernel_rfl) (fun _ _ _ h => h) (Or.inl ⟨by rfl, ?_⟩) hHeld ?_ ?_
                    rotate_left
                    · rintro w' ⟨s0, s1⟩
                      go_simp
                      with_reducible rfl
                    rotate_left
                    · simp only [Act.put, List.setIfInBounds_toArray, List.set_cons_zero, List.set_cons_succ, i64_w, i32_w]
                      rfl
                    refine take_ (i := 18) (N := some 90) (v := ?_) (a' := ?_) #[true, true, true, true, true, true, true, true, true, true, true, true, true, true, true, true, true, true, true, false, false] rfl rfl (by kernel_rfl) (fun _ _ _ h => h) (Or.inl ⟨by rfl, ?_⟩) hHeld ?_ ?_
                    rotate_left
                    · rintro w' ⟨s0, s1⟩
                      go_simp
                      with_reducible rfl
                    rotate_left
                    · simp only [Act.put, List.setIfInBounds_toArray, List.set_cons_zero, List.set_cons_succ, i64_w, i32_w]
                      rfl
                    refine pure_ (i := 19) (N := some 91) (v := ?_) (a' := ?_) #[true, true, true, true, true, true, true, true, true, true, true, true, true, true, true, true, true, true, true, true, false] rfl rfl (by kernel_rfl) (fun _ _ _ h => h) (Or.inl ⟨by rfl, ?_⟩) ?_ ?_
                    rotate_left
                    · intro w'
                      go_simp
                      with_reducible rfl
                    rotate_left
                    · simp only [Act.put, List.setIfInBounds_toArray, List.set_cons_zero, List.set_cons_succ, i64_w, i32_w]
                      rfl
                    refine pure_ (i := 20) (N := some 92) (v := ?_) (a' := ?_) #[true, true, true, true, true, true, true, true, true, true, true, true, true, true, true, true, true, true, true, true, true] rfl rfl (by kernel_rfl) (fun _ _ _ h => h) (Or.inl ⟨by rfl, ?_⟩) ?_ ?_
                    rotate_left
                    · intro w'
                      go_simp
                      with_reducible rfl
                    rotate_left
                    · simp only [Act.put, List.setIfInBounds_toArray, List.set_cons_zero, List.set_cons_succ, i64_w, i32_w]
                      rfl
                    refine done_ (by kernel_rfl) ?_
                    by_cases cx : xa = xb
                    · have x1 : (xa == xb) = true := beq_iff_eq.mpr cx
                      have hs := HSS.out
                      rw [if_pos cx] at hs
                      have HSN : Aside0 (shp last key = (n + 1) + shp (last.drop (n + 1)) (key.drop (n + 1))) := ⟨by omega⟩
                      clear hs cx a1 a2 a3 b1 b2 b3 b4 k1 k2
                      go_wp2
                      simp only [HW.out]
                      go_roundg g2
                      case measure => omega
                      case rel => exact ⟨n + 1, rfl, ⟨by have := HJ.out.1; omega, HCA.out, HCB.out⟩, HSN, PL1, PK1, BX1⟩
                    · have x1 : (xa == xb) = false := by rw [beq_eq_false_iff_ne]; exact cx
                      have hs := HSS.out
                      rw [if_neg cx] at hs
                      have HNE : Aside0 (shp last key = n) := ⟨by omega⟩
                      clear hs cx a1 a2 a3 b1 b2 b3 b4 k1 k2
                      go_wp2
                      go_meet
                      case rel => exact ⟨by rw [← HNN.out, if_neg HRM.out, HNE.out], by rw [← HC2.out, if_neg HRM.out], by rw [HMK.out]; exact PK1, BX1⟩
                  · have b1 : decide ((n : Int) < (key.length : Int)) = false := decide_eq_false (by omega)
                    have b2 : decide (n < key.length) = false := decide_eq_false cb
                    have HNE : Aside0 (shp last key = n) := ⟨by have h1 := HS.out; have h2 := (shp_le (last.drop n) (key.drop n)).2; rw [List.length_drop] at h2; omega⟩
                    clear ca cb
                    go_upto_region 19 with fail
                    go_wp2_with fail
                    refine start_ (n := 21) (S := fun w' => True) (ds := []) #[false, false, false, false, false, false, false, false, false, false, false, false, false, false, false, false, false, false, false, false, false] (by kernel_rfl) rfl rfl trivial (fun hHeld => ?_)
                    refine pure_ (i := 0) (N := some 72) (v := ?_) (a' := ?_) #[true, false, false, false, false, false, false, false, false, false, false, false, false, false, false, false, false, false, false, false, false] rfl rfl (by kernel_rfl) (fun _ _ _ h => h) (Or.inl ⟨by rfl, ?_⟩) ?_ ?_
                    rotate_left
                    · intro w'
                      go_simp
                      with_reducible rfl
                    rotate_left
                    · simp only [Act.put, List.setIfInBounds_toArray, List.set_cons_zero, List.set_cons_succ, i64_w, i32_w]
                      rfl
                    refine pure_ (i := 1) (N := some 73) (v := ?_) (a' := ?_) #[true, true, false, false, false, false, false, false, false, false, false, false, false, false, false, false, false, false, false, false, false] rfl rfl (by kernel_rfl) (fun _ _ _ h => h) (Or.inl ⟨by rfl, ?_⟩) ?_ ?_
                    rotate_left
                    · intro w'
                      go_simp
                      with_reducible rfl
                    rotate_left
                    · simp only [Act.put, List.setIfInBounds_toArray, List.set_cons_zero, List.set_cons_succ, i64_w, i32_w]
                      rfl
                    refine pure_ (i := 2) (N := some 74) (v := ?_) (a' := ?_) #[true, true, true, false, false, false, false, false, false, false, false, false, false, false, false, false, false, false, false, false, false] rfl rfl (by kernel_rfl) (fun _ _ _ h => h) (Or.inl ⟨by rfl, ?_⟩) ?_ ?_
                    rotate_left
                    · intro w'
                      go_simp
                      with_reducible rfl
                    rotate_left
                    · simp only [Act.put, List.setIfInBounds_toArray, List.set_cons_zero, List.set_cons_succ, i64_w, i32_w]
                      rfl
                    refine pure_ (i := 3) (N := some 75) (v := ?_) (a' := ?_) #[true, true, true, true, false, false, false, false, false, false, false, false, false, false, false, false, false, false, false, false, false] rfl rfl (by kernel_rfl) (fun _ _ _ h => h) (Or.inl ⟨by rfl, ?_⟩) ?_ ?_
                    rotate_left
                    · intro w'
                      go_simp
                      with_reducible rfl
                    rotate_left
                    · simp only [Act.put, List.setIfInBounds_toArray, List.set_cons_zero, List.set_cons_succ, i64_w, i32_w]
                      rfl
                    refine pure_ (i := 4) (N := some 76) (v := ?_) (a' := ?_) #[true, true, true, true, true, false, false, false, false, false, false, false, false, false, false, false, false, false, false, false, false] rfl rfl (by kernel_rfl) (fun _ _ _ h => h) (Or.inl ⟨by rfl, ?_⟩) ?_ ?_
                    rotate_left
                    · intro w'
                      go_simp
                      with_reducible rfl
                    rotate_left
                    · simp only [Act.put, List.setIfInBounds_toArray, List.set_cons_zero, List.set_cons_succ, i64_w, i32_w]
                      rfl
                    refine pure_ (i := 5) (N := some 77) (v := ?_) (a' := ?_) #[true, true, true, true, true, true, false, false, false, false, false, false, false, false, false, false, false, false, false, false, false] rfl rfl (by kernel_rfl) (fun _ _ _ h => h) (Or.inl ⟨by rfl, ?_⟩) ?_ ?_
                    rotate_left
                    · intro w'
                      go_simp
                      with_reducible rfl
                    rotate_left
                    · simp only [Act.put, List.setIfInBounds_toArray, List.set_cons_zero, List.set_cons_succ, i64_w, i32_w]
                      rfl
                    refine pure_ (i := 6) (N := some 78) (v := ?_) (a' := ?_) #[true, true, true, true, true, true, true, false, false, false, false, false, false, false, false, false, false, false, false, false, false] rfl rfl (by kernel_rfl) (fun _ _ _ h => h) (Or.inl ⟨by rfl, ?_⟩) ?_ ?_
                    rotate_left
                    · intro w'
                      go_simp
                      with_reducible rfl
                    rotate_left
                    · simp only [Act.put, List.setIfInBounds_toArray, List.set_cons_zero, List.set_cons_succ, i64_w, i32_w]
                      rfl
                    refine pure_ (i := 7) (N := some 79) (v := ?_) (a' := ?_) #[true, true, true, true, true, true, true, true, false, false, false, false, false, false, false, false, false, false, false, false, false] rfl rfl (by kernel_rfl) (fun _ _ _ h => h) (Or.inl ⟨by rfl, ?_⟩) ?_ ?_
                    rotate_left
                    · intro w'
                      go_simp
                      with_reducible rfl
                    rotate_left
                    · simp only [Act.put, List.setIfInBounds_toArray, List.set_cons_zero, List.set_cons_succ, i64_w, i32_w]
                      rfl
                    refine pure_ (i := 8) (N := some 80) (v := ?_) (a' := ?_) #[true, true, true, true, true, true, true, true, true, false, false, false, false, false, false, false, false, false, false, false, false] rfl rfl (by kernel_rfl) (fun _ _ _ h => h) (Or.inl ⟨by rfl, ?_⟩) ?_ ?_
                    rotate_left
                    · intro w'
                      go_simp
                      with_reducible rfl
                    rotate_left
                    · simp only [Act.put, List.setIfInBounds_toArray, List.set_cons_zero, List.set_cons_succ, i64_w, i32_w]
                      rfl
                    refine pure_ (i := 9) (N := some 81) (v := ?_) (a' := ?_) #[true, true, true, true, true, true, true, true, true, true, false, false, false, false, false, false, false, false, false, false, false] rfl rfl (by kernel_rfl) (fun _ _ _ h => h) (Or.inl ⟨by rfl, ?_⟩) ?_ ?_
                    rotate_left
                    · intro w'
                      go_simp
                      with_reducible rfl
                    rotate_left
                    · simp only [Act.put, List.setIfInBounds_toArray, List.set_cons_zero, List.set_cons_succ, i64_w, i32_w]
                      rfl
                    refine pure_ (i := 10) (N := some 82) (v := ?_) (a' := ?_) #[true, true, true, true, true, true, true, true, true, true, true, false, false, false, false, false, false, false, false, false, false] rfl rfl (by kernel_rfl) (fun _ _ _ h => h) (Or.inl ⟨by rfl, ?_⟩) ?_ ?_
                    rotate_left
                    · intro w'
                      go_simp
                      with_reducible rfl
                    rotate_left
                    · simp only [Act.put, List.setIfInBounds_toArray, List.set_cons_zero, List.set_cons_succ, i64_w, i32_w]
                      rfl
                    refine pure_ (i := 11) (N := some 83) (v := undef) (a' := ?_) #[true, true, true, true, true, true, true, true, true, true, true, true, false, false, false, false, false, false, false, false, false] rfl rfl (by kernel_rfl) (fun _ _ _ h => h) (Or.inr ⟨by rfl, rfl⟩) ?_ ?_
                    rotate_left
                    · simp only [Act.put, List.setIfInBounds_toArray, List.set_cons_zero, List.set_cons_succ, i64_w, i32_w]
                      rfl
                    refine pure_ (i := 12) (N := some 84) (v := undef) (a' := ?_) #[true, true, true, true, true, true, true, true, true, true, true, true, true, false, false, false, false, false, false, false, false] rfl rfl (by kernel_rfl) (fun _ _ _ h => h) (Or.inr ⟨by rfl, rfl⟩) ?_ ?_
                    rotate_left
                    · simp only [Act.put, List.setIfInBounds_toArray, List.set_cons_zero, List.set_cons_succ, i64_w, i32_w]
                      rfl
                    refine pure_ (i := 13) (N := some 85) (v := undef) (a' := ?_) #[true, true, true, true, true, true, true, true, true, true, true, true, true, true, false, false, false, false, false, false, false] rfl rfl (by kernel_rfl) (fun _ _ _ h => h) (Or.inr ⟨by rfl, rfl⟩) ?_ ?_
                    rotate_left
                    · simp only [Act.put, List.setIfInBounds_toArray, List.set_cons_zero, List.set_cons_succ, i64_w, i32_w]
                      rfl
                    refine pure_ (i := 14) (N := some 86) (v := undef) (a' := ?_) #[true, true, true, true, true, true, true, true, true, true, true, true, true, true, true, false, false, false, false, false, false] rfl rfl (by kernel_rfl) (fun _ _ _ h => h) (Or.inr ⟨by rfl, rfl⟩) ?_ ?_
                    rotate_left
                    · simp only [Act.put, List.setIfInBounds_toArray, List.set_cons_zero, List.set_cons_succ, i64_w, i32_w]
                      rfl
                    refine pure_ (i := 15) (N := some 87) (v := undef) (a' := ?_) #[true, true, true, true, true, true, true, true, true, true, true, true, true, true, true, true, false, false, false, false, false] rfl rfl (by kernel_rfl) (fun _ _ _ h => h) (Or.inr ⟨by rfl, rfl⟩) ?_ ?_
                    rotate_left
                    · simp only [Act.put, List.setIfInBounds_toArray, List.set_cons_zero, List.set_cons_succ, i64_w, i32_w]
                      rfl
                    refine pure_ (i := 16) (N := some 88) (v := undef) (a' := ?_) #[true, true, true, true, true, true, true, true, true, true, true, true, true, true, true, true, true, false, false, false, false] rfl rfl (by kernel_rfl) (fun _ _ _ h => h) (Or.inr ⟨by rfl, rfl⟩) ?_ ?_
                    rotate_left
                    · simp only [Act.put, List.setIfInBounds_toArray, List.set_cons_zero, List.set_cons_succ, i64_w, i32_w]
                      rfl
                    refine pure_ (i := 17) (N := some 89) (v := undef) (a' := ?_) #[true, true, true, true, true, true, true, true, true, true, true, true, true, true, true, true, true, true, false, false, false] rfl rfl (by kernel_rfl) (fun _ _ _ h => h) (Or.inr ⟨by rfl, rfl⟩) ?_ ?_
                    rotate_left
                    · simp only [Act.put, List.setIfInBounds_toArray, List.set_cons_zero, List.set_cons_succ, i64_w, i32_w]
                      rfl
                    refine pure_ (i := 18) (N := some 90) (v := undef) (a' := ?_) #[true, true, true, true, true, true, true, true, true, true, true, true, true, true, true, true, true, true, true, false, false] rfl rfl (by kernel_rfl) (fun _ _ _ h => h) (Or.inr ⟨by rfl, rfl⟩) ?_ ?_
                    rotate_left
                    · simp only [Act.put, List.setIfInBounds_toArray, List.set_cons_zero, List.set_cons_succ, i64_w, i32_w]
                      rfl
                    refine pure_ (i := 19) (N := some 91) (v := undef) (a' := ?_) #[true, true, true, true, true, true, true, true, true, true, true, true, true, true, true, true, true, true, true, true, false] rfl rfl (by kernel_rfl) (fun _ _ _ h => h) (Or.inr ⟨by rfl, rfl⟩) ?_ ?_
                    rotate_left
                    · simp only [Act.put, List.setIfInBounds_toArray, List.set_cons_zero, List.set_cons_succ, i64_w, i32_w]
                      rfl
                    refine pure_ (i := 20) (N := some 92) (v := ?_) (a' := ?_) #[true, true, true, true, true, true, true, true, true, true, true, true, true, true, true, true, true, true, true, true, true] rfl rfl (by kernel_rfl) (fun _ _ _ h => h) (Or.inl ⟨by rfl, ?_⟩) ?_ ?_
                    rotate_left
                    · intro w'
                      go_simp
                      with_reducible rfl
                    rotate_left
                    · simp only [Act.put, List.setIfInBounds_toArray, List.set_cons_zero, List.set_cons_succ, i64_w, i32_w]
                      rfl
                    refine done_ (by kernel_rfl) ?_
                    go_wp2
                    go_meet
                    case rel => exact ⟨by rw [← HNN.out, if_neg HRM.out, HNE.out], by rw [← HC2.out, if_neg HRM.out], by rw [HMK.out]; exact PK1, BX1⟩
                · have a1 : decide ((n : Int) < (last.length : Int)) = false := decide_eq_false (by omega)
                  have a2 : decide (n < last.length) = false := decide_eq_false ca
                  have HNE : Aside0 (shp last key = n) := ⟨by have h1 := HS.out; have h2 := (shp_le (last.drop n) (key.drop n)).1; rw [List.length_drop] at h2; omega⟩
                  clear ca
                  go_upto_region 19 with fail
                  go_wp2_with fail
                  refine start_ (n := 21) (S := fun w' => True) (ds := []) #[false, false, false, false, false, false, false, false, false, false, false, false, false, false, false, false, false, false, false, false, false] (by kernel_rfl) rfl rfl trivial (fun hHeld => ?_)
                  refine pure_ (i := 0) (N := some 72) (v := ?_) (a' := ?_) #[true, false, false, false, false, false, false, false, false, false, false, false, false, false, false, false, false, false, false, false, false] rfl rfl (by kernel_rfl) (fun _ _ _ h => h) (Or.inl ⟨by rfl, ?_⟩) ?_ ?_
                  rotate_left
                  · intro w'
                    go_simp
                    with_reducible rfl
                  rotate_left
                  · simp only [Act.put, List.setIfInBounds_toArray, List.set_cons_zero, List.set_cons_succ, i64_w, i32_w]
                    rfl
                  refine pure_ (i := 1) (N := some 73) (v := ?_) (a' := ?_) #[true, true, false, false, false, false, false, false, false, false, false, false, false, false, false, false, false, false, false, false, false] rfl rfl (by kernel_rfl) (fun _ _ _ h => h) (Or.inl ⟨by rfl, ?_⟩) ?_ ?_
                  rotate_left
                  · intro w'
                    go_simp
                    with_reducible rfl
                  rotate_left
                  · simp only [Act.put, List.setIfInBounds_toArray, List.set_cons_zero, List.set_cons_succ, i64_w, i32_w]
                    rfl
                  refine pure_ (i := 2) (N := some 74) (v := ?_) (a' := ?_) #[true, true, true, false, false, false, false, false, false, false, false, false, false, false, false, false, false, false, false, false, false] rfl rfl (by kernel_rfl) (fun _ _ _ h => h) (Or.inl ⟨by rfl, ?_⟩) ?_ ?_
                  rotate_left
                  · intro w'
                    go_simp
                    with_reducible rfl
                  rotate_left
                  · simp only [Act.put, List.setIfInBounds_toArray, List.set_cons_zero, List.set_cons_succ, i64_w, i32_w]
                    rfl
                  refine pure_ (i := 3) (N := some 75) (v := ?_) (a' := ?_) #[true, true, true, true, false, false, false, false, false, false, false, false, false, false, false, false, false, false, false, false, false] rfl rfl (by kernel_rfl) (fun _ _ _ h => h) (Or.inl ⟨by rfl, ?_⟩) ?_ ?_
                  rotate_left
                  · intro w'
                    go_simp
                    with_reducible rfl
                  rotate_left
                  · simp only [Act.put, List.setIfInBounds_toArray, List.set_cons_zero, List.set_cons_succ, i64_w, i32_w]
                    rfl
                  refine pure_ (i := 4) (N := some 76) (v := ?_) (a' := ?_) #[true, true, true, true, true, false, false, false, false, false, false, false, false, false, false, false, false, false, false, false, false] rfl rfl (by kernel_rfl) (fun _ _ _ h => h) (Or.inl ⟨by rfl, ?_⟩) ?_ ?_
                  rotate_left
                  · intro w'
                    go_simp
                    with_reducible rfl
                  rotate_left
                  · simp only [Act.put, List.setIfInBounds_toArray, List.set_cons_zero, List.set_cons_succ, i64_w, i32_w]
                    rfl
                  refine pure_ (i := 5) (N := some 77) (v := undef) (a' := ?_) #[true, true, true, true, true, true, false, false, false, false, false, false, false, false, false, false, false, false, false, false, false] rfl rfl (by kernel_rfl) (fun _ _ _ h => h) (Or.inr ⟨by rfl, rfl⟩) ?_ ?_
                  rotate_left
                  · simp only [Act.put, List.setIfInBounds_toArray, List.set_cons_zero, List.set_cons_succ, i64_w, i32_w]
                    rfl
                  refine pure_ (i := 6) (N := some 78) (v := undef) (a' := ?_) #[true, true, true, true, true, true, true, false, false, false, false, false, false, false, false, false, false, false, false, false, false] rfl rfl (by kernel_rfl) (fun _ _ _ h => h) (Or.inr ⟨by rfl, rfl⟩) ?_ ?_
                  rotate_left
                  · simp only [Act.put, List.setIfInBounds_toArray, List.set_cons_zero, List.set_cons_succ, i64_w, i32_w]
                    rfl
                  refine pure_ (i := 7) (N := some 79) (v := undef) (a' := ?_) #[true, true, true, true, true, true, true, true, false, false, false, false, false, false, false, false, false, false, false, false, false] rfl rfl (by kernel_rfl) (fun _ _ _ h => h) (Or.inr ⟨by rfl, rfl⟩) ?_ ?_
                  rotate_left
                  · simp only [Act.put, List.setIfInBounds_toArray, List.set_cons_zero, List.set_cons_succ, i64_w, i32_w]
                    rfl
                  refine pure_ (i := 8) (N := some 80) (v := undef) (a' := ?_) #[true, true, true, true, true, true, true, true, true, false, false, false, false, false, false, false, false, false, false, false, false] rfl rfl (by kernel_rfl) (fun _ _ _ h => h) (Or.inr ⟨by rfl, rfl⟩) ?_ ?_
                  rotate_left
                  · simp only [Act.put, List.setIfInBounds_toArray, List.set_cons_zero, List.set_cons_succ, i64_w, i32_w]
                    rfl
                  refine pure_ (i := 9) (N := some 81) (v := ?_) (a' := ?_) #[true, true, true, true, true, true, true, true, true, true, false, false, false, false, false, false, false, false, false, false, false] rfl rfl (by kernel_rfl) (fun _ _ _ h => h) (Or.inl ⟨by rfl, ?_⟩) ?_ ?_
                  rotate_left
                  · intro w'
                    go_simp
                    with_reducible rfl
                  rotate_left
                  · simp only [Act.put, List.setIfInBounds_toArray, List.set_cons_zero, List.set_cons_succ, i64_w, i32_w]
                    rfl
                  refine pure_ (i := 10) (N := some 82) (v := ?_) (a' := ?_) #[true, true, true, true, true, true, true, true, true, true, true, false, false, false, false, false, false, false, false, false, false] rfl rfl (by kernel_rfl) (fun _ _ _ h => h) (Or.inl ⟨by rfl, ?_⟩) ?_ ?_
                  rotate_left
                  · intro w'
                    go_simp
                    with_reducible rfl
                  rotate_left
                  · simp only [Act.put, List.setIfInBounds_toArray, List.set_cons_zero, List.set_cons_succ, i64_w, i32_w]
                    rfl
                  refine pure_ (i := 11) (N := some 83) (v := undef) (a' := ?_) #[true, true, true, true, true, true, true, true, true, true, true, true, false, false, false, false, false, false, false, false, false] rfl rfl (by kernel_rfl) (fun _ _ _ h => h) (Or.inr ⟨by rfl, rfl⟩) ?_ ?_
                  rotate_left
                  · simp only [Act.put, List.setIfInBounds_toArray, List.set_cons_zero, List.set_cons_succ, i64_w, i32_w]
                    rfl
                  refine pure_ (i := 12) (N := some 84) (v := undef) (a' := ?_) #[true, true, true, true, true, true, true, true, true, true, true, true, true, false, false, false, false, false, false, false, false] rfl rfl (by kernel_rfl) (fun _ _ _ h => h) (Or.inr ⟨by rfl, rfl⟩) ?_ ?_
                  rotate_left
                  · simp only [Act.put, List.setIfInBounds_toArray, List.set_cons_zero, List.set_cons_succ, i64_w, i32_w]
                    rfl
                  refine pure_ (i := 13) (N := some 85) (v := undef) (a' := ?_) #[true, true, true, true, true, true, true, true, true, true, true, true, true, true, false, false, false, false, false, false, false] rfl rfl (by kernel_rfl) (fun _ _ _ h => h) (Or.inr ⟨by rfl, rfl⟩) ?_ ?_
                  rotate_left
                  · simp only [Act.put, List.setIfInBounds_toArray, List.set_cons_zero, List.set_cons_succ, i64_w, i32_w]
                    rfl
                  refine pure_ (i := 14) (N := some 86) (v := undef) (a' := ?_) #[true, true, true, true, true, true, true, true, true, true, true, true, true, true, true, false, false, false, false, false, false] rfl rfl (by kernel_rfl) (fun _ _ _ h => h) (Or.inr ⟨by rfl, rfl⟩) ?_ ?_
                  rotate_left
                  · simp only [Act.put, List.setIfInBounds_toArray, List.set_cons_zero, List.set_cons_succ, i64_w, i32_w]
                    rfl
                  refine pure_ (i := 15) (N := some 87) (v := undef) (a' := ?_) #[true, true, true, true, true, true, true, true, true, true, true, true, true, true, true, true, false, false, false, false, false] rfl rfl (by kernel_rfl) (fun _ _ _ h => h) (Or.inr ⟨by rfl, rfl⟩) ?_ ?_
                  rotate_left
                  · simp only [Act.put, List.setIfInBounds_toArray, List.set_cons_zero, List.set_cons_succ, i64_w, i32_w]
                    rfl
                  refine pure_ (i := 16) (N := some 88) (v := undef) (a' := ?_) #[true, true, true, true, true, true, true, true, true, true, true, true, true, true, true, true, true, false, false, false, false] rfl rfl (by kernel_rfl) (fun _ _ _ h => h) (Or.inr ⟨by rfl, rfl⟩) ?_ ?_
                  rotate_left
                  · simp only [Act.put, List.setIfInBounds_toArray, List.set_cons_zero, List.set_cons_succ, i64_w, i32_w]
                    rfl
                  refine pure_ (i := 17) (N := some 89) (v := undef) (a' := ?_) #[true, true, true, true, true, true, true, true, true, true, true, true, true, true, true, true, true, true, false, false, false] rfl rfl (by kernel_rfl) (fun _ _ _ h => h) (Or.inr ⟨by rfl, rfl⟩) ?_ ?_
                  rotate_left
                  · simp only [Act.put, List.setIfInBounds_toArray, List.set_cons_zero, List.set_cons_succ, i64_w, i32_w]
                    rfl
                  refine pure_ (i := 18) (N := some 90) (v := undef) (a' := ?_) #[true, true, true, true, true, true, true, true, true, true, true, true, true, true, true, true, true, true, true, false, false] rfl rfl (by kernel_rfl) (fun _ _ _ h => h) (Or.inr ⟨by rfl, rfl⟩) ?_ ?_
                  rotate_left
                  · simp only [Act.put, List.setIfInBounds_toArray, List.set_cons_zero, List.set_cons_succ, i64_w, i32_w]
                    rfl
                  refine pure_ (i := 19) (N := some 91) (v := undef) (a' := ?_) #[true, true, true, true, true, true, true, true, true, true, true, true, true, true, true, true, true, true, true, true, false] rfl rfl (by kernel_rfl) (fun _ _ _ h => h) (Or.inr ⟨by rfl, rfl⟩) ?_ ?_
                  rotate_left
                  · simp only [Act.put, List.setIfInBounds_toArray, List.set_cons_zero, List.set_cons_succ, i64_w, i32_w]
                    rfl
                  refine pure_ (i := 20) (N := some 92) (v := ?_) (a' := ?_) #[true, true, true, true, true, true, true, true, true, true, true, true, true, true, true, true, true, true, true, true, true] rfl rfl (by kernel_rfl) (fun _ _ _ h => h) (Or.inl ⟨by rfl, ?_⟩) ?_ ?_
                  rotate_left
                  · intro w'
                    go_simp
                    with_reducible rfl
                  rotate_left
                  · simp only [Act.put, List.setIfInBounds_toArray, List.set_cons_zero, List.set_cons_succ, i64_w, i32_w]
                    rfl
                  refine done_ (by kernel_rfl) ?_
                  go_wp2
                  go_meet
                  case rel => exact ⟨by rw [← HNN.out, if_neg HRM.out, HNE.out], by rw [← HC2.out, if_neg HRM.out], by rw [HMK.out]; exact PK1, BX1⟩
        case rest =>
        obtain ⟨rfl, rfl, PK2, BX2⟩ := hcut
        clear PL PK BX
        have hrow := HROW.out
        unfold bbk_row at hrow
        obtain ⟨o3, hsz, hrow⟩ := Option.bind_eq_some_iff.mp hrow
        split at hrow
        case isFalse => cases hrow
        rename_i hbd
        obtain ⟨d, hd⟩ : ∃ y, key.length - N = y := ⟨_, rfl⟩
        rw [hd] at hsz
        obtain ⟨M, hM⟩ : ∃ y, key.drop N = y := ⟨_, rfl⟩
        obtain ⟨Amm, cmm, hcut, hcd, hcl⟩ := cutB Ak ck_ key N HNL.out (Kd.R_reads' PK2.out.rk).2.1
        rw [hM] at hrow hcut hcd hcl
        obtain ⟨o4, ho4⟩ : ∃ y, o3 ++ M = y := ⟨_, rfl⟩
        rw [ho4] at hrow
        have LM : Aside0 (M.length ≤ key.length) := ⟨by rw [← hM, List.length_drop]; omega⟩
        have LO4 : Aside0 (o4.length = o3.length + M.length) := ⟨by rw [← ho4, List.length_append]⟩
        have EM := Aside0.mk ho4
        have EO := Aside0.mk (Option.some.inj hrow)
        have BD := Aside0.mk hbd
        have HSZ := Aside0.mk hsz
        have HCD := Aside0.mk hcd
        have HCUT := Aside0.mk hcut
        have HD := Aside0.mk hd
        have hsub : wrap64 ((key.length : Int) - (N : Int)) = (d : Int) := by rw [← hd]; exact bb_sub _ _ HNL.out HGD.out.1
        have k4 : wc.cell? ⟨gb, 3, none⟩ = some (.string X.f1) := (blk_cell BX2.out 3).trans rfl
        clear hrow hbd hd hM ho4 hsz hcut hcd hcl HROW
        go_wp2_with (first
          | ((with_reducible refine gate_dst (N := 103) rfl ?_); (refine Kd.event_run rfl (v := .slice (some ⟨wc.heap.size, 0, none⟩) 3 3) (w1 := wc.alloc (.cells #[.int .i64 (N : Int), .int .i64 (d : Int), .int .i64 (X.f1.size : Int)] 3)) (by go_simp; try rfl) ?_)
             have hb3 := below_alloc (Below.refl wc.heap.size wc) (.cells #[.int .i64 (N : Int), .int .i64 (d : Int), .int .i64 (X.f1.size : Int)] 3)
             have PK3 := Aside0.mk (PK2.out.below hb3)
             have BX3 := Aside0.mk (blk_below BX2.out hb3)
             have RA3 := Aside0.mk (Kd.R_lower (arr_R wc (N : Int) (d : Int) (X.f1.size : Int)) (below_size PK2.out.hb))
             clear hb3 hsub k4))
        obtain ⟨w3, hw3⟩ : ∃ y, wc.alloc (.cells #[.int .i64 (N : Int), .int .i64 (d : Int), .int .i64 (X.f1.size : Int)] 3) = y := ⟨_, rfl⟩
        obtain ⟨Z, hZ⟩ : ∃ y, [(N : Int), (d : Int), (X.f1.size : Int)] = y := ⟨_, rfl⟩
        have HZL : Aside0 (Z.length = 3) := ⟨by rw [← hZ]; rfl⟩
        rw [hw3] at PK3 BX3 RA3 ⊢
        rw [hZ] at RA3 HSZ
        have HSZ3 : Aside0 (bbk_sz k (Z.drop 0) out = some o3) := ⟨by rw [List.drop_zero]; exact HSZ.out⟩
        clear hw3 hZ HSZ PK2 BX2
        go_loopg [6, 105] 4 (fun gf v6 v105 wx => ∃ (j : Nat) (oj : List Int), v105 = .int .i64 (j : Int) ∧ Aside0 (gf + j = 4 ∧ j ≤ 3) ∧ Aside0 (bbk_sz k (Z.drop j) oj = some o3) ∧ Aside0 (BbI w wx v6 oj u8 ms2 (.slice Ak key.length ck_) key) ∧ Aside0 (Kd.R (Kd.int .i64) 3 wx w.heap.size (fun _ => True) (.slice (some ⟨wc.heap.size, 0, none⟩) 3 3) Z) ∧ Aside0 (wx.heap[gb]? = some (bbObj X)))
        case atStart => exact ⟨0, out, rfl, ⟨by omega, by omega⟩, HSZ3, PK3, RA3, BX3⟩
        case round =>
          clear HSZ3 PK3 RA3 BX3
          obtain ⟨j, oj, rfl, HJ, HS, PJ, RJ, BXJ⟩ := hrel
          obtain ⟨Aj, cj, ej⟩ := Kd.R_slice PJ.out.ro
          subst ej
          cases gk with
          | zero => exact absurd HJ.out.1 (by have := HJ.out.2; omega)
          | succ g2 =>
            by_cases cc : j < 3
            · have a1 : decide ((j : Int) < 3) = true := decide_eq_true (by omega)
              have a3 := eq_true (show (j : Int) < 3 by omega)
              have a4 := eq_true (show (0 : Int) ≤ (j : Int) by omega)
              have hzl := HZL.out
              obtain ⟨hcz, hfz⟩ := Kd.R_celln (0 : Int) RJ.out (j : Int) (by omega) (by omega)
              rw [Int.toNat_natCast, show rdOf 0 Z (j : Int) = rd Z (j : Int) from rfl] at hcz
              obtain ⟨z, hz⟩ : ∃ y, rd Z (j : Int) = y := ⟨_, rfl⟩
              rw [hz] at hcz
              have hdz : Z.drop j = z :: Z.drop (j + 1) := by
                rw [List.drop_eq_getElem_cons (show j < Z.length by omega), ← hz]
                simp [rd, show j < Z.length by omega]
              have hs := HS.out
              rw [hdz] at hs
              unfold bbk_sz at hs
              obtain ⟨pz, hpz, hs⟩ := Option.bind_eq_some_iff.mp hs
              split at hs
              case isFalse => cases hs
              rename_i hlz
              have HPZ := Aside0.mk hpz
              have HLZ := Aside0.mk hlz
              have HSN := Aside0.mk hs
              have HCJ := Aside0.mk cc
              have HW := Aside0.mk (bb_w1 j (by omega))
              clear hpz hlz hs hdz hz cc hzl hfz
              go_wp2_with (first
                | (go_at_call 21; (with_reducible refine (bpu_nil k (IntKind.u64.wrap z) pz _ HPZ.out).mono ?_; rintro ex w5 ⟨v5, rfl, hob, hb⟩)
                   have P5 := Aside0.mk (PJ.out.below hb)
                   have R5 := Aside0.mk (Kd.R_below RJ.out hb)
                   have BX5 := Aside0.mk (blk_below BXJ.out hb)
                   have RP5 := Aside0.mk hob
                   obtain ⟨Ap, cp, et⟩ := Kd.R_slice hob
                   subst et
                   clear hob hb)
                | ((with_reducible refine gate_builtin (b := .append) (xs := #[.tmp 109, .tmp 112]) rfl ?_); at_builtin; (refine Kd.R_append_rows (Kd.int .u8) (w0 := w) w.heap.size rfl (.tmp 109) (.tmp 112) 27 5 (.int .u8 0) 1 rfl Try.underlying27 info5 rfl (by decide) (by omega) (.slice Aj oj.length cj) oj pz _ _ _ (fun _ => True) (fun _ => False) rfl rfl P5.out.ro (Kd.R_reads' RP5.out).2.2 (fun _ _ h => h) (fun _ h => h.elim) (fun _ _ => trivial) P5.out.hb (below_size P5.out.hb) (by have := HLZ.out; omega) ?_)
                   intro v6 w6 ho hb hg hat
                   have P6 := Aside0.mk (P5.out.app ho hb hg hat)
                   have R6 := Aside0.mk (Kd.R_over R5.out P5.out.ro (bt3 (by decide)) hg)
                   have BX6 := Aside0.mk (bbObj_app BX5.out P5.out.ro hg)
                   clear ho hb hg hat))
              simp only [HW.out]
              go_roundg g2
              case measure => omega
              case rel => exact ⟨j + 1, oj ++ pz, rfl, ⟨by have := HJ.out.1; omega, HCJ.out⟩, HSN, P6, R6, BX6⟩
            · have a1 : decide ((j : Int) < 3) = false := decide_eq_false (by omega)
              have a2 : decide (j < 3) = false := decide_eq_false cc
              have hj3 : j = 3 := by have := HJ.out.2; omega
              have hs := HS.out
              rw [hj3, List.drop_eq_nil_of_le (by rw [HZL.out]; exact Nat.le_refl _)] at hs
              obtain rfl := Option.some.inj hs
              clear cc hj3 hs HS HJ
              go_upto_region 26 with fail
              clear a1 a2
              have hcut := HCUT.out
              go_wp2_with fail
              have PD := Aside0.mk (PJ.out.below (below_drew1 (Below.refl _ _)))
              have BXD := Aside0.mk (blk_below BXJ.out (below_drew1 (Below.refl _ _)))
              refine start_ (n := 9) (S := fun w' => w'.cell? ⟨gb, 3, none⟩ = some (.string X.f1)) (ds := [7]) #[false, false, false, false, false, false, false, false, false] (by kernel_rfl) rfl rfl (((blk_cell BXD.out 3).trans rfl)) (fun hHeld => ?_)
              generalize wr.drew = wq at PD BXD hHeld ⊢
              refine pure_ (i := 0) (N := some 115) (v := ?_) (a' := ?_) #[true, false, false, false, false, false, false, false, false] rfl rfl (by kernel_rfl) (fun _ _ _ h => h) (Or.inl ⟨by rfl, ?_⟩) ?_ ?_
              rotate_left
              · intro w'
                go_simp
                with_reducible rfl
              rotate_left
              · simp only [Act.put, List.setIfInBounds_toArray, List.set_cons_zero, List.set_cons_succ, i64_w, i32_w]
                rfl
              refine pure_ (i := 1) (N := some 116) (v := ?_) (a' := ?_) #[true, true, false, false, false, false, false, false, false] rfl rfl (by kernel_rfl) (fun _ _ _ h => h) (Or.inl ⟨by rfl, ?_⟩) ?_ ?_
              rotate_left
              · intro w'
                go_simp
                with_reducible rfl
              rotate_left
              · simp only [Act.put, List.setIfInBounds_toArray, List.set_cons_zero, List.set_cons_succ, i64_w, i32_w]
                rfl
              refine pure_ (i := 2) (N := some 117) (v := ?_) (a' := ?_) #[true, true, true, false, false, false, false, false, false] rfl rfl (by kernel_rfl) (fun _ _ _ h => h) (Or.inl ⟨by rfl, ?_⟩) ?_ ?_
              rotate_left
              · intro w'
                go_simp
                with_reducible rfl
              rotate_left
              · simp only [Act.put, List.setIfInBounds_toArray, List.set_cons_zero, List.set_cons_succ, i64_w, i32_w]
                rfl
              refine pure_ (i := 3) (N := some 118) (v := ?_) (a' := ?_) #[true, true, true, true, false, false, false, false, false] rfl rfl (by kernel_rfl) (fun _ _ _ h => h) (Or.inl ⟨by rfl, ?_⟩) ?_ ?_
              rotate_left
              · intro w'
                go_simp
                with_reducible rfl
              rotate_left
              · simp only [Act.put, List.setIfInBounds_toArray, List.set_cons_zero, List.set_cons_succ, i64_w, i32_w]
                rfl
              refine pure_ (i := 5) (N := some 120) (v := ?_) (a' := ?_) #[true, true, true, true, false, true, false, false, false] rfl rfl (by kernel_rfl) (fun _ _ _ h => h) (Or.inl ⟨by rfl, ?_⟩) ?_ ?_
              rotate_left
              · intro w'
                go_simp
                with_reducible rfl
              rotate_left
              · simp only [Act.put, List.setIfInBounds_toArray, List.set_cons_zero, List.set_cons_succ, i64_w, i32_w]
                rfl
              refine take_ (i := 6) (N := some 121) (v := ?_) (a' := ?_) #[true, true, true, true, false, true, true, false, false] rfl rfl (by kernel_rfl) (fun _ _ _ h => h) (Or.inl ⟨by rfl, ?_⟩) hHeld ?_ ?_
              rotate_left
              · intro w' s0
                go_simp
                with_reducible rfl
              rotate_left
              · simp only [Act.put, List.setIfInBounds_toArray, List.set_cons_zero, List.set_cons_succ, i64_w, i32_w]
                rfl
              refine one_ (i := 4) (N := some 119) #[true, true, true, true, true, true, true, false, false] rfl rfl (by kernel_rfl) (by decide) (fun K hK => ?_)
              refine Kd.R_append_rows_step (Kd.int .u8) (w0 := w) w.heap.size (by rfl) (.tmp 115) (.tmp 118) 27 5 (.int .u8 0) 1 rfl Try.underlying27 info5 rfl (by decide) (by omega) (.slice Aj oj.length cj) oj M _ _ _ (fun _ => True) (fun _ => False) rfl rfl PD.out.ro (HCD.out _ (Kd.R_reads' PD.out.rk).2.2) (fun _ _ h => h) (fun _ h => h.elim) (fun _ _ => trivial) PD.out.hb (below_size PD.out.hb) (by have := BD.out; have := LM.out; omega) ?_
              intro v119 w10 ho hb hg hat
              rw [EM.out] at ho
              have P10 := Aside0.mk (PD.out.app ho hb hg hat)
              have BX10 := Aside0.mk (bbObj_app BXD.out PD.out.ro hg)
              clear ho hb hg hat
              refine hK.out _ _ (((blk_cell BX10.out 3).trans rfl)) (fun hHeld => ?_)
              clear hK K
              refine norm_ (a' := ?_) ?_ ?_
              rotate_left
              · show Act.put _ (some 119) _ = _
                simp only [Act.put, List.setIfInBounds_toArray, List.set_cons_zero, List.set_cons_succ, i64_w, i32_w]
                rfl
              refine last_ (i := 7) (N := some 122) #[true, true, true, true, true, true, true, true, false] rfl rfl (by kernel_rfl) (by decide) (fun K hK => ?_)
              refine h_R_append_str_step (w0 := w) w.heap.size (by rfl) (.tmp 119) _ 27 9 5 rfl Try.underlying27 Try.underlying9 info5 v119 o4 X.f1 (fun _ => True) rfl rfl P10.out.ro (fun _ _ => trivial) P10.out.hb (below_size P10.out.hb) (by have := BD.out; have := LM.out; have := LO4.out; omega) ?_
              intro v122 w11 ho hb hg hat
              rw [EO.out] at ho
              have P11 := Aside0.mk (P10.out.app ho hb hg hat)
              clear ho hb hg hat
              refine hK.out _ _ ?_
              clear hK K
              refine norm_ (a' := ?_) ?_ ?_
              rotate_left
              · show Act.put _ (some 122) _ = _
                simp only [Act.put, List.setIfInBounds_toArray, List.set_cons_zero, List.set_cons_succ, i64_w, i32_w]
                rfl
              refine pure_ (i := 8) (N := some 6) (v := ?_) (a' := ?_) #[true, true, true, true, true, true, true, true, true] rfl rfl (by kernel_rfl) (fun _ _ _ h => h) (Or.inl ⟨by rfl, ?_⟩) ?_ ?_
              rotate_left
              · intro w'
                go_simp
                with_reducible rfl
              rotate_left
              · simp only [Act.put, List.setIfInBounds_toArray, List.set_cons_zero, List.set_cons_succ, i64_w, i32_w]
                rfl
              refine done_ (by kernel_rfl) ?_
              clear hcut
              go_wp2
              have hw1 := HW1.out
              rw [hw1]
              clear hw1
              go_roundg g1
              case measure => omega
              case rel => exact ⟨i + 1, out2, key, ms2, c2, rfl, rfl, ⟨by have := HI.out.1; omega, HCI.out⟩, by rw [HPN.out]; exact HLR, P11⟩
      · have c1b : decide ((i : Int) < (l.length : Int)) = false := decide_eq_false (by omega)
        have c1c : decide (i < l.length) = false := decide_eq_false ci
        have hil : i = l.length := by have := HI.out.2; omega
        have hlp := HL.out
        rw [hil, List.drop_length] at hlp
        unfold bbk_l at hlp
        split at hlp
        case isFalse => cases hlp
        rename_i hbd
        obtain ⟨z, hz, hf⟩ := Option.map_eq_some_iff.1 hlp
        injection hf with h1 h2
        subst h1 h2
        obtain ⟨oa, hoa⟩ : ∃ y, out ++ ms = y := ⟨_, rfl⟩
        rw [hoa] at hz
        obtain ⟨ob, hob_⟩ : ∃ y, oa ++ [(m : Int)] = y := ⟨_, rfl⟩
        rw [hob_] at hz
        have LA : Aside0 (oa.length = out.length + ms.length) := ⟨by rw [← hoa, List.length_append]⟩
        have EA := Aside0.mk hoa
        have EB := Aside0.mk hob_
        have HZ := Aside0.mk hz
        have BD := Aside0.mk hbd
        have hw8 : IntKind.u8.wrap (m : Int) = (m : Int) := by have := HIV.out; simp [IntKind.wrap, IntKind.bits, IntKind.signed]; omega
        clear ci hil hlp hz hbd hoa hob_ HL HI
        go_wp2_with (first
          | ((with_reducible refine gate_builtin (b := .append) (xs := #[.tmp 125, .tmp 126]) rfl ?_); at_builtin; (refine Kd.R_append_rows (Kd.int .u8) (w0 := w) w.heap.size rfl (.tmp 125) (.tmp 126) 27 5 (.int .u8 0) 1 rfl Try.underlying27 info5 rfl (by decide) (by omega) (.slice Ao out.length co) out ms _ _ _ (fun _ => True) (fun _ => False) rfl rfl P.out.ro (Kd.R_reads' P.out.rm).2.2 (fun _ _ h => h) (fun _ h => h.elim) (fun _ _ => trivial) P.out.hb (below_size P.out.hb) (by have := BD.out; omega) ?_)
             intro v6 w6 ho hb hg hat
             rw [EA.out] at ho
             have RO6 := Aside0.mk ho
             have HB6 := Aside0.mk hb
             clear ho hb hg hat)
          | ((with_reducible refine gate_builtin (b := .append) (xs := #[.tmp 127, .tmp 130]) rfl ?_); at_builtin; (refine Kd.R_append (Kd.int .u8) (w0 := w) w.heap.size rfl (.tmp 127) (.tmp 130) 27 5 (.int .u8 0) 1 rfl Try.underlying27 info5 rfl (by decide) (by omega) v6 oa (m : Int) [.int .u8 (m : Int)] (fun _ => True) (fun _ => False) rfl rfl rfl (fun _ hk => hk.elim) (fun _ _ => trivial) RO6.out HB6.out (below_size HB6.out) (by have := LA.out; have := BD.out; omega) ?_)
             intro v7 w7 ho hb hg hat
             rw [EB.out] at ho
             have RZ7 := Aside0.mk ho
             have HB7 := Aside0.mk hb
             obtain ⟨Az, cz, ez⟩ := Kd.R_slice ho
             subst ez
             clear ho hb hg hat)
          | (go_at_call 23; (with_reducible refine (codec_PutFixed.calls k Az cz ob (c : Int) 4 z _ (Kd.R_reads' RZ7.out).2.2 (Kd.R_reads' RZ7.out).2.1 HZ.out).mono ?_; rintro ex w8 ⟨v8, rfl, hob, hb⟩)
             have R8 := Aside0.mk (Kd.R_lower hob (below_size HB7.out))
             have HB8 := Aside0.mk (below_step HB7.out hb)
             clear hob hb))
        go_ret2
        exact ⟨_, rfl, R8.out, HB8.out⟩
end Go.Proofs.Ythdemdjobgbpdaa.P
