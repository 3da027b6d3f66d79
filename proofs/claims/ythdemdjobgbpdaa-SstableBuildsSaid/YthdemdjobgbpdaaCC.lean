/- What an opened table is: places, and where a table lies. sstable's Open, where nothing is amiss. sstable's Blocks and read. sstable's search among places. sstable's Get. sstable's All. -/
import Derived.Test.YthdemdjobgbpdaaCB
import Derived.Laws.IdiomStrings
import Derived.Test.YthdemdjobgbpdaaP8
import Derived.Test.YthdemdjobgbpdaaP11
import Derived.Test.YthdemdjobgbpdaaP13
import Derived.Test.YthdemdjobgbpdaaCA
set_option linter.unusedVariables false
set_option linter.unusedSimpArgs false
namespace Go.Proofs.Ythdemdjobgbpdaa.T
open Go.RowKit Go.Shelf Go.Proofs.YthdemdjobgbpdaaW.PrintWords Go.Proofs.YthdemdjobgbpdaaW.PrintLast Go.Proofs.YthdemdjobgbpdaaW.PrintMore Go.Proofs.Ythdemdjobgbpdaa.P Go.Proofs.Ythdemdjobgbpdaa.B Go.Proofs.Ythdemdjobgbpdaa.Q
set_option linter.unusedVariables false
structure SPl where
  f0 : S45
  f1 : Nat
  f2 : Nat
def zPl : SPl := ⟨z45, 0, 0⟩
def kPl : Kd SPl := Kd.iso (Kd.pair k45 (Kd.pair (Kd.int .i64) (Kd.int .i64))) (fun x : SPl => (x.f0, (x.f1 : Int), (x.f2 : Int)))
theorem kPl_open {w : World} {x : SPl} {cs : List Value} (h : kPl.K w x cs) : cs = [.string x.f0.f0, .int .u64 x.f0.f1, .int .i64 x.f0.f2, .int .i64 (x.f1 : Int), .int .i64 (x.f2 : Int)] := by
  obtain ⟨_, _, rfl, s0, ⟨_, _, rfl, rfl, rfl⟩⟩ := h
  obtain rfl := k45_open s0
  exact rfl
theorem kPl_mkM (w : World) (base : Nat) (ok : Nat → Prop) (x : SPl) : kPl.M w base ok x [.string x.f0.f0, .int .u64 x.f0.f1, .int .i64 x.f0.f2, .int .i64 (x.f1 : Int), .int .i64 (x.f2 : Int)] :=
  ⟨[.string x.f0.f0, .int .u64 x.f0.f1, .int .i64 x.f0.f2], [.int .i64 (x.f1 : Int), .int .i64 (x.f2 : Int)], rfl, k45_mkM w base ok x.f0, ⟨[.int .i64 (x.f1 : Int)], [.int .i64 (x.f2 : Int)], rfl, rfl, rfl⟩⟩
def rd_TPl (xs : List SPl) (i : Int) : SPl := xs.getD i.toNat zPl
theorem at_TPl {w : World} {A : Option Addr} {n : Nat} {xs : List SPl} (h : Kd.C kPl w A n xs) (i : Int) (h0 : 0 ≤ i) (h1 : i < n) : ∃ ad, A = some ad ∧ w.cell? (ad.add (i.toNat * 5)) = some (.string (rd_TPl xs i).f0.f0) ∧ w.cell? ⟨(ad.add (i.toNat * 5)).block, (ad.add (i.toNat * 5)).off + 1, none⟩ = some (.int .u64 (rd_TPl xs i).f0.f1) ∧ w.cell? ⟨(ad.add (i.toNat * 5)).block, (ad.add (i.toNat * 5)).off + 2, none⟩ = some (.int .i64 (rd_TPl xs i).f0.f2) ∧ w.cell? ⟨(ad.add (i.toNat * 5)).block, (ad.add (i.toNat * 5)).off + 3, none⟩ = some (.int .i64 ((rd_TPl xs i).f1 : Int)) ∧ w.cell? ⟨(ad.add (i.toNat * 5)).block, (ad.add (i.toNat * 5)).off + 4, none⟩ = some (.int .i64 ((rd_TPl xs i).f2 : Int)) := by
  obtain ⟨ad, c, e, _, hK, hc0⟩ := Kd.C_get h zPl i h0 h1
  have hc : ∀ j u, c[j]? = some u → w.cell? (ad.add (i.toNat * 5 + j)) = some u := hc0
  obtain rfl := kPl_open hK
  exact ⟨ad, e, hc 0 _ rfl, by rw [← add_field _ _ 1 (by omega)]; exact hc 1 _ rfl, by rw [← add_field _ _ 2 (by omega)]; exact hc 2 _ rfl, by rw [← add_field _ _ 3 (by omega)]; exact hc 3 _ rfl, by rw [← add_field _ _ 4 (by omega)]; exact hc 4 _ rfl⟩
theorem info82 : (Try.prog.info? 82).map (fun i => (i.zero, i.size, i.bytes)) = some (some (.agg #[(.string ⟨#[]⟩), (.int .u64 0), (.int .i64 0), (.int .i64 0), (.int .i64 0)]), 5, 48) := by kernel_rfl
theorem ty_kPl {e' : Nat} (h : 82 ≠ e') : ∀ q, q ∈ 82 :: kPl.E → q ≠ e' := by
  intro q hq
  rcases List.mem_cons.1 hq with rfl | hq
  · exact h
  · exact absurd hq (by simp [kPl, k45, Kd.iso, Kd.pair, Kd.string, Kd.int, Kd.scalar])
/-- where a table lies -/
def IsTab (w : World) (g : Nat) (b fl : List Int) (ps : List SPl) (cnt : Int) : Prop :=
  ∃ Ab cb Af cf Ap cp, w.heap[g]? = some (.cells #[.slice Ab b.length cb, .slice Af fl.length cf, .slice Ap ps.length cp, .int .u64 cnt] 75 (0, 0)) ∧ Kd.C (Kd.int .u8) w Ab b.length b ∧ b.length ≤ cb ∧ Kd.C (Kd.int .u8) w Af fl.length fl ∧ fl.length ≤ cf ∧ Kd.C kPl w Ap ps.length ps ∧ ps.length ≤ cp
theorem IsTab.below {w w1 : World} {g : Nat} {b fl : List Int} {ps : List SPl} {cnt : Int} (h : IsTab w g b fl ps cnt) (hb : Below w.heap.size w w1) : IsTab w1 g b fl ps cnt := by
  obtain ⟨Ab, cb, Af, cf, Ap, cp, h1, h2, h3, h4, h5, h6, h7⟩ := h
  exact ⟨Ab, cb, Af, cf, Ap, cp, blk_below h1 hb, Kd.C_below h2 hb, h3, Kd.C_below h4 hb, h5, Kd.C_below h6 hb, h7⟩
/-- the places that an index tells -/
inductive Places (k bl : Nat) : List S47 → Nat → List SPl → Nat → Prop
  | nil (at_ : Nat) : Places k bl [] at_ [] at_
  | cons {kv : S47} {t : List S47} {at_ kk m size z : Nat} {a1 : List Int} {ps : List SPl} (hu1 : codec_Uvarint.f k (bytesOf kv.f1) = some ((at_ : Int), (kk : Int), 0)) (hk : kk ≤ (bytesOf kv.f1).length) (hu2 : codec_Uvarint.f k ((bytesOf kv.f1).drop kk) = some ((size : Int), (m : Int), 0))
      (hp1 : codec_PutUvarint.f k [] (at_ : Int) = some a1) (hp2 : codec_PutUvarint.f k a1 (size : Int) = some (bytesOf kv.f1)) (heq : slices_Equal_byte_byte.f k (bytesOf kv.f1) (bytesOf kv.f1) = some true) (hkm : kk + m = (bytesOf kv.f1).length) (hbl : (bytesOf kv.f1).length < 1000000) (hs : size ≤ bl) (ht : Places k bl t (at_ + size + 4) ps z) : Places k bl (kv :: t) at_ (⟨kv.f0, at_, size⟩ :: ps) z
theorem Places.le {k bl : Nat} : ∀ {l : List S47} {a : Nat} {ps : List SPl} {z : Nat}, Places k bl l a ps z → a ≤ z
  | _, _, _, _, .nil _ => Nat.le_refl _
  | _, _, _, _, .cons _ _ _ _ _ _ _ _ _ ht => by have := Places.le ht; omega
/-- a table's bytes that are opened -/
structure OpenOk (k : Nat) (b : List Int) (e n0 n1 n2 n3 : Nat) (ns : Nat → Int) (fl x : List Int) (idx : List S47) (iv : Int) (ps : List SPl) : Prop where
  len : b.length = e + 28
  lt : b.length < 1000000000000
  magic : strOfNums (b.drop (e + 20)) = tabMagic
  nums : ∀ i, i < 5 → ∃ c, codec_Fixed.f k (b.drop (e + 4 * i)) 4 = some (ns i, c)
  e0 : ns 0 = (n0 : Int)
  e1 : ns 1 = (n1 : Int)
  e2 : ns 2 = (n2 : Int)
  e3 : ns 3 = (n3 : Int)
  s2 : n0 + n1 + 4 = n2
  s4 : n2 + n3 + 4 = e
  p0 : part_f k b n0 n1 = some (fl, true)
  p1 : part_f k b n2 n3 = some (x, true)
  op : open_g k x = some (some (idx, iv))
  ne : idx ≠ []
  il : idx.length < 1000000
  x5 : 5 ≤ x.length ∧ rd x ((x.length : Int) - 5) = 1
  pl : Places k b.length idx 0 ps n0
theorem bytes_row {P : Program} (w : World) (src dst e : TypeId) (s : ByteArray) (hs : P.underlying src = some .string) (hd : P.underlying dst = some (.slice e)) (he : P.underlying e = some (.int .u8)) (hl : s.size < 1000000000000) :
    ∃ cap w1, (convert src dst (.string s)).run P w = .ok (.slice (some ⟨w.heap.size, 0, none⟩) (bytesOf s).length cap) w1 ∧ Kd.C (Kd.int .u8) w1 (some ⟨w.heap.size, 0, none⟩) (bytesOf s).length (bytesOf s) ∧ (bytesOf s).length ≤ cap ∧ Below w.heap.size w w1 := by
  have hle : s.size ≤ grownCap w s.size 0 e := grownCap_ge _ _ _ _
  refine ⟨grownCap w s.size 0 e, _, by rw [bytesOf_length]; exact run_bytes_of_string w src dst e s hs hd he, ?_, by rw [bytesOf_length]; exact hle, below_alloc (below_drew1 (Below.refl _ _)) _⟩
  refine Kd.C_of_reads (h1 := fun _ => rfl) (d := (0 : Int)) (show ReadsOf (Value.int .u8) 0 _ _ _ _ from ⟨rfl, by rw [bytesOf_length]; omega, fun _ => ⟨_, rfl, fun j hj => ?_⟩⟩)
  rw [bytesOf_length] at hj
  rw [add_plain, cell_of_row _ w.heap.size j _ e _ (show _ = _ from heap_alloc_new w.drew _)]
  have hj2 : j < s.data.size := hj
  simp only [bytesRow, bytesOf, List.getD_eq_getElem?_getD, Array.getElem?_append]
  simp [hj, hj2]
end Go.Proofs.Ythdemdjobgbpdaa.T
namespace Go.Proofs.Ythdemdjobgbpdaa.T
open Go.RowKit Go.Shelf Go.Proofs.YthdemdjobgbpdaaW.PrintWords Go.Proofs.YthdemdjobgbpdaaW.PrintLast Go.Proofs.YthdemdjobgbpdaaW.PrintMore Go.Proofs.Ythdemdjobgbpdaa.P Go.Proofs.Ythdemdjobgbpdaa.B Go.Proofs.Ythdemdjobgbpdaa.Q
attribute [local go_sem] Oper.semAt_some
set_option linter.unusedVariables false
set_option linter.unusedSimpArgs false
/-- the five numbers, the first j of them read -/
def cells5 (ns : Nat → Int) (j : Nat) : Array Value := ((List.range 5).map fun i => Value.int .u64 (if i < j then ns i else 0)).toArray
theorem cells5_set (ns : Nat → Int) (j : Nat) (h : j < 5) : (cells5 ns j).setIfInBounds j (.int .u64 (ns j)) = cells5 ns (j + 1) := by
  rcases (show j = 0 ∨ j = 1 ∨ j = 2 ∨ j = 3 ∨ j = 4 by omega) with rfl | rfl | rfl | rfl | rfl <;> rfl
theorem cells5_get (ns : Nat → Int) (j : Nat) (h : j < 5) : (cells5 ns j)[j]? = some (.int .u64 0) := by
  rcases (show j = 0 ∨ j = 1 ∨ j = 2 ∨ j = 3 ∨ j = 4 by omega) with rfl | rfl | rfl | rfl | rfl <;> rfl
theorem to_w1 (e : Nat) (h : e < 1000000000000) : wrap64 (((e + 28 : Nat) : Int) - 28) = (e : Int) := by unfold wrap64; omega
theorem to_w2 (e : Nat) (h : e < 1000000000000) : wrap64 (((e + 28 : Nat) : Int) - 8) = ((e + 20 : Nat) : Int) := by unfold wrap64; omega
theorem to_w3 (j : Nat) (h : j < 5) : wrap64 (4 * (j : Int)) = 4 * (j : Int) := by unfold wrap64; omega
theorem to_w4 (e j : Nat) (h : e < 1000000000000) (hj : j < 5) : wrap64 ((e : Int) + 4 * (j : Int)) = ((e + 4 * j : Nat) : Int) := by unfold wrap64; omega
theorem to_q1 (a c : Nat) (h : a + c < 1000000000000) : IntKind.u64.wrap ((a : Int) + (c : Int)) = (a : Int) + (c : Int) := by simp [IntKind.wrap, IntKind.bits, IntKind.signed]; omega
theorem to_q2 (a c d : Nat) (e : a + c + 4 = d) (h : d < 1000000000000) : IntKind.u64.wrap ((a : Int) + (c : Int) + 4) = (d : Int) := by simp [IntKind.wrap, IntKind.bits, IntKind.signed]; omega
theorem to_q3 (a : Nat) (h : a < 1000000000000) : IntKind.u64.wrap (a : Int) = (a : Int) := by simp [IntKind.wrap, IntKind.bits, IntKind.signed]; omega
theorem to_q4 (a : Nat) (h : a < 1000000000000) : wrap64 (a : Int) = (a : Int) := by unfold wrap64; omega
theorem part_len {k : Nat} {l : List Int} {a s : Nat} {r : List Int × Bool} (h : part_f k l a s = some r) : r.1.length = s ∧ a + s ≤ l.length := by
  unfold part_f at h
  split at h
  case isFalse => cases h
  rename_i hb
  obtain ⟨x, _, h⟩ := Option.bind_eq_some_iff.mp h
  obtain ⟨c, _, h⟩ := Option.bind_eq_some_iff.mp h
  obtain ⟨m, _, h⟩ := Option.bind_eq_some_iff.mp h
  injection h with h
  subst h
  exact ⟨by simp; omega, hb.1⟩
theorem HB_grown {w W W' : World} {ok : Nat → Prop} {e : Nat} {α : Type} {d : Kd α} {vp : Value} {acc : List α} (h : Below w.heap.size w W) (hr : Kd.R d e W w.heap.size ok vp acc) (hg : W.grownBy W' vp.ownBlock) : Below w.heap.size w W' :=
  h.grown hg (below_size h) (fun r e => Kd.R_base hr r e)
/-- what stands between two rounds of the index -/
structure OpI (n m gn gt gi mi : Nat) (w : World) (Ab : Option Addr) (cb : Nat) (b : List Int) (Af : Option Addr) (fl : List Int) (cnt : Int) (cn : Array Value) (idx : List S47) (iv : Int) (W : World) (vp : Value) (acc : List SPl) : Prop where
  bt : W.heap[gt]? = some (.cells #[.slice Ab b.length cb, .slice Af fl.length fl.length, vp, .int .u64 cnt] 75 (0, 0))
  bn : W.heap[gn]? = some (.cells cn 65 (0, 0))
  rb : Kd.R (Kd.int .u8) 5 W n (fun _ => True) (.slice Ab b.length cb) b
  ix : IsOwn W mi gi idx iv
  rp : Kd.R kPl 82 W n (fun q => m ≤ q) vp acc
  hb : Below n w W
  hi : gi < m ∧ gn < m ∧ gt < m ∧ m ≤ W.heap.size
theorem OpI.below {n m gn gt gi mi : Nat} {w : World} {Ab : Option Addr} {cb : Nat} {b : List Int} {Af : Option Addr} {fl : List Int} {cnt : Int} {cn : Array Value} {idx : List S47} {iv : Int} {W W' : World} {vp : Value} {acc : List SPl} (h : OpI n m gn gt gi mi w Ab cb b Af fl cnt cn idx iv W vp acc) (hn : n = w.heap.size) (hb : Below W.heap.size W W') : OpI n m gn gt gi mi w Ab cb b Af fl cnt cn idx iv W' vp acc := by
  subst hn
  exact ⟨blk_below h.bt hb, blk_below h.bn hb, Kd.R_below h.rb hb, h.ix.below hb, Kd.R_below h.rp hb, below_step h.hb hb, h.hi.1, h.hi.2.1, h.hi.2.2.1, Nat.le_trans h.hi.2.2.2 hb.size⟩
theorem OpI.push {n m gn gt gi mi : Nat} {w : World} {Ab : Option Addr} {cb : Nat} {b : List Int} {Af : Option Addr} {fl : List Int} {cnt : Int} {cn : Array Value} {idx : List S47} {iv : Int} {W W' : World} {vp v' : Value} {acc acc' : List SPl} (h : OpI n m gn gt gi mi w Ab cb b Af fl cnt cn idx iv W vp acc) (hn : n = w.heap.size) (hgt : n ≤ gt) (h1 : gi ≠ gt) (h2 : gn ≠ gt)
    (hr : Kd.R kPl 82 W' n (fun q => m ≤ q) v' acc') (hg : W.grownBy W' vp.ownBlock) : OpI n m gn gt gi mi w Ab cb b Af fl cnt cn idx iv (W'.setCell ⟨gt, 2, none⟩ v') v' acc' := by
  subst hn
  have hbt := (hg.block gt (blk_lt2 h.bt) (fun e => absurd (h.rp.1 gt e.symm) (by have := h.hi.2.2.1; omega))).trans h.bt
  have hbn := (hg.block gn (blk_lt2 h.bn) (fun e => absurd (h.rp.1 gn e.symm) (by have := h.hi.2.1; omega))).trans h.bn
  obtain ⟨A, c, x1, x2, x3⟩ := h.ix
  have hgi : W'.heap[gi]? = W.heap[gi]? := hg.block gi (World.block_lt_of_cell? _ _ x1) (fun e => absurd (h.rp.1 gi e.symm) (by have := h.hi.1; omega))
  have hgi2 : (W'.setCell ⟨gt, 2, none⟩ v').heap[gi]? = W'.heap[gi]? := Below.heap_setCell _ _ _ _ h1
  exact ⟨blk_put hbt 2 v' rfl, blk_setne hbn h2, R_setbox (Kd.R_over h.rb h.rp (ty_u8 (by decide)) hg) hbt (ty_u8 (by decide)), ⟨A, c, (cell_heap (hgi2.trans hgi)).trans x1, (cell_heap (hgi2.trans hgi)).trans x2, R_setbox (Kd.R_over x3 h.rp (ty_k47 (by decide)) hg) hbt (ty_k47 (by decide))⟩,
    R_setbox hr hbt (ty_kPl (by decide)), below_set (HB_grown h.hb h.rp hg) hgt, h.hi.1, h.hi.2.1, h.hi.2.2.1, by simpa using Nat.le_trans h.hi.2.2.2 hg.size⟩
theorem putu_c (k : Nat) (A : Option Addr) (c n : Nat) (l0 : List Int) (a1 : Int) (r : List Int) (w : World) (hl : l0.length = n) (hr0 : Kd.C (Kd.int .u8) w A l0.length l0) (hc : n ≤ c) (h : codec_PutUvarint.f k l0 a1 = some r) :
    Calls Try.prog 21 #[.slice A n c, .int .u64 a1] w fun e w' => ∃ v0_ : Value, e = .returned (v0_) ∧ Kd.R (Kd.int .u8) 5 w' w.heap.size (fun _ => True) v0_ r ∧ Below w.heap.size w w' := by
  subst hl
  exact codec_PutUvarint.calls k A c l0 a1 r w hr0 hc h
theorem to_q5 (a c d : Nat) (e : a + c = d) (h : d < 1000000000000) : wrap64 ((a : Int) + (c : Int)) = (d : Int) := by unfold wrap64; omega
theorem to_q6 (a : Nat) (h : a < 1000000000000) : wrap64 ((a : Int) + 1) = ((a + 1 : Nat) : Int) := by unfold wrap64; omega
set_option maxRecDepth 100000 in
set_option maxHeartbeats 4000000 in
theorem open_calls (k : Nat) (A0 : Option Addr) (c0 : Nat) (b : List Int) (e n0 n1 n2 n3 : Nat) (ns : Nat → Int) (fl x : List Int) (idx : List S47) (iv : Int) (ps : List SPl) (w : World) (hr0 : Kd.C (Kd.int .u8) w A0 b.length b) (hc0 : b.length ≤ c0) (ok : OpenOk k b e n0 n1 n2 n3 ns fl x idx iv ps) :
    Calls Try.prog 13 #[.slice A0 b.length c0] w fun en w' => ∃ g, en = .returned (.tuple #[.pointer (some ⟨g, 0, none⟩), .int .i64 0]) ∧ w.heap.size ≤ g ∧ IsTab w' g b fl ps (ns 4) ∧ Below w.heap.size w w' := by
  have HR0 := Aside0.mk hr0
  have HC0 := Aside0.mk hc0
  have OK := Aside0.mk ok
  have HBL := Aside0.mk ok.len
  have HLT := Aside0.mk ok.lt
  clear hr0 hc0
  obtain ⟨i5, hi5, _, hs5, _⟩ := info_parts info5
  have HI5 := Aside0.mk hi5
  have HS5 := Aside0.mk hs5
  clear hi5 hs5 ok
  go_enter Try.func13, Try.ntmps13
  go_upto_region 2 with (first
    | (go_at_call 30; with_reducible refine (slices_Clone_byte_byte.calls A0 c0 b b _ HR0.out HC0.out (by unfold slices_Clone_byte_byte.f; rw [if_pos (by have := HLT.out; omega)])).mono ?_; rintro ex w2 ⟨vb, rfl, hob, hb⟩
       obtain ⟨Ab, cb, eb⟩ := Kd.R_slice hob
       subst eb
       have HRB := Aside0.mk hob
       have HCC := Aside0.mk (Kd.R_reads' hob).2.1
       have HB2 := Aside0.mk hb
       clear hob hb))
  have hw1 : wrap64 ((b.length : Int) - 28) = (e : Int) := by rw [HBL.out]; exact to_w1 e (by have := HBL.out; have := HLT.out; omega)
  obtain ⟨z, hz⟩ : ∃ z, e + 20 = z := ⟨_, rfl⟩
  have hzl : z ≤ b.length := by rw [← hz, HBL.out]; omega
  have hw2 : wrap64 ((b.length : Int) - 8) = (z : Int) := by rw [HBL.out, ← hz]; exact to_w2 e (by have := HBL.out; have := HLT.out; omega)
  have hmg : strOfNums (b.drop z) = tabMagic := by rw [← hz]; exact OK.out.magic
  clear hz
  have he0 : decide ((e : Int) < 0) = false := decide_eq_false (by omega)
  obtain ⟨A1, hcut1, hrd1, hcp1⟩ := print_drop_of (P := Try.prog) (Value.int .u8) (0 : Int) 27 5 .i64 Try.underlying27 HI5.out HS5.out Ab cb b (z : Int) (by omega) (by clear hw1 hw2; omega) HCC.out
  rw [Int.toNat_natCast] at hcut1 hrd1 hcp1
  have hR1 : Kd.C (Kd.int .u8) w2 A1 (b.drop z).length (b.drop z) := Kd.C_of_reads (h1 := fun _ => rfl) (hrd1 _ (Kd.reads_of_C (Kd.R_reads' HRB.out).2.2))
  have hcv := Kd.C_string (P := Try.prog) (dst := 9) (c := cb - z) Try.underlying27 Try.underlying5 (by kernel_rfl) hR1
  rw [hmg] at hcv
  obtain ⟨D, hD⟩ : ∃ y, b.drop z = y := ⟨_, rfl⟩
  rw [hD] at hcut1 hcv
  clear hD
  have hnq : (tabMagic.toList == [115, 116, 97, 100, 100, 108, 101, 49]) = true := by rw [ByteArray.toList_eq]; rfl
  clear hrd1 hcp1 hR1 hzl hmg
  go_upto_region 7 with fail
  simp only [hw1, hw2]
  obtain ⟨w3, hw3⟩ : ∃ x, w2.alloc (.cells #[.int .u64 0, .int .u64 0, .int .u64 0, .int .u64 0, .int .u64 0] 65) = x := ⟨_, rfl⟩
  have hb23 : Below w2.heap.size w2 w3 := by rw [← hw3]; exact below_alloc (Below.refl _ _) _
  have BN3 : Aside0 (w3.heap[w2.heap.size]? = some (.cells (cells5 ns 0) 65 (0, 0))) := ⟨by rw [← hw3]; exact blk_new w2 _⟩
  have HRB3 := Aside0.mk (Kd.R_below HRB.out hb23)
  have HB3 := Aside0.mk (below_step HB2.out hb23)
  have HGN : Aside0 (w.heap.size ≤ w2.heap.size) := ⟨below_size HB2.out⟩
  have HE := Aside0.mk hw1
  rw [hw3]
  clear hw1 hw2 he0 hcut1 hcv hnq hw3 hb23 HRB HB2
  go_loopg [43] 6 (fun gf v43 wx => ∃ j : Nat, v43 = .int .i64 (j : Int) ∧ Aside0 (gf + j = 6 ∧ j ≤ 5) ∧ Aside0 (wx.heap[w2.heap.size]? = some (.cells (cells5 ns j) 65 (0, 0))) ∧ Aside0 (Kd.R (Kd.int .u8) 5 wx w.heap.size (fun _ => True) (.slice Ab b.length cb) b) ∧ Aside0 (Below w.heap.size w wx))
  case atStart => exact ⟨0, rfl, ⟨by omega, by omega⟩, BN3, HRB3, HB3⟩
  case round =>
    clear BN3 HRB3 HB3
    obtain ⟨j, rfl, HJ, BN, HRB, HB⟩ := hrel
    cases gk with
    | zero => exact absurd HJ.out.1 (by have := HJ.out.2; omega)
    | succ g1 =>
      by_cases c : j < 5
      · have c1b : decide ((j : Int) < 5) = true := decide_eq_true (by omega)
        have c1d := eq_true (show (j : Int) < 5 by omega)
        have c1e := eq_true (show (0 : Int) ≤ (j : Int) by omega)
        have HC := Aside0.mk c
        obtain ⟨c5, hfx⟩ := OK.out.nums j c
        obtain ⟨z, hz⟩ : ∃ z, e + 4 * j = z := ⟨_, rfl⟩
        rw [hz] at hfx
        have hzl : z ≤ b.length := by have := HBL.out; omega
        have hw4 := to_w3 j c
        have hw5 : wrap64 ((e : Int) + 4 * (j : Int)) = (z : Int) := by rw [← hz]; exact to_w4 e j (by have := HBL.out; have := HLT.out; omega) c
        have HJ1 : Aside0 (wrap64 ((j : Int) + 1) = ((j + 1 : Nat) : Int)) := ⟨td_w1 j (by omega)⟩
        obtain ⟨A2, hcut2, hrd2, hcp2⟩ := print_drop_of (P := Try.prog) (Value.int .u8) (0 : Int) 27 5 .i64 Try.underlying27 HI5.out HS5.out Ab cb b (z : Int) (by omega) (by clear hw4 hw5; omega) HCC.out
        rw [Int.toNat_natCast] at hcut2 hrd2 hcp2
        have hR2 : Kd.C (Kd.int .u8) wr A2 (b.drop z).length (b.drop z) := Kd.C_of_reads (h1 := fun _ => rfl) (hrd2 _ (Kd.reads_of_C (Kd.R_reads' HRB.out).2.2))
        have hcn : wr.cell? ⟨w2.heap.size, j, none⟩ = some (.int .u64 0) := (blk_cell BN.out j).trans (cells5_get ns j c)
        have hcf := blk_frozen BN.out j
        obtain ⟨D, hD⟩ : ∃ y, b.drop z = y := ⟨_, rfl⟩
        rw [hD] at hcut2 hR2 hcp2 hfx
        have HR2 := Aside0.mk hR2
        have HFX := Aside0.mk hfx
        have HCP2 := Aside0.mk hcp2
        clear hD hrd2 hR2 hfx hzl hz c hcp2
        go_upto_region 10 with (first
          | (go_at_call 31; with_reducible refine (codec_Fixed.calls k A2 _ D 4 (ns j) c5 _ HR2.out HCP2.out HFX.out).mono ?_; rintro ex w4 ⟨rfl, ⟨nd, rfl⟩⟩))
        obtain ⟨w5, hw5x⟩ : ∃ x, (wr.drewN nd).setCell ⟨w2.heap.size, j, none⟩ (.int .u64 (ns j)) = x := ⟨_, rfl⟩
        have BN5 : Aside0 (w5.heap[w2.heap.size]? = some (.cells (cells5 ns (j + 1)) 65 (0, 0))) := ⟨by rw [← hw5x]; exact blk_put (blk_drewN BN.out nd) j _ (cells5_set ns j HC.out)⟩
        have HRB5 := Aside0.mk (hw5x ▸ R_setbox (j := j) (u := .int .u64 (ns j)) (Kd.R_drewN HRB.out nd) (blk_drewN BN.out nd) (ty_u8 (by decide)))
        have HB5 := Aside0.mk (hw5x ▸ below_set (j := j) (v := .int .u64 (ns j)) (pw_below_drewN HB.out nd) HGN.out)
        rw [hw5x]
        clear hw5x hw4 hw5 hcut2 hcn hcf c1b c1d c1e
        go_wp2
        simp only [HJ1.out]
        go_roundg g1
        case measure => omega
        case rel => exact ⟨j + 1, rfl, ⟨by have := HJ.out.1; omega, HC.out⟩, BN5, HRB5, HB5⟩
      · have c1b : decide ((j : Int) < 5) = false := decide_eq_false (by omega)
        have hj : j = 5 := by have := HJ.out.2; omega
        subst hj
        have HBC : Aside0 (wr.heap[w2.heap.size]? = some (.cells #[.int .u64 (n0 : Int), .int .u64 (n1 : Int), .int .u64 (n2 : Int), .int .u64 (n3 : Int), .int .u64 (ns 4)] 65 (0, 0))) := ⟨by
          rw [BN.out, ← OK.out.e0, ← OK.out.e1, ← OK.out.e2, ← OK.out.e3]
          rfl⟩
        have hc0 : wr.cell? ⟨w2.heap.size, 0, none⟩ = some (.int .u64 (n0 : Int)) := (blk_cell HBC.out 0).trans rfl
        have hc1 : wr.cell? ⟨w2.heap.size, 1, none⟩ = some (.int .u64 (n1 : Int)) := (blk_cell HBC.out 1).trans rfl
        have hc2 : wr.cell? ⟨w2.heap.size, 2, none⟩ = some (.int .u64 (n2 : Int)) := (blk_cell HBC.out 2).trans rfl
        have hc3 : wr.cell? ⟨w2.heap.size, 3, none⟩ = some (.int .u64 (n3 : Int)) := (blk_cell HBC.out 3).trans rfl
        have hlt : e < 1000000000000 := by have := HBL.out; have := HLT.out; omega
        have hs2 := OK.out.s2
        have hs4 := OK.out.s4
        have b1 : n0 + n1 < 1000000000000 := by omega
        have b2 : n2 < 1000000000000 := by omega
        have b3 : n2 + n3 < 1000000000000 := by omega
        have b4 : n0 < 1000000000000 := by omega
        have b5 : n1 < 1000000000000 := by omega
        have b6 : n3 < 1000000000000 := by omega
        have hq1 := to_q1 n0 n1 b1
        have hq2 := to_q2 n0 n1 n2 hs2 b2
        have hq3 := to_q1 n2 n3 b3
        have hq4 := to_q2 n2 n3 e hs4 hlt
        have hq5 := to_q3 e hlt
        have hq6 := to_q4 n0 b4
        have hq7 := to_q4 n1 b5
        have hq8 := to_q4 n2 b2
        have hq9 := to_q4 n3 b6
        clear b1 b2 b3 b4 b5 b6 hs2 hs4
        clear hlt c c1b BN
        go_upto_region 13 with fail
        clear hq1 hq2 hq3 hq4 hq5
        have hc4 : wr.cell? ⟨w2.heap.size, 4, none⟩ = some (.int .u64 (ns 4)) := (blk_cell HBC.out 4).trans rfl
        go_upto_region 18 with (first
          | (go_at_call 32; with_reducible refine (part_calls k Ab cb b n0 n1 (fl, true) _ (Kd.R_reads' HRB.out).2.2 HCC.out OK.out.p0).mono ?_; rintro ex w4 ⟨Af, rfl, hcf, hb⟩
             have BN4 := Aside0.mk (blk_below HBC.out hb)
             have HRB4 := Aside0.mk (Kd.R_below HRB.out hb)
             have HB4 := Aside0.mk (below_step HB.out hb)
             have HCF := Aside0.mk hcf
             have hd2 : w4.cell? ⟨w2.heap.size, 2, none⟩ = some (.int .u64 (n2 : Int)) := (blk_cell BN4.out 2).trans rfl
             have hd3 : w4.cell? ⟨w2.heap.size, 3, none⟩ = some (.int .u64 (n3 : Int)) := (blk_cell BN4.out 3).trans rfl
             clear hb hcf hc0 hc1 hc2 hc3 hc4)
          | (go_at_call 32; with_reducible refine (part_calls k Ab cb b n2 n3 (x, true) _ (Kd.R_reads' HRB4.out).2.2 HCC.out OK.out.p1).mono ?_; rintro ex w5 ⟨Ax, rfl, hcx, hb⟩
             have BN5 := Aside0.mk (blk_below BN4.out hb)
             have HRB5 := Aside0.mk (Kd.R_below HRB4.out hb)
             have HB5 := Aside0.mk (below_step HB4.out hb)
             have HCX := Aside0.mk hcx
             clear hb hcx hd2 hd3)
          | (go_at_call 33; with_reducible refine (Open_own k Ax x.length x (some (idx, iv)) _ (HCX.out _ (Kd.R_reads' HRB5.out).2.2) (Nat.le_refl _) OK.out.op).mono ?_; rintro ex w6 ⟨hb, gi, rfl, hge, hown⟩
             have BN6 := Aside0.mk (blk_below BN5.out hb)
             have HRB6 := Aside0.mk (Kd.R_below HRB5.out hb)
             have HB6 := Aside0.mk (below_step HB5.out hb)
             have HIX := Aside0.mk hown
             have HGI : Aside0 (gi < w6.heap.size) := ⟨by obtain ⟨_, _, x1, _⟩ := hown; exact World.block_lt_of_cell? _ _ x1⟩
             clear hb hown hge))
        clear hq6 hq7 hq8 hq9
        have hil : (idx.length == 0) = false := by
          rw [beq_eq_false_iff_ne]
          exact fun h => OK.out.ne (List.length_eq_zero_iff.mp h)
        have hil2 : ((idx.length : Int) == 0) = false := by
          rw [beq_eq_false_iff_ne]
          exact fun h => OK.out.ne (List.length_eq_zero_iff.mp (by omega))
        obtain ⟨hx5, hxv⟩ := OK.out.x5
        have hxl : x.length < 1000000000000 := by have h1 : x.length = n3 ∧ n2 + n3 ≤ b.length := part_len OK.out.p1; have := HLT.out; omega
        obtain ⟨z5, hz5⟩ : ∃ z, x.length - 5 = z := ⟨_, rfl⟩
        have hz6 : ((x.length : Int) - 5) = (z5 : Int) := by omega
        rw [hz6] at hxv
        have hzl : z5 < x.length := by omega
        have hwx : wrap64 ((x.length : Int) - 5) = (z5 : Int) := by rw [hz6]; exact to_q4 z5 (by omega)
        obtain ⟨ax, eax, hcx5⟩ := Kd.at_int (HCX.out _ (Kd.R_reads' HRB6.out).2.2) (z5 : Int) (by omega) (by clear hwx; omega)
        subst eax
        rw [hxv, Int.toNat_natCast] at hcx5
        have p1 := eq_true (show (0 : Int) ≤ (z5 : Int) by omega)
        have p2 := eq_true (show (z5 : Int) < (x.length : Int) by clear hwx; omega)
        have p3 : decide ((z5 : Int) < (x.length : Int)) = true := decide_eq_true (by clear hwx; omega)
        clear hx5 hxv hxl hz5 hz6 hzl
        go_upto_region 20 with (first
          | (go_at_call 34; with_reducible refine (Len_calls gi idx iv _ HIX.out.blk).mono ?_; rintro ex w7 ⟨rfl, hww⟩; obtain rfl := hww.symm))
        clear hwx hcx5 p1 p2 p3 hil hil2
        have hc4 : w6.cell? ⟨w2.heap.size, 4, none⟩ = some (.int .u64 (ns 4)) := (blk_cell BN6.out 4).trans rfl
        go_upto_region 23 with (first
          | (go_at_call 34; with_reducible refine (Len_calls gi idx iv _ (HIX.out.below (below_alloc (Below.refl _ _) _)).blk).mono ?_; rintro ex w7 ⟨rfl, rfl⟩))
        obtain ⟨w8, hw8⟩ : ∃ x, w6.alloc (.cells #[.slice Ab b.length cb, .slice Af fl.length fl.length, .slice none 0 0, .int .u64 (ns 4)] 75) = x := ⟨_, rfl⟩
        have hb68 : Below w6.heap.size w6 w8 := by rw [← hw8]; exact below_alloc (Below.refl _ _) _
        have hs8 : w8.heap.size = w6.heap.size + 1 := by rw [← hw8]; simp
        have P8 : Aside0 (OpI w.heap.size w8.heap.size w2.heap.size w6.heap.size gi w5.heap.size w Ab cb b Af fl (ns 4) #[.int .u64 (n0 : Int), .int .u64 (n1 : Int), .int .u64 (n2 : Int), .int .u64 (n3 : Int), .int .u64 (ns 4)] idx iv w8 (.slice none 0 0) []) := ⟨by rw [← hw8]; exact blk_new w6 _, blk_below BN6.out hb68, Kd.R_below HRB6.out hb68, HIX.out.below hb68, Kd.R_nil _ _ _ _ _, below_step HB6.out hb68,
          by have := HGI.out; omega, by have := blk_lt2 BN6.out; omega, by omega, Nat.le_refl _⟩
        have HNI : Aside0 (gi ≠ w6.heap.size ∧ w2.heap.size ≠ w6.heap.size ∧ w.heap.size ≤ w6.heap.size) := ⟨by have := HGI.out; omega, by have := blk_lt2 BN6.out; omega, below_size HB6.out⟩
        rw [hw8]
        clear hw8 hb68 hs8 BN6 HRB6 HIX HB6 HGI hc4
        go_loopg [15, 136] (idx.length + 1) (fun gf v15 v136 wx => ∃ (i at_ : Nat) (vp : Value) (acc rest : List SPl), v15 = .int .u64 (at_ : Int) ∧ v136 = .int .i64 (i : Int) ∧ Aside0 (gf + i = idx.length + 1 ∧ i ≤ idx.length) ∧ Aside0 (Places k b.length (idx.drop i) at_ rest n0) ∧ Aside0 (acc ++ rest = ps ∧ acc.length = i) ∧ Aside0 (OpI w.heap.size w8.heap.size w2.heap.size w6.heap.size gi w5.heap.size w Ab cb b Af fl (ns 4) #[.int .u64 (n0 : Int), .int .u64 (n1 : Int), .int .u64 (n2 : Int), .int .u64 (n3 : Int), .int .u64 (ns 4)] idx iv wx vp acc))
        case atStart => exact ⟨0, 0, _, [], ps, rfl, rfl, ⟨by omega, by omega⟩, ⟨OK.out.pl⟩, ⟨rfl, rfl⟩, P8⟩
        case round =>
          clear P8
          obtain ⟨i, at_, vp, acc, rest, rfl, rfl, HI, HP, HA, PI⟩ := hrel
          cases gk with
          | zero => exact absurd HI.out.1 (by have := HI.out.2; omega)
          | succ g2 =>
            by_cases ci : i < idx.length
            · have d1 : decide ((i : Int) < (idx.length : Int)) = true := decide_eq_true (by omega)
              have d2 := eq_true (show (i : Int) < (idx.length : Int) by omega)
              have d3 := eq_true (show (0 : Int) ≤ (i : Int) by omega)
              have HCI := Aside0.mk ci
              have hdr : idx.drop i = rd_T47 idx (i : Int) :: idx.drop (i + 1) := by
                rw [List.drop_eq_getElem_cons ci]
                simp [rd_T47, ci]
              have hpl := HP.out
              rw [hdr] at hpl
              obtain ⟨X, hX⟩ : ∃ x, rd_T47 idx (i : Int) = x := ⟨_, rfl⟩
              rw [hX] at hpl
              have HX := Aside0.mk hX
              cases hpl with
              | cons hu1 hkl hu2 hp1 hp2 heq hkm hbl5 hsz htl =>
              rename_i kk mm size a1 pt
              have hat := At_calls gi idx iv (i : Int) wr PI.out.ix.blk (by omega) (by omega)
              rw [hX] at hat
              unfold kvV at hat
              have HBR := Aside0.mk (Below.refl wr.heap.size wr)
              have HU1 := Aside0.mk hu1
              have HU2 := Aside0.mk hu2
              have HKL := Aside0.mk hkl
              have HP1 := Aside0.mk hp1
              have HP2 := Aside0.mk hp2
              have HEQ := Aside0.mk heq
              have HKM := Aside0.mk hkm
              have HB5 := Aside0.mk hbl5
              have HSZ := Aside0.mk hsz
              have HTL := Aside0.mk htl
              clear hdr hX hu1 hu2 hkl hp1 hp2 heq hkm hbl5 hsz htl HP
              go_upto_region 26 with (first
                | (go_at_call 35; with_reducible refine hat.mono ?_; rintro ex w9 ⟨rfl, hb⟩
                   have HBR9 := Aside0.mk (below_step HBR.out hb)
                   clear hb hat)
                | ((with_reducible refine gate_dst (N := 17) rfl ?_); refine box_event ?hg (N := 17) ?hd (cs := #[.string (⟨#[]⟩ : ByteArray), .int .u64 0, .int .i64 0, .string (⟨#[]⟩ : ByteArray)]) (t := 47) ?hr ?_; (case hd => rfl); (case hg => rfl); (case hr => first | (go_simp; done) | (go_simp; rfl)); intro gb hg w10 hbox hb
                   have BK := Aside0.mk hbox
                   have HBR10 := Aside0.mk (below_step HBR9.out hb)
                   have HGB : Aside0 (wr.heap.size ≤ gb) := ⟨by rw [hg]; exact below_size HBR9.out⟩
                   clear hb hbox hg
                   have hcz0 : w10.cell? ⟨gb, 0, none⟩ = some (.string (⟨#[]⟩ : ByteArray)) := (blk_cell BK.out 0).trans rfl
                   have hcz1 : w10.cell? ⟨gb, 1, none⟩ = some (.int .u64 0) := (blk_cell BK.out 1).trans rfl
                   have hcz2 : w10.cell? ⟨gb, 2, none⟩ = some (.int .i64 0) := (blk_cell BK.out 2).trans rfl
                   have hcz3 : w10.cell? ⟨gb, 3, none⟩ = some (.string (⟨#[]⟩ : ByteArray)) := (blk_cell BK.out 3).trans rfl
                   have hfz0 := blk_frozen BK.out 0
                   have hfz1 := blk_frozen BK.out 1
                   have hfz2 := blk_frozen BK.out 2
                   have hfz3 := blk_frozen BK.out 3))
              obtain ⟨w11, hw11⟩ : ∃ x, (((w10.setCell ⟨gb, 0, none⟩ (.string X.f0.f0)).setCell ⟨gb, 1, none⟩ (.int .u64 X.f0.f1)).setCell ⟨gb, 2, none⟩ (.int .i64 X.f0.f2)).setCell ⟨gb, 3, none⟩ (.string X.f1) = x := ⟨_, rfl⟩
              have BK11 : Aside0 (w11.heap[gb]? = some (.cells #[.string X.f0.f0, .int .u64 X.f0.f1, .int .i64 X.f0.f2, .string X.f1] 47 (0, 0))) := ⟨by
                rw [← hw11]
                exact blk_put (cs := #[.string X.f0.f0, .int .u64 X.f0.f1, .int .i64 X.f0.f2, .string (⟨#[]⟩ : ByteArray)]) (blk_put (cs := #[.string X.f0.f0, .int .u64 X.f0.f1, .int .i64 0, .string (⟨#[]⟩ : ByteArray)]) (blk_put (cs := #[.string X.f0.f0, .int .u64 0, .int .i64 0, .string (⟨#[]⟩ : ByteArray)]) (blk_put (cs := #[.string (⟨#[]⟩ : ByteArray), .int .u64 0, .int .i64 0, .string (⟨#[]⟩ : ByteArray)]) BK.out 0 _ rfl) 1 _ rfl) 2 _ rfl) 3 _ rfl⟩
              have HBR11 : Aside0 (Below wr.heap.size wr w11) := ⟨by rw [← hw11]; exact below_set (below_set (below_set (below_set HBR10.out HGB.out) HGB.out) HGB.out) HGB.out⟩
              rw [hw11]
              clear hw11 hcz0 hcz1 hcz2 hcz3 hfz0 hfz1 hfz2 hfz3 BK HBR HBR9 HBR10
              have hv3 : w11.cell? ⟨gb, 3, none⟩ = some (.string X.f1) := (blk_cell BK11.out 3).trans rfl
              obtain ⟨cV, w12, hcvr, hCV, hcV, hb12⟩ := bytes_row (P := Try.prog) w11 9 27 5 X.f1 Try.underlying9 Try.underlying27 (by kernel_rfl) (by have := HB5.out; rw [bytesOf_length] at this; omega)
              have HCV := Aside0.mk hCV
              have HCVC := Aside0.mk hcV
              have HBR12 := Aside0.mk (below_step HBR11.out hb12)
              have BK12 := Aside0.mk (blk_below BK11.out hb12)
              have hvl := bytesOf_length X.f1
              obtain ⟨V, hV⟩ : ∃ y, bytesOf X.f1 = y := ⟨_, rfl⟩
              rw [hV] at hcvr HCV HCVC HU1 HU2 HKL HP2 HEQ HKM HB5
              obtain ⟨AV, hAV⟩ : ∃ y, (some ⟨w11.heap.size, 0, none⟩ : Option Addr) = y := ⟨_, rfl⟩
              rw [hAV] at hcvr HCV
              clear hCV hcV hb12 hV hAV hvl
              obtain ⟨A5, hcut5, hrd5, hcp5⟩ := print_drop_of (P := Try.prog) (Value.int .u8) (0 : Int) 27 5 .i64 Try.underlying27 HI5.out HS5.out AV cV V (kk : Int) (by omega) (by have := HKL.out; omega) HCVC.out
              rw [Int.toNat_natCast] at hcut5 hrd5 hcp5
              have HR5 := Aside0.mk (show ∀ W : World, Kd.C (Kd.int .u8) W AV V.length V → Kd.C (Kd.int .u8) W A5 (V.drop kk).length (V.drop kk) from fun W hW => Kd.C_of_reads (h1 := fun _ => rfl) (hrd5 W (Kd.reads_of_C hW)))
              obtain ⟨V2, hV2⟩ : ∃ y, V.drop kk = y := ⟨_, rfl⟩
              rw [hV2] at hcut5 hcp5 HR5 HU2
              have HCP5 := Aside0.mk hcp5
              clear hrd5 hV2 hcp5
              go_upto_region 30 with (first
                | (go_at_call 36; with_reducible refine (codec_Uvarint.calls k AV cV V (at_ : Int) (kk : Int) 0 _ HCV.out HCVC.out HU1.out).mono ?_; rintro ex w13 ⟨rfl, ⟨nd, rfl⟩⟩
                   have HCV13 := Aside0.mk (Kd.C_drewN HCV.out nd)
                   have BK13 := Aside0.mk (blk_drewN BK12.out nd)
                   have HBR13 := Aside0.mk (pw_below_drewN HBR12.out nd)
                   clear hcvr hv3)
                | (go_at_call 36; with_reducible refine (codec_Uvarint.calls k A5 _ V2 (size : Int) (mm : Int) 0 _ (HR5.out _ HCV13.out) HCP5.out HU2.out).mono ?_; rintro ex w14 ⟨rfl, ⟨nd2, rfl⟩⟩
                   have HCV14 := Aside0.mk (Kd.C_drewN HCV.out (nd + nd2))
                   have BK14 := Aside0.mk (blk_drewN BK12.out (nd + nd2))
                   have HBR14 := Aside0.mk (pw_below_drewN HBR12.out (nd + nd2)))
                | (go_at_call 21; with_reducible refine (putu_c k none 0 0 [] (at_ : Int) a1 _ rfl (Kd.C_nil _ _) (Nat.le_refl _) HP1.out).mono ?_; rintro ex w15 ⟨v15, rfl, hob, hb⟩
                   have HCV15 := Aside0.mk (Kd.C_below HCV14.out hb)
                   have BK15 := Aside0.mk (blk_below BK14.out hb)
                   have HBR15 := Aside0.mk (below_step HBR14.out hb)
                   obtain ⟨A15, c15, e15⟩ := Kd.R_slice hob
                   subst e15
                   have HQ15 := Aside0.mk hob
                   clear hob hb)
                | (go_at_call 21; with_reducible refine (putu_c k A15 c15 _ a1 (size : Int) V _ rfl (Kd.R_reads' HQ15.out).2.2 (Kd.R_reads' HQ15.out).2.1 HP2.out).mono ?_; rintro ex w16 ⟨v16, rfl, hob, hb⟩
                   have HCV16 := Aside0.mk (Kd.C_below HCV15.out hb)
                   have BK16 := Aside0.mk (blk_below BK15.out hb)
                   have HBR16 := Aside0.mk (below_step HBR15.out hb)
                   obtain ⟨A16, c16, e16⟩ := Kd.R_slice hob
                   subst e16
                   have HQ16 := Aside0.mk hob
                   clear hob hb))
              have hwk : wrap64 ((kk : Int) + (mm : Int)) = (V.length : Int) := to_q5 kk mm _ HKM.out (by have := HB5.out; omega)
              have hwb : IntKind.u64.wrap (b.length : Int) = (b.length : Int) := to_q3 _ HLT.out
              have d7 : decide ((size : Int) > (b.length : Int)) = false := decide_eq_false (by have := HSZ.out; clear hwk hwb; omega)
              have d9 : decide (b.length < size) = false := decide_eq_false (by have := HSZ.out; clear hwk hwb; omega)
              go_upto_region 32 with (first
                | (go_at_call 37; with_reducible refine (slices_Equal_byte_byte.calls k A16 c16 V AV cV V true _ (Kd.R_reads' HQ16.out).2.2 (Kd.R_reads' HQ16.out).2.1 HCV16.out HCVC.out HEQ.out).mono ?_; rintro ex w17 ⟨rfl, ⟨nd3, rfl⟩⟩))
              clear hwk hwb d7 d9
              go_wp2_with fail
              obtain ⟨w17, hw17⟩ : ∃ x, w16.drewN nd3 = x := ⟨_, rfl⟩
              have BK17 := Aside0.mk (hw17 ▸ blk_drewN BK16.out nd3)
              have HBR17 := Aside0.mk (hw17 ▸ pw_below_drewN HBR16.out nd3)
              rw [hw17]
              clear hw17
              obtain ⟨Ap, cp, ep⟩ := Kd.R_slice PI.out.rp
              subst ep
              have PID := Aside0.mk (PI.out.below rfl (below_drew1 HBR17.out))
              have BKD := Aside0.mk (blk_drew BK17.out)
              have hns : at_ + size + 4 ≤ n0 := HTL.out.le
              have hnb : n0 < 1000000000000 := by have h1 := OK.out.s2; have h2 := OK.out.s4; have h3 := HBL.out; have h4 := HLT.out; omega
              have hat3 : at_ < 1000000000000 := by omega
              have hsz3 : size < 1000000000000 := by omega
              have hwat := to_q4 at_ hat3
              have hwsz := to_q4 size hsz3
              refine start_ (n := 17) (S := fun w' => w'.cell? ⟨w6.heap.size, 2, none⟩ = some (.slice Ap acc.length cp) ∧ w'.cell? ⟨gb, 0, none⟩ = some (.string X.f0.f0) ∧ w'.cell? ⟨gb, 1, none⟩ = some (.int .u64 X.f0.f1) ∧ w'.cell? ⟨gb, 2, none⟩ = some (.int .i64 X.f0.f2)) (ds := [13, 16]) #[false, false, false, false, false, false, false, false, false, false, false, false, false, false, false, false, false] (by kernel_rfl) rfl rfl ⟨(blk_cell PID.out.bt 2).trans rfl, (blk_cell BKD.out 0).trans rfl, (blk_cell BKD.out 1).trans rfl, (blk_cell BKD.out 2).trans rfl⟩ (fun hHeld => ?_)
              generalize w17.drew = w19 at PID BKD hHeld ⊢
              refine pure_ (i := 0) (N := some 198) (v := ?_) (a' := ?_) #[true, false, false, false, false, false, false, false, false, false, false, false, false, false, false, false, false] rfl rfl (by kernel_rfl) (fun _ _ _ h => h) (Or.inl ⟨by rfl, ?_⟩) ?_ ?_
              rotate_left
              · intro w'
                go_simp
                with_reducible rfl
              rotate_left
              · simp only [Act.put, List.setIfInBounds_toArray, List.set_cons_zero, List.set_cons_succ, i64_w, i32_w]
                rfl
              refine pure_ (i := 1) (N := some 199) (v := ?_) (a' := ?_) #[true, true, false, false, false, false, false, false, false, false, false, false, false, false, false, false, false] rfl rfl (by kernel_rfl) (fun _ _ _ h => h) (Or.inl ⟨by rfl, ?_⟩) ?_ ?_
              rotate_left
              · intro w'
                go_simp
                with_reducible rfl
              rotate_left
              · simp only [Act.put, List.setIfInBounds_toArray, List.set_cons_zero, List.set_cons_succ, i64_w, i32_w]
                rfl
              refine pure_ (i := 2) (N := some 200) (v := ?_) (a' := ?_) #[true, true, true, false, false, false, false, false, false, false, false, false, false, false, false, false, false] rfl rfl (by kernel_rfl) (fun _ _ _ h => h) (Or.inl ⟨by rfl, ?_⟩) ?_ ?_
              rotate_left
              · intro w'
                go_simp
                with_reducible rfl
              rotate_left
              · simp only [Act.put, List.setIfInBounds_toArray, List.set_cons_zero, List.set_cons_succ, i64_w, i32_w]
                rfl
              refine pure_ (i := 3) (N := some 201) (v := ?_) (a' := ?_) #[true, true, true, true, false, false, false, false, false, false, false, false, false, false, false, false, false] rfl rfl (by kernel_rfl) (fun _ _ _ h => h) (Or.inl ⟨by rfl, ?_⟩) ?_ ?_
              rotate_left
              · intro w'
                go_simp
                with_reducible rfl
              rotate_left
              · simp only [Act.put, List.setIfInBounds_toArray, List.set_cons_zero, List.set_cons_succ, i64_w, i32_w]
                rfl
              refine pure_ (i := 5) (N := some 203) (v := ?_) (a' := ?_) #[true, true, true, true, false, true, false, false, false, false, false, false, false, false, false, false, false] rfl rfl (by kernel_rfl) (fun _ _ _ h => h) (Or.inl ⟨by rfl, ?_⟩) ?_ ?_
              rotate_left
              · intro w'
                go_simp
                with_reducible rfl
              rotate_left
              · simp only [Act.put, List.setIfInBounds_toArray, List.set_cons_zero, List.set_cons_succ, i64_w, i32_w]
                rfl
              refine pure_ (i := 7) (N := some 205) (v := ?_) (a' := ?_) #[true, true, true, true, false, true, false, true, false, false, false, false, false, false, false, false, false] rfl rfl (by kernel_rfl) (fun _ _ _ h => h) (Or.inl ⟨by rfl, ?_⟩) ?_ ?_
              rotate_left
              · intro w'
                go_simp
                with_reducible rfl
              rotate_left
              · simp only [Act.put, List.setIfInBounds_toArray, List.set_cons_zero, List.set_cons_succ, i64_w, i32_w]
                rfl
              refine pure_ (i := 8) (N := some 206) (v := ?_) (a' := ?_) #[true, true, true, true, false, true, false, true, true, false, false, false, false, false, false, false, false] rfl rfl (by kernel_rfl) (fun _ _ _ h => h) (Or.inl ⟨by rfl, ?_⟩) ?_ ?_
              rotate_left
              · intro w'
                go_simp
                with_reducible rfl
              rotate_left
              · simp only [Act.put, List.setIfInBounds_toArray, List.set_cons_zero, List.set_cons_succ, i64_w, i32_w]
                rfl
              refine pure_ (i := 9) (N := some 207) (v := ?_) (a' := ?_) #[true, true, true, true, false, true, false, true, true, true, false, false, false, false, false, false, false] rfl rfl (by kernel_rfl) (fun _ _ _ h => h) (Or.inl ⟨by rfl, ?_⟩) ?_ ?_
              rotate_left
              · intro w'
                go_simp
                with_reducible rfl
              rotate_left
              · simp only [Act.put, List.setIfInBounds_toArray, List.set_cons_zero, List.set_cons_succ, i64_w, i32_w]
                rfl
              refine pure_ (i := 10) (N := some 208) (v := ?_) (a' := ?_) #[true, true, true, true, false, true, false, true, true, true, true, false, false, false, false, false, false] rfl rfl (by kernel_rfl) (fun _ _ _ h => h) (Or.inl ⟨by rfl, ?_⟩) ?_ ?_
              rotate_left
              · intro w'
                go_simp
                with_reducible rfl
              rotate_left
              · simp only [Act.put, List.setIfInBounds_toArray, List.set_cons_zero, List.set_cons_succ, i64_w, i32_w]
                rfl
              refine take_ (i := 4) (N := some 202) (v := ?_) (a' := ?_) #[true, true, true, true, true, true, false, true, true, true, true, false, false, false, false, false, false] rfl rfl (by kernel_rfl) (fun _ _ _ h => h) (Or.inl ⟨by rfl, ?_⟩) hHeld ?_ ?_
              rotate_left
              · rintro w' ⟨s0, s1, s2, s3⟩
                go_simp
                with_reducible rfl
              rotate_left
              · simp only [Act.put, List.setIfInBounds_toArray, List.set_cons_zero, List.set_cons_succ, i64_w, i32_w]
                rfl
              refine take_ (i := 6) (N := some 204) (v := ?_) (a' := ?_) #[true, true, true, true, true, true, true, true, true, true, true, false, false, false, false, false, false] rfl rfl (by kernel_rfl) (fun _ _ _ h => h) (Or.inl ⟨by rfl, ?_⟩) hHeld ?_ ?_
              rotate_left
              · rintro w' ⟨s0, s1, s2, s3⟩
                go_simp
                with_reducible rfl
              rotate_left
              · simp only [Act.put, List.setIfInBounds_toArray, List.set_cons_zero, List.set_cons_succ, i64_w, i32_w]
                rfl
              refine pure_ (i := 11) (N := some 209) (v := ?_) (a' := ?_) #[true, true, true, true, true, true, true, true, true, true, true, true, false, false, false, false, false] rfl rfl (by kernel_rfl) (fun _ _ _ h => h) (Or.inl ⟨by rfl, ?_⟩) ?_ ?_
              rotate_left
              · intro w'
                go_simp
                with_reducible rfl
              rotate_left
              · simp only [Act.put, List.setIfInBounds_toArray, List.set_cons_zero, List.set_cons_succ, i64_w, i32_w]
                rfl
              refine one_ (i := 12) (N := some 210) #[true, true, true, true, true, true, true, true, true, true, true, true, true, false, false, false, false] rfl rfl (by kernel_rfl) (by decide) (fun K hK => ?_)
              refine value_ (w1 := ?_) (v := ?_) (by rfl) rfl ?_ ?_
              rotate_left 2
              · go_simp
                constructor
                · rfl
                · rfl
              refine hK.out _ _ ⟨(blk_cell (blk_alloc PID.out.bt _) 2).trans rfl, (blk_cell (blk_alloc BKD.out _) 0).trans rfl, (blk_cell (blk_alloc BKD.out _) 1).trans rfl, (blk_cell (blk_alloc BKD.out _) 2).trans rfl⟩ (fun hHeld => ?_)
              clear hK K
              refine norm_ (a' := ?_) ?_ ?_
              rotate_left
              · show Act.put _ (some 210) _ = _
                simp only [Act.put, List.setIfInBounds_toArray, List.set_cons_zero, List.set_cons_succ, i64_w, i32_w]
                rfl
              refine last_ (i := 13) (N := some 211) #[true, true, true, true, true, true, true, true, true, true, true, true, true, true, false, false, false] rfl rfl (by kernel_rfl) (by decide) (fun K hK => ?_)
              refine Kd.R_append_step kPl (w0 := w) w.heap.size (by rfl) (.tmp 202) (.tmp 210) 73 82 (.agg #[(.string ⟨#[]⟩), (.int .u64 0), (.int .i64 0), (.int .i64 0), (.int .i64 0)]) 48 rfl Try.underlying73 info82 rfl (by decide) (by decide) (.slice Ap acc.length cp) acc (⟨X.f0, at_, size⟩ : SPl) [.string X.f0.f0, .int .u64 X.f0.f1, .int .i64 X.f0.f2, .int .i64 (at_ : Int), .int .i64 (size : Int)] (fun q => w8.heap.size ≤ q) (fun _ => False) rfl rfl ?aP (fun _ hk => hk.elim) ?aF ?aO ?aB ?aS ?aL ?_
              (case aP => exact kPl_mkM _ _ _ (⟨X.f0, at_, size⟩ : SPl))
              (case aB => exact PID.out.hb)
              (case aF => exact (fun k_ hk => Nat.le_trans PID.out.hi.2.2.2 hk))
              (case aO => exact PID.out.rp)
              (case aS => exact below_size PID.out.hb)
              (case aL => have h1 := HA.out.2; have h2 := OK.out.il; have h3 := HCI.out; omega)
              intro v18 w18 ho hb hg hat5
              have HO18 := Aside0.mk ho
              have HG18 := Aside0.mk hg
              obtain ⟨A18, c18, e18⟩ := Kd.R_slice ho
              subst e18
              have hbt18 := (hg.block _ (blk_lt2 PID.out.bt) (fun e => absurd (PID.out.rp.1 _ e.symm) (by have := PID.out.hi.2.2.1; omega))).trans PID.out.bt
              have hc18 : w18.cell? ⟨w6.heap.size, 2, none⟩ = some (.slice Ap acc.length cp) := (blk_cell hbt18 2).trans rfl
              have hf18 := blk_frozen hbt18 2
              clear ho hb hg hat5 hbt18
              refine hK.out _ _ ?_
              clear hK K
              refine norm_ (a' := ?_) ?_ ?_
              rotate_left
              · show Act.put _ (some 211) _ = _
                simp only [Act.put, List.setIfInBounds_toArray, List.set_cons_zero, List.set_cons_succ, i64_w, i32_w]
                rfl
              refine pure_ (i := 14) (N := some 212) (v := ?_) (a' := ?_) #[true, true, true, true, true, true, true, true, true, true, true, true, true, true, true, false, false] rfl rfl (by kernel_rfl) (fun _ _ _ h => h) (Or.inl ⟨by rfl, ?_⟩) ?_ ?_
              rotate_left
              · intro w'
                go_simp
                with_reducible rfl
              rotate_left
              · simp only [Act.put, List.setIfInBounds_toArray, List.set_cons_zero, List.set_cons_succ, i64_w, i32_w]
                rfl
              refine pure_ (i := 15) (N := some 213) (v := ?_) (a' := ?_) #[true, true, true, true, true, true, true, true, true, true, true, true, true, true, true, true, false] rfl rfl (by kernel_rfl) (fun _ _ _ h => h) (Or.inl ⟨by rfl, ?_⟩) ?_ ?_
              rotate_left
              · intro w'
                go_simp
                with_reducible rfl
              rotate_left
              · simp only [Act.put, List.setIfInBounds_toArray, List.set_cons_zero, List.set_cons_succ, i64_w, i32_w]
                rfl
              refine last_ (i := 16) (N := none) #[true, true, true, true, true, true, true, true, true, true, true, true, true, true, true, true, true] rfl rfl (by kernel_rfl) (by decide) (fun K hK => ?_)
              refine skip_ (w1 := ?_) (by rfl) rfl ?_ ?_
              rotate_left
              · go_simp
                rfl
              refine hK.out _ _ ?_
              clear hK K
              refine done_ (by kernel_rfl) ?_
              clear hc18 hf18 hHeld hwat hwsz
              rw [List.length_append, List.length_singleton] at HO18
              have P20 := Aside0.mk (PID.out.push rfl HNI.out.2.2 HNI.out.1 HNI.out.2.1 HO18.out HG18.out)
              obtain ⟨w20, hw20⟩ : ∃ x, w18.setCell ⟨w6.heap.size, 2, none⟩ (.slice A18 (acc.length + 1) c18) = x := ⟨_, rfl⟩
              rw [hw20] at P20 ⊢
              obtain ⟨nx, hnx⟩ : ∃ y, at_ + size + 4 = y := ⟨_, rfl⟩
              rw [hnx] at HTL
              have hb7 : at_ + size < 1000000000000 := by omega
              have hb8 : nx < 1000000000000 := by omega
              have hq1 := to_q1 at_ size hb7
              have hq2 := to_q2 at_ size nx hnx hb8
              have HI1 : Aside0 (wrap64 ((i : Int) + 1) = ((i + 1 : Nat) : Int)) := ⟨to_q6 i (by have h1 := HCI.out; have h2 := OK.out.il; clear hq1 hq2; omega)⟩
              clear hw20 hns hnb hat3 hsz3 hb7 hb8 hnx
              go_wp2
              simp only [HI1.out]
              go_roundg g2
              case measure => omega
              case rel => exact ⟨i + 1, nx, _, acc ++ [⟨X.f0, at_, size⟩], pt, rfl, rfl, ⟨by have := HI.out.1; omega, HCI.out⟩, HTL, ⟨by rw [List.append_assoc]; exact HA.out.1, by rw [List.length_append, List.length_singleton, HA.out.2]⟩, P20⟩
            · have d1 : decide ((i : Int) < (idx.length : Int)) = false := decide_eq_false (by omega)
              have d2 : decide (i < idx.length) = false := decide_eq_false ci
              have hie : i = idx.length := by have := HI.out.2; omega
              obtain ⟨Ap, cp, ep⟩ := Kd.R_slice PI.out.rp
              subst ep
              have hpl := HP.out
              rw [List.drop_eq_nil_of_le (by omega)] at hpl
              have hat : at_ = n0 := by cases hpl; rfl
              have hre : rest = [] := by cases hpl; rfl
              subst hat
              rw [hre, List.append_nil] at HA
              have hap := HA.out.1
              subst hap
              have hn0 : wr.cell? ⟨w2.heap.size, 0, none⟩ = some (.int .u64 (at_ : Int)) := (blk_cell PI.out.bn 0).trans rfl
              clear hpl hre HP hie ci
              go_wp2
              go_ret2
              exact ⟨w6.heap.size, rfl, HNI.out.2.2, ⟨Ab, cb, Af, fl.length, Ap, cp, PI.out.bt, (Kd.R_reads' PI.out.rb).2.2, (Kd.R_reads' PI.out.rb).2.1, HCF.out _ (Kd.R_reads' PI.out.rb).2.2, Nat.le_refl _, (Kd.R_reads' PI.out.rp).2.2, (Kd.R_reads' PI.out.rp).2.1⟩, PI.out.hb⟩
end Go.Proofs.Ythdemdjobgbpdaa.T
namespace Go.Proofs.Ythdemdjobgbpdaa.T
open Go.RowKit Go.Shelf Go.Proofs.YthdemdjobgbpdaaW.PrintWords Go.Proofs.YthdemdjobgbpdaaW.PrintLast Go.Proofs.YthdemdjobgbpdaaW.PrintMore Go.Proofs.Ythdemdjobgbpdaa.P Go.Proofs.Ythdemdjobgbpdaa.B Go.Proofs.Ythdemdjobgbpdaa.Q
attribute [local go_sem] Oper.semAt_some
set_option linter.unusedVariables false
set_option linter.unusedSimpArgs false
set_option maxHeartbeats 1000000 in
set_option maxRecDepth 100000 in
theorem blocks_calls (g : Nat) (b fl : List Int) (ps : List SPl) (cnt : Int) (w : World) (h : IsTab w g b fl ps cnt) :
    Calls Try.prog 15 #[.pointer (some ⟨g, 0, none⟩)] w fun e w' => e = .returned (.int .i64 (ps.length : Int)) ∧ w' = w := by
  obtain ⟨Ab, cb, Af, cf, Ap, cp, h1, h2, h3, h4, h5, h6, h7⟩ := h
  have hc : w.cell? ⟨g, 2, none⟩ = some (.slice Ap ps.length cp) := (blk_cell h1 2).trans rfl
  clear h1 h2 h3 h4 h5 h6 h7
  go_enter Try.func15, Try.ntmps15
  go_wp2
  go_ret
  exact ⟨rfl, rfl⟩
set_option maxHeartbeats 1000000 in
set_option maxRecDepth 100000 in
theorem blocks_nil (w : World) : Calls Try.prog 15 #[.pointer none] w fun e w' => e = .returned (.int .i64 0) ∧ w' = w := by
  go_enter Try.func15, Try.ntmps15
  go_wp2
  go_ret
  exact ⟨rfl, rfl⟩
theorem _root_.Go.Proofs.Ythdemdjobgbpdaa.B.IsOwn.lower {w : World} {n m g : Nat} {l : List S47} {iv : Int} (h : IsOwn w n g l iv) (hm : m ≤ n) : IsOwn w m g l iv := by
  obtain ⟨A, c, h1, h2, h3⟩ := h
  exact ⟨A, c, h1, h2, Kd.R_lower h3 hm⟩
theorem hown_below {w w1 : World} {n g : Nat} {l : List S47} {iv : Int} (h : IsOwn w n g l iv) (hb : Below w.heap.size w w1) : IsOwn w1 n g l iv := h.below hb
/-- a block that is read -/
def tread_f (k : Nat) (b : List Int) (p : SPl) : Option (Option (List S47 × Int)) :=
  (part_f k b p.f1 p.f2).bind fun q => if q.2 = true then (open_g k q.1).bind fun r => match r with
    | some x => if 0 < x.1.length ∧ x.1.length < 1000000000 ∧ (rd_T47 x.1 ((x.1.length : Int) - 1)).f0.f0 = p.f0.f0 ∧ (rd_T47 x.1 ((x.1.length : Int) - 1)).f0.f1 = p.f0.f1 ∧ (rd_T47 x.1 ((x.1.length : Int) - 1)).f0.f2 = p.f0.f2 then some (some x) else none
    | none => none
  else some none
theorem tv_w1 (n : Nat) (h : 0 < n) (h2 : n < 1000000000) : wrap64 ((n : Int) - 1) = (n : Int) - 1 := by unfold wrap64; omega
set_option maxRecDepth 100000 in
set_option maxHeartbeats 4000000 in
theorem tread_calls (k g : Nat) (b fl : List Int) (ps : List SPl) (cnt : Int) (p : SPl) (r : Option (List S47 × Int)) (w : World) (h : IsTab w g b fl ps cnt) (hf : tread_f k b p = some r) :
    Calls Try.prog 38 #[.pointer (some ⟨g, 0, none⟩), .agg #[.string p.f0.f0, .int .u64 p.f0.f1, .int .i64 p.f0.f2, .int .i64 (p.f1 : Int), .int .i64 (p.f2 : Int)]] w fun e w' => Below w.heap.size w w' ∧
      match r with
      | some x => ∃ gb, e = .returned (.tuple #[.pointer (some ⟨gb, 0, none⟩), .int .i64 0]) ∧ w.heap.size ≤ gb ∧ IsOwn w' w.heap.size gb x.1 x.2
      | none => e = .returned (.tuple #[.pointer none, .int .i64 122]) := by
  obtain ⟨Ab, cb, Af, cf, Ap, cp, h1, h2, h3, h4, h5, h6, h7⟩ := h
  obtain ⟨⟨q, qok⟩, hq, hf⟩ := Option.bind_eq_some_iff.mp hf
  dsimp only at hf
  have HT := Aside0.mk h1
  have HCb := Aside0.mk h2
  have HCC := Aside0.mk h3
  have HQ := Aside0.mk hq
  have HF := Aside0.mk hf
  clear h1 h2 h3 h4 h5 h6 h7 hq hf
  go_enter Try.func38, Try.ntmps38
  go_upto_region 1 with fail
  obtain ⟨w2, hw2⟩ : ∃ x, w.alloc (.cells #[.string p.f0.f0, .int .u64 p.f0.f1, .int .i64 p.f0.f2, .int .i64 (p.f1 : Int), .int .i64 (p.f2 : Int)] 82) = x := ⟨_, rfl⟩
  have hb2 : Below w.heap.size w w2 := by rw [← hw2]; exact below_alloc (Below.refl _ _) _
  have hbp : w2.heap[w.heap.size]? = some (.cells #[.string p.f0.f0, .int .u64 p.f0.f1, .int .i64 p.f0.f2, .int .i64 (p.f1 : Int), .int .i64 (p.f2 : Int)] 82 (0, 0)) := by rw [← hw2]; exact blk_new w _
  have HTD := Aside0.mk (blk_drew (blk_below HT.out hb2))
  have BPD := Aside0.mk (blk_drew hbp)
  have HCD := Aside0.mk (Kd.C_drew (Kd.C_below HCb.out hb2))
  have HBD := Aside0.mk (below_drew1 hb2)
  rw [hw2]
  clear hw2 hb2 hbp
  go_wp2_with fail
  refine start_ (n := 14) (S := fun w' => w'.cell? ⟨g, 0, none⟩ = some (.slice Ab b.length cb) ∧ w'.cell? ⟨w.heap.size, 3, none⟩ = some (.int .i64 (p.f1 : Int)) ∧ w'.cell? ⟨w.heap.size, 4, none⟩ = some (.int .i64 (p.f2 : Int))) (ds := []) #[false, false, false, false, false, false, false, false, false, false, false, false, false, false] (by kernel_rfl) rfl rfl ⟨(blk_cell HTD.out 0).trans rfl, (blk_cell BPD.out 3).trans rfl, (blk_cell BPD.out 4).trans rfl⟩ (fun hHeld => ?_)
  refine pure_ (i := 0) (N := some 13) (v := ?_) (a' := ?_) #[true, false, false, false, false, false, false, false, false, false, false, false, false, false] rfl rfl (by kernel_rfl) (fun _ _ _ h => h) (Or.inl ⟨by rfl, ?_⟩) ?_ ?_
  rotate_left
  · intro w'
    go_simp
    with_reducible rfl
  rotate_left
  · simp only [Act.put, List.setIfInBounds_toArray, List.set_cons_zero, List.set_cons_succ, i64_w, i32_w]
    rfl
  refine pure_ (i := 1) (N := some 14) (v := ?_) (a' := ?_) #[true, true, false, false, false, false, false, false, false, false, false, false, false, false] rfl rfl (by kernel_rfl) (fun _ _ _ h => h) (Or.inl ⟨by rfl, ?_⟩) ?_ ?_
  rotate_left
  · intro w'
    go_simp
    with_reducible rfl
  rotate_left
  · simp only [Act.put, List.setIfInBounds_toArray, List.set_cons_zero, List.set_cons_succ, i64_w, i32_w]
    rfl
  refine pure_ (i := 2) (N := some 15) (v := ?_) (a' := ?_) #[true, true, true, false, false, false, false, false, false, false, false, false, false, false] rfl rfl (by kernel_rfl) (fun _ _ _ h => h) (Or.inl ⟨by rfl, ?_⟩) ?_ ?_
  rotate_left
  · intro w'
    go_simp
    with_reducible rfl
  rotate_left
  · simp only [Act.put, List.setIfInBounds_toArray, List.set_cons_zero, List.set_cons_succ, i64_w, i32_w]
    rfl
  refine pure_ (i := 4) (N := some 17) (v := ?_) (a' := ?_) #[true, true, true, false, true, false, false, false, false, false, false, false, false, false] rfl rfl (by kernel_rfl) (fun _ _ _ h => h) (Or.inl ⟨by rfl, ?_⟩) ?_ ?_
  rotate_left
  · intro w'
    go_simp
    with_reducible rfl
  rotate_left
  · simp only [Act.put, List.setIfInBounds_toArray, List.set_cons_zero, List.set_cons_succ, i64_w, i32_w]
    rfl
  refine pure_ (i := 6) (N := some 19) (v := ?_) (a' := ?_) #[true, true, true, false, true, false, true, false, false, false, false, false, false, false] rfl rfl (by kernel_rfl) (fun _ _ _ h => h) (Or.inl ⟨by rfl, ?_⟩) ?_ ?_
  rotate_left
  · intro w'
    go_simp
    with_reducible rfl
  rotate_left
  · simp only [Act.put, List.setIfInBounds_toArray, List.set_cons_zero, List.set_cons_succ, i64_w, i32_w]
    rfl
  refine take_ (i := 3) (N := some 16) (v := ?_) (a' := ?_) #[true, true, true, true, true, false, true, false, false, false, false, false, false, false] rfl rfl (by kernel_rfl) (fun _ _ _ h => h) (Or.inl ⟨by rfl, ?_⟩) hHeld ?_ ?_
  rotate_left
  · rintro w' ⟨s0, s1, s2⟩
    go_simp
    with_reducible rfl
  rotate_left
  · simp only [Act.put, List.setIfInBounds_toArray, List.set_cons_zero, List.set_cons_succ, i64_w, i32_w]
    rfl
  refine take_ (i := 5) (N := some 18) (v := ?_) (a' := ?_) #[true, true, true, true, true, true, true, false, false, false, false, false, false, false] rfl rfl (by kernel_rfl) (fun _ _ _ h => h) (Or.inl ⟨by rfl, ?_⟩) hHeld ?_ ?_
  rotate_left
  · rintro w' ⟨s0, s1, s2⟩
    go_simp
    with_reducible rfl
  rotate_left
  · simp only [Act.put, List.setIfInBounds_toArray, List.set_cons_zero, List.set_cons_succ, i64_w, i32_w]
    rfl
  refine take_ (i := 7) (N := some 20) (v := ?_) (a' := ?_) #[true, true, true, true, true, true, true, true, false, false, false, false, false, false] rfl rfl (by kernel_rfl) (fun _ _ _ h => h) (Or.inl ⟨by rfl, ?_⟩) hHeld ?_ ?_
  rotate_left
  · rintro w' ⟨s0, s1, s2⟩
    go_simp
    with_reducible rfl
  rotate_left
  · simp only [Act.put, List.setIfInBounds_toArray, List.set_cons_zero, List.set_cons_succ, i64_w, i32_w]
    rfl
  refine one_ (i := 8) (N := some 21) #[true, true, true, true, true, true, true, true, true, false, false, false, false, false] rfl rfl (by kernel_rfl) (by decide) (fun K hK => ?_)
  refine goes_ Try.func32 (by kernel_rfl) rfl #[.slice Ab b.length cb, .int .i64 (p.f1 : Int), .int .i64 (p.f2 : Int)] (by rfl) rfl rfl (by simp only [List.map_toArray, List.map_cons, List.map_nil]; rfl) ?_
  with_reducible refine (part_calls k Ab cb b p.f1 p.f2 (q, qok) _ HCD.out HCC.out HQ.out).mono ?_
  rintro ex w3 ⟨Aq, rfl, hcq, hb⟩
  refine ⟨_, rfl, ?_⟩
  have HT3 := Aside0.mk (blk_below HTD.out hb)
  have BP3 := Aside0.mk (blk_below BPD.out hb)
  have HB3 := Aside0.mk (below_step HBD.out hb)
  have HCQ := Aside0.mk (hcq _ (Kd.C_below HCD.out hb))
  clear hb hcq
  refine hK.out _ _ ⟨(blk_cell HT3.out 0).trans rfl, (blk_cell BP3.out 3).trans rfl, (blk_cell BP3.out 4).trans rfl⟩ (fun hHeld => ?_)
  clear hK K
  refine norm_ (a' := ?_) ?_ ?_
  rotate_left
  · show Act.put _ (some 21) _ = _
    simp only [Act.put, List.setIfInBounds_toArray, List.set_cons_zero, List.set_cons_succ, i64_w, i32_w]
    rfl
  refine pure_ (i := 9) (N := some 12) (v := ?_) (a' := ?_) #[true, true, true, true, true, true, true, true, true, true, false, false, false, false] rfl rfl (by kernel_rfl) (fun _ _ _ h => h) (Or.inl ⟨by rfl, ?_⟩) ?_ ?_
  rotate_left
  · intro w'
    go_simp
    with_reducible rfl
  rotate_left
  · simp only [Act.put, List.setIfInBounds_toArray, List.set_cons_zero, List.set_cons_succ, i64_w, i32_w]
    rfl
  refine pure_ (i := 10) (N := some 22) (v := ?_) (a' := ?_) #[true, true, true, true, true, true, true, true, true, true, true, false, false, false] rfl rfl (by kernel_rfl) (fun _ _ _ h => h) (Or.inl ⟨by rfl, ?_⟩) ?_ ?_
  rotate_left
  · intro w'
    go_simp
    with_reducible rfl
  rotate_left
  · simp only [Act.put, List.setIfInBounds_toArray, List.set_cons_zero, List.set_cons_succ, i64_w, i32_w]
    rfl
  refine pure_ (i := 11) (N := some 23) (v := ?_) (a' := ?_) #[true, true, true, true, true, true, true, true, true, true, true, true, false, false] rfl rfl (by kernel_rfl) (fun _ _ _ h => h) (Or.inl ⟨by rfl, ?_⟩) ?_ ?_
  rotate_left
  · intro w'
    go_simp
    with_reducible rfl
  rotate_left
  · simp only [Act.put, List.setIfInBounds_toArray, List.set_cons_zero, List.set_cons_succ, i64_w, i32_w]
    rfl
  refine pure_ (i := 12) (N := some 6) (v := ?_) (a' := ?_) #[true, true, true, true, true, true, true, true, true, true, true, true, true, false] rfl rfl (by kernel_rfl) (fun _ _ _ h => h) (Or.inl ⟨by rfl, ?_⟩) ?_ ?_
  rotate_left
  · intro w'
    go_simp
    with_reducible rfl
  rotate_left
  · simp only [Act.put, List.setIfInBounds_toArray, List.set_cons_zero, List.set_cons_succ, i64_w, i32_w]
    rfl
  refine pure_ (i := 13) (N := some 7) (v := ?_) (a' := ?_) #[true, true, true, true, true, true, true, true, true, true, true, true, true, true] rfl rfl (by kernel_rfl) (fun _ _ _ h => h) (Or.inl ⟨by rfl, ?_⟩) ?_ ?_
  rotate_left
  · intro w'
    go_simp
    with_reducible rfl
  rotate_left
  · simp only [Act.put, List.setIfInBounds_toArray, List.set_cons_zero, List.set_cons_succ, i64_w, i32_w]
    rfl
  refine done_ (by kernel_rfl) ?_
  cases qok with
  | false =>
    have hf := HF.out
    rw [if_neg (by decide)] at hf
    obtain rfl := Option.some.inj hf
    clear hf HF
    go_wp2
    go_ret2
    exact ⟨HB3.out, rfl⟩
  | true =>
    have hf := HF.out
    rw [if_pos rfl] at hf
    obtain ⟨r0, hr0, hf⟩ := Option.bind_eq_some_iff.mp hf
    cases r0 with
    | none => cases hf
    | some x =>
    dsimp only at hf
    split at hf
    case isFalse => cases hf
    rename_i hx
    obtain rfl := Option.some.inj hf
    have HR0 := Aside0.mk hr0
    obtain ⟨hx0, hx1, hx2, hx3, hx4⟩ := hx
    obtain ⟨l, iv⟩ := x
    dsimp only at hx0 hx1 hx2 hx3 hx4 hr0
    obtain ⟨L, hL⟩ : ∃ y, rd_T47 l ((l.length : Int) - 1) = y := ⟨_, rfl⟩
    rw [hL] at hx2 hx3 hx4
    have e1 : (l.length == 0) = false := by rw [beq_eq_false_iff_ne]; omega
    have e2 : ((l.length : Int) == 0) = false := by rw [beq_eq_false_iff_ne]; omega
    have HX := Aside0.mk hx0
    have HX1 := Aside0.mk hx1
    have hw1 := tv_w1 l.length hx0 hx1
    have p0 : (L.f0.f0.toList == p.f0.f0.toList) = true := by rw [hx2]; exact beq_self_eq_true _
    have p1 : (L.f0.f1 == p.f0.f1) = true := by rw [hx3]; exact beq_self_eq_true _
    have p2 : (L.f0.f2 == p.f0.f2) = true := by rw [hx4]; exact beq_self_eq_true _
    have HL := Aside0.mk hL
    have hk0 : w3.cell? ⟨w.heap.size, 0, none⟩ = some (.string p.f0.f0) := (blk_cell BP3.out 0).trans rfl
    clear hf HF hr0 hx0 hx1 hx2 hx3 hx4 hL hk0
    go_upto_region 8 with (first
      | (go_at_call 33; with_reducible refine (Open_own k Aq q.length q (some (l, iv)) _ HCQ.out (Nat.le_refl _) HR0.out).mono ?_; rintro ex w4 ⟨hb, gi, rfl, hge, hown⟩
         have BP4 := Aside0.mk (blk_below BP3.out hb)
         have HB4 := Aside0.mk (below_step HB3.out hb)
         have HGI : Aside0 (w.heap.size ≤ gi) := ⟨Nat.le_trans (below_size HB3.out) hge⟩
         have HOW : Aside0 (IsOwn w4 w.heap.size gi l iv) := ⟨hown.lower (below_size HB3.out)⟩
         clear hb hown hge)
      | (go_at_call 34; with_reducible refine (Len_calls gi l iv _ HOW.out.blk).mono ?_; rintro ex w5 ⟨rfl, hww⟩; obtain rfl := hww.symm)
      | (go_at_call 35; with_reducible refine (At_calls gi l iv ((l.length : Int) - 1) _ HOW.out.blk (by have := HX.out; clear hw1; omega) (by clear hw1; omega)).mono ?_; rw [HL.out]; unfold kvV; rintro ex w5 ⟨rfl, hb⟩
         have BP5 := Aside0.mk (blk_below BP4.out hb)
         have HB5 := Aside0.mk (below_step HB4.out hb)
         have HOW5 := Aside0.mk (hown_below HOW.out hb)
         clear hb)
      | ((with_reducible refine gate_dst (N := 10) rfl ?_); refine box_event ?hg (N := 10) ?hd (cs := #[.string (⟨#[]⟩ : ByteArray), .int .u64 0, .int .i64 0, .string (⟨#[]⟩ : ByteArray)]) (t := 47) ?hr ?_; (case hd => rfl); (case hg => rfl); (case hr => first | (go_simp; done) | (go_simp; rfl)); intro gb hg w6 hbox hb
         have BK := Aside0.mk hbox
         have BP6 := Aside0.mk (blk_below BP5.out hb)
         have HB6 := Aside0.mk (below_step HB5.out hb)
         have HB56 := Aside0.mk hb
         have HGB : Aside0 (w.heap.size < gb ∧ w5.heap.size ≤ gb) := ⟨by rw [hg]; exact ⟨blk_lt2 BP5.out, Nat.le_refl _⟩⟩
         clear hb hbox hg
         have hcz0 : w6.cell? ⟨gb, 0, none⟩ = some (.string (⟨#[]⟩ : ByteArray)) := (blk_cell BK.out 0).trans rfl
         have hcz1 : w6.cell? ⟨gb, 1, none⟩ = some (.int .u64 0) := (blk_cell BK.out 1).trans rfl
         have hcz2 : w6.cell? ⟨gb, 2, none⟩ = some (.int .i64 0) := (blk_cell BK.out 2).trans rfl
         have hcz3 : w6.cell? ⟨gb, 3, none⟩ = some (.string (⟨#[]⟩ : ByteArray)) := (blk_cell BK.out 3).trans rfl
         have hfz0 := blk_frozen BK.out 0
         have hfz1 := blk_frozen BK.out 1
         have hfz2 := blk_frozen BK.out 2
         have hfz3 := blk_frozen BK.out 3))
    obtain ⟨w7, hw7⟩ : ∃ y, (((w6.setCell ⟨gb, 0, none⟩ (.string L.f0.f0)).setCell ⟨gb, 1, none⟩ (.int .u64 L.f0.f1)).setCell ⟨gb, 2, none⟩ (.int .i64 L.f0.f2)).setCell ⟨gb, 3, none⟩ (.string L.f1) = y := ⟨_, rfl⟩
    have BK7 : w7.heap[gb]? = some (.cells #[.string L.f0.f0, .int .u64 L.f0.f1, .int .i64 L.f0.f2, .string L.f1] 47 (0, 0)) := by
      rw [← hw7]
      exact blk_put (cs := #[.string L.f0.f0, .int .u64 L.f0.f1, .int .i64 L.f0.f2, .string (⟨#[]⟩ : ByteArray)]) (blk_put (cs := #[.string L.f0.f0, .int .u64 L.f0.f1, .int .i64 0, .string (⟨#[]⟩ : ByteArray)]) (blk_put (cs := #[.string L.f0.f0, .int .u64 0, .int .i64 0, .string (⟨#[]⟩ : ByteArray)]) (blk_put (cs := #[.string (⟨#[]⟩ : ByteArray), .int .u64 0, .int .i64 0, .string (⟨#[]⟩ : ByteArray)]) BK.out 0 _ rfl) 1 _ rfl) 2 _ rfl) 3 _ rfl
    have HB57 : Below w5.heap.size w5 w7 := by rw [← hw7]; exact below_set (below_set (below_set (below_set HB56.out HGB.out.2) HGB.out.2) HGB.out.2) HGB.out.2
    have HOW7 := Aside0.mk (hown_below HOW5.out HB57)
    have BP7 := blk_below BP5.out HB57
    have HB7 := Aside0.mk (below_step HB5.out HB57)
    rw [hw7]
    clear hw7 hcz0 hcz1 hcz2 hcz3 hfz0 hfz1 hfz2 hfz3 HB57 BK HB56
    have k0 : w7.cell? ⟨gb, 0, none⟩ = some (.string L.f0.f0) := (blk_cell BK7 0).trans rfl
    have k1 : w7.cell? ⟨gb, 1, none⟩ = some (.int .u64 L.f0.f1) := (blk_cell BK7 1).trans rfl
    have k2 : w7.cell? ⟨gb, 2, none⟩ = some (.int .i64 L.f0.f2) := (blk_cell BK7 2).trans rfl
    have m0 : w7.cell? ⟨w.heap.size, 0, none⟩ = some (.string p.f0.f0) := (blk_cell BP7 0).trans rfl
    have m1 : w7.cell? ⟨w.heap.size, 1, none⟩ = some (.int .u64 p.f0.f1) := (blk_cell BP7 1).trans rfl
    have m2 : w7.cell? ⟨w.heap.size, 2, none⟩ = some (.int .i64 p.f0.f2) := (blk_cell BP7 2).trans rfl
    clear BK7 BP7 hw1 e1 e2
    go_wp2
    go_ret2
    exact ⟨HB7.out, gi, rfl, HGI.out, HOW7.out⟩
end Go.Proofs.Ythdemdjobgbpdaa.T
namespace Go.Proofs.Ythdemdjobgbpdaa.T
open Go.RowKit Go.Shelf Go.Proofs.YthdemdjobgbpdaaW.PrintWords Go.Proofs.YthdemdjobgbpdaaW.PrintLast Go.Proofs.YthdemdjobgbpdaaW.PrintMore Go.Proofs.Ythdemdjobgbpdaa.P Go.Proofs.Ythdemdjobgbpdaa.B Go.Proofs.Ythdemdjobgbpdaa.Q
attribute [local go_sem] Oper.semAt_some
set_option linter.unusedVariables false
set_option linter.unusedSimpArgs false
def keyV (x : S45) : Value := .agg #[.string x.f0, .int .u64 x.f1, .int .i64 x.f2]
def plV (p : SPl) : Value := .agg #[.string p.f0.f0, .int .u64 p.f0.f1, .int .i64 p.f0.f2, .int .i64 (p.f1 : Int), .int .i64 (p.f2 : Int)]
def cmpP (x : SPl) (q : S45) : Option Int := ikey_Compare.f x.f0.f0 x.f0.f1 x.f0.f2 q.f0 q.f1 q.f2
set_option maxRecDepth 100000 in
set_option maxHeartbeats 1000000 in
theorem get1_calls (x : SPl) (q : S45) (r : Int) (w : World) (h : cmpP x q = some r) : Calls Try.prog 42 #[plV x, keyV q] w fun e w' => e = .returned (.int .i64 r) ∧ Below w.heap.size w w' := by
  unfold plV keyV
  unfold cmpP at h
  have H := Aside0.mk h
  clear h
  go_enter Try.func42, Try.ntmps42
  go_upto_region 1 with fail
  obtain ⟨w2, hw2⟩ : ∃ y, (w.alloc (.cells #[.string x.f0.f0, .int .u64 x.f0.f1, .int .i64 x.f0.f2, .int .i64 (x.f1 : Int), .int .i64 (x.f2 : Int)] 82)).alloc (.cells #[.string q.f0, .int .u64 q.f1, .int .i64 q.f2] 45) = y := ⟨_, rfl⟩
  have hb2 : Below w.heap.size w w2 := by rw [← hw2]; exact below_alloc (below_alloc (Below.refl _ _) _) _
  have b1 : w2.heap[w.heap.size]? = some (.cells #[.string x.f0.f0, .int .u64 x.f0.f1, .int .i64 x.f0.f2, .int .i64 (x.f1 : Int), .int .i64 (x.f2 : Int)] 82 (0, 0)) := by rw [← hw2]; exact blk_alloc (blk_new w _) _
  have b2 : w2.heap[w.heap.size + 1]? = some (.cells #[.string q.f0, .int .u64 q.f1, .int .i64 q.f2] 45 (0, 0)) := by
    rw [← hw2]
    have := blk_new (w.alloc (.cells #[.string x.f0.f0, .int .u64 x.f0.f1, .int .i64 x.f0.f2, .int .i64 (x.f1 : Int), .int .i64 (x.f2 : Int)] 82)) (.cells #[.string q.f0, .int .u64 q.f1, .int .i64 q.f2] 45)
    rwa [World.size_alloc] at this
  have HB2 := Aside0.mk hb2
  rw [hw2]
  have k0 : w2.cell? ⟨w.heap.size, 0, none⟩ = some (.string x.f0.f0) := (blk_cell b1 0).trans rfl
  have k1 : w2.cell? ⟨w.heap.size, 1, none⟩ = some (.int .u64 x.f0.f1) := (blk_cell b1 1).trans rfl
  have k2 : w2.cell? ⟨w.heap.size, 2, none⟩ = some (.int .i64 x.f0.f2) := (blk_cell b1 2).trans rfl
  have m0 : w2.cell? ⟨w.heap.size + 1, 0, none⟩ = some (.string q.f0) := (blk_cell b2 0).trans rfl
  have m1 : w2.cell? ⟨w.heap.size + 1, 1, none⟩ = some (.int .u64 q.f1) := (blk_cell b2 1).trans rfl
  have m2 : w2.cell? ⟨w.heap.size + 1, 2, none⟩ = some (.int .i64 q.f2) := (blk_cell b2 2).trans rfl
  clear hw2 hb2 b1 b2
  go_wp2_with (first
    | (go_at_call 39; with_reducible refine (ikey_Compare.calls x.f0.f0 x.f0.f1 x.f0.f2 q.f0 q.f1 q.f2 r _ H.out).mono ?_; rintro ex w3 ⟨rfl, hb⟩
       have HB3 := Aside0.mk (below_step HB2.out hb)
       clear hb))
  go_ret
  exact ⟨rfl, HB3.out⟩
theorem bs_mid (i j h : Nat) (e : (i + j) / 2 = h) (hl : i + j < 2000000000) : wrap64 (IntKind.u64.wrap (wrap64 ((i : Int) + (j : Int))) / 2) = (h : Int) := by
  have h1 : wrap64 ((i : Int) + (j : Int)) = ((i + j : Nat) : Int) := by unfold wrap64; omega
  rw [h1]
  have h2 : IntKind.u64.wrap ((i + j : Nat) : Int) = ((i + j : Nat) : Int) := by simp [IntKind.wrap, IntKind.bits, IntKind.signed]; omega
  rw [h2]
  have h3 : ((i + j : Nat) : Int) / 2 = (h : Int) := by omega
  rw [h3]
  unfold wrap64
  omega
section
variable {P : Program} {ops : Array Oper} {Q : Exit → Act → World → Prop}
/-- a call of a function value -/
theorem goesT_ {oi : Oper} {N : Option Tmp} {a : Act} {w : World} {K : Act → World → Prop} {f : FuncId} {fn : Func} {x : Operand} {xs_ : Array Operand} {ts : Array TypeId} (hf : P.funcs[f]? = some fn) (hname : (fn.name == "runtime.NumGoroutine") = false) (hb : fn.body.isSome = true) (args : Array Value)
    (hw : Region.wanted oi (yielded ops a.tmps) = true) (hN : oi.dst = N) (hop : oi.op = .call { callee := .value x, args := xs_, argTypes := ts }) (hx : a.eval x = .func (.func f) #[] #[]) (hargs : xs_.map a.eval = args)
    (h : Calls P f args w fun e w' => ∃ v, e = .returned v ∧ K (a.put N v) w') : if Region.wanted oi (yielded ops a.tmps) = true then Oper.wp P oi a w K Q else K (a.put N undef) w := by
  refine call_ f args hw hN ?_ h
  have he := enters_ hf hname hb args w
  unfold execOp
  simp [hop, resolve, hx, Deferred.ofValue, invoke, hargs, he]
end
theorem bs_w1 (a : Nat) (h : a < 1000000000000) : wrap64 ((a : Int) + 1) = ((a + 1 : Nat) : Int) := by unfold wrap64; omega
def bs_l : Nat → List SPl → S45 → Nat → Nat → Option Nat
  | 0, _, _, _, _ => none
  | g + 1, ps, q, i, j => if i < j then (cmpP (rd_TPl ps (((i + j) / 2 : Nat) : Int)) q).bind fun c => if c < 0 then bs_l g ps q ((i + j) / 2 + 1) j else bs_l g ps q i ((i + j) / 2) else some i
def bs_f (k : Nat) (ps : List SPl) (q : S45) : Option (Nat × Bool) :=
  if ps.length < 1000000000 then (bs_l k ps q 0 ps.length).bind fun i => if i < ps.length then (cmpP (rd_TPl ps (i : Int)) q).bind fun c => some (i, c == 0) else some (i, false) else none
set_option maxRecDepth 100000 in
set_option maxHeartbeats 4000000 in
theorem bs_calls (k : Nat) (A : Option Addr) (c : Nat) (ps : List SPl) (q : S45) (r : Nat × Bool) (w : World) (hC : Kd.C kPl w A ps.length ps) (hc : ps.length ≤ c) (hf : bs_f k ps q = some r) :
    Calls Try.prog 41 #[.slice A ps.length c, .agg #[.string q.f0, .int .u64 q.f1, .int .i64 q.f2], .func (.func 42) #[] #[]] w fun e w' => e = .returned (.tuple #[.int .i64 (r.1 : Int), .bool r.2]) ∧ Below w.heap.size w w' := by
  unfold bs_f at hf
  split at hf
  case isFalse => cases hf
  rename_i hlen
  obtain ⟨ri, hri, hf⟩ := Option.bind_eq_some_iff.mp hf
  have HC := Aside0.mk hC
  have HCC := Aside0.mk hc
  have HLEN := Aside0.mk hlen
  have HRI := Aside0.mk hri
  have HF := Aside0.mk hf
  clear hC hc hlen hri hf
  go_enter Try.func41, Try.ntmps41
  go_upto_region 3 with fail
  obtain ⟨w2, hw2⟩ : ∃ y, w.alloc (.cells #[.string q.f0, .int .u64 q.f1, .int .i64 q.f2] 45) = y := ⟨_, rfl⟩
  have HB2 : Aside0 (Below w.heap.size w w2) := ⟨by rw [← hw2]; exact below_alloc (Below.refl _ _) _⟩
  have BQ2 : Aside0 (w2.heap[w.heap.size]? = some (.cells #[.string q.f0, .int .u64 q.f1, .int .i64 q.f2] 45 (0, 0))) := ⟨by rw [← hw2]; exact blk_new w _⟩
  rw [hw2]
  clear hw2
  go_loopg [9, 10] k (fun gf v9 v10 wx => ∃ i j : Nat, v9 = .int .i64 (i : Int) ∧ v10 = .int .i64 (j : Int) ∧ Aside0 (i ≤ ps.length ∧ j ≤ ps.length) ∧ Aside0 (bs_l gf ps q i j = some ri) ∧ Aside0 (wx.heap[w.heap.size]? = some (.cells #[.string q.f0, .int .u64 q.f1, .int .i64 q.f2] 45 (0, 0))) ∧ Aside0 (Below w.heap.size w wx))
  case atStart => exact ⟨0, ps.length, rfl, rfl, ⟨Nat.zero_le _, Nat.le_refl _⟩, HRI, BQ2, HB2⟩
  case round =>
    clear BQ2 HB2 HRI
    obtain ⟨i, j, rfl, rfl, HI, HS, BQ, HB⟩ := hrel
    cases gk with
    | zero => exact absurd HS.out (by simp [bs_l])
    | succ g1 =>
      have hs := HS.out
      unfold bs_l at hs
      by_cases ci : i < j
      · rw [if_pos ci] at hs
        have d1 : decide ((i : Int) < (j : Int)) = true := decide_eq_true (by omega)
        have d1b : decide (i < j) = true := decide_eq_true ci
        obtain ⟨h, hh⟩ : ∃ y, (i + j) / 2 = y := ⟨_, rfl⟩
        rw [hh] at hs
        have hhl : h < ps.length := by have := HI.out; omega
        obtain ⟨cv, hcv, hs⟩ := Option.bind_eq_some_iff.mp hs
        obtain ⟨ad, eA, k0, k1, k2, k3, k4⟩ := at_TPl (Kd.C_below HC.out HB.out) (h : Int) (Int.natCast_nonneg h) (by omega)
        subst eA
        rw [Int.toNat_natCast] at k0 k1 k2 k3 k4
        obtain ⟨X, hX⟩ : ∃ x, rd_TPl ps (h : Int) = x := ⟨_, rfl⟩
        rw [hX] at hcv k0 k1 k2 k3 k4
        have HCV := Aside0.mk hcv
        have HS2 := Aside0.mk hs
        have p1 := eq_true (show (0 : Int) ≤ (h : Int) by omega)
        have p2 := eq_true (show (h : Int) < (ps.length : Int) by omega)
        have m0 : wr.cell? ⟨w.heap.size, 0, none⟩ = some (.string q.f0) := (blk_cell BQ.out 0).trans rfl
        have m1 : wr.cell? ⟨w.heap.size, 1, none⟩ = some (.int .u64 q.f1) := (blk_cell BQ.out 1).trans rfl
        have m2 : wr.cell? ⟨w.heap.size, 2, none⟩ = some (.int .i64 q.f2) := (blk_cell BQ.out 2).trans rfl
        have HHL := Aside0.mk hhl
        have HHH := Aside0.mk hh
        have HJL : Aside0 (i + j < 2000000000) := ⟨by have := HI.out; have := HLEN.out; omega⟩
        clear hX hs hcv HS hh hhl ci
        go_upto_region 5 with fail
        simp only [bs_mid i j h HHH.out HJL.out]
        have HBd : Aside0 (Below w.heap.size w wr.drew) := ⟨below_drew1 HB.out⟩
        have BQd : Aside0 (wr.drew.heap[w.heap.size]? = some (.cells #[.string q.f0, .int .u64 q.f1, .int .i64 q.f2] 45 (0, 0))) := ⟨blk_drew BQ.out⟩
        refine start_ (n := 8) (S := fun w' => w'.cell? (ad.add (h * 5)) = some (.string X.f0.f0) ∧ w'.cell? ⟨(ad.add (h * 5)).block, (ad.add (h * 5)).off + 1, none⟩ = some (.int .u64 X.f0.f1) ∧ w'.cell? ⟨(ad.add (h * 5)).block, (ad.add (h * 5)).off + 2, none⟩ = some (.int .i64 X.f0.f2) ∧ w'.cell? ⟨(ad.add (h * 5)).block, (ad.add (h * 5)).off + 3, none⟩ = some (.int .i64 (X.f1 : Int)) ∧ w'.cell? ⟨(ad.add (h * 5)).block, (ad.add (h * 5)).off + 4, none⟩ = some (.int .i64 (X.f2 : Int)) ∧ w'.cell? ⟨w.heap.size, 0, none⟩ = some (.string q.f0) ∧ w'.cell? ⟨w.heap.size, 1, none⟩ = some (.int .u64 q.f1) ∧ w'.cell? ⟨w.heap.size, 2, none⟩ = some (.int .i64 q.f2)) (ds := []) #[false, false, false, false, false, false, false, false] (by kernel_rfl) rfl rfl ⟨(by exact k0), (by exact k1), (by exact k2), (by exact k3), (by exact k4), (by exact m0), (by exact m1), (by exact m2)⟩ (fun hHeld => ?_)
        refine pure_ (i := 0) (N := some 24) (v := ?_) (a' := ?_) #[true, false, false, false, false, false, false, false] rfl rfl (by kernel_rfl) (fun _ _ _ h => h) (Or.inl ⟨by rfl, ?_⟩) ?_ ?_
        rotate_left
        · intro w'
          go_simp
          with_reducible rfl
        rotate_left
        · simp only [Act.put, List.setIfInBounds_toArray, List.set_cons_zero, List.set_cons_succ, i64_w, i32_w]
          rfl
        refine pure_ (i := 1) (N := some 25) (v := ?_) (a' := ?_) #[true, true, false, false, false, false, false, false] rfl rfl (by kernel_rfl) (fun _ _ _ h => h) (Or.inl ⟨by rfl, ?_⟩) ?_ ?_
        rotate_left
        · intro w'
          go_simp
          with_reducible rfl
        rotate_left
        · simp only [Act.put, List.setIfInBounds_toArray, List.set_cons_zero, List.set_cons_succ, i64_w, i32_w]
          rfl
        refine pure_ (i := 2) (N := some 26) (v := ?_) (a' := ?_) #[true, true, true, false, false, false, false, false] rfl rfl (by kernel_rfl) (fun _ _ _ h => h) (Or.inl ⟨by rfl, ?_⟩) ?_ ?_
        rotate_left
        · intro w'
          go_simp
          with_reducible rfl
        rotate_left
        · simp only [Act.put, List.setIfInBounds_toArray, List.set_cons_zero, List.set_cons_succ, i64_w, i32_w]
          rfl
        refine pure_ (i := 3) (N := some 27) (v := ?_) (a' := ?_) #[true, true, true, true, false, false, false, false] rfl rfl (by kernel_rfl) (fun _ _ _ h => h) (Or.inl ⟨by rfl, ?_⟩) ?_ ?_
        rotate_left
        · intro w'
          go_simp
          with_reducible rfl
        rotate_left
        · simp only [Act.put, List.setIfInBounds_toArray, List.set_cons_zero, List.set_cons_succ, i64_w, i32_w]
          rfl
        refine take_ (i := 4) (N := some 28) (v := ?_) (a' := ?_) #[true, true, true, true, true, false, false, false] rfl rfl (by kernel_rfl) (fun _ _ _ h => h) (Or.inl ⟨by rfl, ?_⟩) hHeld ?_ ?_
        rotate_left
        · rintro w' ⟨s0, s1, s2, s3, s4, s5, s6, s7⟩
          go_simp
          with_reducible rfl
        rotate_left
        · simp only [Act.put, List.setIfInBounds_toArray, List.set_cons_zero, List.set_cons_succ, i64_w, i32_w]
          rfl
        refine take_ (i := 5) (N := some 29) (v := ?_) (a' := ?_) #[true, true, true, true, true, true, false, false] rfl rfl (by kernel_rfl) (fun _ _ _ h => h) (Or.inl ⟨by rfl, ?_⟩) hHeld ?_ ?_
        rotate_left
        · rintro w' ⟨s0, s1, s2, s3, s4, s5, s6, s7⟩
          go_simp
          with_reducible rfl
        rotate_left
        · simp only [Act.put, List.setIfInBounds_toArray, List.set_cons_zero, List.set_cons_succ, i64_w, i32_w]
          rfl
        refine one_ (i := 6) (N := some 30) #[true, true, true, true, true, true, true, false] rfl rfl (by kernel_rfl) (by decide) (fun K hK => ?_)
        refine goesT_ Try.func42 (by kernel_rfl) rfl #[plV X, keyV q] (by rfl) rfl rfl (by rfl) (by simp only [List.map_toArray, List.map_cons, List.map_nil]; rfl) ?_
        with_reducible refine (get1_calls X q cv _ HCV.out).mono ?_
        rintro ex w3 ⟨rfl, hb⟩
        refine ⟨_, rfl, ?_⟩
        have HB3 := Aside0.mk (below_step HBd.out hb)
        have BQ3 := Aside0.mk (blk_below BQd.out hb)
        refine hK.out _ _ ⟨(hb.cell (World.block_lt_of_cell? _ _ hHeld.1)).trans hHeld.1, (hb.cell (World.block_lt_of_cell? _ _ hHeld.2.1)).trans hHeld.2.1, (hb.cell (World.block_lt_of_cell? _ _ hHeld.2.2.1)).trans hHeld.2.2.1, (hb.cell (World.block_lt_of_cell? _ _ hHeld.2.2.2.1)).trans hHeld.2.2.2.1, (hb.cell (World.block_lt_of_cell? _ _ hHeld.2.2.2.2.1)).trans hHeld.2.2.2.2.1, (hb.cell (World.block_lt_of_cell? _ _ hHeld.2.2.2.2.2.1)).trans hHeld.2.2.2.2.2.1, (hb.cell (World.block_lt_of_cell? _ _ hHeld.2.2.2.2.2.2.1)).trans hHeld.2.2.2.2.2.2.1, (hb.cell (World.block_lt_of_cell? _ _ hHeld.2.2.2.2.2.2.2)).trans hHeld.2.2.2.2.2.2.2⟩ (fun hHeld => ?_)
        clear hK K
        refine norm_ (a' := ?_) ?_ ?_
        rotate_left
        · show Act.put _ (some 30) _ = _
          simp only [Act.put, List.setIfInBounds_toArray, List.set_cons_zero, List.set_cons_succ, i64_w, i32_w]
          rfl
        refine pure_ (i := 7) (N := some 31) (v := ?_) (a' := ?_) #[true, true, true, true, true, true, true, true] rfl rfl (by kernel_rfl) (fun _ _ _ h => h) (Or.inl ⟨by rfl, ?_⟩) ?_ ?_
        rotate_left
        · intro w'
          go_simp
          with_reducible rfl
        rotate_left
        · simp only [Act.put, List.setIfInBounds_toArray, List.set_cons_zero, List.set_cons_succ, i64_w, i32_w]
          rfl
        refine done_ (by kernel_rfl) ?_
        by_cases cc : cv < 0
        · have e1 : decide (cv < 0) = true := decide_eq_true cc
          have e1b := eq_true cc
          have hs2 := HS2.out
          rw [if_pos cc] at hs2
          have HS3 := Aside0.mk hs2
          have hw1 := bs_w1 h (by have := HHL.out; have := HLEN.out; omega)
          clear cc hs2 HS2
          simp only [e1]
          go_wp2
          simp only [hw1]
          go_roundg g1
          case measure => exact Nat.lt_succ_self _
          case rel => exact ⟨h + 1, j, rfl, rfl, ⟨by have := HHL.out; omega, HI.out.2⟩, HS3, BQ3, HB3⟩
        · have e1 : decide (cv < 0) = false := decide_eq_false cc
          have e1b := eq_false cc
          have hs2 := HS2.out
          rw [if_neg cc] at hs2
          have HS3 := Aside0.mk hs2
          clear cc hs2 HS2
          simp only [e1]
          go_wp2
          go_roundg g1
          case measure => exact Nat.lt_succ_self _
          case rel => exact ⟨i, h, rfl, rfl, ⟨HI.out.1, by have := HHL.out; omega⟩, HS3, BQ3, HB3⟩
      · rw [if_neg ci] at hs
        have hs2 := Option.some.inj hs
        have d1 : decide ((i : Int) < (j : Int)) = false := decide_eq_false (by omega)
        have d1b : decide (i < j) = false := decide_eq_false ci
        subst hs2
        clear hs ci HS
        have HBd : Aside0 (Below w.heap.size w wr.drew) := ⟨below_drew1 HB.out⟩
        by_cases ce : i < ps.length
        · have e1 : decide ((i : Int) < (ps.length : Int)) = true := decide_eq_true (by omega)
          have e1b : decide (i < ps.length) = true := decide_eq_true ce
          have hf := HF.out
          rw [if_pos ce] at hf
          obtain ⟨cv, hcv, hf⟩ := Option.bind_eq_some_iff.mp hf
          obtain rfl := Option.some.inj hf
          obtain ⟨ad, eA, k0, k1, k2, k3, k4⟩ := at_TPl (Kd.C_below HC.out HB.out) (i : Int) (Int.natCast_nonneg i) (by omega)
          subst eA
          rw [Int.toNat_natCast] at k0 k1 k2 k3 k4
          obtain ⟨X, hX⟩ : ∃ x, rd_TPl ps (i : Int) = x := ⟨_, rfl⟩
          rw [hX] at hcv k0 k1 k2 k3 k4
          have HCV := Aside0.mk hcv
          have p1 := eq_true (show (0 : Int) ≤ (i : Int) by omega)
          have p2 := eq_true (show (i : Int) < (ps.length : Int) by omega)
          have m0 : wr.cell? ⟨w.heap.size, 0, none⟩ = some (.string q.f0) := (blk_cell BQ.out 0).trans rfl
          have m1 : wr.cell? ⟨w.heap.size, 1, none⟩ = some (.int .u64 q.f1) := (blk_cell BQ.out 1).trans rfl
          have m2 : wr.cell? ⟨w.heap.size, 2, none⟩ = some (.int .i64 q.f2) := (blk_cell BQ.out 2).trans rfl
          clear hX hcv hf HF ce
          go_upto_region 8 with fail
          refine start_ (n := 16) (S := fun w' => w'.cell? (ad.add (i * 5)) = some (.string X.f0.f0) ∧ w'.cell? ⟨(ad.add (i * 5)).block, (ad.add (i * 5)).off + 1, none⟩ = some (.int .u64 X.f0.f1) ∧ w'.cell? ⟨(ad.add (i * 5)).block, (ad.add (i * 5)).off + 2, none⟩ = some (.int .i64 X.f0.f2) ∧ w'.cell? ⟨(ad.add (i * 5)).block, (ad.add (i * 5)).off + 3, none⟩ = some (.int .i64 (X.f1 : Int)) ∧ w'.cell? ⟨(ad.add (i * 5)).block, (ad.add (i * 5)).off + 4, none⟩ = some (.int .i64 (X.f2 : Int)) ∧ w'.cell? ⟨w.heap.size, 0, none⟩ = some (.string q.f0) ∧ w'.cell? ⟨w.heap.size, 1, none⟩ = some (.int .u64 q.f1) ∧ w'.cell? ⟨w.heap.size, 2, none⟩ = some (.int .i64 q.f2)) (ds := []) #[false, false, false, false, false, false, false, false, false, false, false, false, false, false, false, false] (by kernel_rfl) rfl rfl ⟨(by exact k0), (by exact k1), (by exact k2), (by exact k3), (by exact k4), (by exact m0), (by exact m1), (by exact m2)⟩ (fun hHeld => ?_)
          refine pure_ (i := 0) (N := some 35) (v := ?_) (a' := ?_) #[true, false, false, false, false, false, false, false, false, false, false, false, false, false, false, false] rfl rfl (by kernel_rfl) (fun _ _ _ h => h) (Or.inl ⟨by rfl, ?_⟩) ?_ ?_
          rotate_left
          · intro w'
            go_simp
            with_reducible rfl
          rotate_left
          · simp only [Act.put, List.setIfInBounds_toArray, List.set_cons_zero, List.set_cons_succ, i64_w, i32_w]
            rfl
          refine pure_ (i := 1) (N := some 36) (v := ?_) (a' := ?_) #[true, true, false, false, false, false, false, false, false, false, false, false, false, false, false, false] rfl rfl (by kernel_rfl) (fun _ _ _ h => h) (Or.inl ⟨by rfl, ?_⟩) ?_ ?_
          rotate_left
          · intro w'
            go_simp
            with_reducible rfl
          rotate_left
          · simp only [Act.put, List.setIfInBounds_toArray, List.set_cons_zero, List.set_cons_succ, i64_w, i32_w]
            rfl
          refine pure_ (i := 2) (N := some 37) (v := ?_) (a' := ?_) #[true, true, true, false, false, false, false, false, false, false, false, false, false, false, false, false] rfl rfl (by kernel_rfl) (fun _ _ _ h => h) (Or.inl ⟨by rfl, ?_⟩) ?_ ?_
          rotate_left
          · intro w'
            go_simp
            with_reducible rfl
          rotate_left
          · simp only [Act.put, List.setIfInBounds_toArray, List.set_cons_zero, List.set_cons_succ, i64_w, i32_w]
            rfl
          refine pure_ (i := 3) (N := some 38) (v := ?_) (a' := ?_) #[true, true, true, true, false, false, false, false, false, false, false, false, false, false, false, false] rfl rfl (by kernel_rfl) (fun _ _ _ h => h) (Or.inl ⟨by rfl, ?_⟩) ?_ ?_
          rotate_left
          · intro w'
            go_simp
            with_reducible rfl
          rotate_left
          · simp only [Act.put, List.setIfInBounds_toArray, List.set_cons_zero, List.set_cons_succ, i64_w, i32_w]
            rfl
          refine pure_ (i := 4) (N := some 39) (v := ?_) (a' := ?_) #[true, true, true, true, true, false, false, false, false, false, false, false, false, false, false, false] rfl rfl (by kernel_rfl) (fun _ _ _ h => h) (Or.inl ⟨by rfl, ?_⟩) ?_ ?_
          rotate_left
          · intro w'
            go_simp
            with_reducible rfl
          rotate_left
          · simp only [Act.put, List.setIfInBounds_toArray, List.set_cons_zero, List.set_cons_succ, i64_w, i32_w]
            rfl
          refine pure_ (i := 5) (N := some 40) (v := ?_) (a' := ?_) #[true, true, true, true, true, true, false, false, false, false, false, false, false, false, false, false] rfl rfl (by kernel_rfl) (fun _ _ _ h => h) (Or.inl ⟨by rfl, ?_⟩) ?_ ?_
          rotate_left
          · intro w'
            go_simp
            with_reducible rfl
          rotate_left
          · simp only [Act.put, List.setIfInBounds_toArray, List.set_cons_zero, List.set_cons_succ, i64_w, i32_w]
            rfl
          refine pure_ (i := 6) (N := some 41) (v := ?_) (a' := ?_) #[true, true, true, true, true, true, true, false, false, false, false, false, false, false, false, false] rfl rfl (by kernel_rfl) (fun _ _ _ h => h) (Or.inl ⟨by rfl, ?_⟩) ?_ ?_
          rotate_left
          · intro w'
            go_simp
            with_reducible rfl
          rotate_left
          · simp only [Act.put, List.setIfInBounds_toArray, List.set_cons_zero, List.set_cons_succ, i64_w, i32_w]
            rfl
          refine pure_ (i := 7) (N := some 42) (v := ?_) (a' := ?_) #[true, true, true, true, true, true, true, true, false, false, false, false, false, false, false, false] rfl rfl (by kernel_rfl) (fun _ _ _ h => h) (Or.inl ⟨by rfl, ?_⟩) ?_ ?_
          rotate_left
          · intro w'
            go_simp
            with_reducible rfl
          rotate_left
          · simp only [Act.put, List.setIfInBounds_toArray, List.set_cons_zero, List.set_cons_succ, i64_w, i32_w]
            rfl
          refine pure_ (i := 8) (N := some 43) (v := ?_) (a' := ?_) #[true, true, true, true, true, true, true, true, true, false, false, false, false, false, false, false] rfl rfl (by kernel_rfl) (fun _ _ _ h => h) (Or.inl ⟨by rfl, ?_⟩) ?_ ?_
          rotate_left
          · intro w'
            go_simp
            with_reducible rfl
          rotate_left
          · simp only [Act.put, List.setIfInBounds_toArray, List.set_cons_zero, List.set_cons_succ, i64_w, i32_w]
            rfl
          refine take_ (i := 9) (N := some 44) (v := ?_) (a' := ?_) #[true, true, true, true, true, true, true, true, true, true, false, false, false, false, false, false] rfl rfl (by kernel_rfl) (fun _ _ _ h => h) (Or.inl ⟨by rfl, ?_⟩) hHeld ?_ ?_
          rotate_left
          · rintro w' ⟨s0, s1, s2, s3, s4, s5, s6, s7⟩
            go_simp
            with_reducible rfl
          rotate_left
          · simp only [Act.put, List.setIfInBounds_toArray, List.set_cons_zero, List.set_cons_succ, i64_w, i32_w]
            rfl
          refine take_ (i := 10) (N := some 45) (v := ?_) (a' := ?_) #[true, true, true, true, true, true, true, true, true, true, true, false, false, false, false, false] rfl rfl (by kernel_rfl) (fun _ _ _ h => h) (Or.inl ⟨by rfl, ?_⟩) hHeld ?_ ?_
          rotate_left
          · rintro w' ⟨s0, s1, s2, s3, s4, s5, s6, s7⟩
            go_simp
            with_reducible rfl
          rotate_left
          · simp only [Act.put, List.setIfInBounds_toArray, List.set_cons_zero, List.set_cons_succ, i64_w, i32_w]
            rfl
          refine one_ (i := 11) (N := some 46) #[true, true, true, true, true, true, true, true, true, true, true, true, false, false, false, false] rfl rfl (by kernel_rfl) (by decide) (fun K hK => ?_)
          refine goesT_ Try.func42 (by kernel_rfl) rfl #[plV X, keyV q] (by rfl) rfl rfl (by rfl) (by simp only [List.map_toArray, List.map_cons, List.map_nil]; rfl) ?_
          with_reducible refine (get1_calls X q cv _ HCV.out).mono ?_
          rintro ex w3 ⟨rfl, hb⟩
          refine ⟨_, rfl, ?_⟩
          have HB3 := Aside0.mk (below_step HBd.out hb)
          refine hK.out _ _ ⟨(hb.cell (World.block_lt_of_cell? _ _ hHeld.1)).trans hHeld.1, (hb.cell (World.block_lt_of_cell? _ _ hHeld.2.1)).trans hHeld.2.1, (hb.cell (World.block_lt_of_cell? _ _ hHeld.2.2.1)).trans hHeld.2.2.1, (hb.cell (World.block_lt_of_cell? _ _ hHeld.2.2.2.1)).trans hHeld.2.2.2.1, (hb.cell (World.block_lt_of_cell? _ _ hHeld.2.2.2.2.1)).trans hHeld.2.2.2.2.1, (hb.cell (World.block_lt_of_cell? _ _ hHeld.2.2.2.2.2.1)).trans hHeld.2.2.2.2.2.1, (hb.cell (World.block_lt_of_cell? _ _ hHeld.2.2.2.2.2.2.1)).trans hHeld.2.2.2.2.2.2.1, (hb.cell (World.block_lt_of_cell? _ _ hHeld.2.2.2.2.2.2.2)).trans hHeld.2.2.2.2.2.2.2⟩ (fun hHeld => ?_)
          clear hK K
          refine norm_ (a' := ?_) ?_ ?_
          rotate_left
          · show Act.put _ (some 46) _ = _
            simp only [Act.put, List.setIfInBounds_toArray, List.set_cons_zero, List.set_cons_succ, i64_w, i32_w]
            rfl
          refine pure_ (i := 12) (N := some 47) (v := ?_) (a' := ?_) #[true, true, true, true, true, true, true, true, true, true, true, true, true, false, false, false] rfl rfl (by kernel_rfl) (fun _ _ _ h => h) (Or.inl ⟨by rfl, ?_⟩) ?_ ?_
          rotate_left
          · intro w'
            go_simp
            with_reducible rfl
          rotate_left
          · simp only [Act.put, List.setIfInBounds_toArray, List.set_cons_zero, List.set_cons_succ, i64_w, i32_w]
            rfl
          refine pure_ (i := 13) (N := some 48) (v := ?_) (a' := ?_) #[true, true, true, true, true, true, true, true, true, true, true, true, true, true, false, false] rfl rfl (by kernel_rfl) (fun _ _ _ h => h) (Or.inl ⟨by rfl, ?_⟩) ?_ ?_
          rotate_left
          · intro w'
            go_simp
            with_reducible rfl
          rotate_left
          · simp only [Act.put, List.setIfInBounds_toArray, List.set_cons_zero, List.set_cons_succ, i64_w, i32_w]
            rfl
          refine pure_ (i := 14) (N := some 6) (v := ?_) (a' := ?_) #[true, true, true, true, true, true, true, true, true, true, true, true, true, true, true, false] rfl rfl (by kernel_rfl) (fun _ _ _ h => h) (Or.inl ⟨by rfl, ?_⟩) ?_ ?_
          rotate_left
          · intro w'
            go_simp
            with_reducible rfl
          rotate_left
          · simp only [Act.put, List.setIfInBounds_toArray, List.set_cons_zero, List.set_cons_succ, i64_w, i32_w]
            rfl
          refine pure_ (i := 15) (N := some 7) (v := ?_) (a' := ?_) #[true, true, true, true, true, true, true, true, true, true, true, true, true, true, true, true] rfl rfl (by kernel_rfl) (fun _ _ _ h => h) (Or.inl ⟨by rfl, ?_⟩) ?_ ?_
          rotate_left
          · intro w'
            go_simp
            with_reducible rfl
          rotate_left
          · simp only [Act.put, List.setIfInBounds_toArray, List.set_cons_zero, List.set_cons_succ, i64_w, i32_w]
            rfl
          refine done_ (by kernel_rfl) ?_
          go_wp2
          go_ret2
          exact ⟨rfl, HB3.out⟩
        · have e1 : decide ((i : Int) < (ps.length : Int)) = false := decide_eq_false (by omega)
          have e1b : decide (i < ps.length) = false := decide_eq_false ce
          have hf := HF.out
          rw [if_neg ce] at hf
          obtain rfl := Option.some.inj hf
          clear hf HF ce
          go_upto_region 8 with fail
          refine start_ (n := 16) (S := fun w' => True) (ds := []) #[false, false, false, false, false, false, false, false, false, false, false, false, false, false, false, false] (by kernel_rfl) rfl rfl trivial (fun hHeld => ?_)
          refine pure_ (i := 0) (N := some 35) (v := ?_) (a' := ?_) #[true, false, false, false, false, false, false, false, false, false, false, false, false, false, false, false] rfl rfl (by kernel_rfl) (fun _ _ _ h => h) (Or.inl ⟨by rfl, ?_⟩) ?_ ?_
          rotate_left
          · intro w'
            go_simp
            with_reducible rfl
          rotate_left
          · simp only [Act.put, List.setIfInBounds_toArray, List.set_cons_zero, List.set_cons_succ, i64_w, i32_w]
            rfl
          refine pure_ (i := 1) (N := some 36) (v := ?_) (a' := ?_) #[true, true, false, false, false, false, false, false, false, false, false, false, false, false, false, false] rfl rfl (by kernel_rfl) (fun _ _ _ h => h) (Or.inl ⟨by rfl, ?_⟩) ?_ ?_
          rotate_left
          · intro w'
            go_simp
            with_reducible rfl
          rotate_left
          · simp only [Act.put, List.setIfInBounds_toArray, List.set_cons_zero, List.set_cons_succ, i64_w, i32_w]
            rfl
          refine pure_ (i := 2) (N := some 37) (v := ?_) (a' := ?_) #[true, true, true, false, false, false, false, false, false, false, false, false, false, false, false, false] rfl rfl (by kernel_rfl) (fun _ _ _ h => h) (Or.inl ⟨by rfl, ?_⟩) ?_ ?_
          rotate_left
          · intro w'
            go_simp
            with_reducible rfl
          rotate_left
          · simp only [Act.put, List.setIfInBounds_toArray, List.set_cons_zero, List.set_cons_succ, i64_w, i32_w]
            rfl
          refine pure_ (i := 3) (N := some 38) (v := ?_) (a' := ?_) #[true, true, true, true, false, false, false, false, false, false, false, false, false, false, false, false] rfl rfl (by kernel_rfl) (fun _ _ _ h => h) (Or.inl ⟨by rfl, ?_⟩) ?_ ?_
          rotate_left
          · intro w'
            go_simp
            with_reducible rfl
          rotate_left
          · simp only [Act.put, List.setIfInBounds_toArray, List.set_cons_zero, List.set_cons_succ, i64_w, i32_w]
            rfl
          refine pure_ (i := 4) (N := some 39) (v := ?_) (a' := ?_) #[true, true, true, true, true, false, false, false, false, false, false, false, false, false, false, false] rfl rfl (by kernel_rfl) (fun _ _ _ h => h) (Or.inl ⟨by rfl, ?_⟩) ?_ ?_
          rotate_left
          · intro w'
            go_simp
            with_reducible rfl
          rotate_left
          · simp only [Act.put, List.setIfInBounds_toArray, List.set_cons_zero, List.set_cons_succ, i64_w, i32_w]
            rfl
          refine pure_ (i := 5) (N := some 40) (v := undef) (a' := ?_) #[true, true, true, true, true, true, false, false, false, false, false, false, false, false, false, false] rfl rfl (by kernel_rfl) (fun _ _ _ h => h) (Or.inr ⟨by rfl, rfl⟩) ?_ ?_
          rotate_left
          · simp only [Act.put, List.setIfInBounds_toArray, List.set_cons_zero, List.set_cons_succ, i64_w, i32_w]
            rfl
          refine pure_ (i := 6) (N := some 41) (v := undef) (a' := ?_) #[true, true, true, true, true, true, true, false, false, false, false, false, false, false, false, false] rfl rfl (by kernel_rfl) (fun _ _ _ h => h) (Or.inr ⟨by rfl, rfl⟩) ?_ ?_
          rotate_left
          · simp only [Act.put, List.setIfInBounds_toArray, List.set_cons_zero, List.set_cons_succ, i64_w, i32_w]
            rfl
          refine pure_ (i := 7) (N := some 42) (v := undef) (a' := ?_) #[true, true, true, true, true, true, true, true, false, false, false, false, false, false, false, false] rfl rfl (by kernel_rfl) (fun _ _ _ h => h) (Or.inr ⟨by rfl, rfl⟩) ?_ ?_
          rotate_left
          · simp only [Act.put, List.setIfInBounds_toArray, List.set_cons_zero, List.set_cons_succ, i64_w, i32_w]
            rfl
          refine pure_ (i := 8) (N := some 43) (v := undef) (a' := ?_) #[true, true, true, true, true, true, true, true, true, false, false, false, false, false, false, false] rfl rfl (by kernel_rfl) (fun _ _ _ h => h) (Or.inr ⟨by rfl, rfl⟩) ?_ ?_
          rotate_left
          · simp only [Act.put, List.setIfInBounds_toArray, List.set_cons_zero, List.set_cons_succ, i64_w, i32_w]
            rfl
          refine pure_ (i := 9) (N := some 44) (v := undef) (a' := ?_) #[true, true, true, true, true, true, true, true, true, true, false, false, false, false, false, false] rfl rfl (by kernel_rfl) (fun _ _ _ h => h) (Or.inr ⟨by rfl, rfl⟩) ?_ ?_
          rotate_left
          · simp only [Act.put, List.setIfInBounds_toArray, List.set_cons_zero, List.set_cons_succ, i64_w, i32_w]
            rfl
          refine pure_ (i := 10) (N := some 45) (v := undef) (a' := ?_) #[true, true, true, true, true, true, true, true, true, true, true, false, false, false, false, false] rfl rfl (by kernel_rfl) (fun _ _ _ h => h) (Or.inr ⟨by rfl, rfl⟩) ?_ ?_
          rotate_left
          · simp only [Act.put, List.setIfInBounds_toArray, List.set_cons_zero, List.set_cons_succ, i64_w, i32_w]
            rfl
          refine pure_ (i := 11) (N := some 46) (v := undef) (a' := ?_) #[true, true, true, true, true, true, true, true, true, true, true, true, false, false, false, false] rfl rfl (by kernel_rfl) (fun _ _ _ h => h) (Or.inr ⟨by rfl, rfl⟩) ?_ ?_
          rotate_left
          · simp only [Act.put, List.setIfInBounds_toArray, List.set_cons_zero, List.set_cons_succ, i64_w, i32_w]
            rfl
          refine pure_ (i := 12) (N := some 47) (v := undef) (a' := ?_) #[true, true, true, true, true, true, true, true, true, true, true, true, true, false, false, false] rfl rfl (by kernel_rfl) (fun _ _ _ h => h) (Or.inr ⟨by rfl, rfl⟩) ?_ ?_
          rotate_left
          · simp only [Act.put, List.setIfInBounds_toArray, List.set_cons_zero, List.set_cons_succ, i64_w, i32_w]
            rfl
          refine pure_ (i := 13) (N := some 48) (v := ?_) (a' := ?_) #[true, true, true, true, true, true, true, true, true, true, true, true, true, true, false, false] rfl rfl (by kernel_rfl) (fun _ _ _ h => h) (Or.inl ⟨by rfl, ?_⟩) ?_ ?_
          rotate_left
          · intro w'
            go_simp
            with_reducible rfl
          rotate_left
          · simp only [Act.put, List.setIfInBounds_toArray, List.set_cons_zero, List.set_cons_succ, i64_w, i32_w]
            rfl
          refine pure_ (i := 14) (N := some 6) (v := ?_) (a' := ?_) #[true, true, true, true, true, true, true, true, true, true, true, true, true, true, true, false] rfl rfl (by kernel_rfl) (fun _ _ _ h => h) (Or.inl ⟨by rfl, ?_⟩) ?_ ?_
          rotate_left
          · intro w'
            go_simp
            with_reducible rfl
          rotate_left
          · simp only [Act.put, List.setIfInBounds_toArray, List.set_cons_zero, List.set_cons_succ, i64_w, i32_w]
            rfl
          refine pure_ (i := 15) (N := some 7) (v := ?_) (a' := ?_) #[true, true, true, true, true, true, true, true, true, true, true, true, true, true, true, true] rfl rfl (by kernel_rfl) (fun _ _ _ h => h) (Or.inl ⟨by rfl, ?_⟩) ?_ ?_
          rotate_left
          · intro w'
            go_simp
            with_reducible rfl
          rotate_left
          · simp only [Act.put, List.setIfInBounds_toArray, List.set_cons_zero, List.set_cons_succ, i64_w, i32_w]
            rfl
          refine done_ (by kernel_rfl) ?_
          go_wp2
          go_ret2
          exact ⟨rfl, HBd.out⟩
end Go.Proofs.Ythdemdjobgbpdaa.T
namespace Go.Proofs.Ythdemdjobgbpdaa.T
open Go.RowKit Go.Shelf Go.Proofs.YthdemdjobgbpdaaW.PrintWords Go.Proofs.YthdemdjobgbpdaaW.PrintLast Go.Proofs.YthdemdjobgbpdaaW.PrintMore Go.Proofs.Ythdemdjobgbpdaa.P Go.Proofs.Ythdemdjobgbpdaa.B Go.Proofs.Ythdemdjobgbpdaa.Q
attribute [local go_sem] Oper.semAt_some
set_option linter.unusedVariables false
set_option linter.unusedSimpArgs false
def noText : ByteArray := ⟨#[]⟩
theorem toList_inj {a b : ByteArray} (h : a.toList = b.toList) : a = b := by
  rw [ByteArray.toList_eq, ByteArray.toList_eq] at h
  cases a
  cases b
  congr 1
  exact Array.toList_inj.mp h
/-- what a block tells of a key -/
def tell_f (l : List S47) (n : Nat) (user : ByteArray) : ByteArray × Int × Int :=
  if n < l.length then (if (rd_T47 l (n : Int)).f0.f0 = user then (if (rd_T47 l (n : Int)).f0.f2 = 0 then (noText, 1, 0) else ((rd_T47 l (n : Int)).f1, 2, 0)) else (noText, 0, 0)) else (noText, 0, 0)
def capSeq (seq : Int) : Int := if 72057594037927935 < seq then 72057594037927935 else seq
def get_f (k : Nat) (b fl : List Int) (ps : List SPl) (user : ByteArray) (seq : Int) : Option (ByteArray × Int × Int) :=
  (may_f k fl user).bind fun m => if m = false then some (noText, 0, 0) else
    (bs_f k ps ⟨user, capSeq seq, 1⟩).bind fun i => if ps.length ≤ i.1 then (if i.1 = ps.length then some (noText, 0, 0) else none) else
      (tread_f k b (rd_TPl ps (i.1 : Int))).bind fun r => match r with
        | none => some (noText, 0, 122)
        | some x => if 0 ≤ x.2 then (find_f k x.1 x.2.toNat ⟨user, capSeq seq, 1⟩).bind fun n => if n ≤ x.1.length then some (tell_f x.1 n user) else none else none
set_option maxHeartbeats 1000000 in
set_option maxRecDepth 100000 in
theorem get_nil (user : ByteArray) (seq : Int) (w : World) : Calls Try.prog 16 #[.pointer none, .string user, .int .u64 seq] w fun e w' => e = .returned (.tuple #[.string noText, .int .i64 0, .int .i64 1]) ∧ w' = w := by
  go_enter Try.func16, Try.ntmps16
  go_wp2
  go_ret3
  exact ⟨rfl, rfl⟩
set_option maxRecDepth 100000 in
set_option maxHeartbeats 4000000 in
theorem get_calls (k g : Nat) (b fl : List Int) (ps : List SPl) (cnt : Int) (user : ByteArray) (seq : Int) (r : ByteArray × Int × Int) (w : World) (h : IsTab w g b fl ps cnt) (hf : get_f k b fl ps user seq = some r) :
    Calls Try.prog 16 #[.pointer (some ⟨g, 0, none⟩), .string user, .int .u64 seq] w fun e w' => e = .returned (.tuple #[.string r.1, .int .i64 r.2.1, .int .i64 r.2.2]) ∧ Below w.heap.size w w' := by
  have HT := Aside0.mk h
  unfold get_f at hf
  obtain ⟨m, hm, hf⟩ := Option.bind_eq_some_iff.mp hf
  obtain ⟨Ab, cb, Af, cf, Ap, cp, h1, h2, h3, h4, h5, h6, h7⟩ := h
  have BT := Aside0.mk h1
  have HCF := Aside0.mk h4
  have HCFC := Aside0.mk h5
  have HCP := Aside0.mk h6
  have HCPC := Aside0.mk h7
  have HM := Aside0.mk hm
  have HF := Aside0.mk hf
  have hq1 : w.cell? ⟨g, 1, none⟩ = some (.slice Af fl.length cf) := (blk_cell h1 1).trans rfl
  clear h1 h2 h3 h4 h5 h6 h7 hm hf
  go_enter Try.func16, Try.ntmps16
  cases m with
  | false =>
    have hf := HF.out
    rw [if_pos rfl] at hf
    obtain rfl := Option.some.inj hf
    clear hf HF
    go_wp2_with (first
      | (go_at_call 40; with_reducible refine (may_calls k Af cf fl user false _ HCF.out HCFC.out HM.out).mono ?_; rintro ex w2 ⟨rfl, hb⟩
         have HB2 := Aside0.mk hb
         clear hb))
    go_ret3
    exact ⟨rfl, HB2.out⟩
  | true =>
    have hf := HF.out
    rw [if_neg (by decide)] at hf
    obtain ⟨⟨i, io⟩, hi, hf⟩ := Option.bind_eq_some_iff.mp hf
    have HI := Aside0.mk hi
    replace HF := Aside0.mk hf
    clear hf hi
    go_upto_region 6 with (first
      | (go_at_call 40; with_reducible refine (may_calls k Af cf fl user true _ HCF.out HCFC.out HM.out).mono ?_; rintro ex w2 ⟨rfl, hb⟩
         have HB2 := Aside0.mk hb
         clear hb hq1)
      | ((with_reducible refine gate_dst (N := 9) rfl ?_); refine box_event ?hg (N := 9) ?hd (cs := #[.string (⟨#[]⟩ : ByteArray), .int .u64 0, .int .i64 0]) (t := 45) ?hr ?_; (case hd => rfl); (case hg => rfl); (case hr => first | (go_simp; done) | (go_simp; rfl)); intro gb hg w3 hbox hb
         have BK := Aside0.mk hbox
         have HB3 := Aside0.mk (below_step HB2.out hb)
         have HGB : Aside0 (w.heap.size ≤ gb) := ⟨by rw [hg]; exact below_size HB2.out⟩
         clear hb hbox hg
         have hcz0 : w3.cell? ⟨gb, 0, none⟩ = some (.string (⟨#[]⟩ : ByteArray)) := (blk_cell BK.out 0).trans rfl
         have hcz1 : w3.cell? ⟨gb, 1, none⟩ = some (.int .u64 0) := (blk_cell BK.out 1).trans rfl
         have hcz2 : w3.cell? ⟨gb, 2, none⟩ = some (.int .i64 0) := (blk_cell BK.out 2).trans rfl
         have hfz0 := blk_frozen BK.out 0
         have hfz1 := blk_frozen BK.out 1
         have hfz2 := blk_frozen BK.out 2))
    obtain ⟨Q, hQ⟩ : ∃ y, capSeq seq = y := ⟨_, rfl⟩
    have hcap : (if 72057594037927935 < seq then 72057594037927935 else seq) = Q := hQ
    simp only [hcap]
    rw [hQ] at HI HF
    clear hcap hQ
    obtain ⟨w4, hw4⟩ : ∃ y, ((w3.setCell ⟨gb, 0, none⟩ (.string user)).setCell ⟨gb, 1, none⟩ (.int .u64 Q)).setCell ⟨gb, 2, none⟩ (.int .i64 1) = y := ⟨_, rfl⟩
    have BK4 : Aside0 (w4.heap[gb]? = some (.cells #[.string user, .int .u64 Q, .int .i64 1] 45 (0, 0))) := ⟨by
      rw [← hw4]
      exact blk_put (cs := #[.string user, .int .u64 Q, .int .i64 0]) (blk_put (cs := #[.string user, .int .u64 0, .int .i64 0]) (blk_put (cs := #[.string (⟨#[]⟩ : ByteArray), .int .u64 0, .int .i64 0]) BK.out 0 _ rfl) 1 _ rfl) 2 _ rfl⟩
    have HB4 : Aside0 (Below w.heap.size w w4) := ⟨by rw [← hw4]; exact below_set (below_set (below_set HB3.out HGB.out) HGB.out) HGB.out⟩
    rw [hw4]
    clear hw4 hcz0 hcz1 hcz2 hfz0 hfz1 hfz2 HB3 HB2 BK
    have BTd := Aside0.mk (blk_drew (blk_below BT.out HB4.out))
    have BKd := Aside0.mk (blk_drew BK4.out)
    have HBd := Aside0.mk (below_drew1 HB4.out)
    have HCPd := Aside0.mk (Kd.C_drew (Kd.C_below HCP.out HB4.out))
    go_wp2_with fail
    refine start_ (n := 11) (S := fun w' => w'.cell? ⟨g, 2, none⟩ = some (.slice Ap ps.length cp) ∧ w'.cell? ⟨gb, 0, none⟩ = some (.string user) ∧ w'.cell? ⟨gb, 1, none⟩ = some (.int .u64 Q) ∧ w'.cell? ⟨gb, 2, none⟩ = some (.int .i64 1)) (ds := []) #[false, false, false, false, false, false, false, false, false, false, false] (by kernel_rfl) rfl rfl ⟨(blk_cell BTd.out 2).trans rfl, (blk_cell BKd.out 0).trans rfl, (blk_cell BKd.out 1).trans rfl, (blk_cell BKd.out 2).trans rfl⟩ (fun hHeld => ?_)
    refine pure_ (i := 0) (N := some 29) (v := ?_) (a' := ?_) #[true, false, false, false, false, false, false, false, false, false, false] rfl rfl (by kernel_rfl) (fun _ _ _ h => h) (Or.inl ⟨by rfl, ?_⟩) ?_ ?_
    rotate_left
    · intro w'
      go_simp
      with_reducible rfl
    rotate_left
    · simp only [Act.put, List.setIfInBounds_toArray, List.set_cons_zero, List.set_cons_succ, i64_w, i32_w]
      rfl
    refine pure_ (i := 1) (N := some 30) (v := ?_) (a' := ?_) #[true, true, false, false, false, false, false, false, false, false, false] rfl rfl (by kernel_rfl) (fun _ _ _ h => h) (Or.inl ⟨by rfl, ?_⟩) ?_ ?_
    rotate_left
    · intro w'
      go_simp
      with_reducible rfl
    rotate_left
    · simp only [Act.put, List.setIfInBounds_toArray, List.set_cons_zero, List.set_cons_succ, i64_w, i32_w]
      rfl
    refine pure_ (i := 2) (N := some 31) (v := ?_) (a' := ?_) #[true, true, true, false, false, false, false, false, false, false, false] rfl rfl (by kernel_rfl) (fun _ _ _ h => h) (Or.inl ⟨by rfl, ?_⟩) ?_ ?_
    rotate_left
    · intro w'
      go_simp
      with_reducible rfl
    rotate_left
    · simp only [Act.put, List.setIfInBounds_toArray, List.set_cons_zero, List.set_cons_succ, i64_w, i32_w]
      rfl
    refine take_ (i := 3) (N := some 32) (v := ?_) (a' := ?_) #[true, true, true, true, false, false, false, false, false, false, false] rfl rfl (by kernel_rfl) (fun _ _ _ h => h) (Or.inl ⟨by rfl, ?_⟩) hHeld ?_ ?_
    rotate_left
    · rintro w' ⟨s0, s1, s2, s3⟩
      go_simp
      with_reducible rfl
    rotate_left
    · simp only [Act.put, List.setIfInBounds_toArray, List.set_cons_zero, List.set_cons_succ, i64_w, i32_w]
      rfl
    refine take_ (i := 4) (N := some 33) (v := ?_) (a' := ?_) #[true, true, true, true, true, false, false, false, false, false, false] rfl rfl (by kernel_rfl) (fun _ _ _ h => h) (Or.inl ⟨by rfl, ?_⟩) hHeld ?_ ?_
    rotate_left
    · rintro w' ⟨s0, s1, s2, s3⟩
      go_simp
      with_reducible rfl
    rotate_left
    · simp only [Act.put, List.setIfInBounds_toArray, List.set_cons_zero, List.set_cons_succ, i64_w, i32_w]
      rfl
    refine one_ (i := 5) (N := some 34) #[true, true, true, true, true, true, false, false, false, false, false] rfl rfl (by kernel_rfl) (by decide) (fun K hK => ?_)
    refine goes_ Try.func41 (by kernel_rfl) rfl #[.slice Ap ps.length cp, .agg #[.string user, .int .u64 Q, .int .i64 1], .func (.func 42) #[] #[]] (by rfl) rfl rfl (by simp only [List.map_toArray, List.map_cons, List.map_nil]; rfl) ?_
    with_reducible refine (bs_calls k Ap cp ps ⟨user, Q, 1⟩ (i, io) _ HCPd.out HCPC.out HI.out).mono ?_
    rintro ex w5 ⟨rfl, hb⟩
    refine ⟨_, rfl, ?_⟩
    have BT5 := Aside0.mk (blk_below BTd.out hb)
    have BK5 := Aside0.mk (blk_below BKd.out hb)
    have HB5 := Aside0.mk (below_step HBd.out hb)
    clear hb
    refine hK.out _ _ ⟨(blk_cell BT5.out 2).trans rfl, (blk_cell BK5.out 0).trans rfl, (blk_cell BK5.out 1).trans rfl, (blk_cell BK5.out 2).trans rfl⟩ (fun hHeld => ?_)
    clear hK K
    refine norm_ (a' := ?_) ?_ ?_
    rotate_left
    · show Act.put _ (some 34) _ = _
      simp only [Act.put, List.setIfInBounds_toArray, List.set_cons_zero, List.set_cons_succ, i64_w, i32_w]
      rfl
    refine pure_ (i := 6) (N := some 28) (v := ?_) (a' := ?_) #[true, true, true, true, true, true, true, false, false, false, false] rfl rfl (by kernel_rfl) (fun _ _ _ h => h) (Or.inl ⟨by rfl, ?_⟩) ?_ ?_
    rotate_left
    · intro w'
      go_simp
      with_reducible rfl
    rotate_left
    · simp only [Act.put, List.setIfInBounds_toArray, List.set_cons_zero, List.set_cons_succ, i64_w, i32_w]
      rfl
    refine pure_ (i := 7) (N := some 35) (v := ?_) (a' := ?_) #[true, true, true, true, true, true, true, true, false, false, false] rfl rfl (by kernel_rfl) (fun _ _ _ h => h) (Or.inl ⟨by rfl, ?_⟩) ?_ ?_
    rotate_left
    · intro w'
      go_simp
      with_reducible rfl
    rotate_left
    · simp only [Act.put, List.setIfInBounds_toArray, List.set_cons_zero, List.set_cons_succ, i64_w, i32_w]
      rfl
    refine pure_ (i := 8) (N := some 36) (v := ?_) (a' := ?_) #[true, true, true, true, true, true, true, true, true, false, false] rfl rfl (by kernel_rfl) (fun _ _ _ h => h) (Or.inl ⟨by rfl, ?_⟩) ?_ ?_
    rotate_left
    · intro w'
      go_simp
      with_reducible rfl
    rotate_left
    · simp only [Act.put, List.setIfInBounds_toArray, List.set_cons_zero, List.set_cons_succ, i64_w, i32_w]
      rfl
    refine pure_ (i := 9) (N := some 10) (v := ?_) (a' := ?_) #[true, true, true, true, true, true, true, true, true, true, false] rfl rfl (by kernel_rfl) (fun _ _ _ h => h) (Or.inl ⟨by rfl, ?_⟩) ?_ ?_
    rotate_left
    · intro w'
      go_simp
      with_reducible rfl
    rotate_left
    · simp only [Act.put, List.setIfInBounds_toArray, List.set_cons_zero, List.set_cons_succ, i64_w, i32_w]
      rfl
    refine pure_ (i := 10) (N := some 11) (v := ?_) (a' := ?_) #[true, true, true, true, true, true, true, true, true, true, true] rfl rfl (by kernel_rfl) (fun _ _ _ h => h) (Or.inl ⟨by rfl, ?_⟩) ?_ ?_
    rotate_left
    · intro w'
      go_simp
      with_reducible rfl
    rotate_left
    · simp only [Act.put, List.setIfInBounds_toArray, List.set_cons_zero, List.set_cons_succ, i64_w, i32_w]
      rfl
    refine done_ (by kernel_rfl) ?_
    by_cases ci : ps.length ≤ i
    · have hf := HF.out
      rw [if_pos ci] at hf
      split at hf
      case isFalse => cases hf
      rename_i hie
      obtain rfl := Option.some.inj hf
      have hq2 : w5.cell? ⟨g, 2, none⟩ = some (.slice Ap ps.length cp) := (blk_cell BT5.out 2).trans rfl
      have e1 : ((i : Int) == (ps.length : Int)) = true := by rw [hie]; exact beq_self_eq_true _
      have e2 : (i == ps.length) = true := by rw [hie]; exact beq_self_eq_true _
      clear hf HF ci hie
      go_wp2
      go_ret3
      exact ⟨rfl, HB5.out⟩
    · have hf := HF.out
      rw [if_neg ci] at hf
      obtain ⟨r0, hr0, hf⟩ := Option.bind_eq_some_iff.mp hf
      have hq2 : w5.cell? ⟨g, 2, none⟩ = some (.slice Ap ps.length cp) := (blk_cell BT5.out 2).trans rfl
      have e1 : ((i : Int) == (ps.length : Int)) = false := by rw [beq_eq_false_iff_ne]; omega
      have e2 : (i == ps.length) = false := by rw [beq_eq_false_iff_ne]; omega
      obtain ⟨ad, eA, k0, k1, k2, k3, k4⟩ := at_TPl (Kd.C_below HCP.out HB5.out) (i : Int) (Int.natCast_nonneg i) (by omega)
      subst eA
      rw [Int.toNat_natCast] at k0 k1 k2 k3 k4
      obtain ⟨X, hX⟩ : ∃ x, rd_TPl ps (i : Int) = x := ⟨_, rfl⟩
      rw [hX] at hr0 k0 k1 k2 k3 k4
      have HR0 := Aside0.mk hr0
      replace HF := Aside0.mk hf
      have p1 := eq_true (show (0 : Int) ≤ (i : Int) by omega)
      have p2 := eq_true (show (i : Int) < (ps.length : Int) by omega)
      clear hX hr0 hf ci
      cases r0 with
      | none =>
        have hf := HF.out
        obtain rfl := Option.some.inj hf
        clear hf HF
        go_wp2_with (first
          | (go_at_call 38; with_reducible refine (tread_calls k g b fl ps cnt X none _ (HT.out.below HB5.out) HR0.out).mono ?_; rintro ex w6 ⟨hb, rfl⟩
             have HB6 := Aside0.mk (below_step HB5.out hb)
             clear hb))
        go_ret3
        exact ⟨rfl, HB6.out⟩
      | some x =>
        obtain ⟨l, iv⟩ := x
        have hf := HF.out
        dsimp only at hf
        split at hf
        case isFalse => cases hf
        rename_i hiv
        obtain ⟨n, hn, hf⟩ := Option.bind_eq_some_iff.mp hf
        split at hf
        case isFalse => cases hf
        rename_i hnl
        obtain rfl := Option.some.inj hf
        obtain ⟨iv, rfl⟩ := Int.eq_ofNat_of_zero_le hiv
        rw [Int.toNat_natCast] at hn
        have HN := Aside0.mk hn
        have HNL := Aside0.mk hnl
        clear hf HF hn hnl hiv
        go_upto_region 12 with (first
          | (go_at_call 38; with_reducible refine (tread_calls k g b fl ps cnt X (some (l, (iv : Int))) _ (HT.out.below HB5.out) HR0.out).mono ?_; rintro ex w6 ⟨hb, gi, rfl, hge, hown⟩
             have HB6 := Aside0.mk (below_step HB5.out hb)
             have BK6 := Aside0.mk (blk_below BK5.out hb)
             have HOW := Aside0.mk hown
             clear hb hge hown))
        clear k0 k1 k2 k3 k4 p1 p2 e1 e2 hq2
        have m0 : w6.cell? ⟨gb, 0, none⟩ = some (.string user) := (blk_cell BK6.out 0).trans rfl
        have m1 : w6.cell? ⟨gb, 1, none⟩ = some (.int .u64 Q) := (blk_cell BK6.out 1).trans rfl
        have m2 : w6.cell? ⟨gb, 2, none⟩ = some (.int .i64 1) := (blk_cell BK6.out 2).trans rfl
        by_cases cn : n < l.length
        · obtain ⟨L, hL⟩ : ∃ y, rd_T47 l (n : Int) = y := ⟨_, rfl⟩
          have HL := Aside0.mk hL
          have HCN := Aside0.mk cn
          have htl : tell_f l n user = if L.f0.f0 = user then (if L.f0.f2 = 0 then (noText, 1, 0) else (L.f1, 2, 0)) else (noText, 0, 0) := by
            unfold tell_f
            rw [if_pos cn, hL]
          have HTL := Aside0.mk htl
          clear hL cn htl
          go_upto_region 13 with (first
            | (go_at_call 43; with_reducible refine (Find_calls k gi l iv ⟨user, Q, 1⟩ n _ HOW.out.blk HN.out).mono ?_; rintro ex w7 ⟨rfl, hb⟩
               have HB7 := Aside0.mk (below_step HB6.out hb)
               have HOW7 := Aside0.mk (hown_below HOW.out hb)
               clear hb m0 m1 m2)
            | (go_at_call 35; with_reducible refine (At_calls gi l (iv : Int) (n : Int) _ HOW7.out.blk (Int.natCast_nonneg n) (by have := HCN.out; omega)).mono ?_; rw [HL.out]; unfold kvV; rintro ex w8 ⟨rfl, hb⟩
               have HB8 := Aside0.mk (below_step HB7.out hb)
               clear hb)
            | ((with_reducible refine gate_dst (N := 14) rfl ?_); refine box_event ?hg (N := 14) ?hd (cs := #[.string (⟨#[]⟩ : ByteArray), .int .u64 0, .int .i64 0, .string (⟨#[]⟩ : ByteArray)]) (t := 47) ?hr ?_; (case hd => rfl); (case hg => rfl); (case hr => first | (go_simp; done) | (go_simp; rfl)); intro gv hg w9 hbox hb
               have BV := Aside0.mk hbox
               have HB9 := Aside0.mk (below_step HB8.out hb)
               have HGV : Aside0 (w.heap.size ≤ gv) := ⟨by rw [hg]; exact below_size HB8.out⟩
               clear hb hbox hg
               have hcz0 : w9.cell? ⟨gv, 0, none⟩ = some (.string (⟨#[]⟩ : ByteArray)) := (blk_cell BV.out 0).trans rfl
               have hcz1 : w9.cell? ⟨gv, 1, none⟩ = some (.int .u64 0) := (blk_cell BV.out 1).trans rfl
               have hcz2 : w9.cell? ⟨gv, 2, none⟩ = some (.int .i64 0) := (blk_cell BV.out 2).trans rfl
               have hcz3 : w9.cell? ⟨gv, 3, none⟩ = some (.string (⟨#[]⟩ : ByteArray)) := (blk_cell BV.out 3).trans rfl
               have hfz0 := blk_frozen BV.out 0
               have hfz1 := blk_frozen BV.out 1
               have hfz2 := blk_frozen BV.out 2
               have hfz3 := blk_frozen BV.out 3))
          obtain ⟨w10, hw10⟩ : ∃ y, (((w9.setCell ⟨gv, 0, none⟩ (.string L.f0.f0)).setCell ⟨gv, 1, none⟩ (.int .u64 L.f0.f1)).setCell ⟨gv, 2, none⟩ (.int .i64 L.f0.f2)).setCell ⟨gv, 3, none⟩ (.string L.f1) = y := ⟨_, rfl⟩
          have BVx : w10.heap[gv]? = some (.cells #[.string L.f0.f0, .int .u64 L.f0.f1, .int .i64 L.f0.f2, .string L.f1] 47 (0, 0)) := by
            rw [← hw10]
            exact blk_put (cs := #[.string L.f0.f0, .int .u64 L.f0.f1, .int .i64 L.f0.f2, .string (⟨#[]⟩ : ByteArray)]) (blk_put (cs := #[.string L.f0.f0, .int .u64 L.f0.f1, .int .i64 0, .string (⟨#[]⟩ : ByteArray)]) (blk_put (cs := #[.string L.f0.f0, .int .u64 0, .int .i64 0, .string (⟨#[]⟩ : ByteArray)]) (blk_put (cs := #[.string (⟨#[]⟩ : ByteArray), .int .u64 0, .int .i64 0, .string (⟨#[]⟩ : ByteArray)]) BV.out 0 _ rfl) 1 _ rfl) 2 _ rfl) 3 _ rfl
          have HB10 : Aside0 (Below w.heap.size w w10) := ⟨by rw [← hw10]; exact below_set (below_set (below_set (below_set HB9.out HGV.out) HGV.out) HGV.out) HGV.out⟩
          rw [hw10]
          clear hw10 hcz0 hcz1 hcz2 hcz3 hfz0 hfz1 hfz2 hfz3 BV
          have n0 : w10.cell? ⟨gv, 0, none⟩ = some (.string L.f0.f0) := (blk_cell BVx 0).trans rfl
          have n2 : w10.cell? ⟨gv, 2, none⟩ = some (.int .i64 L.f0.f2) := (blk_cell BVx 2).trans rfl
          have n3 : w10.cell? ⟨gv, 3, none⟩ = some (.string L.f1) := (blk_cell BVx 3).trans rfl
          clear BVx
          by_cases hu : L.f0.f0 = user
          · have e1 : (L.f0.f0.toList == user.toList) = true := by rw [hu]; exact beq_self_eq_true _
            have HU := Aside0.mk hu
            by_cases hk : L.f0.f2 = 0
            · have e2 : (L.f0.f2 == 0) = true := by rw [hk]; rfl
              have HK := Aside0.mk hk
              clear hu hk
              go_wp2
              go_ret3
              exact ⟨by rw [HTL.out, if_pos HU.out, if_pos HK.out]; rfl, HB10.out⟩
            · have e2 : (L.f0.f2 == 0) = false := beq_eq_false_iff_ne.mpr hk
              have HK := Aside0.mk hk
              clear hu hk
              go_wp2
              go_ret3
              exact ⟨by rw [HTL.out, if_pos HU.out, if_neg HK.out]; rfl, HB10.out⟩
          · have e1 : (L.f0.f0.toList == user.toList) = false := by
              rw [beq_eq_false_iff_ne]
              exact fun h => hu (toList_inj h)
            have HU := Aside0.mk hu
            clear hu
            go_wp2
            go_ret3
            exact ⟨by rw [HTL.out, if_neg HU.out]; rfl, HB10.out⟩
        · have htl : tell_f l n user = (noText, 0, 0) := by
            unfold tell_f
            rw [if_neg cn]
          have HTL := Aside0.mk htl
          have HCN := Aside0.mk cn
          clear cn htl
          go_upto_region 13 with (first
            | (go_at_call 43; with_reducible refine (Find_calls k gi l iv ⟨user, Q, 1⟩ n _ HOW.out.blk HN.out).mono ?_; rintro ex w7 ⟨rfl, hb⟩
               have HB7 := Aside0.mk (below_step HB6.out hb)
               have HOW7 := Aside0.mk (hown_below HOW.out hb)
               clear hb m0 m1 m2)
            | (go_at_call 35; with_reducible refine (At_out gi l (iv : Int) (n : Int) _ HOW7.out.blk (.inr (by have := HCN.out; omega))).mono ?_; unfold kvV z47 z45; rintro ex w8 ⟨rfl, hb⟩
               have HB8 := Aside0.mk (below_step HB7.out hb)
               clear hb)
            | ((with_reducible refine gate_dst (N := 14) rfl ?_); refine box_event ?hg (N := 14) ?hd (cs := #[.string (⟨#[]⟩ : ByteArray), .int .u64 0, .int .i64 0, .string (⟨#[]⟩ : ByteArray)]) (t := 47) ?hr ?_; (case hd => rfl); (case hg => rfl); (case hr => first | (go_simp; done) | (go_simp; rfl)); intro gv hg w9 hbox hb
               have BV := Aside0.mk hbox
               have HB9 := Aside0.mk (below_step HB8.out hb)
               have HGV : Aside0 (w.heap.size ≤ gv) := ⟨by rw [hg]; exact below_size HB8.out⟩
               clear hb hbox hg
               have hcz0 : w9.cell? ⟨gv, 0, none⟩ = some (.string (⟨#[]⟩ : ByteArray)) := (blk_cell BV.out 0).trans rfl
               have hcz1 : w9.cell? ⟨gv, 1, none⟩ = some (.int .u64 0) := (blk_cell BV.out 1).trans rfl
               have hcz2 : w9.cell? ⟨gv, 2, none⟩ = some (.int .i64 0) := (blk_cell BV.out 2).trans rfl
               have hcz3 : w9.cell? ⟨gv, 3, none⟩ = some (.string (⟨#[]⟩ : ByteArray)) := (blk_cell BV.out 3).trans rfl
               have hfz0 := blk_frozen BV.out 0
               have hfz1 := blk_frozen BV.out 1
               have hfz2 := blk_frozen BV.out 2
               have hfz3 := blk_frozen BV.out 3))
          obtain ⟨w10, hw10⟩ : ∃ y, (((w9.setCell ⟨gv, 0, none⟩ (.string (⟨#[]⟩ : ByteArray))).setCell ⟨gv, 1, none⟩ (.int .u64 0)).setCell ⟨gv, 2, none⟩ (.int .i64 0)).setCell ⟨gv, 3, none⟩ (.string (⟨#[]⟩ : ByteArray)) = y := ⟨_, rfl⟩
          have BVx : w10.heap[gv]? = some (.cells #[.string (⟨#[]⟩ : ByteArray), .int .u64 0, .int .i64 0, .string (⟨#[]⟩ : ByteArray)] 47 (0, 0)) := by
            rw [← hw10]
            exact blk_put (cs := #[.string (⟨#[]⟩ : ByteArray), .int .u64 0, .int .i64 0, .string (⟨#[]⟩ : ByteArray)]) (blk_put (cs := #[.string (⟨#[]⟩ : ByteArray), .int .u64 0, .int .i64 0, .string (⟨#[]⟩ : ByteArray)]) (blk_put (cs := #[.string (⟨#[]⟩ : ByteArray), .int .u64 0, .int .i64 0, .string (⟨#[]⟩ : ByteArray)]) (blk_put (cs := #[.string (⟨#[]⟩ : ByteArray), .int .u64 0, .int .i64 0, .string (⟨#[]⟩ : ByteArray)]) BV.out 0 _ rfl) 1 _ rfl) 2 _ rfl) 3 _ rfl
          have HB10 : Aside0 (Below w.heap.size w w10) := ⟨by rw [← hw10]; exact below_set (below_set (below_set (below_set HB9.out HGV.out) HGV.out) HGV.out) HGV.out⟩
          rw [hw10]
          clear hw10 hcz0 hcz1 hcz2 hcz3 hfz0 hfz1 hfz2 hfz3 BV
          have n0 : w10.cell? ⟨gv, 0, none⟩ = some (.string (⟨#[]⟩ : ByteArray)) := (blk_cell BVx 0).trans rfl
          have n2 : w10.cell? ⟨gv, 2, none⟩ = some (.int .i64 0) := (blk_cell BVx 2).trans rfl
          have n3 : w10.cell? ⟨gv, 3, none⟩ = some (.string (⟨#[]⟩ : ByteArray)) := (blk_cell BVx 3).trans rfl
          clear BVx
          go_wp2
          go_ret3
          exact ⟨by rw [HTL.out]; rfl, HB10.out⟩
end Go.Proofs.Ythdemdjobgbpdaa.T
namespace Go.Proofs.Ythdemdjobgbpdaa.T
open Go.RowKit Go.Shelf Go.Proofs.YthdemdjobgbpdaaW.PrintWords Go.Proofs.YthdemdjobgbpdaaW.PrintLast Go.Proofs.YthdemdjobgbpdaaW.PrintMore Go.Proofs.Ythdemdjobgbpdaa.P Go.Proofs.Ythdemdjobgbpdaa.B Go.Proofs.Ythdemdjobgbpdaa.Q
attribute [local go_sem] Oper.semAt_some
set_option linter.unusedVariables false
set_option linter.unusedSimpArgs false
/-- the first of these behind the last of those -/
def next_f (acc l : List S47) : Option Unit :=
  if acc.length = 0 then some () else (ikey_Compare.f (rd_T47 acc ((acc.length - 1 : Nat) : Int)).f0.f0 (rd_T47 acc ((acc.length - 1 : Nat) : Int)).f0.f1 (rd_T47 acc ((acc.length - 1 : Nat) : Int)).f0.f2 (rd_T47 l 0).f0.f0 (rd_T47 l 0).f0.f1 (rd_T47 l 0).f0.f2).bind fun c => if c < 0 then some () else none
def all_f (k : Nat) (b : List Int) : List SPl → List S47 → Option (Option (List S47))
  | [], acc => some (some acc)
  | p :: t, acc => (tread_f k b p).bind fun r => match r with
    | none => some none
    | some x => (next_f acc x.1).bind fun _ => if acc.length + x.1.length < 1000000000 then all_f k b t (acc ++ x.1) else none
def all_t (k : Nat) (b : List Int) (ps : List SPl) (cnt : Int) : Option (Option (List S47)) :=
  if ps.length < 1000000000 then (all_f k b ps []).bind fun r => match r with
    | none => some none
    | some l => if (l.length : Int) = cnt then some (some l) else none
  else none
/-- the blocks of a stretch are as they were -/
def Mid (a b : Nat) (w W : World) : Prop := b ≤ W.heap.size ∧ ∀ j, a ≤ j → j < b → W.heap[j]? = w.heap[j]?
theorem Mid.below {a b : Nat} {w W W' : World} (h : Mid a b w W) (hb : Below W.heap.size W W') : Mid a b w W' := ⟨Nat.le_trans h.1 hb.size, fun j h1 h2 => (hb.block j (Nat.lt_of_lt_of_le h2 h.1)).trans (h.2 j h1 h2)⟩
theorem Mid.grown {a b : Nat} {w W W' : World} {row : Option Nat} (h : Mid a b w W) (hg : W.grownBy W' row) (hr : ∀ q, row = some q → q < a ∨ b ≤ q) : Mid a b w W' :=
  ⟨Nat.le_trans h.1 hg.size, fun j h1 h2 => (hg.block j (Nat.lt_of_lt_of_le h2 h.1) (fun e => by rcases hr j e.symm with h3 | h3 <;> omega)).trans (h.2 j h1 h2)⟩
theorem Mid.own {a gi : Nat} {w W : World} {l : List S47} {iv : Int} (h : Mid a w.heap.size w W) (ho : IsOwn w a gi l iv) (hg : a ≤ gi) : IsOwn W a gi l iv := by
  obtain ⟨A, c, h1, h2, h3⟩ := ho
  have hgi := h.2 gi hg (World.block_lt_of_cell? _ _ h1)
  exact ⟨A, c, (cell_heap hgi).trans h1, (cell_heap hgi).trans h2, Kd.R_mono (Kd.R_move (Kd.R_bound h3) (fun q hq => h.2 q hq.2.1 hq.2.2.1)) (fun _ _ => trivial)⟩
end Go.Proofs.Ythdemdjobgbpdaa.T
