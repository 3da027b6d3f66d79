/- What an opened table is: places, and where a table lies. -/
import Derived.Test.YthdemdjobgbpdaaTD
import Derived.Laws.IdiomStrings
import Derived.Test.YthdemdjobgbpdaaP8
import Derived.Test.YthdemdjobgbpdaaP11
import Derived.Test.YthdemdjobgbpdaaP13
namespace Go.Proofs.Ythdemdjobgbpdaa.T
open Go.RowKit Go.Shelf Go.Proofs.YthdemdjobgbpdaaW.PrintWords Go.Proofs.YthdemdjobgbpdaaW.PrintLast Go.Proofs.YthdemdjobgbpdaaW.PrintMore Go.Proofs.Ythdemdjobgbpdaa.P Go.Proofs.Ythdemdjobgbpdaa.B Go.Proofs.Ythdemdjobgbpdaa.Q
set_option linter.unusedVariables false
structure SPl where
  f0 : S45
  f1 : Nat
  f2 : Nat
def zPl : SPl := ⟨z45, 0, 0⟩
def kPl : Kd SPl := Kd.iso (Kd.pair k45 (Kd.pair (Kd.int .i64) (Kd.int .i64))) (fun x : SPl => (x.f0, (x.f1 : Int), (x.f2 : Int)))
theorem kPl_open {w : World} {x : SPl} {cs : List Value} (h : kPl.K w x cs) : cs = [.string x.f0.f0, .int .u64 x.f0.f1, .int .i64 x.f0.f2, .int .i64 (x.f1 : Int), .int .i64 (x.f2 : Int)] := by
  obtain ⟨_, _, rfl, s0, ⟨_, _, rfl, rfl, rfl⟩⟩ := h
  obtain rfl := k45_open s0
  exact rfl
theorem kPl_mkM (w : World) (base : Nat) (ok : Nat → Prop) (x : SPl) : kPl.M w base ok x [.string x.f0.f0, .int .u64 x.f0.f1, .int .i64 x.f0.f2, .int .i64 (x.f1 : Int), .int .i64 (x.f2 : Int)] :=
  ⟨[.string x.f0.f0, .int .u64 x.f0.f1, .int .i64 x.f0.f2], [.int .i64 (x.f1 : Int), .int .i64 (x.f2 : Int)], rfl, k45_mkM w base ok x.f0, ⟨[.int .i64 (x.f1 : Int)], [.int .i64 (x.f2 : Int)], rfl, rfl, rfl⟩⟩
def rd_TPl (xs : List SPl) (i : Int) : SPl := xs.getD i.toNat zPl
theorem at_TPl {w : World} {A : Option Addr} {n : Nat} {xs : List SPl} (h : Kd.C kPl w A n xs) (i : Int) (h0 : 0 ≤ i) (h1 : i < n) : ∃ ad, A = some ad ∧ w.cell? (ad.add (i.toNat * 5)) = some (.string (rd_TPl xs i).f0.f0) ∧ w.cell? ⟨(ad.add (i.toNat * 5)).block, (ad.add (i.toNat * 5)).off + 1, none⟩ = some (.int .u64 (rd_TPl xs i).f0.f1) ∧ w.cell? ⟨(ad.add (i.toNat * 5)).block, (ad.add (i.toNat * 5)).off + 2, none⟩ = some (.int .i64 (rd_TPl xs i).f0.f2) ∧ w.cell? ⟨(ad.add (i.toNat * 5)).block, (ad.add (i.toNat * 5)).off + 3, none⟩ = some (.int .i64 ((rd_TPl xs i).f1 : Int)) ∧ w.cell? ⟨(ad.add (i.toNat * 5)).block, (ad.add (i.toNat * 5)).off + 4, none⟩ = some (.int .i64 ((rd_TPl xs i).f2 : Int)) := by
  obtain ⟨ad, c, e, _, hK, hc0⟩ := Kd.C_get h zPl i h0 h1
  have hc : ∀ j u, c[j]? = some u → w.cell? (ad.add (i.toNat * 5 + j)) = some u := hc0
  obtain rfl := kPl_open hK
  exact ⟨ad, e, hc 0 _ rfl, by rw [← add_field _ _ 1 (by omega)]; exact hc 1 _ rfl, by rw [← add_field _ _ 2 (by omega)]; exact hc 2 _ rfl, by rw [← add_field _ _ 3 (by omega)]; exact hc 3 _ rfl, by rw [← add_field _ _ 4 (by omega)]; exact hc 4 _ rfl⟩
theorem info82 : (Try.prog.info? 82).map (fun i => (i.zero, i.size, i.bytes)) = some (some (.agg #[(.string ⟨#[]⟩), (.int .u64 0), (.int .i64 0), (.int .i64 0), (.int .i64 0)]), 5, 48) := by kernel_rfl
theorem ty_kPl {e' : Nat} (h : 82 ≠ e') : ∀ q, q ∈ 82 :: kPl.E → q ≠ e' := by
  intro q hq
  rcases List.mem_cons.1 hq with rfl | hq
  · exact h
  · exact absurd hq (by simp [kPl, k45, Kd.iso, Kd.pair, Kd.string, Kd.int, Kd.scalar])
/-- where a table lies -/
def IsTab (w : World) (g : Nat) (b fl : List Int) (ps : List SPl) (cnt : Int) : Prop :=
  ∃ Ab cb Af cf Ap cp, w.heap[g]? = some (.cells #[.slice Ab b.length cb, .slice Af fl.length cf, .slice Ap ps.length cp, .int .u64 cnt] 75 (0, 0)) ∧ Kd.C (Kd.int .u8) w Ab b.length b ∧ b.length ≤ cb ∧ Kd.C (Kd.int .u8) w Af fl.length fl ∧ fl.length ≤ cf ∧ Kd.C kPl w Ap ps.length ps ∧ ps.length ≤ cp
theorem IsTab.below {w w1 : World} {g : Nat} {b fl : List Int} {ps : List SPl} {cnt : Int} (h : IsTab w g b fl ps cnt) (hb : Below w.heap.size w w1) : IsTab w1 g b fl ps cnt := by
  obtain ⟨Ab, cb, Af, cf, Ap, cp, h1, h2, h3, h4, h5, h6, h7⟩ := h
  exact ⟨Ab, cb, Af, cf, Ap, cp, blk_below h1 hb, Kd.C_below h2 hb, h3, Kd.C_below h4 hb, h5, Kd.C_below h6 hb, h7⟩
/-- the places that an index tells -/
inductive Places (k bl : Nat) : List S47 → Nat → List SPl → Nat → Prop
  | nil (at_ : Nat) : Places k bl [] at_ [] at_
  | cons {kv : S47} {t : List S47} {at_ kk m size z : Nat} {a1 : List Int} {ps : List SPl} (hu1 : codec_Uvarint.f k (bytesOf kv.f1) = some ((at_ : Int), (kk : Int), 0)) (hk : kk ≤ (bytesOf kv.f1).length) (hu2 : codec_Uvarint.f k ((bytesOf kv.f1).drop kk) = some ((size : Int), (m : Int), 0))
      (hp1 : codec_PutUvarint.f k [] (at_ : Int) = some a1) (hp2 : codec_PutUvarint.f k a1 (size : Int) = some (bytesOf kv.f1)) (heq : slices_Equal_byte_byte.f k (bytesOf kv.f1) (bytesOf kv.f1) = some true) (hkm : kk + m = (bytesOf kv.f1).length) (hbl : (bytesOf kv.f1).length < 1000000) (hs : size ≤ bl) (ht : Places k bl t (at_ + size + 4) ps z) : Places k bl (kv :: t) at_ (⟨kv.f0, at_, size⟩ :: ps) z
theorem Places.le {k bl : Nat} : ∀ {l : List S47} {a : Nat} {ps : List SPl} {z : Nat}, Places k bl l a ps z → a ≤ z
  | _, _, _, _, .nil _ => Nat.le_refl _
  | _, _, _, _, .cons _ _ _ _ _ _ _ _ _ ht => by have := Places.le ht; omega
/-- a table's bytes that are opened -/
structure OpenOk (k : Nat) (b : List Int) (e n0 n1 n2 n3 : Nat) (ns : Nat → Int) (fl x : List Int) (idx : List S47) (iv : Int) (ps : List SPl) : Prop where
  len : b.length = e + 28
  lt : b.length < 1000000000000
  magic : strOfNums (b.drop (e + 20)) = tabMagic
  nums : ∀ i, i < 5 → ∃ c, codec_Fixed.f k (b.drop (e + 4 * i)) 4 = some (ns i, c)
  e0 : ns 0 = (n0 : Int)
  e1 : ns 1 = (n1 : Int)
  e2 : ns 2 = (n2 : Int)
  e3 : ns 3 = (n3 : Int)
  s2 : n0 + n1 + 4 = n2
  s4 : n2 + n3 + 4 = e
  p0 : part_f k b n0 n1 = some (fl, true)
  p1 : part_f k b n2 n3 = some (x, true)
  op : open_g k x = some (some (idx, iv))
  ne : idx ≠ []
  il : idx.length < 1000000
  x5 : 5 ≤ x.length ∧ rd x ((x.length : Int) - 5) = 1
  pl : Places k b.length idx 0 ps n0
theorem bytes_row {P : Program} (w : World) (src dst e : TypeId) (s : ByteArray) (hs : P.underlying src = some .string) (hd : P.underlying dst = some (.slice e)) (he : P.underlying e = some (.int .u8)) (hl : s.size < 1000000000000) :
    ∃ cap w1, (convert src dst (.string s)).run P w = .ok (.slice (some ⟨w.heap.size, 0, none⟩) (bytesOf s).length cap) w1 ∧ Kd.C (Kd.int .u8) w1 (some ⟨w.heap.size, 0, none⟩) (bytesOf s).length (bytesOf s) ∧ (bytesOf s).length ≤ cap ∧ Below w.heap.size w w1 := by
  have hle : s.size ≤ grownCap w s.size 0 e := grownCap_ge _ _ _ _
  refine ⟨grownCap w s.size 0 e, _, by rw [bytesOf_length]; exact run_bytes_of_string w src dst e s hs hd he, ?_, by rw [bytesOf_length]; exact hle, below_alloc (below_drew1 (Below.refl _ _)) _⟩
  refine Kd.C_of_reads (h1 := fun _ => rfl) (d := (0 : Int)) (show ReadsOf (Value.int .u8) 0 _ _ _ _ from ⟨rfl, by rw [bytesOf_length]; omega, fun _ => ⟨_, rfl, fun j hj => ?_⟩⟩)
  rw [bytesOf_length] at hj
  rw [add_plain, cell_of_row _ w.heap.size j _ e _ (show _ = _ from heap_alloc_new w.drew _)]
  have hj2 : j < s.data.size := hj
  simp only [bytesRow, bytesOf, List.getD_eq_getElem?_getD, Array.getElem?_append]
  simp [hj, hj2]
end Go.Proofs.Ythdemdjobgbpdaa.T
