/- An argument that is a slice of operations (a whole number and two strings each): opened to a row of them. -/
import Derived.Test.YtojnhecpjnoipaaP3
import Derived.Test.YtojnhecpjnoipaaRead
namespace Go.Proofs.Ytojnhecpjnoipaa.Rd
open Go.RowKit Go.ChangeShapes Go.WideShapes Go.ChangeAt Go.Deep Go.Proofs.YtojnhecpjnoipaaW.PrintWords Go.Proofs.Ytojnhecpjnoipaa.P

section
variable {H : Type} {enc : TypeId × Value → H} {P : Program} {W : World} {base : Nat} {spare : Nat → Bool} {held : Bool}
theorem row_ops {t e : TypeId} {f0 f1 f2 : Field} {a : Option Addr} {len cap : Nat} {d : DataW H} {p : List MemPlace} (hu : P.underlying t = some (.slice e)) (he : P.underlying e = some (.struct #[f0, f1, f2]))
    (hone : oneCellFields P #[f0, f1, f2] = true) (hC : P.cellsOf e = 3) (t0 : P.underlying f0.type = some (.int .i64)) (t1 : P.underlying f1.type = some .string) (t2 : P.underlying f2.type = some .string)
    (h : DataW.Trod enc P W base spare held t (.slice a len cap) d p) :
    ∃ l : List S39, len = l.length ∧ Kd.C k39 W a l.length l ∧ l.length ≤ cap ∧ (∀ x ∈ l, (Lit.int .i64 x.f0).wf = true ∧ x.f1.size ≤ 9223372036854775807 ∧ x.f2.size ≤ 9223372036854775807) ∧ l.length ≤ Rows.uptoBulk d := by
  obtain ⟨fuel, hf⟩ := h
  rcases open_slice hu hf with ⟨hcs, _⟩ | ⟨ad, len', cap', m, n, D, Pl, hcs, _, hl, hm, hmm, hx, hi⟩
  · simp [Value.cells] at hcs
    obtain ⟨rfl, rfl, rfl⟩ := hcs
    exact ⟨[], rfl, Kd.C_nil _ _, Nat.le_refl _, (fun _ h => by cases h), Nat.zero_le _⟩
  · simp [Value.cells] at hcs
    obtain ⟨rfl, rfl, rfl⟩ := hcs
    have hlm : len ≤ m := by rw [hmm]; split <;> omega
    have hb : len ≤ Rows.uptoBulk d := by
      obtain ⟨hx, _⟩ := Prod.mk.inj hx
      subst hx
      simp only [Rows.uptoBulk]
      have := bulk_length (H := H) ((List.range len).map D)
      simp only [List.length_map, List.length_range] at this
      omega
    have hel : ∀ i, ∃ x : S39, i < len → ((Lit.int .i64 x.f0).wf = true ∧ x.f1.size ≤ 9223372036854775807 ∧ x.f2.size ≤ 9223372036854775807) ∧ ∀ j u, [Value.int .i64 x.f0, .string x.f1, .string x.f2][j]? = some u → W.cell? (ad.add (i * 3 + j)) = some u := by
      intro i
      by_cases hil : i < len
      · obtain ⟨cs', hc, ht'⟩ := hi i (by omega)
        rw [hC] at hc
        obtain ⟨ys, n', _, hy, hlen, hyl, hg⟩ := DataW.trod_struct he ht'
        obtain ⟨_, hcl, hat⟩ := World.cells?_some hc
        obtain ⟨o0, k0⟩ := hone_of hone 0 f0 rfl
        obtain ⟨o1, k1⟩ := hone_of hone 1 f1 rfl
        obtain ⟨o2, k2⟩ := hone_of hone 2 f2 rfl
        match cs', hcl with
        | [c0, c1, c2], _ =>
          match ys, hyl with
          | [y0, y1, y2], _ =>
            have g0 : DataW.trod enc P W base spare held n' f0.type [c0] = some y0 := by simpa [o0, k0] using hg 0 f0 rfl
            have g1 : DataW.trod enc P W base spare held n' f1.type [c1] = some y1 := by simpa [o1, k1] using hg 1 f1 rfl
            have g2 : DataW.trod enc P W base spare held n' f2.type [c2] = some y2 := by simpa [o2, k2] using hg 2 f2 rfl
            obtain ⟨x0, e0, _, w0⟩ := DataW.trod_int t0 g0
            obtain ⟨x1, e1, _, w1⟩ := DataW.trod_string t1 g1
            obtain ⟨x2, e2, _, w2⟩ := DataW.trod_string t2 g2
            simp only [List.cons.injEq, and_true] at e0 e1 e2
            subst e0 e1 e2
            refine ⟨⟨x0, x1, x2⟩, fun _ => ⟨⟨w0, w1, w2⟩, fun j u hj => ?_⟩⟩
            have hj3 : j < 3 := (List.getElem?_eq_some_iff.1 hj).1
            rw [← Go.Deep.add_add, hat j hj3]
            exact hj
      · exact ⟨z39, fun h => absurd h hil⟩
    obtain ⟨g, hg⟩ := Classical.axiomOfChoice hel
    have hlen : ((List.range len).map g).length = len := by simp
    refine ⟨(List.range len).map g, hlen.symm, ?_, by rw [hlen]; exact hl, ?_, by rw [hlen]; exact hb⟩
    · refine ⟨rfl, by rw [hlen]; unfold maxLen at hm; omega, fun _ => ⟨ad, rfl, fun j x hj => ?_⟩⟩
      have hj' : j < len := by have := (List.getElem?_eq_some_iff.1 hj).1; rw [hlen] at this; exact this
      have hx : x = g j := by
        rw [List.getElem?_map, List.getElem?_range hj'] at hj
        simpa using hj.symm
      subst hx
      exact ⟨_, rfl, k39_mk W (g j), (hg j hj').2⟩
    · intro x hx
      obtain ⟨i, hi', rfl⟩ := List.mem_map.1 hx
      exact (hg i (List.mem_range.1 hi')).1
/-- .. and no longer than its weight allows. -/
theorem sized_ops {t e : TypeId} {a : Option Addr} {len cap : Nat} {d : DataW H} {ps : List MemPlace} {ts : List TypeId} {ds : List (DataW H)} {j : Nat}
    (hsz : (DataW.weightsEach P ts ds).all (· ≤ reachBytes) = true) (ht : ts[j]? = some t) (hd : ds[j]? = some d) (hu : P.underlying t = some (.slice e)) {B : Nat} (hB : P.bytesOf e = B)
    (h : DataW.Trod enc P W base spare held t (.slice a len cap) d ps) : len * B ≤ 140737488351232 := by
  obtain ⟨fuel, hf⟩ := h
  rcases open_slice hu hf with ⟨hcs, _⟩ | ⟨ad, len', cap', m, n, D, Pl, hcs, _, hl, hm, hmm, hx, hi⟩
  · simp [Value.cells] at hcs
    obtain ⟨rfl, rfl, rfl⟩ := hcs
    simp
  · simp [Value.cells] at hcs
    obtain ⟨rfl, rfl, rfl⟩ := hcs
    obtain ⟨hx, _⟩ := Prod.mk.inj hx
    subst hx
    have z := sized_slice hsz ht hd hu
    rw [hB] at z
    simp only [List.length_map, List.length_range] at z
    exact Nat.le_trans (Nat.mul_le_mul_right _ (Nat.le_add_right _ _)) z
end
end Go.Proofs.Ytojnhecpjnoipaa.Rd
