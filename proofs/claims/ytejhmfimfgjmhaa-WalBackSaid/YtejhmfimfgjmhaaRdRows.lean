/- An argument that is a slice of slices of whole numbers: opened to a row of rows. -/
import Derived.Test.YtejhmfimfgjmhaaRead
namespace Go.Proofs.Ytejhmfimfgjmhaa.Rd
open Go.RowKit Go.ChangeShapes Go.WideShapes Go.ChangeAt Go.Deep Go.Proofs.YtejhmfimfgjmhaaW.PrintWords

section
variable {H : Type} {enc : TypeId × Value → H} {P : Program} {W : World} {base : Nat} {spare : Nat → Bool} {held : Bool}
theorem row_rows {t e e2 : TypeId} {k : IntKind} {a : Option Addr} {len cap : Nat} {d : DataW H} {p : List MemPlace} (hu : P.underlying t = some (.slice e)) (he : P.underlying e = some (.slice e2)) (he2 : P.underlying e2 = some (.int k)) (hC : P.cellsOf e = 1) (hC2 : P.cellsOf e2 = 1)
    (h : DataW.Trod enc P W base spare held t (.slice a len cap) d p) :
    ∃ l : List (List Int), len = l.length ∧ Kd.C (Kd.slice e2 (Kd.int k)) W a l.length l ∧ l.length ≤ cap ∧ (∀ x ∈ l, ∀ y ∈ x, (Lit.int k y).wf = true) ∧ l.length ≤ Rows.uptoBulk d := by
  obtain ⟨fuel, hf⟩ := h
  rcases open_slice hu hf with ⟨hcs, _⟩ | ⟨ad, len', cap', m, n, D, Pl, hcs, _, hl, hm, hmm, hx, hi⟩
  · simp [Value.cells] at hcs
    obtain ⟨rfl, rfl, rfl⟩ := hcs
    exact ⟨[], rfl, Kd.C_nil _ _, Nat.le_refl _, (fun _ h => by cases h), Nat.zero_le _⟩
  · simp [Value.cells] at hcs
    obtain ⟨rfl, rfl, rfl⟩ := hcs
    have hlm : len ≤ m := by rw [hmm]; split <;> omega
    have hb : len ≤ Rows.uptoBulk d := by
      obtain ⟨hx, _⟩ := Prod.mk.inj hx
      subst hx
      simp only [Rows.uptoBulk]
      have := bulk_length (H := H) ((List.range len).map D)
      simp only [List.length_map, List.length_range] at this
      omega
    have hel : ∀ i, ∃ x : List Int, i < len → (∀ y ∈ x, (Lit.int k y).wf = true) ∧ ∃ A c, W.cell? (ad.add i) = some (.slice A x.length c) ∧ x.length ≤ c ∧ Kd.C (Kd.int k) W A x.length x := by
      intro i
      by_cases hil : i < len
      · obtain ⟨cs', hc, ht'⟩ := hi i (by omega)
        rw [hC] at hc
        obtain ⟨_, hcl, hat⟩ := World.cells?_some hc
        have hform : ∃ A' l' c', cs' = [.slice A' l' c'] := by
          rcases open_slice he ht' with ⟨hcs, _⟩ | ⟨ad', len', cap', m', n', D', Pl', hcs, _⟩
          · exact ⟨_, _, _, hcs⟩
          · exact ⟨_, _, _, hcs⟩
        obtain ⟨A', l', c', rfl⟩ := hform
        obtain ⟨x, rfl, hxC, hxc, hxw, _⟩ := row_ints (base := base) (spare := spare) (held := held) (enc := enc) (W := W) (a := A') (cap := c') he he2 hC2 ⟨_, ht'⟩
        refine ⟨x, fun _ => ⟨hxw, A', c', ?_, hxc, hxC⟩⟩
        have := hat 0 (by decide)
        simpa [Addr.add] using this
      · exact ⟨[], fun h => absurd h hil⟩
    obtain ⟨g, hg⟩ := Classical.axiomOfChoice hel
    have hlen : ((List.range len).map g).length = len := by simp
    refine ⟨(List.range len).map g, hlen.symm, ?_, by rw [hlen]; exact hl, ?_, by rw [hlen]; exact hb⟩
    · refine ⟨rfl, by rw [hlen]; unfold maxLen at hm; omega, fun _ => ⟨ad, rfl, fun j x hj => ?_⟩⟩
      have hj' : j < len := by have := (List.getElem?_eq_some_iff.1 hj).1; rw [hlen] at this; exact this
      have hx : x = g j := by
        rw [List.getElem?_map, List.getElem?_range hj'] at hj
        simpa using hj.symm
      subst hx
      obtain ⟨_, A, c, hcell, hc, hC'⟩ := hg j hj'
      refine ⟨[.slice A (g j).length c], rfl, ⟨A, c, rfl, hc, hC'⟩, fun i u hu' => ?_⟩
      match i, hu' with
      | 0, hu' =>
        cases hu'
        show W.cell? (ad.add (j * 1 + 0)) = _
        rw [Nat.mul_one, Nat.add_zero]
        exact hcell
    · intro x hx
      obtain ⟨i, hi', rfl⟩ := List.mem_map.1 hx
      exact (hg i (List.mem_range.1 hi')).1
end
end Go.Proofs.Ytejhmfimfgjmhaa.Rd
