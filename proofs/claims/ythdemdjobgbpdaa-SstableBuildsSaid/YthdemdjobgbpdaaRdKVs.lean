/- An argument that is a slice of entries (a key of a string and two numbers, and a string, each): opened to a row of them. -/
import Derived.Test.YthdemdjobgbpdaaP8
import Derived.Test.YthdemdjobgbpdaaRead
namespace Go.Proofs.Ythdemdjobgbpdaa.Rd
open Go.RowKit Go.ChangeShapes Go.WideShapes Go.ChangeAt Go.Deep Go.Proofs.YthdemdjobgbpdaaW.PrintWords Go.Proofs.Ythdemdjobgbpdaa.P

section
variable {H : Type} {enc : TypeId × Value → H} {P : Program} {W : World} {base : Nat} {spare : Nat → Bool} {held : Bool}
theorem row_kvs {t e : TypeId} {g0 g1 f0 f1 f2 : Field} {a : Option Addr} {len cap : Nat} {d : DataW H} {p : List MemPlace} (hu : P.underlying t = some (.slice e)) (he : P.underlying e = some (.struct #[g0, g1]))
    (hg0 : g0.offset = 0) (hg1 : g1.offset = 3) (hcg0 : P.cellsOf g0.type = 3) (hcg1 : P.cellsOf g1.type = 1) (hin : P.underlying g0.type = some (.struct #[f0, f1, f2]))
    (hone : oneCellFields P #[f0, f1, f2] = true) (hC : P.cellsOf e = 4) (t0 : P.underlying f0.type = some .string) (t1 : P.underlying f1.type = some (.int .u64)) (t2 : P.underlying f2.type = some (.int .i64)) (t3 : P.underlying g1.type = some .string)
    (h : DataW.Trod enc P W base spare held t (.slice a len cap) d p) :
    ∃ l : List S47, len = l.length ∧ Kd.C k47 W a l.length l ∧ l.length ≤ cap ∧ (∀ x ∈ l, (Lit.int .u64 x.f0.f1).wf = true ∧ (Lit.int .i64 x.f0.f2).wf = true ∧ x.f0.f0.size ≤ 9223372036854775807 ∧ x.f1.size ≤ 9223372036854775807) ∧ l.length ≤ Rows.uptoBulk d := by
  obtain ⟨fuel, hf⟩ := h
  rcases open_slice hu hf with ⟨hcs, _⟩ | ⟨ad, len', cap', m, n, D, Pl, hcs, _, hl, hm, hmm, hx, hi⟩
  · simp [Value.cells] at hcs
    obtain ⟨rfl, rfl, rfl⟩ := hcs
    exact ⟨[], rfl, Kd.C_nil _ _, Nat.le_refl _, (fun _ h => by cases h), Nat.zero_le _⟩
  · simp [Value.cells] at hcs
    obtain ⟨rfl, rfl, rfl⟩ := hcs
    have hlm : len ≤ m := by rw [hmm]; split <;> omega
    have hb : len ≤ Rows.uptoBulk d := by
      obtain ⟨hx, _⟩ := Prod.mk.inj hx
      subst hx
      simp only [Rows.uptoBulk]
      have := bulk_length (H := H) ((List.range len).map D)
      simp only [List.length_map, List.length_range] at this
      omega
    have hel : ∀ i, ∃ x : S47, i < len → ((Lit.int .u64 x.f0.f1).wf = true ∧ (Lit.int .i64 x.f0.f2).wf = true ∧ x.f0.f0.size ≤ 9223372036854775807 ∧ x.f1.size ≤ 9223372036854775807) ∧ ∀ j u, [Value.string x.f0.f0, .int .u64 x.f0.f1, .int .i64 x.f0.f2, .string x.f1][j]? = some u → W.cell? (ad.add (i * 4 + j)) = some u := by
      intro i
      by_cases hil : i < len
      · obtain ⟨cs', hc, ht'⟩ := hi i (by omega)
        rw [hC] at hc
        obtain ⟨ys, n', _, hy, hlen, hyl, hg⟩ := DataW.trod_struct he ht'
        obtain ⟨_, hcl, hat⟩ := World.cells?_some hc
        obtain ⟨o0, k0⟩ := hone_of hone 0 f0 rfl
        obtain ⟨o1, k1⟩ := hone_of hone 1 f1 rfl
        obtain ⟨o2, k2⟩ := hone_of hone 2 f2 rfl
        match cs', hcl with
        | [c0, c1, c2, c3], _ =>
          match ys, hyl with
          | [y0, y1], _ =>
            have gi : DataW.trod enc P W base spare held n' g0.type [c0, c1, c2] = some y0 := by simpa [hg0, hcg0] using hg 0 g0 rfl
            have g3 : DataW.trod enc P W base spare held n' g1.type [c3] = some y1 := by simpa [hg1, hcg1] using hg 1 g1 rfl
            obtain ⟨zs, n2, _, hz, _, hzl, hgz⟩ := DataW.trod_struct hin gi
            match zs, hzl with
            | [z0, z1, z2], _ =>
              have q0 : DataW.trod enc P W base spare held n2 f0.type [c0] = some z0 := by simpa [o0, k0] using hgz 0 f0 rfl
              have q1 : DataW.trod enc P W base spare held n2 f1.type [c1] = some z1 := by simpa [o1, k1] using hgz 1 f1 rfl
              have q2 : DataW.trod enc P W base spare held n2 f2.type [c2] = some z2 := by simpa [o2, k2] using hgz 2 f2 rfl
              obtain ⟨x0, e0, _, w0⟩ := DataW.trod_string t0 q0
              obtain ⟨x1, e1, _, w1⟩ := DataW.trod_int t1 q1
              obtain ⟨x2, e2, _, w2⟩ := DataW.trod_int t2 q2
              obtain ⟨x3, e3, _, w3⟩ := DataW.trod_string t3 g3
              simp only [List.cons.injEq, and_true] at e0 e1 e2 e3
              subst e0 e1 e2 e3
              refine ⟨⟨⟨x0, x1, x2⟩, x3⟩, fun _ => ⟨⟨w1, w2, w0, w3⟩, fun j u hj => ?_⟩⟩
              have hj4 : j < 4 := (List.getElem?_eq_some_iff.1 hj).1
              rw [← Go.Deep.add_add, hat j hj4]
              exact hj
      · exact ⟨z47, fun h => absurd h hil⟩
    obtain ⟨g, hg⟩ := Classical.axiomOfChoice hel
    have hlen : ((List.range len).map g).length = len := by simp
    refine ⟨(List.range len).map g, hlen.symm, ?_, by rw [hlen]; exact hl, ?_, by rw [hlen]; exact hb⟩
    · refine ⟨rfl, by rw [hlen]; unfold maxLen at hm; omega, fun _ => ⟨ad, rfl, fun j x hj => ?_⟩⟩
      have hj' : j < len := by have := (List.getElem?_eq_some_iff.1 hj).1; rw [hlen] at this; exact this
      have hx : x = g j := by
        rw [List.getElem?_map, List.getElem?_range hj'] at hj
        simpa using hj.symm
      subst hx
      exact ⟨_, rfl, k47_mk W (g j), (hg j hj').2⟩
    · intro x hx
      obtain ⟨i, hi', rfl⟩ := List.mem_map.1 hx
      exact (hg i (List.mem_range.1 hi')).1
/-- .. and no longer than its weight allows. -/
theorem sized_kvs {t e : TypeId} {a : Option Addr} {len cap : Nat} {d : DataW H} {ps : List MemPlace} {ts : List TypeId} {ds : List (DataW H)} {j : Nat}
    (hsz : (DataW.weightsEach P ts ds).all (· ≤ reachBytes) = true) (ht : ts[j]? = some t) (hd : ds[j]? = some d) (hu : P.underlying t = some (.slice e)) {B : Nat} (hB : P.bytesOf e = B)
    (h : DataW.Trod enc P W base spare held t (.slice a len cap) d ps) : len * B ≤ 140737488351232 := by
  obtain ⟨fuel, hf⟩ := h
  rcases open_slice hu hf with ⟨hcs, _⟩ | ⟨ad, len', cap', m, n, D, Pl, hcs, _, hl, hm, hmm, hx, hi⟩
  · simp [Value.cells] at hcs
    obtain ⟨rfl, rfl, rfl⟩ := hcs
    simp
  · simp [Value.cells] at hcs
    obtain ⟨rfl, rfl, rfl⟩ := hcs
    obtain ⟨hx, _⟩ := Prod.mk.inj hx
    subst hx
    have z := sized_slice hsz ht hd hu
    rw [hB] at z
    simp only [List.length_map, List.length_range] at z
    exact Nat.le_trans (Nat.mul_le_mul_right _ (Nat.le_add_right _ _)) z
end
section
variable {H : Type} {enc : TypeId × Value → H} {P : Program} {w : World} {base : Nat} {spare : Nat → Bool} {held : Bool} {fuel : Nat} {t : TypeId} {cs : List Value} {x : DataW H × List MemPlace}
theorem trod_float {k : FloatKind} (ht : P.underlying t = some (.float k)) (h : DataW.trod enc P w base spare held fuel t cs = some x) : ∃ n, cs = [.float k n] ∧ x = (.lit (.float k n), []) ∧ (Lit.float k n).wf = true := by
  cases fuel with
  | zero => simp [DataW.trod] at h
  | succ n =>
    unfold DataW.trod at h
    rw [ht] at h
    split at h <;> simp_all
end
end Go.Proofs.Ythdemdjobgbpdaa.Rd
