/- An argument that is an edit (three numbers, a slice of files taken away, a slice of files added): opened to its parts. -/
import Derived.Test.YthkkbgehmiobaaaP7
import Derived.Test.YthkkbgehmiobaaaRead
import Derived.Lib.SmallJoins
import Derived.SizedLaws
namespace Go.Proofs.Ythkkbgehmiobaaa.Rd
open Go.RowKit Go.ChangeShapes Go.WideShapes Go.ChangeAt Go.Deep Go.Joins Go.Proofs.YthkkbgehmiobaaaW.PrintWords Go.Proofs.Ythkkbgehmiobaaa.P
set_option linter.unusedVariables false
set_option linter.unusedSimpArgs false
section
variable {H : Type} {enc : TypeId × Value → H} {P : Program} {W : World} {base : Nat} {spare : Nat → Bool} {held : Bool}
def wfK (x : S42) : Prop := (Lit.int .u64 x.f1).wf = true ∧ (Lit.int .i64 x.f2).wf = true ∧ x.f0.size ≤ 9223372036854775807
theorem cell_gones {t e : TypeId} {f0 f1 : Field} {v : Value} {y : DataW H × List MemPlace} {n : Nat} (hu : P.underlying t = some (.slice e)) (he : P.underlying e = some (.struct #[f0, f1]))
    (hone : oneCellFields P #[f0, f1] = true) (hC : P.cellsOf e = 2) (t0 : P.underlying f0.type = some (.int .i64)) (t1 : P.underlying f1.type = some (.int .u64)) {B : Nat} (hB : P.bytesOf e = B)
    (h : DataW.trod enc P W base spare held n t [v] = some y) :
    ∃ (A : Option Addr) (c : Nat) (l : List S40), v = .slice A l.length c ∧ Kd.C k40 W A l.length l ∧ l.length ≤ c ∧ (∀ x ∈ l, (Lit.int .i64 x.f0).wf = true ∧ (Lit.int .u64 x.f1).wf = true) ∧ l.length ≤ Rows.uptoBulk y.1 ∧ (l.length = 0 ∨ ∃ z ∈ y.1.weights P t, l.length * B ≤ z) := by
  rcases open_slice hu h with ⟨hcs, _⟩ | ⟨ad, len, cap, m, n, D, Pl, hcs, _, hl, hm, hmm, hx, hi⟩
  · simp only [List.cons.injEq, and_true] at hcs
    subst hcs
    exact ⟨none, 0, [], rfl, Kd.C_nil _ _, Nat.le_refl _, (fun _ h => by cases h), Nat.zero_le _, .inl rfl⟩
  · simp only [List.cons.injEq, and_true] at hcs
    subst hcs
    have hlm : len ≤ m := by rw [hmm]; split <;> omega
    have hb : len ≤ Rows.uptoBulk y.1 ∧ ∃ z ∈ y.1.weights P t, len * B ≤ z := by
      subst hx
      constructor
      · simp only [Rows.uptoBulk]
        have := bulk_length (H := H) ((List.range len).map D)
        simp only [List.length_map, List.length_range] at this
        omega
      · subst hB
        exact ⟨_, by simp only [DataW.weights, hu]; exact List.mem_cons_self .., Nat.mul_le_mul_right _ (by simp only [List.length_map, List.length_range]; omega)⟩
    have hel : ∀ i, ∃ x : S40, i < len → ((Lit.int .i64 x.f0).wf = true ∧ (Lit.int .u64 x.f1).wf = true) ∧ ∀ j u, [Value.int .i64 x.f0, .int .u64 x.f1][j]? = some u → W.cell? (ad.add (i * 2 + j)) = some u := by
      intro i
      by_cases hil : i < len
      · obtain ⟨cs', hc, ht'⟩ := hi i (by omega)
        rw [hC] at hc
        obtain ⟨ys, n', _, hy, hlen, hyl, hg⟩ := DataW.trod_struct he ht'
        obtain ⟨_, hcl, hat⟩ := World.cells?_some hc
        obtain ⟨o0, k0⟩ := hone_of hone 0 f0 rfl
        obtain ⟨o1, k1⟩ := hone_of hone 1 f1 rfl
        match cs', hcl with
        | [c0, c1], _ =>
          match ys, hyl with
          | [y0, y1], _ =>
            have q0 : DataW.trod enc P W base spare held n' f0.type [c0] = some y0 := by simpa [o0, k0] using hg 0 f0 rfl
            have q1 : DataW.trod enc P W base spare held n' f1.type [c1] = some y1 := by simpa [o1, k1] using hg 1 f1 rfl
            obtain ⟨x0, e0, _, w0⟩ := DataW.trod_int t0 q0
            obtain ⟨x1, e1, _, w1⟩ := DataW.trod_int t1 q1
            simp only [List.cons.injEq, and_true] at e0 e1
            subst e0 e1
            refine ⟨⟨x0, x1⟩, fun _ => ⟨⟨w0, w1⟩, fun j u hj => ?_⟩⟩
            have hj4 : j < 2 := (List.getElem?_eq_some_iff.1 hj).1
            rw [← Go.Deep.add_add, hat j hj4]
            exact hj
      · exact ⟨z40, fun h => absurd h hil⟩
    obtain ⟨g, hg⟩ := Classical.axiomOfChoice hel
    have hlen : ((List.range len).map g).length = len := by simp
    refine ⟨some ad, cap, (List.range len).map g, by rw [hlen], ?_, by rw [hlen]; exact hl, ?_, by rw [hlen]; exact hb.1, by rw [hlen]; exact .inr hb.2⟩
    · refine ⟨rfl, by rw [hlen]; unfold maxLen at hm; omega, fun _ => ⟨ad, rfl, fun j x hj => ?_⟩⟩
      have hj' : j < len := by have := (List.getElem?_eq_some_iff.1 hj).1; rw [hlen] at this; exact this
      have hx : x = g j := by
        rw [List.getElem?_map, List.getElem?_range hj'] at hj
        simpa using hj.symm
      subst hx
      exact ⟨_, rfl, k40_mk W (g j), (hg j hj').2⟩
    · intro x hx
      obtain ⟨i, hi', rfl⟩ := List.mem_map.1 hx
      exact (hg i (List.mem_range.1 hi')).1
theorem cell_key {t : TypeId} {i0 i1 i2 : Field} {c0 c1 c2 : Value} {y : DataW H × List MemPlace} {n : Nat} (hin : P.underlying t = some (.struct #[i0, i1, i2])) (hone : oneCellFields P #[i0, i1, i2] = true)
    (t0 : P.underlying i0.type = some .string) (t1 : P.underlying i1.type = some (.int .u64)) (t2 : P.underlying i2.type = some (.int .i64)) (h : DataW.trod enc P W base spare held n t [c0, c1, c2] = some y) :
    ∃ x : S42, c0 = .string x.f0 ∧ c1 = .int .u64 x.f1 ∧ c2 = .int .i64 x.f2 ∧ wfK x := by
  obtain ⟨zs, n2, _, hz, _, hzl, hgz⟩ := DataW.trod_struct hin h
  obtain ⟨o0, k0⟩ := hone_of hone 0 i0 rfl
  obtain ⟨o1, k1⟩ := hone_of hone 1 i1 rfl
  obtain ⟨o2, k2⟩ := hone_of hone 2 i2 rfl
  match zs, hzl with
  | [z0, z1, z2], _ =>
    have q0 : DataW.trod enc P W base spare held n2 i0.type [c0] = some z0 := by simpa [o0, k0] using hgz 0 i0 rfl
    have q1 : DataW.trod enc P W base spare held n2 i1.type [c1] = some z1 := by simpa [o1, k1] using hgz 1 i1 rfl
    have q2 : DataW.trod enc P W base spare held n2 i2.type [c2] = some z2 := by simpa [o2, k2] using hgz 2 i2 rfl
    obtain ⟨x0, e0, _, w0⟩ := DataW.trod_string t0 q0
    obtain ⟨x1, e1, _, w1⟩ := DataW.trod_int t1 q1
    obtain ⟨x2, e2, _, w2⟩ := DataW.trod_int t2 q2
    simp only [List.cons.injEq, and_true] at e0 e1 e2
    exact ⟨⟨x0, x1, x2⟩, e0, e1, e2, w1, w2, w0⟩
def wfF (x : S44) : Prop := (Lit.int .i64 x.f0).wf = true ∧ (Lit.int .u64 x.f1).wf = true ∧ (Lit.int .i64 x.f2).wf = true ∧ wfK x.f3 ∧ wfK x.f4
theorem cell_files {t e : TypeId} {f0 f1 f2 f3 f4 i0 i1 i2 : Field} {v : Value} {y : DataW H × List MemPlace} {n : Nat} (hu : P.underlying t = some (.slice e)) (he : P.underlying e = some (.struct #[f0, f1, f2, f3, f4]))
    (hoc : f0.offset = 0 ∧ f1.offset = 1 ∧ f2.offset = 2 ∧ f3.offset = 3 ∧ f4.offset = 6 ∧ P.cellsOf f0.type = 1 ∧ P.cellsOf f1.type = 1 ∧ P.cellsOf f2.type = 1 ∧ P.cellsOf f3.type = 3 ∧ P.cellsOf f4.type = 3) (hC : P.cellsOf e = 9)
    (hin3 : P.underlying f3.type = some (.struct #[i0, i1, i2])) (hin4 : P.underlying f4.type = some (.struct #[i0, i1, i2])) (hone : oneCellFields P #[i0, i1, i2] = true)
    (s0 : P.underlying i0.type = some .string) (s1 : P.underlying i1.type = some (.int .u64)) (s2 : P.underlying i2.type = some (.int .i64))
    (t0 : P.underlying f0.type = some (.int .i64)) (t1 : P.underlying f1.type = some (.int .u64)) (t2 : P.underlying f2.type = some (.int .i64)) {B : Nat} (hB : P.bytesOf e = B)
    (h : DataW.trod enc P W base spare held n t [v] = some y) :
    ∃ (A : Option Addr) (c : Nat) (l : List S44), v = .slice A l.length c ∧ Kd.C k44 W A l.length l ∧ l.length ≤ c ∧ (∀ x ∈ l, wfF x) ∧ l.length ≤ Rows.uptoBulk y.1 ∧ (l.length = 0 ∨ ∃ z ∈ y.1.weights P t, l.length * B ≤ z) := by
  obtain ⟨o0, o1, o2, o3, o4, k0, k1, k2, k3, k4⟩ := hoc
  rcases open_slice hu h with ⟨hcs, _⟩ | ⟨ad, len, cap, m, n, D, Pl, hcs, _, hl, hm, hmm, hx, hi⟩
  · simp only [List.cons.injEq, and_true] at hcs
    subst hcs
    exact ⟨none, 0, [], rfl, Kd.C_nil _ _, Nat.le_refl _, (fun _ h => by cases h), Nat.zero_le _, .inl rfl⟩
  · simp only [List.cons.injEq, and_true] at hcs
    subst hcs
    have hlm : len ≤ m := by rw [hmm]; split <;> omega
    have hb : len ≤ Rows.uptoBulk y.1 ∧ ∃ z ∈ y.1.weights P t, len * B ≤ z := by
      subst hx
      constructor
      · simp only [Rows.uptoBulk]
        have := bulk_length (H := H) ((List.range len).map D)
        simp only [List.length_map, List.length_range] at this
        omega
      · subst hB
        exact ⟨_, by simp only [DataW.weights, hu]; exact List.mem_cons_self .., Nat.mul_le_mul_right _ (by simp only [List.length_map, List.length_range]; omega)⟩
    have hel : ∀ i, ∃ x : S44, i < len → wfF x ∧ ∀ j u, [Value.int .i64 x.f0, .int .u64 x.f1, .int .i64 x.f2, .string x.f3.f0, .int .u64 x.f3.f1, .int .i64 x.f3.f2, .string x.f4.f0, .int .u64 x.f4.f1, .int .i64 x.f4.f2][j]? = some u → W.cell? (ad.add (i * 9 + j)) = some u := by
      intro i
      by_cases hil : i < len
      · obtain ⟨cs', hc, ht'⟩ := hi i (by omega)
        rw [hC] at hc
        obtain ⟨ys, n', _, hy, hlen, hyl, hg⟩ := DataW.trod_struct he ht'
        obtain ⟨_, hcl, hat⟩ := World.cells?_some hc
        match cs', hcl with
        | [c0, c1, c2, c3, c4, c5, c6, c7, c8], _ =>
          match ys, hyl with
          | [y0, y1, y2, y3, y4], _ =>
            have q0 : DataW.trod enc P W base spare held n' f0.type [c0] = some y0 := by simpa [o0, k0] using hg 0 f0 rfl
            have q1 : DataW.trod enc P W base spare held n' f1.type [c1] = some y1 := by simpa [o1, k1] using hg 1 f1 rfl
            have q2 : DataW.trod enc P W base spare held n' f2.type [c2] = some y2 := by simpa [o2, k2] using hg 2 f2 rfl
            have q3 : DataW.trod enc P W base spare held n' f3.type [c3, c4, c5] = some y3 := by simpa [o3, k3] using hg 3 f3 rfl
            have q4 : DataW.trod enc P W base spare held n' f4.type [c6, c7, c8] = some y4 := by simpa [o4, k4] using hg 4 f4 rfl
            obtain ⟨x0, e0, _, w0⟩ := DataW.trod_int t0 q0
            obtain ⟨x1, e1, _, w1⟩ := DataW.trod_int t1 q1
            obtain ⟨x2, e2, _, w2⟩ := DataW.trod_int t2 q2
            obtain ⟨x3, e3, e4, e5, w3⟩ := cell_key hin3 hone s0 s1 s2 q3
            obtain ⟨x4, e6, e7, e8, w4⟩ := cell_key hin4 hone s0 s1 s2 q4
            simp only [List.cons.injEq, and_true] at e0 e1 e2
            subst e0 e1 e2 e3 e4 e5 e6 e7 e8
            refine ⟨⟨x0, x1, x2, x3, x4⟩, fun _ => ⟨⟨w0, w1, w2, w3, w4⟩, fun j u hj => ?_⟩⟩
            have hj4 : j < 9 := (List.getElem?_eq_some_iff.1 hj).1
            rw [← Go.Deep.add_add, hat j hj4]
            exact hj
      · exact ⟨z44, fun h => absurd h hil⟩
    obtain ⟨g, hg⟩ := Classical.axiomOfChoice hel
    have hlen : ((List.range len).map g).length = len := by simp
    refine ⟨some ad, cap, (List.range len).map g, by rw [hlen], ?_, by rw [hlen]; exact hl, ?_, by rw [hlen]; exact hb.1, by rw [hlen]; exact .inr hb.2⟩
    · refine ⟨rfl, by rw [hlen]; unfold maxLen at hm; omega, fun _ => ⟨ad, rfl, fun j x hj => ?_⟩⟩
      have hj' : j < len := by have := (List.getElem?_eq_some_iff.1 hj).1; rw [hlen] at this; exact this
      have hx : x = g j := by
        rw [List.getElem?_map, List.getElem?_range hj'] at hj
        simpa using hj.symm
      subst hx
      exact ⟨_, rfl, k44_mk W (g j), (hg j hj').2⟩
    · intro x hx
      obtain ⟨i, hi', rfl⟩ := List.mem_map.1 hx
      exact (hg i (List.mem_range.1 hi')).1
/-- an edit -/
theorem row_edit {r : Reach} {b0 : Nat} {t ed ef : TypeId} {h0 h1 h2 h3 h4 d0 d1 f0 f1 f2 f3 f4 i0 i1 i2 : Field} {v : Value} {d : DataW H} {p : List MemPlace} (hs : P.underlying t = some (.struct #[h0, h1, h2, h3, h4])) (hone5 : oneCellFields P #[h0, h1, h2, h3, h4] = true) (hC5 : P.cellsOf t = 5)
    (u0 : P.underlying h0.type = some (.int .u64)) (u1 : P.underlying h1.type = some (.int .u64)) (u2 : P.underlying h2.type = some (.int .u64))
    (hud : P.underlying h3.type = some (.slice ed)) (hed : P.underlying ed = some (.struct #[d0, d1])) (hone2 : oneCellFields P #[d0, d1] = true) (hC2 : P.cellsOf ed = 2) (td0 : P.underlying d0.type = some (.int .i64)) (td1 : P.underlying d1.type = some (.int .u64)) (hBd : P.bytesOf ed = 16)
    (huf : P.underlying h4.type = some (.slice ef)) (hef : P.underlying ef = some (.struct #[f0, f1, f2, f3, f4]))
    (hoc : f0.offset = 0 ∧ f1.offset = 1 ∧ f2.offset = 2 ∧ f3.offset = 3 ∧ f4.offset = 6 ∧ P.cellsOf f0.type = 1 ∧ P.cellsOf f1.type = 1 ∧ P.cellsOf f2.type = 1 ∧ P.cellsOf f3.type = 3 ∧ P.cellsOf f4.type = 3) (hC : P.cellsOf ef = 9)
    (hin3 : P.underlying f3.type = some (.struct #[i0, i1, i2])) (hin4 : P.underlying f4.type = some (.struct #[i0, i1, i2])) (hone : oneCellFields P #[i0, i1, i2] = true)
    (s0 : P.underlying i0.type = some .string) (s1 : P.underlying i1.type = some (.int .u64)) (s2 : P.underlying i2.type = some (.int .i64))
    (t0 : P.underlying f0.type = some (.int .i64)) (t1 : P.underlying f1.type = some (.int .u64)) (t2 : P.underlying f2.type = some (.int .i64)) (hBf : P.bytesOf ef = 88)
    {ts : List TypeId} {ds : List (DataW H)} {j : Nat} (hsz : (DataW.weightsEach P ts ds).all (· ≤ reachBytes) = true) (hjt : ts[j]? = some t) (hjd : ds[j]? = some d)
    (hv : Value.okWide P W r b0 t v) (h : DataW.Trod enc P W base spare held t v d p) :
    ∃ (a b c : Int) (A3 : Option Addr) (c3 : Nat) (D : List S40) (A4 : Option Addr) (c4 : Nat) (L : List S44), v = .agg #[.int .u64 a, .int .u64 b, .int .u64 c, .slice A3 D.length c3, .slice A4 L.length c4] ∧
      Kd.C k40 W A3 D.length D ∧ D.length ≤ c3 ∧ Kd.C k44 W A4 L.length L ∧ L.length ≤ c4 ∧
      ((Lit.int .u64 a).wf = true ∧ (Lit.int .u64 b).wf = true ∧ (Lit.int .u64 c).wf = true ∧ (∀ x ∈ D, (Lit.int .i64 x.f0).wf = true ∧ (Lit.int .u64 x.f1).wf = true) ∧ (∀ x ∈ L, wfF x)) ∧ D.length * 16 ≤ 140737488351232 ∧ L.length * 88 ≤ 140737488351232 := by
  obtain ⟨cs, rfl, hcsz⟩ := okWide_struct hs hv
  obtain ⟨c0, c1, c2, c3, c4, rfl⟩ : ∃ c0 c1 c2 c3 c4, cs = #[c0, c1, c2, c3, c4] := by
    obtain ⟨l⟩ := cs
    match l, hcsz.trans hC5 with
    | [c0, c1, c2, c3, c4], _ => exact ⟨c0, c1, c2, c3, c4, rfl⟩
  obtain ⟨fuel, hf⟩ := h
  obtain ⟨xs, n, _, hx, hl, hlen, hg⟩ := DataW.trod_struct hs hf
  obtain ⟨o0, k0⟩ := hone_of hone5 0 h0 rfl
  obtain ⟨o1, k1⟩ := hone_of hone5 1 h1 rfl
  obtain ⟨o2, k2⟩ := hone_of hone5 2 h2 rfl
  obtain ⟨o3, k3⟩ := hone_of hone5 3 h3 rfl
  obtain ⟨o4, k4⟩ := hone_of hone5 4 h4 rfl
  match xs, hlen with
  | [y0, y1, y2, y3, y4], _ =>
    have q0 : DataW.trod enc P W base spare held n h0.type [c0] = some y0 := by simpa [Value.cells, o0, k0] using hg 0 h0 rfl
    have q1 : DataW.trod enc P W base spare held n h1.type [c1] = some y1 := by simpa [Value.cells, o1, k1] using hg 1 h1 rfl
    have q2 : DataW.trod enc P W base spare held n h2.type [c2] = some y2 := by simpa [Value.cells, o2, k2] using hg 2 h2 rfl
    have q3 : DataW.trod enc P W base spare held n h3.type [c3] = some y3 := by simpa [Value.cells, o3, k3] using hg 3 h3 rfl
    have q4 : DataW.trod enc P W base spare held n h4.type [c4] = some y4 := by simpa [Value.cells, o4, k4] using hg 4 h4 rfl
    obtain ⟨x0, e0, _, w0⟩ := DataW.trod_int u0 q0
    obtain ⟨x1, e1, _, w1⟩ := DataW.trod_int u1 q1
    obtain ⟨x2, e2, _, w2⟩ := DataW.trod_int u2 q2
    simp only [List.cons.injEq, and_true] at e0 e1 e2
    subst e0 e1 e2
    obtain ⟨A3, p3, D, rfl, hr3, hc3, wd, _, hw3⟩ := cell_gones hud hed hone2 hC2 td0 td1 hBd q3
    obtain ⟨A4, p4, L, rfl, hr4, hc4, wl, _, hw4⟩ := cell_files huf hef hoc hC hin3 hin4 hone s0 s1 s2 t0 t1 t2 hBf q4
    have hd : d = .agg [y0.1, y1.1, y2.1, y3.1, y4.1] := by
      have := congrArg Prod.fst hx
      simpa using this
    have hmem : ∀ z, z ∈ (DataW.agg [y0.1, y1.1, y2.1, y3.1, y4.1] : DataW H).weights P t → z ≤ 140737488351232 := by
      intro z hz
      have := List.all_eq_true.1 hsz _ (DataW.weights_mem_each hjt hjd z (by rw [hd]; exact hz))
      exact of_decide_eq_true this
    have hag : (DataW.agg [y0.1, y1.1, y2.1, y3.1, y4.1] : DataW H).weights P t = DataW.weightsEach P [h0.type, h1.type, h2.type, h3.type, h4.type] [y0.1, y1.1, y2.1, y3.1, y4.1] := by
      simp only [DataW.weights, hs]
      rfl
    refine ⟨x0, x1, x2, A3, p3, D, A4, p4, L, rfl, hr3, hc3, hr4, hc4, ⟨w0, w1, w2, wd, wl⟩, ?_, ?_⟩
    · rcases hw3 with h | ⟨z, hz, hle⟩
      · rw [h]; decide
      · refine Nat.le_trans hle (hmem z ?_)
        rw [hag]
        exact DataW.weights_mem_each (j := 3) (t := h3.type) (d := y3.1) rfl rfl z hz
    · rcases hw4 with h | ⟨z, hz, hle⟩
      · rw [h]; decide
      · refine Nat.le_trans hle (hmem z ?_)
        rw [hag]
        exact DataW.weights_mem_each (j := 4) (t := h4.type) (d := y4.1) rfl rfl z hz
end
end Go.Proofs.Ythkkbgehmiobaaa.Rd
