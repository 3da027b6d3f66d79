/- A range over a function whose elements bear rows that the function has just made: what is known of an element as it is handed over is told to the round (Rx), and that its rows are newer than the invariant's world; the assignment may lay boxes; no round leaves early. -/
import Derived.RangeFuncNested
import Derived.RangeFuncBound
import Derived.RangeFuncCalls
import Derived.RangeFuncLeaves
namespace Go.Proofs.Ythdemdjobgbpdaa.T
open Go Go.RowKit
/-- the iterator's promise: every element is handed over in a world in which Rx is known of it -/
def SeqTold {α : Type} (F : Fence) (n : Nat) (P : Program) (g : Nat) (lb : Array Value) (encs : α → Array Value) (Rx : List α → α → Nat → World → Prop) (Kp : World → World → Prop) (S : List α → Prop) (w : World) : Prop :=
  ∀ (l : Nat) (J : List α → World → Prop) (W : World), Below w.heap.size w W → AbidesFrom W.heap.size J →
    (∀ pre x W0 W1, J pre W0 → Below W0.heap.size W0 W1 → Rx pre x W0.heap.size W1 → YieldAt F (n - 1) P l (encs x) W1 fun e W' => e = .returned (.bool true) ∧ J (pre ++ [x]) W' ∧ Kp W1 W') →
    J [] W → CallsIn F n P g (#[.func (.yield l) #[] #[]] ++ lb) W fun e W' => (∃ v, e = .returned v) ∧ ∃ xs, S xs ∧ J xs W'
/-- the loop's record -/
def recOf (fn : FuncId) (tmps : Array Value) (ps : Array Tmp) (assign body : Code) (D : Nat) (st : LoopState) : Obj := .loop { state := st, pending := none, fn, tmps, params := ps, assign, body, defers := D }
section
variable {F : Fence} {n : Nat} {P : Program} {α : Type}
/-- what a round's body owes -/
def ToldPost (Kp : World → World → Prop) (I : World → Prop) (W : World) (e : Exit) (_ : Act) (W' : World) : Prop := e = .normal ∧ KeepsOthers W W' ∧ Kp W W' ∧ I W'
theorem range_told {g : Operand} {ps : Array Tmp} {assign body : Code} {Q : Exit → Act → World → Prop} {a : Act} {w : World}
    (hro : F.round = none) (h1 : 1 ≤ n) {gf : Nat} {lb : Array Value} (hg : a.eval g = .func (.func gf) #[] lb) (hFg : F.fn gf) (eg : ∀ args w, (callFunc gf args).run P w = .ok (.enter gf args) w)
    {encs : α → Array Value} {Rx : List α → α → Nat → World → Prop} {Kp : World → World → Prop} {S : List α → Prop} (hseq : SeqTold F (n - 1) P gf lb encs Rx Kp S w)
    (hKt : ∀ {A B C : World}, Kp A B → Kp B C → Kp A C) (hKb : ∀ (W : World) (l : Nat) (o o' : Obj), w.heap.size ≤ l → W.heap[l]? = some o → o.isCells = false → o.isWalk = false → Kp W (W.putObj l o')) (hps : ∀ x, (encs x).size = ps.size)
    (I : List α → World → Prop) (hI : OwnFrom w.heap.size I) (h0 : I [] w)
    (hround : ∀ (l : Nat) (pre : List α) (x : α) (W0 W : World), I pre W0 → Below W0.heap.size W0 W → Rx pre x W0.heap.size W →
      assign.wpIn (F.inRound l) (n - 1 - 1) P (Exit.then (fun a₁ W1 => KeepsOthers W W1 ∧ Kp W W1 ∧
          ∀ W2, W1.grownBy W2 (some l) → (∀ r : Nat, some l = some r → w.heap.size ≤ r ∧ ∃ o : Obj, W1.heap[r]? = some o ∧ o.isCells = false) → body.wpIn (F.inRound l) (n - 1 - 1) P (ToldPost Kp (I (pre ++ [x])) W2) a₁ W2) (fun _ _ _ => False))
        { tmps := (ps.zip (encs x)).foldl (fun t (p, v) => t.setIfInBounds p v) a.tmps, defers := [] } W)
    (hdone : ∀ (D : Nat) (xs : List α) (W : World), w.heap.size ≤ D → S xs → I xs W → W.heap[D]? = some (.deferred (some [])) → Q .normal { a with defers := { target := .collected D, args := #[] } :: a.defers } W) :
    (Code.rangeFunc g ps assign body).wpIn F n P Q a w := by
  refine wpIn_rangeFunc fun fn hfn => ?_
  rw [hro]
  let D := w.heap.size
  let l := w.heap.size + 1
  obtain ⟨ob, hob⟩ : ∃ ob : LoopState → Obj, ob = recOf fn a.tmps ps assign body w.heap.size := ⟨_, rfl⟩
  obtain ⟨V, hV⟩ : ∃ V, (w.alloc (.deferred (some []))).alloc (ob .ready) = V := ⟨_, rfl⟩
  have hcl : ∀ st, (ob st).isCells = false := fun st => by rw [hob]; rfl
  have hnw : ∀ st, (ob st).isWalk = false := fun st => by rw [hob]; rfl
  have hVl : V.heap[w.heap.size + 1]? = some (ob .ready) := by
    have := World.alloc_heap_new (w.alloc (.deferred (some []))) (ob .ready)
    rw [World.size_alloc, hV] at this
    exact this
  have hVD : V.heap[w.heap.size]? = some (.deferred (some [])) := by
    rw [← hV]
    exact (Below.heap_alloc _ _ _ (by simp)).trans (World.alloc_heap_new w _)
  have hIV : I [] V := by rw [← hV]; exact hI.alloc _ (hI.alloc _ h0)
  have hBV : Below w.heap.size w V := by
    rw [← hV]
    exact ((Below.refl _ w).alloc (Nat.le_refl _) _).alloc (by simp) _
  refine ⟨w.heap.size + 1, [{ target := .collected w.heap.size, args := #[] }], V, { target := .fn (.func gf) lb, args := #[.func (.yield (w.heap.size + 1)) #[] #[]] }, V, gf, #[.func (.yield (w.heap.size + 1)) #[] #[]] ++ lb, V, ?_, ?_, ?_, ?_, fun _ => h1, ?_⟩
  · rw [← hV, hob]
    exact run_enterLoop_outer _ _ _ _ _
  · simp only [resolve, hg]
    simp [go_sem]
  · intro f' hf'
    simp [Target.leads] at hf'
    subst hf'
    exact hFg
  · simp [invoke, go_sem, eg]
  · have turn : ∀ {A B : World} (st st' : LoopState), A.heap[w.heap.size + 1]? = some (ob st) → B = A.putObj (w.heap.size + 1) (ob st') →
        A.grownBy B (some (w.heap.size + 1)) ∧ B.heap[w.heap.size + 1]? = some (ob st') ∧ (∀ k, k ≠ w.heap.size + 1 → B.heap[k]? = A.heap[k]?) ∧ (∀ r, some (w.heap.size + 1) = some r → w.heap.size ≤ r ∧ ∃ o : Obj, A.heap[r]? = some o ∧ o.isCells = false) := by
      rintro A B st st' hA rfl
      exact ⟨grownBy_putObj' _ _ _, World.putObj_heap_same (Array.getElem?_eq_some_iff.1 hA).1, fun k hk => World.putObj_heap_other hk, fun r e => by cases e; exact ⟨by omega, _, hA, hcl st⟩⟩
    refine (hseq (w.heap.size + 1) (fun pre W => I pre W ∧ W.heap[w.heap.size + 1]? = some (ob .ready) ∧ W.heap[w.heap.size]? = some (.deferred (some []))) V hBV ?_ ?_ ⟨hIV, hVl, hVD⟩).mono ?_
    · intro s A B row hs hgr hr
      have hr2 : ∀ r, row = some r → ∃ o : Obj, A.heap[r]? = some o ∧ o.isWalk = true := fun r e => (hr r e).2
      refine ⟨hI s A B row hs.1 hgr (fun r e => ?_), (grownBy_keeps hgr hr2 hs.2.1 (hnw _)).trans hs.2.1, (grownBy_keeps hgr hr2 hs.2.2 rfl).trans hs.2.2⟩
      obtain ⟨hB, o, ho, hw⟩ := hr r e
      have := hBV.size
      exact ⟨by omega, o, ho, Obj.not_cells_of_walk hw⟩
    · rintro pre x W0 W1 ⟨hi, hl0, hD0⟩ hb01 hx
      have hl := (hb01.block _ (Array.getElem?_eq_some_iff.1 hl0).1).trans hl0
      have hD := (hb01.block _ (Array.getElem?_eq_some_iff.1 hD0).1).trans hD0
      have hl' := hl
      rw [hob] at hl'
      refine ⟨fn, _, assign, body, run_yield hl' (hps x), roundIn_of_wpIn hfn (wpIn_mono (hround (w.heap.size + 1) pre x W0 W1 hi hb01 hx) ?_)⟩
      intro e a₁ W2 hp
      match e, hp with
      | .normal, ⟨hk, hKp, hbody⟩ =>
      have hl2 := hk.same _ _ hl (hcl _)
      have hD2 := hk.same _ _ hD rfl
      obtain ⟨t1, t2, t3, t4⟩ := turn .ready .busy hl2 rfl
      have hbr : (Instr.beginRound (w.heap.size + 1)).run P W2 = .ok () (W2.putObj (w.heap.size + 1) (ob .busy)) := by
        have h2 := hl2
        rw [hob] at h2 ⊢
        exact run_beginRound h2 rfl
      refine ⟨_, hbr, wpIn_mono (hbody _ t1 t4) ?_⟩
      rintro e3 a3 W3 ⟨rfl, hk3, hKp3, hi3⟩
      have hl3 := hk3.same _ _ t2 (hcl _)
      have hD3 := hk3.same _ _ ((t3 _ (by omega)).trans hD2) rfl
      obtain ⟨u1, u2, u3, u4⟩ := turn .busy .ready hl3 rfl
      have her : (Instr.endRound (w.heap.size + 1) none).run P W3 = .ok (.bool true) (W3.putObj (w.heap.size + 1) (ob .ready)) := by
        have h3 := hl3
        rw [hob] at h3 ⊢
        exact run_endRound none h3
      exact ⟨_, _, her, rfl, ⟨hI _ _ _ _ hi3 u1 u4, u2, (u3 _ (by omega)).trans hD3⟩, hKt hKp (hKt (hKb _ _ _ _ (by omega) hl2 (hcl _) (hnw _)) (hKt hKp3 (hKb _ _ _ _ (by omega) hl3 (hcl _) (hnw _))))⟩
    · rintro e W2 ⟨⟨v, rfl⟩, xs, hS, hi, hl, hD⟩
      obtain ⟨u1, u2, u3, u4⟩ := turn .ready .exhausted hl rfl
      have hel : (Instr.endLoop (w.heap.size + 1)).run P W2 = .ok none (W2.putObj (w.heap.size + 1) (ob .exhausted)) := by
        have h3 := hl
        rw [hob] at h3 ⊢
        exact run_endLoop h3 (by simp)
      exact ⟨none, _, hel, hdone _ xs _ (Nat.le_refl _) hS (hI _ _ _ _ hi u1 u4) ((u3 _ (by omega)).trans hD)⟩
end
end Go.Proofs.Ythdemdjobgbpdaa.T
