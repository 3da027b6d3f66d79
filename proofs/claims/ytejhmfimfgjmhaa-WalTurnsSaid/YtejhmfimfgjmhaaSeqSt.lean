/- A range over a function whose iterator keeps a state of its own in cells: one law, out of the kit's statement law ('wpIn_rangeFunc') and its steps of the loop's record. -/
import Derived.RangeFuncNested
import Derived.RangeFuncFrom
import Derived.RangeFuncLeaves
import Derived.Test.YtejhmfimfgjmhaaWKept
namespace Go.Proofs.Ytejhmfimfgjmhaa.Sq
open Go.RowKit Go.Proofs.YtejhmfimfgjmhaaW.PrintWords
set_option linter.unusedVariables false

/-- The iterator's contract: from state to state; what it writes of its own lies in 'own'; a round keeps 'Kp'. -/
def SeqSt {σ : Type} (F : Fence) (n : Nat) (P : Program) (g : Nat) (lb : Array Value) (own : Nat → Prop) (Rd : σ → Array Value → σ → World → World → Prop) (Kp : World → World → Prop) (s0 : σ) (End : σ → Prop) (wb w : World) : Prop :=
  ∀ (l : Nat) (J : σ → World → Prop) (W : World), Below w.heap.size w W → (∀ s A B, J s A → Kept A B own → J s B) →
    (∀ s args s' W0 W1, J s W0 → Kept W0 W1 own → Rd s args s' W0 W1 → YieldAt F (n - 1) P l args W1 fun e W' => e = .returned (.bool true) ∧ J s' W' ∧ Kp W1 W') →
    J s0 W →
    CallsIn F n P g (#[.func (.yield l) #[] #[]] ++ lb) W fun e W' => (∃ v, e = .returned v) ∧ (∃ s, End s ∧ J s W') ∧ Below wb.heap.size wb W'

variable {F : Fence} {n : Nat} {P : Program}
theorem wpIn_rangeFunc_st {σ : Type} {g : Operand} {ps : Array Tmp} {assign body : Code} {Q : Exit → Act → World → Prop} {a : Act} {w : World}
    (hro : F.round = none) (h1 : 1 ≤ n) {gf : Nat} {lb : Array Value} (hg : a.eval g = .func (.func gf) #[] lb) (hFg : F.fn gf) (eg : ∀ args w, (callFunc gf args).run P w = .ok (.enter gf args) w)
    {own : Nat → Prop} {Rd : σ → Array Value → σ → World → World → Prop} {Kp : World → World → Prop} {s0 : σ} {End : σ → Prop} {wb w0 : World} (hseq : SeqSt F (n - 1) P gf lb own Rd Kp s0 End wb w0) (hwb : wb.heap.size ≤ w.heap.size)
    (hKt : ∀ {A B C : World}, Kp A B → Kp B C → Kp A C) (hKb : ∀ (W : World) (l : Nat) (o o' : Obj), w.heap.size ≤ l → W.heap[l]? = some o → o.isCells = false → o.isWalk = false → Kp W (W.putObj l o')) (hb0 : Below w0.heap.size w0 w)
    (hps : ∀ s args s' W0 W, Rd s args s' W0 W → args.size = ps.size) (hown : ∀ k, own k → k < w.heap.size)
    (I : σ → World → Prop) (hI : OwnFrom w.heap.size I) (hI2 : ∀ s A B, I s A → Kept A B own → I s B) (h0 : I s0 w)
    (hRd : ∀ s args s' W0, OwnFrom w.heap.size (fun (_ : Unit) W => Rd s args s' W0 W)) (a₁ : Array Value → Act)
    (hassign : ∀ (l : Nat) (s : σ) (args : Array Value) (s' : σ) (W0 W : World) (K : Act → World → Prop), Rd s args s' W0 W → K (a₁ args) W →
      assign.wpIn (F.inRound l) (n - 1 - 1) P (Exit.then K (fun _ _ _ => False)) { tmps := (ps.zip args).foldl (fun t (p, v) => t.setIfInBounds p v) a.tmps, defers := [] } W)
    (hbody : ∀ (l : Nat) (s : σ) (args : Array Value) (s' : σ) (W0 W1 W : World), I s W0 → Kept W0 W1 own → (∃ l' o o', w.heap.size ≤ l' ∧ W1.heap[l']? = some o ∧ o.isCells = false ∧ W = W1.putObj l' o') → Rd s args s' W0 W →
      body.wpIn (F.inRound l) (n - 1 - 1) P (fun e _ W' => e = .normal ∧ KeepsOthers W W' ∧ Kp W W' ∧ I s' W') (a₁ args) W)
    (hdone : ∀ (D : Nat) (s : σ) (W : World), w.heap.size ≤ D → End s → I s W → Below wb.heap.size wb W → W.heap[D]? = some (.deferred (some [])) → Q .normal { a with defers := { target := .collected D, args := #[] } :: a.defers } W) :
    (Code.rangeFunc g ps assign body).wpIn F n P Q a w := by
  refine wpIn_rangeFunc ?_
  intro fn hfn
  rw [hro]
  obtain ⟨rec, hrec⟩ : ∃ rec : LoopState → Option Code → Loop, rec = fun st pe => { state := st, pending := pe, fn, tmps := a.tmps, params := ps, assign, body, defers := w.heap.size } := ⟨_, rfl⟩
  obtain ⟨W1, hW1⟩ : ∃ W1, (w.alloc (.deferred (some []))).alloc (.loop (rec .ready none)) = W1 := ⟨_, rfl⟩
  have hL1 : W1.heap[w.heap.size + 1]? = some (.loop (rec .ready none)) := by
    rw [← hW1]; have := World.alloc_heap_new (w.alloc (.deferred (some []))) (.loop (rec .ready none)); rwa [World.size_alloc] at this
  have hK1 : W1.heap[w.heap.size]? = some (.deferred (some [])) := by
    rw [← hW1]; exact (Below.heap_alloc _ _ _ (by simp)).trans (World.alloc_heap_new w _)
  have hI1 : I s0 W1 := by rw [← hW1]; exact hI.alloc _ (hI.alloc _ h0)
  have hb1 : Below w0.heap.size w0 W1 := by
    rw [← hW1]; exact hb0.trans ((((Below.refl _ w).alloc (Nat.le_refl _) _).alloc (by simp) _).mono hb0.size)
  refine ⟨w.heap.size + 1, [{ target := .collected w.heap.size, args := #[] }], W1, { target := .fn (.func gf) lb, args := #[.func (.yield (w.heap.size + 1)) #[] #[]] }, W1, gf,
    #[.func (.yield (w.heap.size + 1)) #[] #[]] ++ lb, W1, ?_, ?_, ?_, ?_, fun _ => h1, ?_⟩
  · rw [← hW1, hrec]; exact run_enterLoop_outer _ _ _ _ _
  · simp only [resolve, hg]
    simp [go_sem]
  · intro f' hf'; simp [Target.leads] at hf'; subst hf'; exact hFg
  · simp [invoke, go_sem, eg]
  · have keptOf : ∀ {A B : World} {k : Nat} {o : Obj}, A.heap[k]? = some o → ¬ own k → Kept A B own → B.heap[k]? = some o :=
      fun hk hn h => (h.2 _ (Array.getElem?_eq_some_iff.1 hk).1 hn).trans hk
    have nl : ¬ own (w.heap.size + 1) := fun h => by have := hown _ h; omega
    have nd : ¬ own w.heap.size := fun h => by have := hown _ h; omega
    refine (hseq (w.heap.size + 1)
      (fun s W => I s W ∧ W.heap[w.heap.size + 1]? = some (.loop (rec .ready none)) ∧ W.heap[w.heap.size]? = some (.deferred (some [])))
      W1 hb1 (fun s A B hs hk => ⟨hI2 s A B hs.1 hk, keptOf hs.2.1 nl hk, keptOf hs.2.2 nd hk⟩) ?_ ⟨hI1, hL1, hK1⟩).mono ?_
    · rintro s args s' W0' W ⟨hi0, hl0, hk0⟩ hkp0 hrd
      have hl := keptOf hl0 nl hkp0
      have hk := keptOf hk0 nd hkp0
      have hlt : w.heap.size + 1 < W.heap.size := (Array.getElem?_eq_some_iff.1 hl).1
      have hy := run_yield (P := P) (args := args) hl (by rw [hrec]; exact hps _ _ _ _ _ hrd)
      rw [hrec] at hy
      refine ⟨fn, _, assign, body, hy, roundIn_of_wpIn hfn (hassign _ s args s' _ W _ hrd ⟨_, run_beginRound hl (by rw [hrec]), ?_⟩)⟩
      have hl2 : (W.putObj (w.heap.size + 1) (.loop { rec .ready none with state := .busy })).heap[w.heap.size + 1]? = some (.loop { rec .ready none with state := .busy }) := World.putObj_heap_same hlt
      have hk2 : (W.putObj (w.heap.size + 1) (.loop { rec .ready none with state := .busy })).heap[w.heap.size]? = some (.deferred (some [])) := (World.putObj_heap_other (by omega)).trans hk
      have hw2 : Kp W (W.putObj (w.heap.size + 1) (.loop { rec .ready none with state := .busy })) := hKb _ _ _ _ (by omega) hl rfl rfl
      refine wpIn_mono (hbody _ s args s' W0' W _ hi0 hkp0 ⟨_, _, _, (by omega), hl, rfl, rfl⟩ ((hRd s args s' W0').putObj (s := ()) _ hrd (by omega) hl rfl)) ?_
      rintro e a3 W3 ⟨rfl, hk3, hkp3, hi3⟩
      have hl3 := hk3.same _ _ hl2 rfl
      have hr := run_endRound (P := P) none hl3
      rw [hrec] at hr
      refine ⟨_, _, hr, rfl, ⟨?_, ?_, ?_⟩, ?_⟩
      · exact hI.putObj _ hi3 (by omega) hl3 rfl
      · rw [hrec]; exact World.putObj_heap_same (Array.getElem?_eq_some_iff.1 hl3).1
      · exact (World.putObj_heap_other (by omega)).trans (hk3.same _ _ hk2 rfl)
      · exact hKt (hKt hw2 hkp3) (hKb _ _ _ _ (by omega) hl3 rfl rfl)
    · rintro e W2 ⟨⟨v, rfl⟩, ⟨s, hE, hi, hl, hk⟩, hB2⟩
      exact ⟨none, _, by have := run_endLoop (P := P) hl (by rw [hrec]; simp); rw [hrec] at this; exact this, hdone _ s _ (Nat.le_refl _) hE (hI.putObj _ hi (by omega) hl rfl) ((ownFrom_below (β := Unit) (Nat.le_refl _) hwb).putObj (s := ()) _ hB2 (by omega) hl rfl) ((World.putObj_heap_other (by omega)).trans hk)⟩
end Go.Proofs.Ytejhmfimfgjmhaa.Sq
