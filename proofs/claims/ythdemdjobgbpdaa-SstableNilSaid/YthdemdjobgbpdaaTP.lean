/- sstable's part: a part's bytes, and whether its sum is its own. -/
import Derived.Test.YthdemdjobgbpdaaP2
import Derived.Test.YthdemdjobgbpdaaP10
import Derived.Test.YthdemdjobgbpdaaP9
import Derived.Test.YthdemdjobgbpdaaP11
import Derived.Test.YthdemdjobgbpdaaBQ
import Derived.Test.YthdemdjobgbpdaaTB
import Derived.RangeFuncNested
import Derived.RangeFuncBound
import Derived.RangeFuncCalls
import Derived.RangeFuncLeaves
namespace Go.Proofs.Ythdemdjobgbpdaa.T
open Go.RowKit Go.Shelf Go.Proofs.YthdemdjobgbpdaaW.PrintWords Go.Proofs.YthdemdjobgbpdaaW.PrintLast Go.Proofs.YthdemdjobgbpdaaW.PrintMore Go.Proofs.Ythdemdjobgbpdaa.P
set_option linter.unusedVariables false
theorem cut3 (A : Option Addr) (c : Nat) (l : List Int) (lo hi : Nat) (h1 : lo ≤ hi) (h2 : hi ≤ l.length) (hc : l.length ≤ c) :
    ∃ A' : Option Addr, (∀ W : World, (Instr.slice 27 (.slice A l.length c) (some (.int .i64 (lo : Int))) (some (.int .i64 (hi : Int))) (some (.int .i64 (hi : Int)))).run Try.prog W = .ok (.slice A' ((l.take hi).drop lo).length ((l.take hi).drop lo).length) W) ∧
      (∀ W : World, Kd.C (Kd.int .u8) W A l.length l → Kd.C (Kd.int .u8) W A' ((l.take hi).drop lo).length ((l.take hi).drop lo)) := by
  obtain ⟨i5, hi5, _, hs5, _⟩ := info_parts info5
  have hel : Try.prog.elem 27 = 5 := by simp [Program.elem, Try.underlying27]
  have hu : Try.prog.underlying 27 = some (.slice (Try.prog.elem 27)) := by rw [hel]; exact Try.underlying27
  have hl : ((l.take hi).drop lo).length = hi - lo := by simp; omega
  refine ⟨if hi = lo then A else A.map (·.add lo), fun W => ?_, fun W hC => ?_⟩
  · rw [run_slice_lhm W 27 A l.length c hu .i64 .i64 .i64 (lo : Int) (hi : Int) (hi : Int) (by omega) (by omega) (by omega) (by omega), hel, hl]
    simp [sizeOf, typeInfo, hi5, hs5, sliced, Result.andThen]
  · by_cases he : hi = lo
    · rw [if_pos he]
      have e0 : (l.take hi).drop lo = l.take 0 := by rw [he]; simp
      rw [e0]
      exact Kd.C_take hC (by omega)
    · rw [if_neg he]
      have := Kd.C_mid hC h1 h2 hc (c := c)
      have hcl : c ≠ lo := by omega
      rw [if_neg hcl] at this
      simpa [Kd.int, Kd.scalar] using this
def part_f (k : Nat) (l : List Int) (a s : Nat) : Option (List Int × Bool) :=
  if a + s ≤ l.length ∧ l.length < 1000000000000 then (codec_Fixed.f k (l.drop (a + s)) 4).bind fun x => (codec_Crc.f ((l.take (a + s)).drop a)).bind fun c => (codec_Mask.f c).bind fun m => some ((l.take (a + s)).drop a, x.1 == IntKind.u64.wrap m) else none
theorem tp_w (a s : Nat) (h : a + s < 1000000000000) : wrap64 ((a : Int) + (s : Int)) = ((a + s : Nat) : Int) := by unfold wrap64; omega
set_option maxRecDepth 100000 in
set_option maxHeartbeats 4000000 in
theorem part_calls (k : Nat) (A : Option Addr) (c : Nat) (l : List Int) (a s : Nat) (r : List Int × Bool) (w : World) (hC : Kd.C (Kd.int .u8) w A l.length l) (hc : l.length ≤ c) (hf : part_f k l a s = some r) :
    Calls Try.prog 32 #[.slice A l.length c, .int .i64 (a : Int), .int .i64 (s : Int)] w fun e w' => ∃ A', e = .returned (.tuple #[.slice A' r.1.length r.1.length, .bool r.2]) ∧ (∀ W : World, Kd.C (Kd.int .u8) W A l.length l → Kd.C (Kd.int .u8) W A' r.1.length r.1) ∧ Below w.heap.size w w' := by
  unfold part_f at hf
  split at hf
  case isFalse => cases hf
  rename_i hb
  obtain ⟨z, hz⟩ : ∃ z, a + s = z := ⟨_, rfl⟩
  have hw : wrap64 ((a : Int) + (s : Int)) = (z : Int) := by rw [← hz]; exact tp_w a s (by omega)
  rw [hz] at hb hf
  have hza : a ≤ z := by clear hw; omega
  clear hz
  obtain ⟨⟨x, kx⟩, hx, hf⟩ := Option.bind_eq_some_iff.mp hf
  obtain ⟨cr, hcr, hf⟩ := Option.bind_eq_some_iff.mp hf
  obtain ⟨m, hm, hf⟩ := Option.bind_eq_some_iff.mp hf
  injection hf with hf
  subst hf
  obtain ⟨i5, hi5, _, hs5, _⟩ := info_parts info5
  obtain ⟨A2, hcut, hrd, hcp⟩ := print_drop_of (P := Try.prog) (Value.int .u8) (0 : Int) 27 5 .i64 Try.underlying27 hi5 hs5 A c l (z : Int) (by clear hw; omega) (by clear hw; omega) hc
  obtain ⟨A3, hcut3, hrd3⟩ := cut3 A c l a z hza hb.1 hc
  rw [Int.toNat_natCast] at hcut hrd hcp
  have HR2 := Aside0.mk (show ∀ W : World, Kd.C (Kd.int .u8) W A l.length l → Kd.C (Kd.int .u8) W A2 (l.drop z).length (l.drop z) from fun W hW => Kd.C_of_reads (h1 := fun _ => rfl) (hrd W (Kd.reads_of_C hW)))
  have HR3 := Aside0.mk hrd3
  have HC2 := Aside0.mk hcp
  have HR := Aside0.mk hC
  have HX := Aside0.mk hx
  have HCR := Aside0.mk hcr
  have HM := Aside0.mk hm
  obtain ⟨D, hD⟩ : ∃ x, l.drop z = x := ⟨_, rfl⟩
  obtain ⟨M, hM⟩ : ∃ x, (l.take z).drop a = x := ⟨_, rfl⟩
  rw [hD] at HR2 HC2 hcut HX
  rw [hM] at HR3 hcut3 HCR ⊢
  clear hC hc hrd hrd3 hcp hx hcr hm hb hD hM hza
  go_enter Try.func32, Try.ntmps32
  go_wp2_with (first
    | (go_at_call 31; with_reducible refine (codec_Fixed.calls k A2 _ D 4 x kx _ (HR2.out _ HR.out) HC2.out HX.out).mono ?_; rintro ex w2 ⟨rfl, ⟨nd, rfl⟩⟩; have HB := Aside0.mk (pw_below_drewN (Below.refl w.heap.size w) nd))
    | (go_at_call 48; with_reducible refine (codec_Crc.calls A3 _ M cr _ (HR3.out _ (Kd.C_below HR.out HB.out)) (Nat.le_refl _) HCR.out).mono ?_; rintro ex w3 ⟨rfl, hb⟩; have HB2 := Aside0.mk (below_step HB.out hb); clear hb)
    | (go_at_call 47; with_reducible refine (codec_Mask.calls cr m _ HM.out).mono ?_; rintro ex w4 ⟨rfl, ⟨nd2, rfl⟩⟩; have HB3 := Aside0.mk (pw_below_drewN HB2.out nd2)))
  go_ret2
  refine ⟨A3, ?_, HR3.out, HB3.out⟩
  first | rfl | simp
end Go.Proofs.Ythdemdjobgbpdaa.T
namespace Go.Proofs.Ythdemdjobgbpdaa.T
open Go Go.RowKit
/-- the iterator's promise: every element is handed over in a world in which Rx is known of it -/
def SeqTold {α : Type} (F : Fence) (n : Nat) (P : Program) (g : Nat) (lb : Array Value) (encs : α → Array Value) (Rx : List α → α → Nat → World → Prop) (Kp : World → World → Prop) (S : List α → Prop) (w : World) : Prop :=
  ∀ (l : Nat) (J : List α → World → Prop) (W : World), Below w.heap.size w W → AbidesFrom W.heap.size J →
    (∀ pre x W0 W1, J pre W0 → Below W0.heap.size W0 W1 → Rx pre x W0.heap.size W1 → YieldAt F (n - 1) P l (encs x) W1 fun e W' => e = .returned (.bool true) ∧ J (pre ++ [x]) W' ∧ Kp W1 W') →
    J [] W → CallsIn F n P g (#[.func (.yield l) #[] #[]] ++ lb) W fun e W' => (∃ v, e = .returned v) ∧ ∃ xs, S xs ∧ J xs W'
/-- the loop's record -/
def recOf (fn : FuncId) (tmps : Array Value) (ps : Array Tmp) (assign body : Code) (D : Nat) (st : LoopState) : Obj := .loop { state := st, pending := none, fn, tmps, params := ps, assign, body, defers := D }
section
variable {F : Fence} {n : Nat} {P : Program} {α : Type}
/-- what a round's body owes -/
def ToldPost (Kp : World → World → Prop) (I : World → Prop) (W : World) (e : Exit) (_ : Act) (W' : World) : Prop := e = .normal ∧ KeepsOthers W W' ∧ Kp W W' ∧ I W'
theorem range_told {g : Operand} {ps : Array Tmp} {assign body : Code} {Q : Exit → Act → World → Prop} {a : Act} {w : World}
    (hro : F.round = none) (h1 : 1 ≤ n) {gf : Nat} {lb : Array Value} (hg : a.eval g = .func (.func gf) #[] lb) (hFg : F.fn gf) (eg : ∀ args w, (callFunc gf args).run P w = .ok (.enter gf args) w)
    {encs : α → Array Value} {Rx : List α → α → Nat → World → Prop} {Kp : World → World → Prop} {S : List α → Prop} (hseq : SeqTold F (n - 1) P gf lb encs Rx Kp S w)
    (hKt : ∀ {A B C : World}, Kp A B → Kp B C → Kp A C) (hKb : ∀ (W : World) (l : Nat) (o o' : Obj), w.heap.size ≤ l → W.heap[l]? = some o → o.isCells = false → o.isWalk = false → Kp W (W.putObj l o')) (hps : ∀ x, (encs x).size = ps.size)
    (I : List α → World → Prop) (hI : OwnFrom w.heap.size I) (h0 : I [] w)
    (hround : ∀ (l : Nat) (pre : List α) (x : α) (W0 W : World), I pre W0 → Below W0.heap.size W0 W → Rx pre x W0.heap.size W →
      assign.wpIn (F.inRound l) (n - 1 - 1) P (Exit.then (fun a₁ W1 => KeepsOthers W W1 ∧ Kp W W1 ∧
          ∀ W2, W1.grownBy W2 (some l) → (∀ r : Nat, some l = some r → w.heap.size ≤ r ∧ ∃ o : Obj, W1.heap[r]? = some o ∧ o.isCells = false) → body.wpIn (F.inRound l) (n - 1 - 1) P (ToldPost Kp (I (pre ++ [x])) W2) a₁ W2) (fun _ _ _ => False))
        { tmps := (ps.zip (encs x)).foldl (fun t (p, v) => t.setIfInBounds p v) a.tmps, defers := [] } W)
    (hdone : ∀ (D : Nat) (xs : List α) (W : World), w.heap.size ≤ D → S xs → I xs W → W.heap[D]? = some (.deferred (some [])) → Q .normal { a with defers := { target := .collected D, args := #[] } :: a.defers } W) :
    (Code.rangeFunc g ps assign body).wpIn F n P Q a w := by
  refine wpIn_rangeFunc fun fn hfn => ?_
  rw [hro]
  let D := w.heap.size
  let l := w.heap.size + 1
  obtain ⟨ob, hob⟩ : ∃ ob : LoopState → Obj, ob = recOf fn a.tmps ps assign body w.heap.size := ⟨_, rfl⟩
  obtain ⟨V, hV⟩ : ∃ V, (w.alloc (.deferred (some []))).alloc (ob .ready) = V := ⟨_, rfl⟩
  have hcl : ∀ st, (ob st).isCells = false := fun st => by rw [hob]; rfl
  have hnw : ∀ st, (ob st).isWalk = false := fun st => by rw [hob]; rfl
  have hVl : V.heap[w.heap.size + 1]? = some (ob .ready) := by
    have := World.alloc_heap_new (w.alloc (.deferred (some []))) (ob .ready)
    rw [World.size_alloc, hV] at this
    exact this
  have hVD : V.heap[w.heap.size]? = some (.deferred (some [])) := by
    rw [← hV]
    exact (Below.heap_alloc _ _ _ (by simp)).trans (World.alloc_heap_new w _)
  have hIV : I [] V := by rw [← hV]; exact hI.alloc _ (hI.alloc _ h0)
  have hBV : Below w.heap.size w V := by
    rw [← hV]
    exact ((Below.refl _ w).alloc (Nat.le_refl _) _).alloc (by simp) _
  refine ⟨w.heap.size + 1, [{ target := .collected w.heap.size, args := #[] }], V, { target := .fn (.func gf) lb, args := #[.func (.yield (w.heap.size + 1)) #[] #[]] }, V, gf, #[.func (.yield (w.heap.size + 1)) #[] #[]] ++ lb, V, ?_, ?_, ?_, ?_, fun _ => h1, ?_⟩
  · rw [← hV, hob]
    exact run_enterLoop_outer _ _ _ _ _
  · simp only [resolve, hg]
    simp [go_sem]
  · intro f' hf'
    simp [Target.leads] at hf'
    subst hf'
    exact hFg
  · simp [invoke, go_sem, eg]
  · have turn : ∀ {A B : World} (st st' : LoopState), A.heap[w.heap.size + 1]? = some (ob st) → B = A.putObj (w.heap.size + 1) (ob st') →
        A.grownBy B (some (w.heap.size + 1)) ∧ B.heap[w.heap.size + 1]? = some (ob st') ∧ (∀ k, k ≠ w.heap.size + 1 → B.heap[k]? = A.heap[k]?) ∧ (∀ r, some (w.heap.size + 1) = some r → w.heap.size ≤ r ∧ ∃ o : Obj, A.heap[r]? = some o ∧ o.isCells = false) := by
      rintro A B st st' hA rfl
      exact ⟨grownBy_putObj' _ _ _, World.putObj_heap_same (Array.getElem?_eq_some_iff.1 hA).1, fun k hk => World.putObj_heap_other hk, fun r e => by cases e; exact ⟨by omega, _, hA, hcl st⟩⟩
    refine (hseq (w.heap.size + 1) (fun pre W => I pre W ∧ W.heap[w.heap.size + 1]? = some (ob .ready) ∧ W.heap[w.heap.size]? = some (.deferred (some []))) V hBV ?_ ?_ ⟨hIV, hVl, hVD⟩).mono ?_
    · intro s A B row hs hgr hr
      have hr2 : ∀ r, row = some r → ∃ o : Obj, A.heap[r]? = some o ∧ o.isWalk = true := fun r e => (hr r e).2
      refine ⟨hI s A B row hs.1 hgr (fun r e => ?_), (grownBy_keeps hgr hr2 hs.2.1 (hnw _)).trans hs.2.1, (grownBy_keeps hgr hr2 hs.2.2 rfl).trans hs.2.2⟩
      obtain ⟨hB, o, ho, hw⟩ := hr r e
      have := hBV.size
      exact ⟨by omega, o, ho, Obj.not_cells_of_walk hw⟩
    · rintro pre x W0 W1 ⟨hi, hl0, hD0⟩ hb01 hx
      have hl := (hb01.block _ (Array.getElem?_eq_some_iff.1 hl0).1).trans hl0
      have hD := (hb01.block _ (Array.getElem?_eq_some_iff.1 hD0).1).trans hD0
      have hl' := hl
      rw [hob] at hl'
      refine ⟨fn, _, assign, body, run_yield hl' (hps x), roundIn_of_wpIn hfn (wpIn_mono (hround (w.heap.size + 1) pre x W0 W1 hi hb01 hx) ?_)⟩
      intro e a₁ W2 hp
      match e, hp with
      | .normal, ⟨hk, hKp, hbody⟩ =>
      have hl2 := hk.same _ _ hl (hcl _)
      have hD2 := hk.same _ _ hD rfl
      obtain ⟨t1, t2, t3, t4⟩ := turn .ready .busy hl2 rfl
      have hbr : (Instr.beginRound (w.heap.size + 1)).run P W2 = .ok () (W2.putObj (w.heap.size + 1) (ob .busy)) := by
        have h2 := hl2
        rw [hob] at h2 ⊢
        exact run_beginRound h2 rfl
      refine ⟨_, hbr, wpIn_mono (hbody _ t1 t4) ?_⟩
      rintro e3 a3 W3 ⟨rfl, hk3, hKp3, hi3⟩
      have hl3 := hk3.same _ _ t2 (hcl _)
      have hD3 := hk3.same _ _ ((t3 _ (by omega)).trans hD2) rfl
      obtain ⟨u1, u2, u3, u4⟩ := turn .busy .ready hl3 rfl
      have her : (Instr.endRound (w.heap.size + 1) none).run P W3 = .ok (.bool true) (W3.putObj (w.heap.size + 1) (ob .ready)) := by
        have h3 := hl3
        rw [hob] at h3 ⊢
        exact run_endRound none h3
      exact ⟨_, _, her, rfl, ⟨hI _ _ _ _ hi3 u1 u4, u2, (u3 _ (by omega)).trans hD3⟩, hKt hKp (hKt (hKb _ _ _ _ (by omega) hl2 (hcl _) (hnw _)) (hKt hKp3 (hKb _ _ _ _ (by omega) hl3 (hcl _) (hnw _))))⟩
    · rintro e W2 ⟨⟨v, rfl⟩, xs, hS, hi, hl, hD⟩
      obtain ⟨u1, u2, u3, u4⟩ := turn .ready .exhausted hl rfl
      have hel : (Instr.endLoop (w.heap.size + 1)).run P W2 = .ok none (W2.putObj (w.heap.size + 1) (ob .exhausted)) := by
        have h3 := hl
        rw [hob] at h3 ⊢
        exact run_endLoop h3 (by simp)
      exact ⟨none, _, hel, hdone _ xs _ (Nat.le_refl _) hS (hI _ _ _ _ hi u1 u4) ((u3 _ (by omega)).trans hD)⟩
end
end Go.Proofs.Ythdemdjobgbpdaa.T
