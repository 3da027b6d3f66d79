/- sstable's Build: what it comes to. -/
import Derived.Test.YthdemdjobgbpdaaTC
import Derived.Test.YthdemdjobgbpdaaTB
import Derived.Test.YthdemdjobgbpdaaP8
import Derived.Test.YthdemdjobgbpdaaP11
import Derived.Test.YthdemdjobgbpdaaP4
namespace Go.Proofs.Ythdemdjobgbpdaa.T
open Go.RowKit Go.Shelf Go.Proofs.YthdemdjobgbpdaaW.PrintWords Go.Proofs.YthdemdjobgbpdaaW.PrintLast Go.Proofs.YthdemdjobgbpdaaW.PrintMore Go.Proofs.Ythdemdjobgbpdaa.P Go.Proofs.Ythdemdjobgbpdaa.B Go.Proofs.Ythdemdjobgbpdaa.Q
attribute [local go_sem] Oper.semAt_some
set_option linter.unusedVariables false
set_option linter.unusedSimpArgs false
def tab_step (k : Nat) : List (S45 × List Int) → List Int → List S47 → Option (List Int × List S47)
  | [], out, idx => some (out, idx)
  | x :: t, out, idx => if idx.length < 1000 then (codec_PutUvarint.f k [] (IntKind.u64.wrap (out.length : Int))).bind fun p1 => (codec_PutUvarint.f k p1 (IntKind.u64.wrap (x.2.length : Int))).bind fun p2 => (sstable_summed.f k out x.2).bind fun out2 => tab_step k t out2 (idx ++ [⟨x.1, strOfNums p2⟩]) else none
def tab_parts (k : Nat) : List (List Int) → List Int → List Int → Option (List Int × List Int)
  | [], out, tail => some (out, tail)
  | p :: t, out, tail => (codec_PutFixed.f k tail (IntKind.u64.wrap (out.length : Int)) 4).bind fun t1 => (codec_PutFixed.f k t1 (IntKind.u64.wrap (p.length : Int)) 4).bind fun t2 => (sstable_summed.f k out p).bind fun out2 => tab_parts k t out2 t2
def tabMagic : ByteArray := ⟨#[115, 116, 97, 100, 100, 108, 101, 49]⟩
def tab_f (k g : Nat) (l : List S47) (blk iv : Int) (fb : Nat) : Option (List Int × Int) :=
  if blk < 1 then some ([], 1) else if 65536 < blk then some ([], 1) else if iv < 1 then some ([], 1) else if 16 < iv then some ([], 1) else
  if l.length ≤ 300 then (bloomB k (l.map fun x => x.f0.f0) fb).bind fun f => if f.2 ≠ 0 then some ([], f.2) else if l.length = 0 then some ([], 120) else
    (block_Build.f k l iv).bind fun b => if b.2 ≠ 0 then some ([], b.2) else
    (cuts_g k l blk iv g 0 1).bind fun cs => (tab_step k cs [] []).bind fun oi => (block_Build.f k oi.2 1).bind fun x => (tab_parts k [f.1, x.1] oi.1 []).bind fun ot =>
    (codec_PutFixed.f k ot.2 (IntKind.u64.wrap (l.length : Int)) 4).bind fun tl => if ot.1.length + tl.length < 1000000000000 then some (ot.1 ++ tl ++ bytesOf tabMagic, 0) else none
  else none
theorem info9 : (Try.prog.info? 9).map (fun i => (i.zero, i.size, i.bytes)) = some (some (.string ⟨#[]⟩), 1, 16) := by kernel_rfl
theorem tab_step_append (k : Nat) : ∀ (a b : List (S45 × List Int)) (o : List Int) (i : List S47), tab_step k (a ++ b) o i = (tab_step k a o i).bind fun x => tab_step k b x.1 x.2
  | [], b, o, i => rfl
  | x :: a, b, o, i => by
    simp only [List.cons_append, tab_step]
    split
    · cases codec_PutUvarint.f k [] (IntKind.u64.wrap (o.length : Int)) with
      | none => rfl
      | some p1 =>
        simp only [Option.bind_some]
        cases codec_PutUvarint.f k p1 (IntKind.u64.wrap (x.2.length : Int)) with
        | none => rfl
        | some p2 =>
          simp only [Option.bind_some]
          cases sstable_summed.f k o x.2 with
          | none => rfl
          | some o2 =>
            simp only [Option.bind_some]
            exact tab_step_append k a b o2 _
    · rfl
/-- what stands between two rounds -/
def CutI (k n₀ n1 go gi : Nat) (w : World) (A : Option Addr) (c : Nat) (fl : List Int) (pre : List CutEl) (W : World) : Prop :=
  (∃ out idx vo vi, tab_step k (pre.map CutEl.out) [] [] = some (out, idx) ∧ W.heap[go]? = some (.cells #[vo] 27 (0, 0)) ∧ Kd.R (Kd.int .u8) 5 W n₀ (fun k_ => n1 ≤ k_) vo out ∧
    W.heap[gi]? = some (.cells #[vi] 23 (0, 0)) ∧ Kd.R k47 47 W n₀ (fun k_ => n1 ≤ k_) vi idx ∧ Kd.R (Kd.int .u8) 5 W n₀ (fun k_ => k_ < n1) (.slice A fl.length c) fl ∧ n1 ≤ W.heap.size) ∧ Below n₀ w W
theorem R_turnK {W W' : World} {B e base : Nat} {ok : Nat → Prop} {v : Value} {xs : List S47} {row : Option Nat} (h : Kd.R k47 e W base ok v xs) (hg : W.grownBy W' row) (hr : ∀ r, row = some r → B ≤ r ∧ ∃ o : Obj, W.heap[r]? = some o ∧ o.isCells = false) : Kd.R k47 e W' base ok v xs :=
  Kd.R_mono (Kd.R_grown (Kd.R_bound h) hg (fun k hk he => by
    obtain ⟨_, _, _, q, hq, cells, hc⟩ := hk
    obtain ⟨_, o, ho, hi⟩ := hr k he.symm
    rw [hc] at ho
    injection ho with ho
    subst ho
    cases hi)) (fun _ hk => hk.1)
theorem blk_turn {W W' : World} {B g : Nat} {cs : Array Value} {t : TypeId} {row : Option Nat} (h : W.heap[g]? = some (.cells cs t (0, 0))) (hg : W.grownBy W' row) (hr : ∀ r, row = some r → B ≤ r ∧ ∃ o : Obj, W.heap[r]? = some o ∧ o.isCells = false) : W'.heap[g]? = some (.cells cs t (0, 0)) :=
  (hg.block g (blk_lt2 h) (fun e => by
    obtain ⟨_, o, ho, hi⟩ := hr g e.symm
    rw [h] at ho
    injection ho with ho
    subst ho
    cases hi)).trans h
theorem cutI_own {k n₀ n1 go gi B : Nat} {w : World} {A : Option Addr} {c : Nat} {fl : List Int} (hn : n₀ ≤ w.heap.size) (hB : n₀ ≤ B) : OwnFrom B (CutI k n₀ n1 go gi w A c fl) := by
  refine OwnFrom.and (fun s X Y row hs hg hr => ?_) (ownFrom_below hn hB)
  obtain ⟨out, idx, vo, vi, h1, h2, h3, h4, h5, h6, h7⟩ := hs
  exact ⟨out, idx, vo, vi, h1, blk_turn h2 hg hr, R_turn h3 hg hr, blk_turn h4 hg hr, R_turnK h5 hg hr, R_turn h6 hg hr, Nat.le_trans h7 hg.size⟩
/-! ### what a round's steps keep -/
structure Keep3 (n₀ b1 b2 : Nat) (A B : World) : Prop where
  ko : KeepsOthers A B
  ck : CutKeep n₀ b1 b2 A B
section
variable {n₀ b1 b2 : Nat} {X Y Z : World}
theorem Keep3.trans (h : Keep3 n₀ b1 b2 X Y) (k : Keep3 n₀ b1 b2 Y Z) : Keep3 n₀ b1 b2 X Z := ⟨h.ko.trans k.ko, h.ck.trans k.ck⟩
theorem Keep3.below (h : Below X.heap.size X Y) (hn : n₀ ≤ X.heap.size) (h1 : b1 < X.heap.size) (h2 : b2 < X.heap.size) : Keep3 n₀ b1 b2 X Y :=
  ⟨⟨h.size, fun k o e _ => (h.block k (blk_lt2 e)).trans e⟩, CutKeep.of_below h hn h1 h2⟩
theorem Keep3.set {g : Nat} (v : Value) (hn : n₀ ≤ g) (h1 : b1 ≠ g) (h2 : b2 ≠ g) : Keep3 n₀ b1 b2 X (X.setCell ⟨g, 0, none⟩ v) :=
  ⟨KeepsOthers.setCell _ _ _, (Below.refl n₀ X).setCell (p := ⟨g, 0, none⟩) hn _, Below.heap_setCell _ _ _ _ h1, Below.heap_setCell _ _ _ _ h2⟩
theorem Keep3.grown {row : Option Nat} (hg : X.grownBy Y row) (hc : ∀ r, row = some r → n₀ ≤ r ∧ r ≠ b1 ∧ r ≠ b2 ∧ ∃ cells e, X.heap[r]? = some (.cells cells e (0, 0))) (hn : n₀ ≤ X.heap.size) (h1 : b1 < X.heap.size) (h2 : b2 < X.heap.size) : Keep3 n₀ b1 b2 X Y :=
  ⟨KeepsOthers.of_grownBy hg (fun j o e ho => by
    obtain ⟨_, _, _, cells, e2, hc2⟩ := hc j e
    rw [hc2] at ho
    injection ho with ho
    subst ho
    rfl), (Below.refl n₀ X).grown hg hn (fun r e => (hc r e).1), hg.block b1 h1 (fun e => (hc b1 e.symm).2.1 rfl), hg.block b2 h2 (fun e => (hc b2 e.symm).2.2.1 rfl)⟩
theorem Keep3.kept {S : Nat → Prop} (hk : Kept X Y S) (hb : Below n₀ X Y) (hc : ∀ r, S r → r ≠ b1 ∧ r ≠ b2 ∧ (r < X.heap.size → ∃ cells e, X.heap[r]? = some (.cells cells e (0, 0))) ∧ (∀ o, X.heap[r]? = some o → o.isCells = true)) (h1 : b1 < X.heap.size) (h2 : b2 < X.heap.size) : Keep3 n₀ b1 b2 X Y :=
  ⟨⟨hk.1, fun k o e ho => by
    by_cases hs : S k
    · have := (hc k hs).2.2.2 o e
      rw [this] at ho
      cases ho
    · exact (hk.2 k (blk_lt2 e) hs).trans e⟩, hb, hk.2 b1 h1 (fun hs => (hc b1 hs).1 rfl), hk.2 b2 h2 (fun hs => (hc b2 hs).2.1 rfl)⟩
end
section
variable {F : Fence} {n : Nat} {P : Program} {ops : Array Oper} {rest : List Oper} {o : Oper} {a : Act} {Q : Exit → Act → World → Prop} {α : Type}
/-- append of one element to a row of one's own, inside a round -/
theorem R_append_in (d : Kd α) {W : World} (base : Nat) (hgd : o.guard = none) (s x : Operand) (t e : TypeId) (z : Value) (bytes : Nat)
    (ho : o.op = .call { callee := .builtin .append, args := #[s, x], argTypes := #[t, t] })
    (ht : P.underlying t = some (.slice e)) (hinfo : (P.info? e).map (fun i => (i.zero, i.size, i.bytes)) = some (some z, d.sz, bytes)) (hz : z.cells.size = d.sz) (hs0 : 0 < d.sz) (hb0 : 0 < bytes)
    (v : Value) (xs : List α) (p : α) (cs : List Value) (ok okp : Nat → Prop) (hs : a.eval s = v) (hx : a.eval x = .slice (some ⟨W.heap.size, 0, none⟩) 1 1) (hp : d.M W base okp p cs) (hokp : ∀ k, okp k → ok k ∧ some k ≠ v.ownBlock) (hfresh : ∀ k, W.heap.size ≤ k → ok k)
    (HO : d.R e W base ok v xs) (hbase : base ≤ W.heap.size) (hl : (xs.length + 1) * bytes ≤ 140737488355328)
    (h : ∀ v1 w1, d.R e w1 base ok v1 (xs ++ [p]) → W.grownBy w1 v.ownBlock → wpListIn F n P ops Q rest (a.put o.dst v1) w1) :
    wpListIn F n P ops Q (o :: rest) a (W.alloc (.cells cs.toArray e)) := by
  obtain ⟨h0, inner, hown, hr⟩ := HO
  obtain ⟨i0, hi, hzz⟩ := Option.map_eq_some_iff.1 hinfo
  simp only [Prod.mk.injEq] at hzz
  obtain ⟨hz0, hz1, hz2⟩ := hzz
  have hlen : xs.length + 1 ≤ 140737488355328 := Nat.le_trans (Nat.le_mul_of_pos_right _ hb0) hl
  have hcl : cs.length = d.sz := d.K_len (d.K_of_M hp)
  obtain ⟨v1, w1, hrun, h2, h3, _, h5⟩ := run_append_own_at (P := P) (W.alloc (.cells cs.toArray e)) base t o.type e i0 z d.sz bytes ht hi hz0 hz1 hz2 hz hs0 v xs.length inner (hown.alloc _) ⟨W.heap.size, 0, none⟩ 1 1 cs (by rw [hcl]; simp)
    (by simpa using World.news_of_block (cs := cs.toArray) (t := e) (fr := (0, 0)) (World.alloc_heap_new W (.cells cs.toArray e))) (d.K_one (d.K_of_M hp)) (by simp only [maxLen]; omega) hl (by simp; omega)
  have hg := World.grownBy.trans (World.grownBy_alloc W (.cells cs.toArray e) _) h3
  have hR := Kd.R_appended h0 hr hp hokp hfresh h2 hg (by
    rcases h5 with h5 | h5
    · exact .inl h5
    · exact .inr ⟨_, h5, by simp⟩)
  refine wpListIn_plain hgd fun K hK' => ?_
  unfold Oper.wpIn
  refine ⟨?_, ?_⟩
  · simp [Oper.about, ho, resolve, Target.leads, Sem.run_pure]
  · rw [Oper.semAt_plain F _ _ (by rw [ho]; intro c hc'; cases hc')]
    simp [execOp, ho, resolve, invoke, builtin, hs, hx, hrun, Result.andThen]
    exact hK' _ _ (h v1 w1 hR hg)
end
/-- a row of other blocks is kept -/
theorem R_kept {α : Type} {d : Kd α} {e base : Nat} {S ok : Nat → Prop} {w W : World} {v : Value} {xs : List α} (h : Kd.R d e w base ok v xs) (hok : ∀ k, ok k → ¬ S k) (hk : Kept w W S) : Kd.R d e W base ok v xs := Kd.R_step h (fun k ho hlt => hk.2 k hlt (hok k ho))
theorem R_kept_ty {α : Type} {d : Kd α} {e e' base : Nat} {S ok : Nat → Prop} {w W : World} {v : Value} {xs : List α} (h : Kd.R d e w base ok v xs) (hS : ∀ k, S k → ∃ cells, w.heap[k]? = some (.cells cells e' (0, 0))) (ht : ∀ q, q ∈ e :: d.E → q ≠ e') (hk : Kept w W S) : Kd.R d e W base ok v xs :=
  Kd.R_mono (R_kept (Kd.R_bound h) (fun k ho hs => by
    obtain ⟨_, _, _, q, hq, cells, hc⟩ := ho
    obtain ⟨c2, hc2⟩ := hS k hs
    rw [hc] at hc2
    injection hc2 with hc2
    injection hc2 with _ hc2
    exact ht q hq hc2) hk) (fun _ hk => hk.1)
theorem below_between {n₀ : Nat} {w X Y : World} (h : Below n₀ w X) (k : Below n₀ w Y) (hn : n₀ ≤ w.heap.size) (hs : X.heap.size ≤ Y.heap.size) : Below n₀ X Y :=
  ⟨k.os.trans h.os.symm, k.tape.trans h.tape.symm, k.output.trans h.output.symm, hs, fun i hi => (k.block i hi).trans (h.block i hi).symm⟩
theorem ty_k47 {e' : Nat} (h : 47 ≠ e') : ∀ q, q ∈ 47 :: k47.E → q ≠ e' := by
  intro q hq
  rcases List.mem_cons.1 hq with rfl | hq
  · exact h
  · exact absurd hq (by simp [k47, k45, Kd.iso, Kd.pair, Kd.string, Kd.int, Kd.scalar])
theorem ty_u8 {e' : Nat} (h : 5 ≠ e') : ∀ q, q ∈ 5 :: (Kd.int .u8).E → q ≠ e' := by
  intro q hq
  rcases List.mem_cons.1 hq with rfl | hq
  · exact h
  · exact absurd hq (by simp [Kd.int, Kd.scalar])
theorem putu_in (k : Nat) (A : Option Addr) (c n : Nat) (l0 : List Int) (a1 : Int) (r : List Int) (w : World) (lr : Nat) (hl : l0.length = n) (hr0 : Kd.C (Kd.int .u8) w A l0.length l0) (hc : n ≤ c) (h : codec_PutUvarint.f k l0 a1 = some r) :
    CallsIn (Fence.wide.inRound lr) 0 Try.prog 21 #[.slice A n c, .int .u64 a1] w fun e w' => ∃ v0_ : Value, e = .returned (v0_) ∧ Kd.R (Kd.int .u8) 5 w' w.heap.size (fun _ => True) v0_ r ∧ Below w.heap.size w w' := by
  subst hl
  exact CallsIn.inRound lr (callsIn_wide.2 (codec_PutUvarint.calls k A c l0 a1 r w hr0 hc h))
theorem putf_in (k : Nat) (A : Option Addr) (c n : Nat) (l0 : List Int) (a1 a2 : Int) (r : List Int) (w : World) (hl : l0.length = n) (hr0 : Kd.C (Kd.int .u8) w A l0.length l0) (hc : n ≤ c) (h : codec_PutFixed.f k l0 a1 a2 = some r) :
    CallsIn Fence.wide 0 Try.prog 23 #[.slice A n c, .int .u64 a1, .int .i64 a2] w fun e w' => ∃ v0_ : Value, e = .returned (v0_) ∧ Kd.R (Kd.int .u8) 5 w' w.heap.size (fun _ => True) v0_ r ∧ Below w.heap.size w w' := by
  subst hl
  exact callsIn_wide.2 (codec_PutFixed.calls k A c l0 a1 a2 r w hr0 hc h)
theorem summed_in (k : Nat) (P : Nat → Prop) (u : Value) (l0 : List Int) (A1 : Option Addr) (c1 : Nat) (l1 : List Int) (r : List Int) (w0 w : World) (lr : Nat) (hB : Below w0.heap.size w0 w) (ho0 : Kd.R (Kd.int .u8) 5 w w0.heap.size P u l0) (hr1 : ∀ W_, Kept w W_ (fun k_ => P k_) → Kd.C (Kd.int .u8) W_ A1 l1.length l1) (hc1 : l1.length ≤ c1) (h : sstable_summed.f k l0 l1 = some r) :
    CallsIn (Fence.wide.inRound lr) 0 Try.prog 22 #[u, .slice A1 l1.length c1] w fun e w' => ∃ v0_ : Value, e = .returned (v0_) ∧ Kd.R (Kd.int .u8) 5 w' w0.heap.size (fun k_ => (P k_ ∨ w.heap.size ≤ k_)) v0_ r ∧ Below w0.heap.size w0 w' ∧ Kept w w' (fun k_ => P k_) :=
  CallsIn.inRound lr (callsIn_wide.2 (sstable_summed.calls k P u l0 A1 c1 l1 r w0 w hB ho0 hr1 hc1 h))
theorem R_setbox {α : Type} {d : Kd α} {e base t g j : Nat} {ok : Nat → Prop} {w : World} {v u : Value} {xs : List α} {cells : Array Value} (h : Kd.R d e w base ok v xs) (hb : w.heap[g]? = some (.cells cells t (0, 0))) (ht : ∀ q, q ∈ e :: d.E → q ≠ t) : Kd.R d e (w.setCell ⟨g, j, none⟩ u) base ok v xs :=
  Kd.R_mono (Kd.R_move (Kd.R_types h hb ht) (fun k_ hk => Below.heap_setCell _ _ _ k_ hk.2)) (fun _ hk => hk.1)
theorem blk_setne {g g' j : Nat} {w : World} {u : Value} {o : Obj} (h : w.heap[g]? = some o) (hn : g ≠ g') : (w.setCell ⟨g', j, none⟩ u).heap[g]? = some o := (Below.heap_setCell _ _ _ _ hn).trans h
theorem R_self {e base : Nat} {w : World} {ok : Nat → Prop} {v : Value} {xs : List Int} (h : Kd.R (Kd.int .u8) e w base ok v xs) : Kd.R (Kd.int .u8) e w base (fun q => v.ownBlock = some q) v xs :=
  Kd.R_of_own (enc := Value.int .u8) (h1 := fun _ => rfl) (Kd.own_of_R (enc := Value.int .u8) (h1 := fun _ => rfl) h) (fun _ e => e)
/-- what stands between two rounds of the parts -/
structure PartI (n0 n1 go gr D : Nat) (w : World) (Af : Option Addr) (cf : Nat) (fl : List Int) (Ax : Option Addr) (cx : Nat) (xb : List Int) (W : World) (vo : Value) (out : List Int) (At : Option Addr) (ct : Nat) (tl : List Int) : Prop where
  xo : W.heap[go]? = some (.cells #[vo] 27 (0, 0))
  ro : Kd.R (Kd.int .u8) 5 W n0 (fun q => n1 ≤ q) vo out
  rf : Kd.R (Kd.int .u8) 5 W n0 (fun q => q < n1) (.slice Af fl.length cf) fl
  rx : Kd.R (Kd.int .u8) 5 W n0 (fun _ => True) (.slice Ax xb.length cx) xb
  nx : ∀ q, vo.ownBlock = some q → (Value.slice Ax xb.length cx).ownBlock ≠ some q
  rt : Kd.R (Kd.int .u8) 5 W n0 (fun _ => True) (.slice At tl.length ct) tl
  br : W.heap[gr]? = some (.cells #[.slice Af fl.length cf, .slice Ax xb.length cx] 27 (0, 0))
  dk : W.heap[D]? = some (.deferred (some []))
  hb : Below n0 w W
  hz : n1 ≤ W.heap.size
theorem PartI.pick {n0 n1 go gr D : Nat} {w W : World} {Af Ax At : Option Addr} {cf cx ct : Nat} {fl xb out tl : List Int} {vo : Value} (h : PartI n0 n1 go gr D w Af cf fl Ax cx xb W vo out At ct tl) {i : Nat} (hi : i < 2) :
    ∃ Ap cp p, [fl, xb].drop i = p :: [fl, xb].drop (i + 1) ∧ W.cell? ⟨gr, i, none⟩ = some (.slice Ap p.length cp) ∧ Kd.R (Kd.int .u8) 5 W n0 (fun q => vo.ownBlock ≠ some q) (.slice Ap p.length cp) p := by
  rcases (show i = 0 ∨ i = 1 by omega) with rfl | rfl
  · exact ⟨Af, cf, fl, rfl, (blk_cell h.br 0).trans rfl, Kd.R_mono h.rf (fun q hq e => absurd (h.ro.1 q e) (by omega))⟩
  · exact ⟨Ax, cx, xb, rfl, (blk_cell h.br 1).trans rfl, Kd.R_mono (R_self h.rx) (fun q hq e => h.nx q e hq)⟩
theorem PartI.below {n0 n1 go gr D : Nat} {w W W' : World} {Af Ax At : Option Addr} {cf cx ct : Nat} {fl xb out tl : List Int} {vo : Value} (h : PartI n0 n1 go gr D w Af cf fl Ax cx xb W vo out At ct tl) (hw : n0 = w.heap.size) (hb : Below W.heap.size W W') : PartI n0 n1 go gr D w Af cf fl Ax cx xb W' vo out At ct tl := by
  subst hw
  exact ⟨blk_below h.xo hb, Kd.R_below h.ro hb, Kd.R_below h.rf hb, Kd.R_below h.rx hb, h.nx, Kd.R_below h.rt hb, blk_below h.br hb, (hb.block _ (blk_lt2 h.dk)).trans h.dk, below_step h.hb hb, Nat.le_trans h.hz hb.size⟩
theorem PartI.tail {n0 n1 go gr D : Nat} {w W : World} {Af Ax At At' : Option Addr} {cf cx ct ct' : Nat} {fl xb out tl tl' : List Int} {vo : Value} (h : PartI n0 n1 go gr D w Af cf fl Ax cx xb W vo out At ct tl) (r : Kd.R (Kd.int .u8) 5 W n0 (fun _ => True) (.slice At' tl'.length ct') tl') : PartI n0 n1 go gr D w Af cf fl Ax cx xb W vo out At' ct' tl' :=
  ⟨h.xo, h.ro, h.rf, h.rx, h.nx, r, h.br, h.dk, h.hb, h.hz⟩
/-- the call of summed, and its result put into the box -/
theorem PartI.put {n0 n1 go gr D : Nat} {w W W' : World} {Af Ax At : Option Addr} {cf cx ct : Nat} {fl xb out out' tl : List Int} {vo v' : Value} (h : PartI n0 n1 go gr D w Af cf fl Ax cx xb W vo out At ct tl) (hgo : n0 ≤ go) (hng : go ≠ gr) (hw : n0 = w.heap.size)
    (hr : Kd.R (Kd.int .u8) 5 W' n0 (fun q => vo.ownBlock = some q ∨ W.heap.size ≤ q) v' out') (hb : Below n0 w W') (hk : Kept W W' (fun q => vo.ownBlock = some q)) (nt : ∀ q, vo.ownBlock = some q → (Value.slice At tl.length ct).ownBlock ≠ some q) :
    PartI n0 n1 go gr D w Af cf fl Ax cx xb (W'.setCell ⟨go, 0, none⟩ v') v' out' At ct tl := by
  subst hw
  have hxo := (hk.2 _ (blk_lt2 h.xo) (fun e => Kd.R_ne h.ro h.xo (by decide) e.symm)).trans h.xo
  have hbr := (hk.2 _ (blk_lt2 h.br) (fun e => Kd.R_ne h.ro h.br (by decide) e.symm)).trans h.br
  have hdk := (hk.2 _ (blk_lt2 h.dk) (fun e => by
    obtain ⟨cells, hc⟩ := Kd.R_typed h.ro _ e
    rw [h.dk] at hc
    cases hc)).trans h.dk
  have hlt := Kd.R_lt h.rx
  have hne : D ≠ go := fun e => by
    have h1 := h.dk
    rw [e, h.xo] at h1
    cases h1
  exact ⟨blk_put hxo 0 v' rfl, R_setbox (Kd.R_mono hr (fun q hq => hq.elim (fun e => h.ro.1 q e) (fun e => Nat.le_trans h.hz e))) hxo (ty_u8 (by decide)), R_setbox (R_kept h.rf (fun q hq e => absurd (h.ro.1 q e) (by omega)) hk) hxo (ty_u8 (by decide)),
    R_setbox (Kd.R_mono (R_kept (R_self h.rx) (fun q hq e => h.nx q e hq) hk) (fun _ _ => trivial)) hxo (ty_u8 (by decide)), fun q e e2 => (hr.1 q e).elim (fun e3 => h.nx q e3 e2) (fun e3 => absurd (hlt q e2) (by omega)),
    R_setbox (Kd.R_mono (R_kept (R_self h.rt) (fun q hq e => nt q e hq) hk) (fun _ _ => trivial)) hxo (ty_u8 (by decide)), blk_setne hbr hng.symm, blk_setne hdk hne, below_set hb hgo, by simpa using Nat.le_trans h.hz hk.1⟩
theorem put4_in (k : Nat) (A : Option Addr) (c : Nat) (l0 : List Int) (a1 : Int) (r : List Int) (w : World) {m : Nat} {ok : Nat → Prop} (hr0 : Kd.R (Kd.int .u8) 5 w m ok (.slice A l0.length c) l0) (h : codec_PutFixed.f k l0 a1 4 = some r) :
    Calls Try.prog 23 #[.slice A l0.length c, .int .u64 a1, .int .i64 4] w fun e w' => ∃ v0_ : Value, e = .returned (v0_) ∧ Kd.R (Kd.int .u8) 5 w' w.heap.size (fun _ => True) v0_ r ∧ Below w.heap.size w w' :=
  codec_PutFixed.calls k A c l0 a1 4 r w (Kd.R_reads' hr0).2.2 (Kd.R_reads' hr0).2.1 h
theorem td_w1 (n : Nat) (h : n ≤ 1000) : wrap64 ((n : Int) + 1) = ((n + 1 : Nat) : Int) := by unfold wrap64; omega
theorem users_take (l : List S47) (i : Nat) (hi : i < l.length) : (l.take i).map (fun x => x.f0.f0) ++ [(rd_T47 l (i : Int)).f0.f0] = (l.take (i + 1)).map (fun x => x.f0.f0) := by
  rw [List.take_succ_eq_append_getElem hi, List.map_append]
  simp [rd_T47, hi]
set_option maxRecDepth 100000 in
set_option maxHeartbeats 4000000 in
theorem tab_calls (k g : Nat) (A0 : Option Addr) (c0 : Nat) (l : List S47) (blk iv : Int) (fb : Nat) (r : List Int × Int) (w : World) (hr0 : Kd.C k47 w A0 l.length l) (hc0 : l.length ≤ c0) (hf : tab_f k g l blk iv fb = some r) :
    Calls Try.prog 10 #[.slice A0 l.length c0, .agg #[.int .i64 blk, .int .i64 iv, .float .f64 fb]] w fun e w' => ∃ v, e = .returned (.tuple #[v, .int .i64 r.2]) ∧ Kd.R (Kd.int .u8) 5 w' w.heap.size (fun _ => True) v r.1 ∧ Below w.heap.size w w' := by
  have HR0 := Aside0.mk hr0
  have HC0 := Aside0.mk hc0
  clear hr0 hc0
  obtain ⟨W1, hW1⟩ : ∃ W1, w.alloc (.cells #[.int .i64 blk, .int .i64 iv, .float .f64 fb] 26) = W1 := ⟨_, rfl⟩
  have HO1 : Aside0 (W1.heap[w.heap.size]? = some (.cells #[.int .i64 blk, .int .i64 iv, .float .f64 fb] 26 (0, 0))) := ⟨by rw [← hW1]; exact blk_new w _⟩
  have HB1 : Aside0 (Below w.heap.size w W1) := ⟨by rw [← hW1]; exact below_alloc (Below.refl _ _) _⟩
  have q0 : W1.cell? ⟨w.heap.size, 0, none⟩ = some (.int .i64 blk) := (blk_cell HO1.out 0).trans rfl
  have q1 : W1.cell? ⟨w.heap.size, 1, none⟩ = some (.int .i64 iv) := (blk_cell HO1.out 1).trans rfl
  have q2 : W1.cell? ⟨w.heap.size, 2, none⟩ = some (.float .f64 fb) := (blk_cell HO1.out 2).trans rfl
  unfold tab_f at hf
  refine (callsIn_wide (n := 3)).1 ?_
  refine callsIn_of_wp_marks Try.func10 rfl trivial ?_ rfl
  simp only [Try.ntmps10, List.size_toArray, List.length_cons, List.length_nil, Nat.reduceAdd, Nat.reduceSub, Array.replicate_succ, Array.replicate_zero, List.push_toArray, List.append_toArray, List.nil_append, List.cons_append]
  refine wpIn_wide.2 ?_
  go_upto_region 1 with fail
  clear hW1
  by_cases c1 : blk < 1
  case pos =>
    rw [if_pos c1] at hf
    obtain rfl := Option.some.inj hf
    have d1 : decide (blk < 1) = true := decide_eq_true c1
    clear c1 hf
    go_wp2
    exact ⟨.tuple #[.slice none 0 0, .int .i64 1], by simp [results, Try.f10, go_sem], _, rfl, Kd.R_nil _ _ _ _ _, HB1.out⟩
  case neg =>
  rw [if_neg c1] at hf
  have d1 : decide (blk < 1) = false := decide_eq_false c1
  by_cases c2 : 65536 < blk
  case pos =>
    rw [if_pos c2] at hf
    obtain rfl := Option.some.inj hf
    have d2 : decide (65536 < blk) = true := decide_eq_true c2
    clear c2 hf
    go_wp2
    exact ⟨.tuple #[.slice none 0 0, .int .i64 1], by simp [results, Try.f10, go_sem], _, rfl, Kd.R_nil _ _ _ _ _, HB1.out⟩
  case neg =>
  rw [if_neg c2] at hf
  have d2 : decide (65536 < blk) = false := decide_eq_false c2
  by_cases c3 : iv < 1
  case pos =>
    rw [if_pos c3] at hf
    obtain rfl := Option.some.inj hf
    have d3 : decide (iv < 1) = true := decide_eq_true c3
    clear c3 hf
    go_wp2
    exact ⟨.tuple #[.slice none 0 0, .int .i64 1], by simp [results, Try.f10, go_sem], _, rfl, Kd.R_nil _ _ _ _ _, HB1.out⟩
  case neg =>
  rw [if_neg c3] at hf
  have d3 : decide (iv < 1) = false := decide_eq_false c3
  by_cases c4 : 16 < iv
  case pos =>
    rw [if_pos c4] at hf
    obtain rfl := Option.some.inj hf
    have d4 : decide (16 < iv) = true := decide_eq_true c4
    clear c4 hf
    go_wp2
    exact ⟨.tuple #[.slice none 0 0, .int .i64 1], by simp [results, Try.f10, go_sem], _, rfl, Kd.R_nil _ _ _ _ _, HB1.out⟩
  case neg =>
  rw [if_neg c4] at hf
  have d4 : decide (16 < iv) = false := decide_eq_false c4
  split at hf
  case isFalse => cases hf
  rename_i hl3
  have HL3 := Aside0.mk hl3
  have HF := Aside0.mk hf
  clear c1 c2 c3 c4 hf hl3
  go_upto_region 5 with fail
  clear q0 q1 q2 d1 d2 d3 d4
  go_loopg [6, 43] (l.length + 1) (fun gf v6 v43 wx => ∃ i : Nat, v43 = .int .i64 (i : Int) ∧ Aside0 (gf + i = l.length + 1 ∧ i ≤ l.length) ∧ Aside0 (Kd.R Kd.string 9 wx w.heap.size (fun k_ => k_ ≠ w.heap.size) v6 ((l.take i).map fun x => x.f0.f0)) ∧ Aside0 (wx.heap[w.heap.size]? = some (.cells #[.int .i64 blk, .int .i64 iv, .float .f64 fb] 26 (0, 0))) ∧ Aside0 (Below w.heap.size w wx))
  case atStart => exact ⟨0, rfl, ⟨by omega, by omega⟩, ⟨Kd.R_nil _ _ _ _ _⟩, HO1, HB1⟩
  case round =>
    clear HO1 HB1
    obtain ⟨i, rfl, HI, HU, HO1, HB1⟩ := hrel
    cases gk with
    | zero => exact absurd HI.out.1 (by have := HI.out.2; omega)
    | succ g1 =>
      by_cases c : i < l.length
      · have c1b : decide ((i : Int) < (l.length : Int)) = true := decide_eq_true (by omega)
        have c1d := eq_true (show (i : Int) < (l.length : Int) by omega)
        have c1e := eq_true (show (0 : Int) ≤ (i : Int) by omega)
        obtain ⟨al, eA, k1, k2, k3, k4⟩ := at_T47 (Kd.C_below HR0.out HB1.out) (i : Int) (Int.natCast_nonneg i) (by omega)
        subst eA
        rw [Int.toNat_natCast] at k1 k2 k3 k4
        obtain ⟨X, hX⟩ : ∃ x, rd_T47 l (i : Int) = x := ⟨_, rfl⟩
        rw [hX] at k1 k2 k3 k4
        have HX := Aside0.mk hX
        have HCI := Aside0.mk c
        clear hX c
        have hw1 := td_w1 i (by have := HL3.out; have := HI.out; omega)
        have HW1 := Aside0.mk hw1
        clear hw1
        go_upto_region 7 with (first
          | ((with_reducible refine gate_dst (N := 8) rfl ?_); refine box_event ?hg (N := 8) ?hd (cs := #[.string (⟨#[]⟩ : ByteArray), .int .u64 0, .int .i64 0, .string (⟨#[]⟩ : ByteArray)]) (t := 47) ?hr ?_; (case hd => rfl); (case hg => rfl); (case hr => first | (go_simp; done) | (go_simp; rfl)); intro gb hg w3 hbox hb
             have BK := Aside0.mk hbox
             have HB2 := Aside0.mk (below_step HB1.out hb)
             have HU2 := Aside0.mk (Kd.R_below HU.out hb)
             have HO2 := Aside0.mk (blk_below HO1.out hb)
             have HGB : Aside0 (wr.heap.size ≤ gb) := ⟨by rw [hg]; exact Nat.le_refl _⟩
             clear hb hbox hg
             have hcz0 : w3.cell? ⟨gb, 0, none⟩ = some (.string (⟨#[]⟩ : ByteArray)) := (blk_cell BK.out 0).trans rfl
             have hcz1 : w3.cell? ⟨gb, 1, none⟩ = some (.int .u64 0) := (blk_cell BK.out 1).trans rfl
             have hcz2 : w3.cell? ⟨gb, 2, none⟩ = some (.int .i64 0) := (blk_cell BK.out 2).trans rfl
             have hcz3 : w3.cell? ⟨gb, 3, none⟩ = some (.string (⟨#[]⟩ : ByteArray)) := (blk_cell BK.out 3).trans rfl
             have hfz0 := blk_frozen BK.out 0
             have hfz1 := blk_frozen BK.out 1
             have hfz2 := blk_frozen BK.out 2
             have hfz3 := blk_frozen BK.out 3))
        obtain ⟨w4, hw4⟩ : ∃ w4, (((w3.setCell ⟨gb, 0, none⟩ (.string X.f0.f0)).setCell ⟨gb, 1, none⟩ (.int .u64 X.f0.f1)).setCell ⟨gb, 2, none⟩ (.int .i64 X.f0.f2)).setCell ⟨gb, 3, none⟩ (.string X.f1) = w4 := ⟨_, rfl⟩
        have hB : ∀ k_, k_ ≠ gb → w4.heap[k_]? = w3.heap[k_]? := fun k_ hk => by
          rw [← hw4]
          exact (Below.heap_setCell _ _ _ k_ hk).trans ((Below.heap_setCell _ _ _ k_ hk).trans ((Below.heap_setCell _ _ _ k_ hk).trans (Below.heap_setCell _ _ _ k_ hk)))
        have BK4 : w4.heap[gb]? = some (.cells #[.string X.f0.f0, .int .u64 X.f0.f1, .int .i64 X.f0.f2, .string X.f1] 47 (0, 0)) := by
          rw [← hw4]
          exact blk_put (cs := #[.string X.f0.f0, .int .u64 X.f0.f1, .int .i64 X.f0.f2, .string (⟨#[]⟩ : ByteArray)]) (blk_put (cs := #[.string X.f0.f0, .int .u64 X.f0.f1, .int .i64 0, .string (⟨#[]⟩ : ByteArray)]) (blk_put (cs := #[.string X.f0.f0, .int .u64 0, .int .i64 0, .string (⟨#[]⟩ : ByteArray)]) (blk_put (cs := #[.string (⟨#[]⟩ : ByteArray), .int .u64 0, .int .i64 0, .string (⟨#[]⟩ : ByteArray)]) BK.out 0 _ rfl) 1 _ rfl) 2 _ rfl) 3 _ rfl
        have hgb : w.heap.size < gb := by have := blk_lt2 HO1.out; have := HGB.out; omega
        have HU4 : Aside0 (Kd.R Kd.string 9 w4 w.heap.size (fun k_ => k_ ≠ w.heap.size) u6 ((l.take i).map fun x => x.f0.f0)) := ⟨Kd.R_mono (Kd.R_move (Kd.R_types HU2.out BK.out (fun q hq => by rcases List.mem_cons.1 hq with rfl | hq <;> first | decide | exact absurd hq (by simp [Kd.string, Kd.scalar]))) (fun k_ hk => hB k_ hk.2)) (fun _ hk => hk.1)⟩
        have HO4 := Aside0.mk ((hB w.heap.size (by omega)).trans HO2.out)
        have HB4 : Aside0 (Below w.heap.size w w4) := ⟨by rw [← hw4]; exact below_set (below_set (below_set (below_set HB2.out (by omega)) (by omega)) (by omega)) (by omega)⟩
        have hc4 : w4.cell? ⟨gb, 0, none⟩ = some (.string X.f0.f0) := (blk_cell BK4 0).trans rfl
        rw [hw4]
        clear hw4 hB BK4 hcz0 hcz1 hcz2 hcz3 hfz0 hfz1 hfz2 hfz3 HU2 HO2 HB2 BK hgb HGB k1 k2 k3 k4
        go_wp2_with (first
          | ((with_reducible refine gate_builtin (b := .append) (xs := #[.tmp 47, .tmp 51]) rfl ?_); at_builtin; refine Kd.R_append Kd.string (w0 := w) w.heap.size rfl (.tmp 47) (.tmp 51) 53 9 (.string ⟨#[]⟩) 16 rfl Try.underlying53 info9 rfl (by decide) (by decide) u6 ((l.take i).map fun x => x.f0.f0) X.f0.f0 [.string X.f0.f0] (fun k_ => k_ ≠ w.heap.size) (fun _ => False) rfl rfl rfl (fun _ hk => hk.elim) ?aF HU4.out HB4.out (below_size HB4.out) ?aL ?_
             (case aF => exact fun k_ hk => by have := blk_lt2 HO4.out; omega)
             (case aL => have := HL3.out; have := HI.out.2; rw [List.length_map, List.length_take]; omega)
             intro v5 w5 ho hb hg hat
             have HU5 := Aside0.mk ho
             have HB5 := Aside0.mk hb
             have HO5 := Aside0.mk ((hg.block _ (blk_lt2 HO4.out) (Kd.R_away HU4.out (fun k_ hk => hk))).trans HO4.out)
             clear ho hb hg hat))
        simp only [HW1.out]
        go_roundg g1
        case measure => omega
        case rel => exact ⟨i + 1, rfl, ⟨by have := HI.out.1; omega, HCI.out⟩, ⟨by rw [← users_take l i HCI.out, HX.out]; exact HU5.out⟩, HO5, HB5⟩
      · have c1b : decide ((i : Int) < (l.length : Int)) = false := decide_eq_false (by omega)
        have c1c : decide (i < l.length) = false := decide_eq_false c
        have hil : i = l.length := by have := HI.out.2; omega
        rw [hil, List.take_length] at HU
        have HF0 := HF.out
        obtain ⟨us, hus⟩ : ∃ x, (l.map fun x => x.f0.f0) = x := ⟨_, rfl⟩
        rw [hus] at HU HF0
        obtain ⟨Au, cu, eu⟩ := Kd.R_slice HU.out
        subst eu
        obtain ⟨⟨fl, fe⟩, hfl, hf⟩ := Option.bind_eq_some_iff.mp HF0
        dsimp only at hfl hf
        have HFL := Aside0.mk hfl
        have p2 : wr.cell? ⟨w.heap.size, 2, none⟩ = some (.float .f64 fb) := (blk_cell HO1.out 2).trans rfl
        replace HF := Aside0.mk hf
        clear c hil hfl hf HI HF0 hus
        go_upto_region 10 with (first
          | (go_at_call 18; with_reducible refine (build_calls k Au cu us fb (fl, fe) _ (Kd.R_reads' HU.out).2.2 (Kd.R_reads' HU.out).2.1 HFL.out).mono ?_; rintro ex w2 ⟨vf, rfl, hob, hb2⟩
             have HB2 := Aside0.mk (below_step HB1.out hb2)
             have HO2 := Aside0.mk (blk_below HO1.out hb2)
             have HFR := Aside0.mk (Kd.R_mono (Kd.R_lower (Kd.R_bound hob) (below_size HB1.out)) (fun k_ hk => (show k_ ≠ w.heap.size by have := blk_lt2 HO1.out; have := hk.2.1; omega)))
             obtain ⟨Af, cf, ef⟩ := Kd.R_slice hob
             subst ef
             clear hob hb2))
        clear HO1 HB1 HU p2
        try dsimp only at HFR
        by_cases hfe : fe = 0
        case neg =>
          have e1 : (fe != 0) = true := bne_iff_ne.mpr hfe
          have hf := HF.out
          rw [if_pos hfe] at hf
          obtain rfl := Option.some.inj hf
          clear hfe hf HF
          go_wp2
          exact ⟨.tuple #[.slice none 0 0, .int .i64 fe], by simp [results, Try.f10, go_sem], _, rfl, Kd.R_nil _ _ _ _ _, HB2.out⟩
        case pos =>
        subst hfe
        have hf := HF.out
        rw [if_neg (by simp)] at hf
        by_cases hl0 : l.length = 0
        case pos =>
          rw [if_pos hl0] at hf
          obtain rfl := Option.some.inj hf
          have e2 : ((l.length : Int) == 0) = true := by rw [hl0]; rfl
          have e3 : (l.length == 0) = true := by rw [hl0]; rfl
          clear hl0 hf HF
          go_wp2
          exact ⟨.tuple #[.slice none 0 0, .int .i64 120], by simp [results, Try.f10, go_sem], _, rfl, Kd.R_nil _ _ _ _ _, HB2.out⟩
        case neg =>
        rw [if_neg hl0] at hf
        have e2 : ((l.length : Int) == 0) = false := by rw [beq_eq_false_iff_ne]; omega
        have e3 : (l.length == 0) = false := by rw [beq_eq_false_iff_ne]; omega
        obtain ⟨⟨bb, be⟩, hbb, hf⟩ := Option.bind_eq_some_iff.mp hf
        dsimp only at hbb hf
        have HBB := Aside0.mk hbb
        have p1 : w2.cell? ⟨w.heap.size, 1, none⟩ = some (.int .i64 iv) := (blk_cell HO2.out 1).trans rfl
        replace HF := Aside0.mk hf
        clear hl0 hbb hf
        go_upto_region 15 with (first
          | (go_at_call 19; with_reducible refine (block_Build.calls k A0 c0 l iv bb be _ (Kd.C_below HR0.out HB2.out) HC0.out HBB.out).mono ?_; rintro ex w3 ⟨vf2, rfl, hob, hb3⟩
             have HB3 := Aside0.mk (below_step HB2.out hb3)
             have HO3 := Aside0.mk (blk_below HO2.out hb3)
             have HFR3 := Aside0.mk (Kd.R_below HFR.out hb3)
             clear hob hb3))
        clear HO2 HB2 HFR p1 e2 e3
        by_cases hbe : be = 0
        case neg =>
          have e1 : (be != 0) = true := bne_iff_ne.mpr hbe
          have hf := HF.out
          rw [if_pos hbe] at hf
          obtain rfl := Option.some.inj hf
          clear hbe hf HF
          go_wp2
          exact ⟨.tuple #[.slice none 0 0, .int .i64 be], by simp [results, Try.f10, go_sem], _, rfl, Kd.R_nil _ _ _ _ _, HB3.out⟩
        case pos =>
        subst hbe
        have hf := HF.out
        rw [if_neg (by simp)] at hf
        replace HF := Aside0.mk hf
        clear hf
        obtain ⟨cs, hcs, hf⟩ := Option.bind_eq_some_iff.mp HF.out
        obtain ⟨⟨out, idx⟩, hst, hf⟩ := Option.bind_eq_some_iff.mp hf
        dsimp only at hf
        have HCS := Aside0.mk hcs
        have HST := Aside0.mk hst
        replace HF := Aside0.mk hf
        clear hcs hst hf
        go_upto_region 19 with fail
        obtain ⟨W4, hW4⟩ : ∃ W4, (w3.alloc (.cells #[.slice none 0 0] 27)).alloc (.cells #[.slice none 0 0] 23) = W4 := ⟨_, rfl⟩
        have hs4 : W4.heap.size = w3.heap.size + 2 := by rw [← hW4]; simp
        have BO4 : Aside0 (W4.heap[w3.heap.size]? = some (.cells #[.slice none 0 0] 27 (0, 0))) := ⟨by rw [← hW4]; exact blk_alloc (blk_new w3 _) _⟩
        have BI4 : Aside0 (W4.heap[w3.heap.size + 1]? = some (.cells #[.slice none 0 0] 23 (0, 0))) := ⟨by
          rw [← hW4]
          have := blk_new (w3.alloc (.cells #[.slice none 0 0] 27)) (.cells #[.slice none 0 0] 23)
          rwa [World.size_alloc] at this⟩
        have hb34 : Below w3.heap.size w3 W4 := by rw [← hW4]; exact below_alloc (below_alloc (Below.refl _ _) _) _
        have HBL3 : Aside0 (w.heap.size ≤ w3.heap.size) := ⟨below_size HB3.out⟩
        have HB4 := Aside0.mk (below_step HB3.out hb34)
        have HO4 := Aside0.mk (blk_below HO3.out hb34)
        have HFR4 := Aside0.mk (Kd.R_below HFR3.out hb34)
        have HFB : Aside0 (∀ k_, (Value.slice Af fl.length cf).ownBlock = some k_ → k_ < w3.heap.size) := ⟨Kd.R_lt HFR3.out⟩
        have HS4 := Aside0.mk hs4
        have q0 : W4.cell? ⟨w.heap.size, 0, none⟩ = some (.int .i64 blk) := (blk_cell HO4.out 0).trans rfl
        have q1 : W4.cell? ⟨w.heap.size, 1, none⟩ = some (.int .i64 iv) := (blk_cell HO4.out 1).trans rfl
        have q2 : W4.cell? ⟨w.heap.size, 2, none⟩ = some (.float .f64 fb) := (blk_cell HO4.out 2).trans rfl
        rw [hW4]
        clear hW4 hs4 hb34 HB3 HO3 HFR3
        go_wp2_with (first
          | (go_at_call 20; with_reducible refine (cuts_calls A0 c0 l.length blk iv fb _).mono ?_; rintro ex w5 ⟨rfl, rfl⟩))
        obtain ⟨W5, hW5⟩ : ∃ W5, (W4.alloc (.cells #[.slice A0 l.length c0] 23)).alloc (.cells #[.int .i64 blk, .int .i64 iv, .float .f64 fb] 26) = W5 := ⟨_, rfl⟩
        have hs5 : W5.heap.size = W4.heap.size + 2 := by rw [← hW5]; simp
        have hbl : W5.heap[W4.heap.size]? = some (.cells #[.slice A0 l.length c0] 23 (0, 0)) := by rw [← hW5]; exact blk_alloc (blk_new W4 _) _
        have hbo : W5.heap[W4.heap.size + 1]? = some (.cells #[.int .i64 blk, .int .i64 iv, .float .f64 fb] 26 (0, 0)) := by
          rw [← hW5]
          have := blk_new (W4.alloc (.cells #[.slice A0 l.length c0] 23)) (.cells #[.int .i64 blk, .int .i64 iv, .float .f64 fb] 26)
          rwa [World.size_alloc] at this
        have hb45 : Below W4.heap.size W4 W5 := by rw [← hW5]; exact below_alloc (below_alloc (Below.refl _ _) _) _
        have HB5 := Aside0.mk (below_step HB4.out hb45)
        have BO5 := Aside0.mk (blk_below BO4.out hb45)
        have BI5 := Aside0.mk (blk_below BI4.out hb45)
        have HFR5 := Aside0.mk (Kd.R_below HFR4.out hb45)
        have HS5 := Aside0.mk hs5
        rw [hW5]
        clear hW5 hs5 hb45 HB4 HO4 HFR4 q0 q1 q2 BO4 BI4
        have hws : w.heap.size ≤ W5.heap.size := HB5.out.size
        have hw3s : w3.heap.size + 4 = W5.heap.size := by have h1 := HS4.out; have h2 := HS5.out; omega
        refine (wpIn_wide (n := 3)).1 ?_
        refine range_told rfl (by decide) (gf := 46) (lb := #[.pointer (some ⟨W4.heap.size, 0, none⟩), .pointer (some ⟨W4.heap.size + 1, 0, none⟩)]) rfl trivial (enters_of Try.func46 (by kernel_rfl) rfl)
          (cuts_told k g _ _ w A0 c0 l blk iv cs HR0.out HC0.out HL3.out HCS.out W5 HB5.out ((blk_cell hbl 0).trans rfl) ((blk_cell hbo 0).trans rfl) ((blk_cell hbo 1).trans rfl))
          CutKeep.trans (cutKeep_b hws (blk_lt2 hbl) (blk_lt2 hbo)) (fun _ => rfl)
          (CutI k w.heap.size W5.heap.size w3.heap.size (w3.heap.size + 1) w Af cf fl) (cutI_own (Nat.le_refl _) hws) ?h0 ?hround ?hdone
        case h0 =>
          exact ⟨⟨[], [], _, _, rfl, BO5.out, Kd.R_nil _ _ _ _ _, BI5.out, Kd.R_nil _ _ _ _ _, Kd.R_mono (Kd.R_bound HFR5.out) (fun k_ hk => hk.2.2.1), Nat.le_refl _⟩, HB5.out⟩
        case hround =>
          rintro lr pre x W0 W ⟨⟨out0, idx0, vo, vi, hts, hxo, hro, hxi, hri, hrf, hsz0⟩, hB0⟩ hb01 ⟨htold, rest, hrest⟩
          obtain ⟨⟨ku, ks, kk⟩, bs, Ab, cb⟩ := x
          -- what the step comes to
          have hstep : ∃ p1 p2 out2, idx0.length < 1000 ∧ codec_PutUvarint.f k [] (IntKind.u64.wrap (out0.length : Int)) = some p1 ∧ codec_PutUvarint.f k p1 (IntKind.u64.wrap (bs.length : Int)) = some p2 ∧ sstable_summed.f k out0 bs = some out2 ∧ tab_step k ((pre ++ [(⟨⟨ku, ks, kk⟩, bs, Ab, cb⟩ : CutEl)]).map CutEl.out) [] [] = some (out2, idx0 ++ [⟨⟨ku, ks, kk⟩, strOfNums p2⟩]) := by
            have h1 := HST.out
            rw [← hrest, tab_step_append] at h1
            obtain ⟨z, hz, _⟩ := Option.bind_eq_some_iff.mp h1
            rw [List.map_append, tab_step_append, hts] at hz
            simp only [Option.bind_some, List.map_cons, List.map_nil, CutEl.out, tab_step] at hz
            split at hz
            case isFalse => cases hz
            rename_i hlt
            obtain ⟨p1, e1, hz⟩ := Option.bind_eq_some_iff.mp hz
            obtain ⟨p2, e2, hz⟩ := Option.bind_eq_some_iff.mp hz
            obtain ⟨out2, e3, hz⟩ := Option.bind_eq_some_iff.mp hz
            refine ⟨p1, p2, out2, hlt, e1, e2, e3, ?_⟩
            rw [List.map_append, tab_step_append, hts]
            simp only [Option.bind_some, List.map_cons, List.map_nil, CutEl.out, tab_step]
            rw [if_pos hlt, e1, Option.bind_some, e2, Option.bind_some, e3, Option.bind_some]
          obtain ⟨p1, p2, out2, hlt, hp1, hp2, hsm, htst⟩ := hstep
          have HLT := Aside0.mk hlt
          have HP1 := Aside0.mk hp1
          have HP2 := Aside0.mk hp2
          have HSM := Aside0.mk hsm
          have HTS := Aside0.mk htst
          have hvo := Kd.R_lt hro
          obtain ⟨Ao, co, eo⟩ := Kd.R_slice hro
          subst eo
          obtain ⟨Ai, ci, ei⟩ := Kd.R_slice hri
          subst ei
          clear hts hrest hlt hp1 hp2 hsm htst
          dsimp only [CutEl.vals]
          gi_wp2
          refine ⟨KeepsOthers.alloc _ _, CutKeep.of_below (below_alloc (Below.refl _ _) _) (by have := hb01.size; omega) (by have := hb01.size; have := HS5.out; omega) (by have := hb01.size; have := HS5.out; omega), ?_⟩
          intro W2 hg hr
          have hbk : W2.heap[W.heap.size]? = some (.cells #[.string ku, .int .u64 ks, .int .i64 kk] 45 (0, 0)) := blk_turn (blk_new W _) hg hr
          have hal : Below W.heap.size W (W.alloc (.cells #[.string ku, .int .u64 ks, .int .i64 kk] 45)) := below_alloc (Below.refl _ _) _
          have XO := Aside0.mk (blk_turn (blk_below (blk_below hxo hb01) hal) hg hr)
          have XI := Aside0.mk (blk_turn (blk_below (blk_below hxi hb01) hal) hg hr)
          have XK := Aside0.mk hbk
          have RO := Aside0.mk (R_turn (Kd.R_below (Kd.R_below hro hb01) hal) hg hr)
          have RI := Aside0.mk (R_turnK (Kd.R_below (Kd.R_below hri hb01) hal) hg hr)
          have RF := Aside0.mk (R_turn (Kd.R_below (Kd.R_below hrf hb01) hal) hg hr)
          have RB := Aside0.mk (R_turn (Kd.R_below htold hal) hg hr)
          have HVO := Aside0.mk hvo
          have HBW : Aside0 (Below w.heap.size w W2) := ⟨((below_step hB0 hb01).trans (hal.mono (by have := hb01.size; omega))).grown hg (by simp; have := hb01.size; omega) (fun r e => by have := (hr r e).1; omega)⟩
          have K0 : Aside0 (Keep3 w.heap.size W4.heap.size (W4.heap.size + 1) W2 W2) := ⟨⟨KeepsOthers.refl _, Below.refl _ _, rfl, rfl⟩⟩
          have HZa : Aside0 (W5.heap.size ≤ W.heap.size) := ⟨Nat.le_trans hsz0 hb01.size⟩
          have HS0 := Aside0.mk hsz0
          clear hbk hal hxo hxi hro hri hrf htold hvo hB0 hg hr
          have HZ0 : Aside0 (W5.heap.size ≤ W2.heap.size) := ⟨by have h1 := HZa.out; have h2 := blk_lt2 XK.out; omega⟩
          have hco : W2.cell? ⟨w3.heap.size, 0, none⟩ = some (.slice Ao out0.length co) := (blk_cell XO.out 0).trans rfl
          have XO0 := XO
          have XI0 := XI
          have XK0 := XK
          have RO0 := RO
          have RI0 := RI
          have RF0 := RF
          have RB0 := RB
          have HBW0 := HBW
          clear XO XI XK RO RI RF RB HBW
          gi_wp2_with (first
            | (refine ⟨trivial, ?_⟩; gi_at_call 21; with_reducible refine (putu_in k none 0 0 [] (IntKind.u64.wrap (out0.length : Int)) p1 _ lr rfl (Kd.C_nil _ _) (Nat.le_refl _) HP1.out).mono ?_; rintro ex w6 ⟨v6, rfl, hob, hb⟩
               have XO1 := Aside0.mk (blk_below XO0.out hb)
               have XI1 := Aside0.mk (blk_below XI0.out hb)
               have XK1 := Aside0.mk (blk_below XK0.out hb)
               have RO1 := Aside0.mk (Kd.R_below RO0.out hb)
               have RI1 := Aside0.mk (Kd.R_below RI0.out hb)
               have RF1 := Aside0.mk (Kd.R_below RF0.out hb)
               have RB1 := Aside0.mk (Kd.R_below RB0.out hb)
               have HBW1 := Aside0.mk (below_step HBW0.out hb)
               have K1 := Aside0.mk (K0.out.trans (Keep3.below hb (below_size HBW0.out) (by have := HZ0.out; have := HS5.out; omega) (by have := HZ0.out; have := HS5.out; omega)))
               have HZ1 : Aside0 (W5.heap.size ≤ _) := ⟨Nat.le_trans HZ0.out hb.size⟩
               have HQ1 := Aside0.mk hob
               obtain ⟨Ap, cp, ep⟩ := Kd.R_slice hob
               subst ep
               clear hob hb)
            | (refine ⟨trivial, ?_⟩; gi_at_call 21; with_reducible refine (putu_in k Ap cp _ p1 (IntKind.u64.wrap (bs.length : Int)) p2 _ lr rfl (Kd.R_reads' HQ1.out).2.2 (Kd.R_reads' HQ1.out).2.1 HP2.out).mono ?_; rintro ex w7 ⟨v7, rfl, hob, hb⟩
               have XO2 := Aside0.mk (blk_below XO1.out hb)
               have XI2 := Aside0.mk (blk_below XI1.out hb)
               have XK2 := Aside0.mk (blk_below XK1.out hb)
               have RO2 := Aside0.mk (Kd.R_below RO1.out hb)
               have RI2 := Aside0.mk (Kd.R_below RI1.out hb)
               have RF2 := Aside0.mk (Kd.R_below RF1.out hb)
               have RB2 := Aside0.mk (Kd.R_below RB1.out hb)
               have HBW2 := Aside0.mk (below_step HBW1.out hb)
               have K2 := Aside0.mk (K1.out.trans (Keep3.below hb (below_size HBW1.out) (by have := HZ1.out; have := HS5.out; omega) (by have := HZ1.out; have := HS5.out; omega)))
               have HZ2 : Aside0 (W5.heap.size ≤ _) := ⟨Nat.le_trans HZ1.out hb.size⟩
               have HQ2 := Aside0.mk hob
               obtain ⟨Aq, cq, eq⟩ := Kd.R_slice hob
               subst eq
               have hcv := Kd.C_string (P := Try.prog) (dst := 9) (c := cq) Try.underlying27 Try.underlying5 (by kernel_rfl) (Kd.R_reads' HQ2.out).2.2
               have hci : w7.cell? ⟨w3.heap.size + 1, 0, none⟩ = some (.slice Ai idx0.length ci) := (blk_cell XI2.out 0).trans rfl
               have hk0 : w7.cell? ⟨W.heap.size, 0, none⟩ = some (.string ku) := (blk_cell XK2.out 0).trans rfl
               have hk1 : w7.cell? ⟨W.heap.size, 1, none⟩ = some (.int .u64 ks) := (blk_cell XK2.out 1).trans rfl
               have hk2 : w7.cell? ⟨W.heap.size, 2, none⟩ = some (.int .i64 kk) := (blk_cell XK2.out 2).trans rfl
               clear hob hb)
            | (gi_at_builtin; refine R_append_in k47 w.heap.size rfl (.tmp 92) (.tmp 97) 23 47 (.agg #[(.string ⟨#[]⟩), (.int .u64 0), (.int .i64 0), (.string ⟨#[]⟩)]) 48 rfl Try.underlying23 info47 rfl (by decide) (by decide) (.slice Ai idx0.length ci) idx0 ⟨⟨ku, ks, kk⟩, strOfNums p2⟩ [.string ku, .int .u64 ks, .int .i64 kk, .string (strOfNums p2)] (fun k_ => W5.heap.size ≤ k_) (fun _ => False) rfl rfl (k47_mkM _ _ _ (⟨⟨ku, ks, kk⟩, strOfNums p2⟩ : S47)) (fun _ hk => hk.elim) (fun k_ hk => Nat.le_trans HZ2.out hk) RI2.out (below_size HBW2.out) (by have := HLT.out; omega) ?_; intro v8 w8 ho hg
               have XO3 := Aside0.mk ((hg.block _ (blk_lt2 XO2.out) (Kd.R_ne RI2.out XO2.out (by decide))).trans XO2.out)
               have XI3 := Aside0.mk ((hg.block _ (blk_lt2 XI2.out) (Kd.R_ne RI2.out XI2.out (by decide))).trans XI2.out)
               have RO3 := Aside0.mk (Kd.R_over RO2.out RI2.out (ty_u8 (by decide)) hg)
               have RF3 := Aside0.mk (Kd.R_over RF2.out RI2.out (ty_u8 (by decide)) hg)
               have RB3 := Aside0.mk (Kd.R_over RB2.out RI2.out (ty_u8 (by decide)) hg)
               have RI3 := Aside0.mk ho
               have HBW3 := Aside0.mk (HBW2.out.grown hg (below_size HBW2.out) (fun r e => Kd.R_base RI2.out r e))
               have K3 := Aside0.mk (K2.out.trans (Keep3.grown hg (fun r e => ⟨Kd.R_base RI2.out r e, by have h1 := RI2.out.1 r e; have := HS5.out; omega, by have h1 := RI2.out.1 r e; have := HS5.out; omega, by obtain ⟨cells, hc⟩ := Kd.R_typed RI2.out r e; exact ⟨cells, _, hc⟩⟩) (below_size HBW2.out) (by have := HZ2.out; have := HS5.out; omega) (by have := HZ2.out; have := HS5.out; omega)))
               have HZ3 : Aside0 (W5.heap.size ≤ _) := ⟨Nat.le_trans HZ2.out hg.size⟩
               obtain ⟨A8, c8, e8⟩ := Kd.R_slice ho
               subst e8
               rw [List.length_append, List.length_singleton] at RI3
               have hci3 : w8.cell? ⟨w3.heap.size + 1, 0, none⟩ = some (.slice Ai idx0.length ci) := (blk_cell XI3.out 0).trans rfl
               have hcf3 := blk_frozen XI3.out 0
               have hco3 : w8.cell? ⟨w3.heap.size, 0, none⟩ = some (.slice Ao out0.length co) := (blk_cell XO3.out 0).trans rfl
               clear ho hg hci hk0 hk1 hk2 hcv))
          obtain ⟨w9, hw9⟩ : ∃ w9, w8.setCell ⟨w3.heap.size + 1, 0, none⟩ (.slice A8 (idx0.length + 1) c8) = w9 := ⟨_, rfl⟩
          have XO4 := Aside0.mk (hw9 ▸ blk_setne (j := 0) (u := .slice A8 (idx0.length + 1) c8) XO3.out (show w3.heap.size ≠ w3.heap.size + 1 by omega))
          have XI4 := Aside0.mk (hw9 ▸ blk_put XI3.out 0 (.slice A8 (idx0.length + 1) c8) rfl)
          have RO4 := Aside0.mk (hw9 ▸ R_setbox (j := 0) (u := .slice A8 (idx0.length + 1) c8) RO3.out XI3.out (ty_u8 (by decide)))
          have RF4 := Aside0.mk (hw9 ▸ R_setbox (j := 0) (u := .slice A8 (idx0.length + 1) c8) RF3.out XI3.out (ty_u8 (by decide)))
          have RB4 := Aside0.mk (hw9 ▸ R_setbox (j := 0) (u := .slice A8 (idx0.length + 1) c8) RB3.out XI3.out (ty_u8 (by decide)))
          have RI4 := Aside0.mk (hw9 ▸ R_setbox (j := 0) (u := .slice A8 (idx0.length + 1) c8) RI3.out XI3.out (ty_k47 (by decide)))
          have HBW4 := Aside0.mk (hw9 ▸ below_set (j := 0) (v := .slice A8 (idx0.length + 1) c8) HBW3.out (show w.heap.size ≤ w3.heap.size + 1 by have := HBL3.out; omega))
          have K4 := Aside0.mk (hw9 ▸ K3.out.trans (Keep3.set (X := w8) (g := w3.heap.size + 1) (.slice A8 (idx0.length + 1) c8) (by have := HBL3.out; omega) (by have := HS4.out; omega) (by have := HS4.out; omega)))
          have HZ4 : Aside0 (W5.heap.size ≤ w9.heap.size) := ⟨by rw [← hw9]; simpa using HZ3.out⟩
          rw [hw9]
          clear hw9 hci3 hcf3 hco3
          gi_wp2_with (first
            | (refine ⟨trivial, ?_⟩; gi_at_call 22; with_reducible refine (summed_in k (fun q => (Value.slice Ao out0.length co).ownBlock = some q) (.slice Ao out0.length co) out0 Ab cb bs out2 w w9 lr HBW4.out (R_self RO4.out) (fun W_ hk => (Kd.R_reads' (R_kept (Kd.R_bound RB4.out) (fun k ho e => absurd (HVO.out k e) (by have := ho.2.1; omega)) hk)).2.2) (Kd.R_reads' RB4.out).2.1 HSM.out).mono ?_; rintro ex w10 ⟨v10, rfl, hob, hb, hk⟩
               have XO5 := Aside0.mk ((hk.2 _ (blk_lt2 XO4.out) (fun e => Kd.R_ne RO4.out XO4.out (by decide) e.symm)).trans XO4.out)
               have XI5 := Aside0.mk ((hk.2 _ (blk_lt2 XI4.out) (fun e => Kd.R_ne RO4.out XI4.out (by decide) e.symm)).trans XI4.out)
               have RI5 := Aside0.mk (R_kept_ty RI4.out (fun k_ e => Kd.R_typed RO4.out k_ e) (ty_k47 (by decide)) hk)
               have RF5 := Aside0.mk (R_kept RF4.out (fun k_ hk2 e => absurd (RO4.out.1 k_ e) (by omega)) hk)
               have RO5 : Aside0 (Kd.R (Kd.int .u8) 5 w10 w.heap.size (fun k_ => W5.heap.size ≤ k_) v10 out2) := ⟨Kd.R_mono hob (fun k_ hk2 => hk2.elim (fun e => RO4.out.1 k_ e) (fun e => Nat.le_trans HZ4.out e))⟩
               have HBW5 := Aside0.mk hb
               have K5 := Aside0.mk (K4.out.trans (Keep3.kept hk (below_between HBW4.out hb (Nat.le_refl _) hk.1) (fun r e => ⟨by have h1 := RO4.out.1 r e; have := HS5.out; omega, by have h1 := RO4.out.1 r e; have := HS5.out; omega, fun _ => by obtain ⟨cells, hc⟩ := Kd.R_typed RO4.out r e; exact ⟨cells, _, hc⟩, fun o ho => by
                 obtain ⟨cells, hc⟩ := Kd.R_typed RO4.out r e
                 rw [hc] at ho
                 cases ho
                 rfl⟩) (by have := HZ4.out; have := HS5.out; omega) (by have := HZ4.out; have := HS5.out; omega)))
               have HZ5 : Aside0 (W5.heap.size ≤ w10.heap.size) := ⟨Nat.le_trans HZ4.out hk.1⟩
               obtain ⟨A10, c10, e10⟩ := Kd.R_slice hob
               subst e10
               have hco5 : w10.cell? ⟨w3.heap.size, 0, none⟩ = some (.slice Ao out0.length co) := (blk_cell XO5.out 0).trans rfl
               have hcf5 := blk_frozen XO5.out 0
               clear hob hb hk))
          exact ⟨rfl, (K5.out.trans (Keep3.set (X := w10) (g := w3.heap.size) (.slice A10 out2.length c10) HBL3.out (by have := HS4.out; omega) (by have := HS4.out; omega))).ko, (K5.out.trans (Keep3.set (X := w10) (g := w3.heap.size) (.slice A10 out2.length c10) HBL3.out (by have := HS4.out; omega) (by have := HS4.out; omega))).ck,
            ⟨out2, _, _, _, HTS.out, blk_put XO5.out 0 (.slice A10 out2.length c10) rfl, R_setbox RO5.out XO5.out (ty_u8 (by decide)), blk_setne XI5.out (by omega), R_setbox RI5.out XO5.out (ty_k47 (by decide)), R_setbox RF5.out XO5.out (ty_u8 (by decide)), by simpa using HZ5.out⟩, below_set HBW5.out HBL3.out⟩
        case hdone =>
          rintro D xs W hD hxs ⟨⟨out0, idx0, vo, vi, hts, hxo, hro, hxi, hri, hrf, hsz0⟩, hB0⟩ hK
          rw [hxs] at hts
          have hoi := Option.some.inj (hts.symm.trans HST.out)
          simp only [Prod.mk.injEq] at hoi
          obtain ⟨rfl, rfl⟩ := hoi
          obtain ⟨Ao, co, eo⟩ := Kd.R_slice hro
          subst eo
          obtain ⟨Ai, ci, ei⟩ := Kd.R_slice hri
          subst ei
          obtain ⟨⟨xb, xe⟩, hxb, hf⟩ := Option.bind_eq_some_iff.mp HF.out
          dsimp only at hf
          replace HF := Aside0.mk hf
          have HXB := Aside0.mk hxb
          have XO6 := Aside0.mk hxo
          have RO6 := Aside0.mk hro
          have RI6 := Aside0.mk hri
          have RF6 := Aside0.mk hrf
          have HB6 := Aside0.mk hB0
          have HZ6 := Aside0.mk hsz0
          have HVO := Aside0.mk (Kd.R_lt hro)
          have HDK := Aside0.mk hK
          have HDD := Aside0.mk hD
          have hci : W.cell? ⟨w3.heap.size + 1, 0, none⟩ = some (.slice Ai idx0.length ci) := (blk_cell hxi 0).trans rfl
          clear hts hf hxb hxo hxi hro hri hrf hB0 hsz0 hK hD
          gi_wp2
          go_upto_region 26 with (first
            | (go_at_call 19; with_reducible refine (block_Build.calls k Ai ci idx0 1 xb xe _ (Kd.R_reads' RI6.out).2.2 (Kd.R_reads' RI6.out).2.1 HXB.out).mono ?_; rintro ex w7 ⟨vx, rfl, hob, hb⟩
               have XO7 := Aside0.mk (blk_below XO6.out hb)
               have RO7 := Aside0.mk (Kd.R_below RO6.out hb)
               have RF7 := Aside0.mk (Kd.R_below RF6.out hb)
               have HB7 := Aside0.mk (below_step HB6.out hb)
               have HZ7 : Aside0 (W5.heap.size ≤ w7.heap.size) := ⟨Nat.le_trans HZ6.out hb.size⟩
               have HDK7 := Aside0.mk ((hb.block _ (blk_lt2 HDK.out)).trans HDK.out)
               have RX7 := Aside0.mk (Kd.R_bound hob)
               obtain ⟨Ax, cx, ex⟩ := Kd.R_slice hob
               subst ex
               clear hob hb hci))
          go_wp2_with (first
            | ((with_reducible refine gate_dst (N := 109) rfl ?_); refine event_run rfl (v := .slice (some ⟨w7.heap.size, 0, none⟩) 2 2) (w1 := w7.alloc (.cells #[.slice Af fl.length cf, .slice Ax xb.length cx] 27)) (by go_simp; rfl) ?_))
          obtain ⟨w8, hw8⟩ : ∃ w8, w7.alloc (.cells #[.slice Af fl.length cf, .slice Ax xb.length cx] 27) = w8 := ⟨_, rfl⟩
          have hb78 : Below w7.heap.size w7 w8 := by rw [← hw8]; exact below_alloc (Below.refl _ _) _
          have P8 : Aside0 (PartI w.heap.size W5.heap.size w3.heap.size w7.heap.size D w Af cf fl Ax cx xb w8 (.slice Ao out0.length co) out0 none 0 []) := ⟨⟨blk_below XO7.out hb78, Kd.R_below RO7.out hb78, Kd.R_below RF7.out hb78, Kd.R_mono (Kd.R_below (Kd.R_lower RX7.out (below_size HB6.out)) hb78) (fun _ _ => trivial),
            fun q e e2 => absurd (HVO.out q e) (by have := (RX7.out.1 q e2).2.1; omega), Kd.R_nil _ _ _ _ _, by rw [← hw8]; exact blk_new w7 _, (hb78.block _ (blk_lt2 HDK7.out)).trans HDK7.out, below_step HB7.out hb78, Nat.le_trans HZ7.out hb78.size⟩⟩
          have HNG : Aside0 (w3.heap.size ≠ w7.heap.size) := ⟨by have := blk_lt2 XO7.out; omega⟩
          obtain ⟨⟨o2, t2⟩, hpt, hf⟩ := Option.bind_eq_some_iff.mp HF.out
          obtain ⟨tl, htl, hf⟩ := Option.bind_eq_some_iff.mp hf
          dsimp only at htl hf
          have HPT := Aside0.mk hpt
          have HTL := Aside0.mk htl
          replace HF := Aside0.mk hf
          rw [hw8]
          clear hw8 hb78 XO7 RO7 RF7 RX7 HDK7 HB7 HZ7 hpt htl hf
          go_loopg [14, 111] 3 (fun gf v14 v111 wx => ∃ (j : Nat) (out : List Int) (vo : Value) (At : Option Addr) (ct : Nat) (ts : List Int), v14 = .slice At ts.length ct ∧ v111 = .int .i64 (j : Int) ∧ Aside0 (gf + j = 3 ∧ j ≤ 2) ∧ Aside0 (tab_parts k ([fl, xb].drop j) out ts = some (o2, t2)) ∧ Aside0 (PartI w.heap.size W5.heap.size w3.heap.size w7.heap.size D w Af cf fl Ax cx xb wx vo out At ct ts))
          case atStart => exact ⟨0, out0, _, none, 0, [], rfl, rfl, ⟨by omega, by omega⟩, HPT, P8⟩
          case round =>
            clear P8 HPT
            obtain ⟨j, oc, vo, At, ct, ts, rfl, rfl, HJ, HPJ, PJ⟩ := hrel
            obtain ⟨Ao2, co2, eo2⟩ := Kd.R_slice PJ.out.ro
            subst eo2
            cases gk with
            | zero => exact absurd HJ.out.1 (by have := HJ.out.2; omega)
            | succ g1 =>
              have hco : wr.cell? ⟨w3.heap.size, 0, none⟩ = some (.slice Ao2 oc.length co2) := (blk_cell PJ.out.xo 0).trans rfl
              by_cases c : j < 2
              · have c1b : decide ((j : Int) < 2) = true := decide_eq_true (by omega)
                have c1d := eq_true (show (j : Int) < 2 by omega)
                have c1e := eq_true (show (0 : Int) ≤ (j : Int) by omega)
                obtain ⟨Ap, cp, p, hdr, hcp, hrp⟩ := PJ.out.pick c
                have hpt := HPJ.out
                rw [hdr] at hpt
                unfold tab_parts at hpt
                obtain ⟨t1, ht1, hpt⟩ := Option.bind_eq_some_iff.mp hpt
                obtain ⟨t3, ht3, hpt⟩ := Option.bind_eq_some_iff.mp hpt
                obtain ⟨oc2, hoc2, hpt⟩ := Option.bind_eq_some_iff.mp hpt
                have HT1 := Aside0.mk ht1
                have HT3 := Aside0.mk ht3
                have HOC := Aside0.mk hoc2
                have HPT := Aside0.mk hpt
                have HRP := Aside0.mk hrp
                have HC := Aside0.mk c
                have hj1 : wrap64 ((j : Int) + 1) = ((j + 1 : Nat) : Int) := td_w1 j (by omega)
                have HJ1 := Aside0.mk hj1
                clear hdr hpt ht1 ht3 hoc2 hrp hj1 HPJ c
                go_upto_region 31 with (first
                  | (go_at_call 23; with_reducible refine (put4_in k At ct ts (IntKind.u64.wrap (oc.length : Int)) t1 _ PJ.out.rt HT1.out).mono ?_; rintro ex w10 ⟨v10, rfl, hob, hb⟩
                     have HS10 : Aside0 (wr.heap.size ≤ w10.heap.size) := ⟨hb.size⟩
                     have HV10 := Aside0.mk (fun q (e : v10.ownBlock = some q) => Kd.R_base hob q e)
                     obtain ⟨A10, c10, e10⟩ := Kd.R_slice hob
                     subst e10
                     have P10 := Aside0.mk ((PJ.out.below rfl hb).tail (Kd.R_lower hob (below_size PJ.out.hb)))
                     have RP10 := Aside0.mk (Kd.R_below HRP.out hb)
                     clear hob hb)
                  | (go_at_call 23; with_reducible refine (put4_in k A10 c10 t1 (IntKind.u64.wrap (p.length : Int)) t3 _ P10.out.rt HT3.out).mono ?_; rintro ex w11 ⟨v11, rfl, hob, hb⟩
                     have HV11 := Aside0.mk (fun q (e : v11.ownBlock = some q) => Kd.R_base hob q e)
                     obtain ⟨A11, c11, e11⟩ := Kd.R_slice hob
                     subst e11
                     have P11 := Aside0.mk ((P10.out.below rfl hb).tail (Kd.R_lower hob (below_size P10.out.hb)))
                     have RP11 := Aside0.mk (Kd.R_below RP10.out hb)
                     have HVO2 := Aside0.mk (Kd.R_lt PJ.out.ro)
                     have hco3 : w11.cell? ⟨w3.heap.size, 0, none⟩ = some (.slice Ao2 oc.length co2) := (blk_cell P11.out.xo 0).trans rfl
                     have hcf3 := blk_frozen P11.out.xo 0
                     clear hob hb hco hcp)
                  | (go_at_call 22; with_reducible refine (sstable_summed.calls k (fun q => (Value.slice Ao2 oc.length co2).ownBlock = some q) (.slice Ao2 oc.length co2) oc Ap cp p oc2 w _ P11.out.hb (R_self P11.out.ro) (fun W_ hk => (Kd.R_reads' (R_kept RP11.out (fun q hq => hq) hk)).2.2) (Kd.R_reads' RP11.out).2.1 HOC.out).mono ?_; rintro ex w12 ⟨v12, rfl, hob, hb, hk⟩
                     have P12 := Aside0.mk (P11.out.put HBL3.out HNG.out rfl hob hb hk (fun q e e2 => absurd (HVO2.out q e) (by have h1 := HV11.out q e2; have h2 := HS10.out; omega)))
                     have hxf : w12.frozen? ⟨w3.heap.size, 0, none⟩ = false := blk_frozen ((hk.2 _ (blk_lt2 P11.out.xo) (fun e => Kd.R_ne P11.out.ro P11.out.xo (by decide) e.symm)).trans P11.out.xo) 0
                     have hxc : w12.cell? ⟨w3.heap.size, 0, none⟩ = some (.slice Ao2 oc.length co2) := (blk_cell ((hk.2 _ (blk_lt2 P11.out.xo) (fun e => Kd.R_ne P11.out.ro P11.out.xo (by decide) e.symm)).trans P11.out.xo) 0).trans rfl
                     obtain ⟨A12, c12, e12⟩ := Kd.R_slice hob
                     subst e12
                     clear hob hb hk hco3 hcf3))

                clear hxf hxc
                obtain ⟨w13, hw13⟩ : ∃ x, w12.setCell ⟨w3.heap.size, 0, none⟩ (.slice A12 oc2.length c12) = x := ⟨_, rfl⟩
                rw [hw13] at P12 ⊢
                clear hw13
                go_wp2
                simp only [HJ1.out]
                go_roundg g1
                case measure => omega
                case rel => exact ⟨j + 1, oc2, _, A11, c11, t3, rfl, rfl, ⟨by have := HJ.out.1; omega, HC.out⟩, HPT, P12⟩
              · have c1b : decide ((j : Int) < 2) = false := decide_eq_false (by omega)
                have hj2 : j = 2 := by have := HJ.out.2; omega
                have hpt := HPJ.out
                rw [hj2] at hpt
                have hpt2 := Option.some.inj hpt
                simp only [Prod.mk.injEq] at hpt2
                obtain ⟨e1, e2⟩ := hpt2
                rw [← e2] at HTL
                rw [← e1] at HF
                have hlt : oc.length + tl.length < 1000000000000 := by
                  have h1 := HF.out
                  split at h1
                  case isTrue h2 => exact h2
                  case isFalse => cases h1
                have hr := HF.out
                rw [if_pos hlt] at hr
                obtain rfl := Option.some.inj hr
                have HLT2 := Aside0.mk hlt
                clear c hpt hj2 HJ HPJ e1 e2 hlt hr HF hco
                go_wp2_with (first
                  | (go_at_call 23; with_reducible refine (put4_in k At ct ts (IntKind.u64.wrap (l.length : Int)) tl _ PJ.out.rt HTL.out).mono ?_; rintro ex w14 ⟨v14, rfl, hob, hb⟩
                     obtain ⟨A14, c14, e14⟩ := Kd.R_slice hob
                     subst e14
                     have P14 := Aside0.mk ((PJ.out.below rfl hb).tail (Kd.R_lower hob (below_size PJ.out.hb)))
                     have hco14 : w14.cell? ⟨w3.heap.size, 0, none⟩ = some (.slice Ao2 oc.length co2) := (blk_cell P14.out.xo 0).trans rfl
                     clear hob hb)
                  | ((with_reducible refine gate_builtin (b := .append) (xs := #[.tmp 133, .tmp 134]) rfl ?_); at_builtin; refine Kd.R_append_rows (Kd.int .u8) (w0 := w) w.heap.size rfl (.tmp 133) (.tmp 134) 27 5 (.int .u8 0) 1 rfl Try.underlying27 info5 rfl (by decide) (by omega) (.slice Ao2 oc.length co2) oc tl _ _ _ (fun _ => True) (fun _ => False) rfl rfl (Kd.R_mono P14.out.ro (fun _ _ => trivial)) (Kd.R_reads' P14.out.rt).2.2 (fun _ _ h => h) (fun _ h => h.elim) (fun _ _ => trivial) P14.out.hb (below_size P14.out.hb) (by have := HLT2.out; omega) ?_
                     intro v15 w15 ho hb hg hat
                     have RO15 := Aside0.mk ho
                     have HB15 := Aside0.mk hb
                     have DK15 := Aside0.mk ((hg.block _ (blk_lt2 P14.out.dk) (fun e => by
                       obtain ⟨cells, hc⟩ := Kd.R_typed P14.out.ro _ e.symm
                       rw [P14.out.dk] at hc
                       cases hc)).trans P14.out.dk)
                     clear ho hb hg hat hco14)
                  | ((with_reducible refine gate_builtin (b := .append) (xs := #[.tmp 135, .const (.string tabMagic)]) rfl ?_); at_builtin; refine h_R_append_str (w0 := w) w.heap.size rfl (.tmp 135) (.const (.string tabMagic)) 27 9 5 rfl Try.underlying27 Try.underlying9 info5 v15 (oc ++ tl) tabMagic (fun _ => True) rfl rfl RO15.out (fun _ _ => trivial) HB15.out (below_size HB15.out) (by rw [List.length_append]; have := HLT2.out; show oc.length + tl.length + 8 ≤ _; omega) ?_
                     intro v16 w16 ho hb hg hat
                     rw [List.append_assoc] at ho
                     have RO16 := Aside0.mk ho
                     have HB16 := Aside0.mk hb
                     have DK16 := Aside0.mk ((hg.block _ (blk_lt2 DK15.out) (fun e => by
                       obtain ⟨cells, hc⟩ := Kd.R_typed RO15.out _ e.symm
                       rw [DK15.out] at hc
                       cases hc)).trans DK15.out)
                     clear ho hb hg hat))
                refine leaves_marks (by simp) [D] w.heap.size _ ⟨by simp, fun D' hD' => by
                  rcases List.mem_singleton.1 hD' with rfl
                  exact ⟨⟨Nat.le_trans hws HDD.out, blk_lt2 DK16.out⟩, DK16.out⟩⟩ ?_
                intro w' hbw hkw
                exact ⟨.tuple #[v16, .int .i64 0], by simp [results, Try.f10, go_sem], v16, rfl, Kd.R_mono (Kd.R_move (Kd.R_bound RO16.out) (fun k hk => hkw k (fun x e => by
                  obtain ⟨_, _, _, q, hq, cells, hc⟩ := hk
                  rw [hc] at e
                  cases e))) (fun _ _ => trivial), HB16.out.trans hbw⟩
end Go.Proofs.Ythdemdjobgbpdaa.T
