/- sstable's search among places. -/
import Derived.Test.YthdemdjobgbpdaaTV
namespace Go.Proofs.Ythdemdjobgbpdaa.T
open Go.RowKit Go.Shelf Go.Proofs.YthdemdjobgbpdaaW.PrintWords Go.Proofs.YthdemdjobgbpdaaW.PrintLast Go.Proofs.YthdemdjobgbpdaaW.PrintMore Go.Proofs.Ythdemdjobgbpdaa.P Go.Proofs.Ythdemdjobgbpdaa.B Go.Proofs.Ythdemdjobgbpdaa.Q
attribute [local go_sem] Oper.semAt_some
set_option linter.unusedVariables false
set_option linter.unusedSimpArgs false
def keyV (x : S45) : Value := .agg #[.string x.f0, .int .u64 x.f1, .int .i64 x.f2]
def plV (p : SPl) : Value := .agg #[.string p.f0.f0, .int .u64 p.f0.f1, .int .i64 p.f0.f2, .int .i64 (p.f1 : Int), .int .i64 (p.f2 : Int)]
def cmpP (x : SPl) (q : S45) : Option Int := ikey_Compare.f x.f0.f0 x.f0.f1 x.f0.f2 q.f0 q.f1 q.f2
set_option maxRecDepth 100000 in
set_option maxHeartbeats 1000000 in
theorem get1_calls (x : SPl) (q : S45) (r : Int) (w : World) (h : cmpP x q = some r) : Calls Try.prog 42 #[plV x, keyV q] w fun e w' => e = .returned (.int .i64 r) ∧ Below w.heap.size w w' := by
  unfold plV keyV
  unfold cmpP at h
  have H := Aside0.mk h
  clear h
  go_enter Try.func42, Try.ntmps42
  go_upto_region 1 with fail
  obtain ⟨w2, hw2⟩ : ∃ y, (w.alloc (.cells #[.string x.f0.f0, .int .u64 x.f0.f1, .int .i64 x.f0.f2, .int .i64 (x.f1 : Int), .int .i64 (x.f2 : Int)] 82)).alloc (.cells #[.string q.f0, .int .u64 q.f1, .int .i64 q.f2] 45) = y := ⟨_, rfl⟩
  have hb2 : Below w.heap.size w w2 := by rw [← hw2]; exact below_alloc (below_alloc (Below.refl _ _) _) _
  have b1 : w2.heap[w.heap.size]? = some (.cells #[.string x.f0.f0, .int .u64 x.f0.f1, .int .i64 x.f0.f2, .int .i64 (x.f1 : Int), .int .i64 (x.f2 : Int)] 82 (0, 0)) := by rw [← hw2]; exact blk_alloc (blk_new w _) _
  have b2 : w2.heap[w.heap.size + 1]? = some (.cells #[.string q.f0, .int .u64 q.f1, .int .i64 q.f2] 45 (0, 0)) := by
    rw [← hw2]
    have := blk_new (w.alloc (.cells #[.string x.f0.f0, .int .u64 x.f0.f1, .int .i64 x.f0.f2, .int .i64 (x.f1 : Int), .int .i64 (x.f2 : Int)] 82)) (.cells #[.string q.f0, .int .u64 q.f1, .int .i64 q.f2] 45)
    rwa [World.size_alloc] at this
  have HB2 := Aside0.mk hb2
  rw [hw2]
  have k0 : w2.cell? ⟨w.heap.size, 0, none⟩ = some (.string x.f0.f0) := (blk_cell b1 0).trans rfl
  have k1 : w2.cell? ⟨w.heap.size, 1, none⟩ = some (.int .u64 x.f0.f1) := (blk_cell b1 1).trans rfl
  have k2 : w2.cell? ⟨w.heap.size, 2, none⟩ = some (.int .i64 x.f0.f2) := (blk_cell b1 2).trans rfl
  have m0 : w2.cell? ⟨w.heap.size + 1, 0, none⟩ = some (.string q.f0) := (blk_cell b2 0).trans rfl
  have m1 : w2.cell? ⟨w.heap.size + 1, 1, none⟩ = some (.int .u64 q.f1) := (blk_cell b2 1).trans rfl
  have m2 : w2.cell? ⟨w.heap.size + 1, 2, none⟩ = some (.int .i64 q.f2) := (blk_cell b2 2).trans rfl
  clear hw2 hb2 b1 b2
  go_wp2_with (first
    | (go_at_call 39; with_reducible refine (ikey_Compare.calls x.f0.f0 x.f0.f1 x.f0.f2 q.f0 q.f1 q.f2 r _ H.out).mono ?_; rintro ex w3 ⟨rfl, hb⟩
       have HB3 := Aside0.mk (below_step HB2.out hb)
       clear hb))
  go_ret
  exact ⟨rfl, HB3.out⟩
theorem bs_mid (i j h : Nat) (e : (i + j) / 2 = h) (hl : i + j < 2000000000) : wrap64 (IntKind.u64.wrap (wrap64 ((i : Int) + (j : Int))) / 2) = (h : Int) := by
  have h1 : wrap64 ((i : Int) + (j : Int)) = ((i + j : Nat) : Int) := by unfold wrap64; omega
  rw [h1]
  have h2 : IntKind.u64.wrap ((i + j : Nat) : Int) = ((i + j : Nat) : Int) := by simp [IntKind.wrap, IntKind.bits, IntKind.signed]; omega
  rw [h2]
  have h3 : ((i + j : Nat) : Int) / 2 = (h : Int) := by omega
  rw [h3]
  unfold wrap64
  omega
section
variable {P : Program} {ops : Array Oper} {Q : Exit → Act → World → Prop}
/-- a call of a function value -/
theorem goesT_ {oi : Oper} {N : Option Tmp} {a : Act} {w : World} {K : Act → World → Prop} {f : FuncId} {fn : Func} {x : Operand} {xs_ : Array Operand} {ts : Array TypeId} (hf : P.funcs[f]? = some fn) (hname : (fn.name == "runtime.NumGoroutine") = false) (hb : fn.body.isSome = true) (args : Array Value)
    (hw : Region.wanted oi (yielded ops a.tmps) = true) (hN : oi.dst = N) (hop : oi.op = .call { callee := .value x, args := xs_, argTypes := ts }) (hx : a.eval x = .func (.func f) #[] #[]) (hargs : xs_.map a.eval = args)
    (h : Calls P f args w fun e w' => ∃ v, e = .returned v ∧ K (a.put N v) w') : if Region.wanted oi (yielded ops a.tmps) = true then Oper.wp P oi a w K Q else K (a.put N undef) w := by
  refine call_ f args hw hN ?_ h
  have he := enters_ hf hname hb args w
  unfold execOp
  simp [hop, resolve, hx, Deferred.ofValue, invoke, hargs, he]
end
theorem bs_w1 (a : Nat) (h : a < 1000000000000) : wrap64 ((a : Int) + 1) = ((a + 1 : Nat) : Int) := by unfold wrap64; omega
def bs_l : Nat → List SPl → S45 → Nat → Nat → Option Nat
  | 0, _, _, _, _ => none
  | g + 1, ps, q, i, j => if i < j then (cmpP (rd_TPl ps (((i + j) / 2 : Nat) : Int)) q).bind fun c => if c < 0 then bs_l g ps q ((i + j) / 2 + 1) j else bs_l g ps q i ((i + j) / 2) else some i
def bs_f (k : Nat) (ps : List SPl) (q : S45) : Option (Nat × Bool) :=
  if ps.length < 1000000000 then (bs_l k ps q 0 ps.length).bind fun i => if i < ps.length then (cmpP (rd_TPl ps (i : Int)) q).bind fun c => some (i, c == 0) else some (i, false) else none
set_option maxRecDepth 100000 in
set_option maxHeartbeats 4000000 in
theorem bs_calls (k : Nat) (A : Option Addr) (c : Nat) (ps : List SPl) (q : S45) (r : Nat × Bool) (w : World) (hC : Kd.C kPl w A ps.length ps) (hc : ps.length ≤ c) (hf : bs_f k ps q = some r) :
    Calls Try.prog 41 #[.slice A ps.length c, .agg #[.string q.f0, .int .u64 q.f1, .int .i64 q.f2], .func (.func 42) #[] #[]] w fun e w' => e = .returned (.tuple #[.int .i64 (r.1 : Int), .bool r.2]) ∧ Below w.heap.size w w' := by
  unfold bs_f at hf
  split at hf
  case isFalse => cases hf
  rename_i hlen
  obtain ⟨ri, hri, hf⟩ := Option.bind_eq_some_iff.mp hf
  have HC := Aside0.mk hC
  have HCC := Aside0.mk hc
  have HLEN := Aside0.mk hlen
  have HRI := Aside0.mk hri
  have HF := Aside0.mk hf
  clear hC hc hlen hri hf
  go_enter Try.func41, Try.ntmps41
  go_upto_region 3 with fail
  obtain ⟨w2, hw2⟩ : ∃ y, w.alloc (.cells #[.string q.f0, .int .u64 q.f1, .int .i64 q.f2] 45) = y := ⟨_, rfl⟩
  have HB2 : Aside0 (Below w.heap.size w w2) := ⟨by rw [← hw2]; exact below_alloc (Below.refl _ _) _⟩
  have BQ2 : Aside0 (w2.heap[w.heap.size]? = some (.cells #[.string q.f0, .int .u64 q.f1, .int .i64 q.f2] 45 (0, 0))) := ⟨by rw [← hw2]; exact blk_new w _⟩
  rw [hw2]
  clear hw2
  go_loopg [9, 10] k (fun gf v9 v10 wx => ∃ i j : Nat, v9 = .int .i64 (i : Int) ∧ v10 = .int .i64 (j : Int) ∧ Aside0 (i ≤ ps.length ∧ j ≤ ps.length) ∧ Aside0 (bs_l gf ps q i j = some ri) ∧ Aside0 (wx.heap[w.heap.size]? = some (.cells #[.string q.f0, .int .u64 q.f1, .int .i64 q.f2] 45 (0, 0))) ∧ Aside0 (Below w.heap.size w wx))
  case atStart => exact ⟨0, ps.length, rfl, rfl, ⟨Nat.zero_le _, Nat.le_refl _⟩, HRI, BQ2, HB2⟩
  case round =>
    clear BQ2 HB2 HRI
    obtain ⟨i, j, rfl, rfl, HI, HS, BQ, HB⟩ := hrel
    cases gk with
    | zero => exact absurd HS.out (by simp [bs_l])
    | succ g1 =>
      have hs := HS.out
      unfold bs_l at hs
      by_cases ci : i < j
      · rw [if_pos ci] at hs
        have d1 : decide ((i : Int) < (j : Int)) = true := decide_eq_true (by omega)
        have d1b : decide (i < j) = true := decide_eq_true ci
        obtain ⟨h, hh⟩ : ∃ y, (i + j) / 2 = y := ⟨_, rfl⟩
        rw [hh] at hs
        have hhl : h < ps.length := by have := HI.out; omega
        obtain ⟨cv, hcv, hs⟩ := Option.bind_eq_some_iff.mp hs
        obtain ⟨ad, eA, k0, k1, k2, k3, k4⟩ := at_TPl (Kd.C_below HC.out HB.out) (h : Int) (Int.natCast_nonneg h) (by omega)
        subst eA
        rw [Int.toNat_natCast] at k0 k1 k2 k3 k4
        obtain ⟨X, hX⟩ : ∃ x, rd_TPl ps (h : Int) = x := ⟨_, rfl⟩
        rw [hX] at hcv k0 k1 k2 k3 k4
        have HCV := Aside0.mk hcv
        have HS2 := Aside0.mk hs
        have p1 := eq_true (show (0 : Int) ≤ (h : Int) by omega)
        have p2 := eq_true (show (h : Int) < (ps.length : Int) by omega)
        have m0 : wr.cell? ⟨w.heap.size, 0, none⟩ = some (.string q.f0) := (blk_cell BQ.out 0).trans rfl
        have m1 : wr.cell? ⟨w.heap.size, 1, none⟩ = some (.int .u64 q.f1) := (blk_cell BQ.out 1).trans rfl
        have m2 : wr.cell? ⟨w.heap.size, 2, none⟩ = some (.int .i64 q.f2) := (blk_cell BQ.out 2).trans rfl
        have HHL := Aside0.mk hhl
        have HHH := Aside0.mk hh
        have HJL : Aside0 (i + j < 2000000000) := ⟨by have := HI.out; have := HLEN.out; omega⟩
        clear hX hs hcv HS hh hhl ci
        go_upto_region 5 with fail
        simp only [bs_mid i j h HHH.out HJL.out]
        have HBd : Aside0 (Below w.heap.size w wr.drew) := ⟨below_drew1 HB.out⟩
        have BQd : Aside0 (wr.drew.heap[w.heap.size]? = some (.cells #[.string q.f0, .int .u64 q.f1, .int .i64 q.f2] 45 (0, 0))) := ⟨blk_drew BQ.out⟩
        refine start_ (n := 8) (S := fun w' => w'.cell? (ad.add (h * 5)) = some (.string X.f0.f0) ∧ w'.cell? ⟨(ad.add (h * 5)).block, (ad.add (h * 5)).off + 1, none⟩ = some (.int .u64 X.f0.f1) ∧ w'.cell? ⟨(ad.add (h * 5)).block, (ad.add (h * 5)).off + 2, none⟩ = some (.int .i64 X.f0.f2) ∧ w'.cell? ⟨(ad.add (h * 5)).block, (ad.add (h * 5)).off + 3, none⟩ = some (.int .i64 (X.f1 : Int)) ∧ w'.cell? ⟨(ad.add (h * 5)).block, (ad.add (h * 5)).off + 4, none⟩ = some (.int .i64 (X.f2 : Int)) ∧ w'.cell? ⟨w.heap.size, 0, none⟩ = some (.string q.f0) ∧ w'.cell? ⟨w.heap.size, 1, none⟩ = some (.int .u64 q.f1) ∧ w'.cell? ⟨w.heap.size, 2, none⟩ = some (.int .i64 q.f2)) (ds := []) #[false, false, false, false, false, false, false, false] (by kernel_rfl) rfl rfl ⟨(by exact k0), (by exact k1), (by exact k2), (by exact k3), (by exact k4), (by exact m0), (by exact m1), (by exact m2)⟩ (fun hHeld => ?_)
        refine pure_ (i := 0) (N := some 24) (v := ?_) (a' := ?_) #[true, false, false, false, false, false, false, false] rfl rfl (by kernel_rfl) (fun _ _ _ h => h) (Or.inl ⟨by rfl, ?_⟩) ?_ ?_
        rotate_left
        · intro w'
          go_simp
          with_reducible rfl
        rotate_left
        · simp only [Act.put, List.setIfInBounds_toArray, List.set_cons_zero, List.set_cons_succ, i64_w, i32_w]
          rfl
        refine pure_ (i := 1) (N := some 25) (v := ?_) (a' := ?_) #[true, true, false, false, false, false, false, false] rfl rfl (by kernel_rfl) (fun _ _ _ h => h) (Or.inl ⟨by rfl, ?_⟩) ?_ ?_
        rotate_left
        · intro w'
          go_simp
          with_reducible rfl
        rotate_left
        · simp only [Act.put, List.setIfInBounds_toArray, List.set_cons_zero, List.set_cons_succ, i64_w, i32_w]
          rfl
        refine pure_ (i := 2) (N := some 26) (v := ?_) (a' := ?_) #[true, true, true, false, false, false, false, false] rfl rfl (by kernel_rfl) (fun _ _ _ h => h) (Or.inl ⟨by rfl, ?_⟩) ?_ ?_
        rotate_left
        · intro w'
          go_simp
          with_reducible rfl
        rotate_left
        · simp only [Act.put, List.setIfInBounds_toArray, List.set_cons_zero, List.set_cons_succ, i64_w, i32_w]
          rfl
        refine pure_ (i := 3) (N := some 27) (v := ?_) (a' := ?_) #[true, true, true, true, false, false, false, false] rfl rfl (by kernel_rfl) (fun _ _ _ h => h) (Or.inl ⟨by rfl, ?_⟩) ?_ ?_
        rotate_left
        · intro w'
          go_simp
          with_reducible rfl
        rotate_left
        · simp only [Act.put, List.setIfInBounds_toArray, List.set_cons_zero, List.set_cons_succ, i64_w, i32_w]
          rfl
        refine take_ (i := 4) (N := some 28) (v := ?_) (a' := ?_) #[true, true, true, true, true, false, false, false] rfl rfl (by kernel_rfl) (fun _ _ _ h => h) (Or.inl ⟨by rfl, ?_⟩) hHeld ?_ ?_
        rotate_left
        · rintro w' ⟨s0, s1, s2, s3, s4, s5, s6, s7⟩
          go_simp
          with_reducible rfl
        rotate_left
        · simp only [Act.put, List.setIfInBounds_toArray, List.set_cons_zero, List.set_cons_succ, i64_w, i32_w]
          rfl
        refine take_ (i := 5) (N := some 29) (v := ?_) (a' := ?_) #[true, true, true, true, true, true, false, false] rfl rfl (by kernel_rfl) (fun _ _ _ h => h) (Or.inl ⟨by rfl, ?_⟩) hHeld ?_ ?_
        rotate_left
        · rintro w' ⟨s0, s1, s2, s3, s4, s5, s6, s7⟩
          go_simp
          with_reducible rfl
        rotate_left
        · simp only [Act.put, List.setIfInBounds_toArray, List.set_cons_zero, List.set_cons_succ, i64_w, i32_w]
          rfl
        refine one_ (i := 6) (N := some 30) #[true, true, true, true, true, true, true, false] rfl rfl (by kernel_rfl) (by decide) (fun K hK => ?_)
        refine goesT_ Try.func42 (by kernel_rfl) rfl #[plV X, keyV q] (by rfl) rfl rfl (by rfl) (by simp only [List.map_toArray, List.map_cons, List.map_nil]; rfl) ?_
        with_reducible refine (get1_calls X q cv _ HCV.out).mono ?_
        rintro ex w3 ⟨rfl, hb⟩
        refine ⟨_, rfl, ?_⟩
        have HB3 := Aside0.mk (below_step HBd.out hb)
        have BQ3 := Aside0.mk (blk_below BQd.out hb)
        refine hK.out _ _ ⟨(hb.cell (World.block_lt_of_cell? _ _ hHeld.1)).trans hHeld.1, (hb.cell (World.block_lt_of_cell? _ _ hHeld.2.1)).trans hHeld.2.1, (hb.cell (World.block_lt_of_cell? _ _ hHeld.2.2.1)).trans hHeld.2.2.1, (hb.cell (World.block_lt_of_cell? _ _ hHeld.2.2.2.1)).trans hHeld.2.2.2.1, (hb.cell (World.block_lt_of_cell? _ _ hHeld.2.2.2.2.1)).trans hHeld.2.2.2.2.1, (hb.cell (World.block_lt_of_cell? _ _ hHeld.2.2.2.2.2.1)).trans hHeld.2.2.2.2.2.1, (hb.cell (World.block_lt_of_cell? _ _ hHeld.2.2.2.2.2.2.1)).trans hHeld.2.2.2.2.2.2.1, (hb.cell (World.block_lt_of_cell? _ _ hHeld.2.2.2.2.2.2.2)).trans hHeld.2.2.2.2.2.2.2⟩ (fun hHeld => ?_)
        clear hK K
        refine norm_ (a' := ?_) ?_ ?_
        rotate_left
        · show Act.put _ (some 30) _ = _
          simp only [Act.put, List.setIfInBounds_toArray, List.set_cons_zero, List.set_cons_succ, i64_w, i32_w]
          rfl
        refine pure_ (i := 7) (N := some 31) (v := ?_) (a' := ?_) #[true, true, true, true, true, true, true, true] rfl rfl (by kernel_rfl) (fun _ _ _ h => h) (Or.inl ⟨by rfl, ?_⟩) ?_ ?_
        rotate_left
        · intro w'
          go_simp
          with_reducible rfl
        rotate_left
        · simp only [Act.put, List.setIfInBounds_toArray, List.set_cons_zero, List.set_cons_succ, i64_w, i32_w]
          rfl
        refine done_ (by kernel_rfl) ?_
        by_cases cc : cv < 0
        · have e1 : decide (cv < 0) = true := decide_eq_true cc
          have e1b := eq_true cc
          have hs2 := HS2.out
          rw [if_pos cc] at hs2
          have HS3 := Aside0.mk hs2
          have hw1 := bs_w1 h (by have := HHL.out; have := HLEN.out; omega)
          clear cc hs2 HS2
          simp only [e1]
          go_wp2
          simp only [hw1]
          go_roundg g1
          case measure => exact Nat.lt_succ_self _
          case rel => exact ⟨h + 1, j, rfl, rfl, ⟨by have := HHL.out; omega, HI.out.2⟩, HS3, BQ3, HB3⟩
        · have e1 : decide (cv < 0) = false := decide_eq_false cc
          have e1b := eq_false cc
          have hs2 := HS2.out
          rw [if_neg cc] at hs2
          have HS3 := Aside0.mk hs2
          clear cc hs2 HS2
          simp only [e1]
          go_wp2
          go_roundg g1
          case measure => exact Nat.lt_succ_self _
          case rel => exact ⟨i, h, rfl, rfl, ⟨HI.out.1, by have := HHL.out; omega⟩, HS3, BQ3, HB3⟩
      · rw [if_neg ci] at hs
        have hs2 := Option.some.inj hs
        have d1 : decide ((i : Int) < (j : Int)) = false := decide_eq_false (by omega)
        have d1b : decide (i < j) = false := decide_eq_false ci
        subst hs2
        clear hs ci HS
        have HBd : Aside0 (Below w.heap.size w wr.drew) := ⟨below_drew1 HB.out⟩
        by_cases ce : i < ps.length
        · have e1 : decide ((i : Int) < (ps.length : Int)) = true := decide_eq_true (by omega)
          have e1b : decide (i < ps.length) = true := decide_eq_true ce
          have hf := HF.out
          rw [if_pos ce] at hf
          obtain ⟨cv, hcv, hf⟩ := Option.bind_eq_some_iff.mp hf
          obtain rfl := Option.some.inj hf
          obtain ⟨ad, eA, k0, k1, k2, k3, k4⟩ := at_TPl (Kd.C_below HC.out HB.out) (i : Int) (Int.natCast_nonneg i) (by omega)
          subst eA
          rw [Int.toNat_natCast] at k0 k1 k2 k3 k4
          obtain ⟨X, hX⟩ : ∃ x, rd_TPl ps (i : Int) = x := ⟨_, rfl⟩
          rw [hX] at hcv k0 k1 k2 k3 k4
          have HCV := Aside0.mk hcv
          have p1 := eq_true (show (0 : Int) ≤ (i : Int) by omega)
          have p2 := eq_true (show (i : Int) < (ps.length : Int) by omega)
          have m0 : wr.cell? ⟨w.heap.size, 0, none⟩ = some (.string q.f0) := (blk_cell BQ.out 0).trans rfl
          have m1 : wr.cell? ⟨w.heap.size, 1, none⟩ = some (.int .u64 q.f1) := (blk_cell BQ.out 1).trans rfl
          have m2 : wr.cell? ⟨w.heap.size, 2, none⟩ = some (.int .i64 q.f2) := (blk_cell BQ.out 2).trans rfl
          clear hX hcv hf HF ce
          go_upto_region 8 with fail
          refine start_ (n := 16) (S := fun w' => w'.cell? (ad.add (i * 5)) = some (.string X.f0.f0) ∧ w'.cell? ⟨(ad.add (i * 5)).block, (ad.add (i * 5)).off + 1, none⟩ = some (.int .u64 X.f0.f1) ∧ w'.cell? ⟨(ad.add (i * 5)).block, (ad.add (i * 5)).off + 2, none⟩ = some (.int .i64 X.f0.f2) ∧ w'.cell? ⟨(ad.add (i * 5)).block, (ad.add (i * 5)).off + 3, none⟩ = some (.int .i64 (X.f1 : Int)) ∧ w'.cell? ⟨(ad.add (i * 5)).block, (ad.add (i * 5)).off + 4, none⟩ = some (.int .i64 (X.f2 : Int)) ∧ w'.cell? ⟨w.heap.size, 0, none⟩ = some (.string q.f0) ∧ w'.cell? ⟨w.heap.size, 1, none⟩ = some (.int .u64 q.f1) ∧ w'.cell? ⟨w.heap.size, 2, none⟩ = some (.int .i64 q.f2)) (ds := []) #[false, false, false, false, false, false, false, false, false, false, false, false, false, false, false, false] (by kernel_rfl) rfl rfl ⟨(by exact k0), (by exact k1), (by exact k2), (by exact k3), (by exact k4), (by exact m0), (by exact m1), (by exact m2)⟩ (fun hHeld => ?_)
          refine pure_ (i := 0) (N := some 35) (v := ?_) (a' := ?_) #[true, false, false, false, false, false, false, false, false, false, false, false, false, false, false, false] rfl rfl (by kernel_rfl) (fun _ _ _ h => h) (Or.inl ⟨by rfl, ?_⟩) ?_ ?_
          rotate_left
          · intro w'
            go_simp
            with_reducible rfl
          rotate_left
          · simp only [Act.put, List.setIfInBounds_toArray, List.set_cons_zero, List.set_cons_succ, i64_w, i32_w]
            rfl
          refine pure_ (i := 1) (N := some 36) (v := ?_) (a' := ?_) #[true, true, false, false, false, false, false, false, false, false, false, false, false, false, false, false] rfl rfl (by kernel_rfl) (fun _ _ _ h => h) (Or.inl ⟨by rfl, ?_⟩) ?_ ?_
          rotate_left
          · intro w'
            go_simp
            with_reducible rfl
          rotate_left
          · simp only [Act.put, List.setIfInBounds_toArray, List.set_cons_zero, List.set_cons_succ, i64_w, i32_w]
            rfl
          refine pure_ (i := 2) (N := some 37) (v := ?_) (a' := ?_) #[true, true, true, false, false, false, false, false, false, false, false, false, false, false, false, false] rfl rfl (by kernel_rfl) (fun _ _ _ h => h) (Or.inl ⟨by rfl, ?_⟩) ?_ ?_
          rotate_left
          · intro w'
            go_simp
            with_reducible rfl
          rotate_left
          · simp only [Act.put, List.setIfInBounds_toArray, List.set_cons_zero, List.set_cons_succ, i64_w, i32_w]
            rfl
          refine pure_ (i := 3) (N := some 38) (v := ?_) (a' := ?_) #[true, true, true, true, false, false, false, false, false, false, false, false, false, false, false, false] rfl rfl (by kernel_rfl) (fun _ _ _ h => h) (Or.inl ⟨by rfl, ?_⟩) ?_ ?_
          rotate_left
          · intro w'
            go_simp
            with_reducible rfl
          rotate_left
          · simp only [Act.put, List.setIfInBounds_toArray, List.set_cons_zero, List.set_cons_succ, i64_w, i32_w]
            rfl
          refine pure_ (i := 4) (N := some 39) (v := ?_) (a' := ?_) #[true, true, true, true, true, false, false, false, false, false, false, false, false, false, false, false] rfl rfl (by kernel_rfl) (fun _ _ _ h => h) (Or.inl ⟨by rfl, ?_⟩) ?_ ?_
          rotate_left
          · intro w'
            go_simp
            with_reducible rfl
          rotate_left
          · simp only [Act.put, List.setIfInBounds_toArray, List.set_cons_zero, List.set_cons_succ, i64_w, i32_w]
            rfl
          refine pure_ (i := 5) (N := some 40) (v := ?_) (a' := ?_) #[true, true, true, true, true, true, false, false, false, false, false, false, false, false, false, false] rfl rfl (by kernel_rfl) (fun _ _ _ h => h) (Or.inl ⟨by rfl, ?_⟩) ?_ ?_
          rotate_left
          · intro w'
            go_simp
            with_reducible rfl
          rotate_left
          · simp only [Act.put, List.setIfInBounds_toArray, List.set_cons_zero, List.set_cons_succ, i64_w, i32_w]
            rfl
          refine pure_ (i := 6) (N := some 41) (v := ?_) (a' := ?_) #[true, true, true, true, true, true, true, false, false, false, false, false, false, false, false, false] rfl rfl (by kernel_rfl) (fun _ _ _ h => h) (Or.inl ⟨by rfl, ?_⟩) ?_ ?_
          rotate_left
          · intro w'
            go_simp
            with_reducible rfl
          rotate_left
          · simp only [Act.put, List.setIfInBounds_toArray, List.set_cons_zero, List.set_cons_succ, i64_w, i32_w]
            rfl
          refine pure_ (i := 7) (N := some 42) (v := ?_) (a' := ?_) #[true, true, true, true, true, true, true, true, false, false, false, false, false, false, false, false] rfl rfl (by kernel_rfl) (fun _ _ _ h => h) (Or.inl ⟨by rfl, ?_⟩) ?_ ?_
          rotate_left
          · intro w'
            go_simp
            with_reducible rfl
          rotate_left
          · simp only [Act.put, List.setIfInBounds_toArray, List.set_cons_zero, List.set_cons_succ, i64_w, i32_w]
            rfl
          refine pure_ (i := 8) (N := some 43) (v := ?_) (a' := ?_) #[true, true, true, true, true, true, true, true, true, false, false, false, false, false, false, false] rfl rfl (by kernel_rfl) (fun _ _ _ h => h) (Or.inl ⟨by rfl, ?_⟩) ?_ ?_
          rotate_left
          · intro w'
            go_simp
            with_reducible rfl
          rotate_left
          · simp only [Act.put, List.setIfInBounds_toArray, List.set_cons_zero, List.set_cons_succ, i64_w, i32_w]
            rfl
          refine take_ (i := 9) (N := some 44) (v := ?_) (a' := ?_) #[true, true, true, true, true, true, true, true, true, true, false, false, false, false, false, false] rfl rfl (by kernel_rfl) (fun _ _ _ h => h) (Or.inl ⟨by rfl, ?_⟩) hHeld ?_ ?_
          rotate_left
          · rintro w' ⟨s0, s1, s2, s3, s4, s5, s6, s7⟩
            go_simp
            with_reducible rfl
          rotate_left
          · simp only [Act.put, List.setIfInBounds_toArray, List.set_cons_zero, List.set_cons_succ, i64_w, i32_w]
            rfl
          refine take_ (i := 10) (N := some 45) (v := ?_) (a' := ?_) #[true, true, true, true, true, true, true, true, true, true, true, false, false, false, false, false] rfl rfl (by kernel_rfl) (fun _ _ _ h => h) (Or.inl ⟨by rfl, ?_⟩) hHeld ?_ ?_
          rotate_left
          · rintro w' ⟨s0, s1, s2, s3, s4, s5, s6, s7⟩
            go_simp
            with_reducible rfl
          rotate_left
          · simp only [Act.put, List.setIfInBounds_toArray, List.set_cons_zero, List.set_cons_succ, i64_w, i32_w]
            rfl
          refine one_ (i := 11) (N := some 46) #[true, true, true, true, true, true, true, true, true, true, true, true, false, false, false, false] rfl rfl (by kernel_rfl) (by decide) (fun K hK => ?_)
          refine goesT_ Try.func42 (by kernel_rfl) rfl #[plV X, keyV q] (by rfl) rfl rfl (by rfl) (by simp only [List.map_toArray, List.map_cons, List.map_nil]; rfl) ?_
          with_reducible refine (get1_calls X q cv _ HCV.out).mono ?_
          rintro ex w3 ⟨rfl, hb⟩
          refine ⟨_, rfl, ?_⟩
          have HB3 := Aside0.mk (below_step HBd.out hb)
          refine hK.out _ _ ⟨(hb.cell (World.block_lt_of_cell? _ _ hHeld.1)).trans hHeld.1, (hb.cell (World.block_lt_of_cell? _ _ hHeld.2.1)).trans hHeld.2.1, (hb.cell (World.block_lt_of_cell? _ _ hHeld.2.2.1)).trans hHeld.2.2.1, (hb.cell (World.block_lt_of_cell? _ _ hHeld.2.2.2.1)).trans hHeld.2.2.2.1, (hb.cell (World.block_lt_of_cell? _ _ hHeld.2.2.2.2.1)).trans hHeld.2.2.2.2.1, (hb.cell (World.block_lt_of_cell? _ _ hHeld.2.2.2.2.2.1)).trans hHeld.2.2.2.2.2.1, (hb.cell (World.block_lt_of_cell? _ _ hHeld.2.2.2.2.2.2.1)).trans hHeld.2.2.2.2.2.2.1, (hb.cell (World.block_lt_of_cell? _ _ hHeld.2.2.2.2.2.2.2)).trans hHeld.2.2.2.2.2.2.2⟩ (fun hHeld => ?_)
          clear hK K
          refine norm_ (a' := ?_) ?_ ?_
          rotate_left
          · show Act.put _ (some 46) _ = _
            simp only [Act.put, List.setIfInBounds_toArray, List.set_cons_zero, List.set_cons_succ, i64_w, i32_w]
            rfl
          refine pure_ (i := 12) (N := some 47) (v := ?_) (a' := ?_) #[true, true, true, true, true, true, true, true, true, true, true, true, true, false, false, false] rfl rfl (by kernel_rfl) (fun _ _ _ h => h) (Or.inl ⟨by rfl, ?_⟩) ?_ ?_
          rotate_left
          · intro w'
            go_simp
            with_reducible rfl
          rotate_left
          · simp only [Act.put, List.setIfInBounds_toArray, List.set_cons_zero, List.set_cons_succ, i64_w, i32_w]
            rfl
          refine pure_ (i := 13) (N := some 48) (v := ?_) (a' := ?_) #[true, true, true, true, true, true, true, true, true, true, true, true, true, true, false, false] rfl rfl (by kernel_rfl) (fun _ _ _ h => h) (Or.inl ⟨by rfl, ?_⟩) ?_ ?_
          rotate_left
          · intro w'
            go_simp
            with_reducible rfl
          rotate_left
          · simp only [Act.put, List.setIfInBounds_toArray, List.set_cons_zero, List.set_cons_succ, i64_w, i32_w]
            rfl
          refine pure_ (i := 14) (N := some 6) (v := ?_) (a' := ?_) #[true, true, true, true, true, true, true, true, true, true, true, true, true, true, true, false] rfl rfl (by kernel_rfl) (fun _ _ _ h => h) (Or.inl ⟨by rfl, ?_⟩) ?_ ?_
          rotate_left
          · intro w'
            go_simp
            with_reducible rfl
          rotate_left
          · simp only [Act.put, List.setIfInBounds_toArray, List.set_cons_zero, List.set_cons_succ, i64_w, i32_w]
            rfl
          refine pure_ (i := 15) (N := some 7) (v := ?_) (a' := ?_) #[true, true, true, true, true, true, true, true, true, true, true, true, true, true, true, true] rfl rfl (by kernel_rfl) (fun _ _ _ h => h) (Or.inl ⟨by rfl, ?_⟩) ?_ ?_
          rotate_left
          · intro w'
            go_simp
            with_reducible rfl
          rotate_left
          · simp only [Act.put, List.setIfInBounds_toArray, List.set_cons_zero, List.set_cons_succ, i64_w, i32_w]
            rfl
          refine done_ (by kernel_rfl) ?_
          go_wp2
          go_ret2
          exact ⟨rfl, HB3.out⟩
        · have e1 : decide ((i : Int) < (ps.length : Int)) = false := decide_eq_false (by omega)
          have e1b : decide (i < ps.length) = false := decide_eq_false ce
          have hf := HF.out
          rw [if_neg ce] at hf
          obtain rfl := Option.some.inj hf
          clear hf HF ce
          go_upto_region 8 with fail
          refine start_ (n := 16) (S := fun w' => True) (ds := []) #[false, false, false, false, false, false, false, false, false, false, false, false, false, false, false, false] (by kernel_rfl) rfl rfl trivial (fun hHeld => ?_)
          refine pure_ (i := 0) (N := some 35) (v := ?_) (a' := ?_) #[true, false, false, false, false, false, false, false, false, false, false, false, false, false, false, false] rfl rfl (by kernel_rfl) (fun _ _ _ h => h) (Or.inl ⟨by rfl, ?_⟩) ?_ ?_
          rotate_left
          · intro w'
            go_simp
            with_reducible rfl
          rotate_left
          · simp only [Act.put, List.setIfInBounds_toArray, List.set_cons_zero, List.set_cons_succ, i64_w, i32_w]
            rfl
          refine pure_ (i := 1) (N := some 36) (v := ?_) (a' := ?_) #[true, true, false, false, false, false, false, false, false, false, false, false, false, false, false, false] rfl rfl (by kernel_rfl) (fun _ _ _ h => h) (Or.inl ⟨by rfl, ?_⟩) ?_ ?_
          rotate_left
          · intro w'
            go_simp
            with_reducible rfl
          rotate_left
          · simp only [Act.put, List.setIfInBounds_toArray, List.set_cons_zero, List.set_cons_succ, i64_w, i32_w]
            rfl
          refine pure_ (i := 2) (N := some 37) (v := ?_) (a' := ?_) #[true, true, true, false, false, false, false, false, false, false, false, false, false, false, false, false] rfl rfl (by kernel_rfl) (fun _ _ _ h => h) (Or.inl ⟨by rfl, ?_⟩) ?_ ?_
          rotate_left
          · intro w'
            go_simp
            with_reducible rfl
          rotate_left
          · simp only [Act.put, List.setIfInBounds_toArray, List.set_cons_zero, List.set_cons_succ, i64_w, i32_w]
            rfl
          refine pure_ (i := 3) (N := some 38) (v := ?_) (a' := ?_) #[true, true, true, true, false, false, false, false, false, false, false, false, false, false, false, false] rfl rfl (by kernel_rfl) (fun _ _ _ h => h) (Or.inl ⟨by rfl, ?_⟩) ?_ ?_
          rotate_left
          · intro w'
            go_simp
            with_reducible rfl
          rotate_left
          · simp only [Act.put, List.setIfInBounds_toArray, List.set_cons_zero, List.set_cons_succ, i64_w, i32_w]
            rfl
          refine pure_ (i := 4) (N := some 39) (v := ?_) (a' := ?_) #[true, true, true, true, true, false, false, false, false, false, false, false, false, false, false, false] rfl rfl (by kernel_rfl) (fun _ _ _ h => h) (Or.inl ⟨by rfl, ?_⟩) ?_ ?_
          rotate_left
          · intro w'
            go_simp
            with_reducible rfl
          rotate_left
          · simp only [Act.put, List.setIfInBounds_toArray, List.set_cons_zero, List.set_cons_succ, i64_w, i32_w]
            rfl
          refine pure_ (i := 5) (N := some 40) (v := undef) (a' := ?_) #[true, true, true, true, true, true, false, false, false, false, false, false, false, false, false, false] rfl rfl (by kernel_rfl) (fun _ _ _ h => h) (Or.inr ⟨by rfl, rfl⟩) ?_ ?_
          rotate_left
          · simp only [Act.put, List.setIfInBounds_toArray, List.set_cons_zero, List.set_cons_succ, i64_w, i32_w]
            rfl
          refine pure_ (i := 6) (N := some 41) (v := undef) (a' := ?_) #[true, true, true, true, true, true, true, false, false, false, false, false, false, false, false, false] rfl rfl (by kernel_rfl) (fun _ _ _ h => h) (Or.inr ⟨by rfl, rfl⟩) ?_ ?_
          rotate_left
          · simp only [Act.put, List.setIfInBounds_toArray, List.set_cons_zero, List.set_cons_succ, i64_w, i32_w]
            rfl
          refine pure_ (i := 7) (N := some 42) (v := undef) (a' := ?_) #[true, true, true, true, true, true, true, true, false, false, false, false, false, false, false, false] rfl rfl (by kernel_rfl) (fun _ _ _ h => h) (Or.inr ⟨by rfl, rfl⟩) ?_ ?_
          rotate_left
          · simp only [Act.put, List.setIfInBounds_toArray, List.set_cons_zero, List.set_cons_succ, i64_w, i32_w]
            rfl
          refine pure_ (i := 8) (N := some 43) (v := undef) (a' := ?_) #[true, true, true, true, true, true, true, true, true, false, false, false, false, false, false, false] rfl rfl (by kernel_rfl) (fun _ _ _ h => h) (Or.inr ⟨by rfl, rfl⟩) ?_ ?_
          rotate_left
          · simp only [Act.put, List.setIfInBounds_toArray, List.set_cons_zero, List.set_cons_succ, i64_w, i32_w]
            rfl
          refine pure_ (i := 9) (N := some 44) (v := undef) (a' := ?_) #[true, true, true, true, true, true, true, true, true, true, false, false, false, false, false, false] rfl rfl (by kernel_rfl) (fun _ _ _ h => h) (Or.inr ⟨by rfl, rfl⟩) ?_ ?_
          rotate_left
          · simp only [Act.put, List.setIfInBounds_toArray, List.set_cons_zero, List.set_cons_succ, i64_w, i32_w]
            rfl
          refine pure_ (i := 10) (N := some 45) (v := undef) (a' := ?_) #[true, true, true, true, true, true, true, true, true, true, true, false, false, false, false, false] rfl rfl (by kernel_rfl) (fun _ _ _ h => h) (Or.inr ⟨by rfl, rfl⟩) ?_ ?_
          rotate_left
          · simp only [Act.put, List.setIfInBounds_toArray, List.set_cons_zero, List.set_cons_succ, i64_w, i32_w]
            rfl
          refine pure_ (i := 11) (N := some 46) (v := undef) (a' := ?_) #[true, true, true, true, true, true, true, true, true, true, true, true, false, false, false, false] rfl rfl (by kernel_rfl) (fun _ _ _ h => h) (Or.inr ⟨by rfl, rfl⟩) ?_ ?_
          rotate_left
          · simp only [Act.put, List.setIfInBounds_toArray, List.set_cons_zero, List.set_cons_succ, i64_w, i32_w]
            rfl
          refine pure_ (i := 12) (N := some 47) (v := undef) (a' := ?_) #[true, true, true, true, true, true, true, true, true, true, true, true, true, false, false, false] rfl rfl (by kernel_rfl) (fun _ _ _ h => h) (Or.inr ⟨by rfl, rfl⟩) ?_ ?_
          rotate_left
          · simp only [Act.put, List.setIfInBounds_toArray, List.set_cons_zero, List.set_cons_succ, i64_w, i32_w]
            rfl
          refine pure_ (i := 13) (N := some 48) (v := ?_) (a' := ?_) #[true, true, true, true, true, true, true, true, true, true, true, true, true, true, false, false] rfl rfl (by kernel_rfl) (fun _ _ _ h => h) (Or.inl ⟨by rfl, ?_⟩) ?_ ?_
          rotate_left
          · intro w'
            go_simp
            with_reducible rfl
          rotate_left
          · simp only [Act.put, List.setIfInBounds_toArray, List.set_cons_zero, List.set_cons_succ, i64_w, i32_w]
            rfl
          refine pure_ (i := 14) (N := some 6) (v := ?_) (a' := ?_) #[true, true, true, true, true, true, true, true, true, true, true, true, true, true, true, false] rfl rfl (by kernel_rfl) (fun _ _ _ h => h) (Or.inl ⟨by rfl, ?_⟩) ?_ ?_
          rotate_left
          · intro w'
            go_simp
            with_reducible rfl
          rotate_left
          · simp only [Act.put, List.setIfInBounds_toArray, List.set_cons_zero, List.set_cons_succ, i64_w, i32_w]
            rfl
          refine pure_ (i := 15) (N := some 7) (v := ?_) (a' := ?_) #[true, true, true, true, true, true, true, true, true, true, true, true, true, true, true, true] rfl rfl (by kernel_rfl) (fun _ _ _ h => h) (Or.inl ⟨by rfl, ?_⟩) ?_ ?_
          rotate_left
          · intro w'
            go_simp
            with_reducible rfl
          rotate_left
          · simp only [Act.put, List.setIfInBounds_toArray, List.set_cons_zero, List.set_cons_succ, i64_w, i32_w]
            rfl
          refine done_ (by kernel_rfl) ?_
          go_wp2
          go_ret2
          exact ⟨rfl, HBd.out⟩
end Go.Proofs.Ythdemdjobgbpdaa.T
