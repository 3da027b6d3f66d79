/- block's read, with both endings. -/
import Derived.Test.YthdemdjobgbpdaaBR
namespace Go.Proofs.Ythdemdjobgbpdaa.B
open Go.RowKit Go.Proofs.YthdemdjobgbpdaaW.PrintWords Go.Proofs.YthdemdjobgbpdaaW.PrintLast Go.Proofs.YthdemdjobgbpdaaW.PrintMore Go.Proofs.Ythdemdjobgbpdaa.P
set_option linter.unusedVariables false
set_option linter.unusedSimpArgs false
/-- a number, or the end -/
def nm {α : Type} (k : Nat) (D : List Int) (most : Int) (f : Int → List Int → Option (Option α)) : Option (Option α) :=
  (codec_Uvarint.f k D).bind fun u => if u.2.2 = 0 ∧ 0 ≤ u.1 ∧ u.1 ≤ most ∧ 0 ≤ u.2.1 ∧ u.2.1 ≤ (D.length : Int) then f u.1 (D.drop u.2.1.toNat) else if u.2.2 ≠ 0 ∨ most < u.1 then some none else none
/-- bytes, or the end -/
def tk {α : Type} (D : List Int) (n : Int) (f : List Int → List Int → Option (Option α)) : Option (Option α) := if n ≤ (D.length : Int) then f (D.take n.toNat) (D.drop n.toNat) else some none
theorem nm_out {α : Type} {k : Nat} {D : List Int} {most : Int} {f : Int → List Int → Option (Option α)} {r : Option α} (h : nm k D most f = some r) :
    ∃ n kk e, codec_Uvarint.f k D = some (n, kk, e) ∧ ((e = 0 ∧ 0 ≤ n ∧ n ≤ most ∧ 0 ≤ kk ∧ kk ≤ (D.length : Int) ∧ f n (D.drop kk.toNat) = some r) ∨ ((e ≠ 0 ∨ most < n) ∧ r = none)) := by
  unfold nm at h
  obtain ⟨⟨n, kk, e⟩, hu, h⟩ := Option.bind_eq_some_iff.mp h
  refine ⟨n, kk, e, hu, ?_⟩
  dsimp only at h
  split at h
  · rename_i hc
    exact .inl ⟨hc.1, hc.2.1, hc.2.2.1, hc.2.2.2.1, hc.2.2.2.2, h⟩
  · split at h
    · rename_i hc
      exact .inr ⟨hc, (Option.some.inj h).symm⟩
    · cases h
theorem tk_out {α : Type} {D : List Int} {n : Int} {f : List Int → List Int → Option (Option α)} {r : Option α} (h : tk D n f = some r) : (n ≤ (D.length : Int) ∧ f (D.take n.toNat) (D.drop n.toNat) = some r) ∨ ((D.length : Int) < n ∧ r = none) := by
  unfold tk at h
  split at h
  · rename_i hc
    exact .inl ⟨hc, h⟩
  · rename_i hc
    exact .inr ⟨by omega, (Option.some.inj h).symm⟩
/-- entry by entry, or the end -/
def rd_g : Nat → Nat → List Int → List Int → List S47 → Option (Option (List S47))
  | 0, _, _, _, _ => none
  | k + 1, bl, D, last, acc => if D.length = 0 then some (some acc) else
    nm k D (last.length : Int) fun n1 D1 => nm k D1 (bl : Int) fun n2 D2 => nm k D2 (bl : Int) fun n3 D3 =>
    if (last.take n1.toNat).length + D3.length < 140737488355328 then tk D3 n2 fun E D4 =>
      (ikey_Decode.f k (last.take n1.toNat ++ E)).bind fun y => if y.2.2.2 = 0 then tk D4 n3 fun V D5 =>
        if acc.length < 2932031007402 then rd_g k bl D5 (last.take n1.toNat ++ E) (acc ++ [⟨⟨y.1, y.2.1, y.2.2.1⟩, strOfNums V⟩]) else none
      else some none
    else none
def read_g (k : Nat) (b : List Int) : Option (Option (List S47 × Int)) :=
  if b.length < 5 then some none else if b.length < 140737488355328 then (codec_Fixed.f k (b.drop (b.length - 4)) 4).bind fun m =>
    if 0 ≤ m.1 then if m.1 ≤ (((b.length - 5) / 4 : Nat) : Int) then (rd_g k b.length (b.take (b.length - 5 - 4 * m.1.toNat)) [] []).bind fun o => some (o.map fun l => (l, wrap64 (rd b ((b.length : Int) - 5)))) else some none else none
  else none
/-- how read ends -/
def RdEnd (w : World) (r : Option (List S47 × Int)) (e : Ending) (w' : World) : Prop := match r with
  | some x => ∃ v0_ : Value, e = .returned (.tuple #[v0_, .int .i64 x.2]) ∧ Kd.R k47 47 w' w.heap.size (fun _ => True) v0_ x.1 ∧ Below w.heap.size w w'
  | none => e = .panicked [{ v := .iface 103 (.agg #[]), recovered := false }] ∧ Below w.heap.size w w'
section
variable {P : Program} {ops : Array Oper} {Q : Exit → Act → World → Prop}
/-- a call that panics, in a region that draws its order -/
theorem panics_ {oi : Oper} {N : Option Tmp} {a : Act} {w : World} {K : Act → World → Prop} {f : FuncId} {fn : Func} {xs_ : Array Operand} {ts : Array TypeId} (hf : P.funcs[f]? = some fn) (hname : (fn.name == "runtime.NumGoroutine") = false) (hb : fn.body.isSome = true) (args : Array Value)
    (hw : Region.wanted oi (yielded ops a.tmps) = true) (hop : oi.op = .call { callee := .value (.func f), args := xs_, argTypes := ts }) (hargs : xs_.map a.eval = args)
    (h : Calls P f args w fun e w' => ∃ c, e = .panicked c ∧ Q (.panic c) a w') : if Region.wanted oi (yielded ops a.tmps) = true then Oper.wp P oi a w K Q else K (a.put N undef) w := by
  have he := enters_ hf hname hb args w
  have hrun : (execOp a.eval oi).run P w = .ok (.enter f args) w := by
    unfold execOp
    simp [hop, resolve, Deferred.ofValue, invoke, Act.eval, hargs, he]
  rw [if_pos hw]
  unfold Oper.wp
  rw [hrun, Oper.upon_enter]
  refine h.mono fun e w'' hh => ?_
  obtain ⟨c, rfl, hk⟩ := hh
  exact hk
end
set_option maxHeartbeats 1000000 in
set_option maxRecDepth 100000 in
theorem read_ends (k : Nat) (A0 : Option Addr) (c0 : Nat) (b : List Int) (r : Option (List S47 × Int)) (w : World) (hr0 : Kd.C (Kd.int .u8) w A0 b.length b) (hc0 : b.length ≤ c0) (hf : read_g k b = some r) :
    Calls Try.prog 57 #[.slice A0 b.length c0] w fun e w' => RdEnd w r e w' := by
  unfold read_g at hf
  split at hf
  case isTrue =>
    rename_i hlen
    obtain rfl := Option.some.inj hf
    have hb5 : decide ((b.length : Int) < 5) = true := decide_eq_true (by omega)
    have hb5' : decide (b.length < 5) = true := decide_eq_true hlen
    have HB := Aside0.mk (Below.refl w.heap.size w)
    clear hf hlen hr0
    go_enter Try.func57, Try.ntmps57
    go_wp2
    exact ⟨rfl, rfl, HB.out⟩
  rename_i hl5
  split at hf
  case isFalse => cases hf
  rename_i hlt
  have hlen : 5 ≤ b.length ∧ b.length < 140737488355328 := ⟨by omega, hlt⟩
  clear hl5 hlt
  obtain ⟨⟨m1, m2⟩, hm, hf⟩ := Option.bind_eq_some_iff.mp hf
  dsimp only at hf
  split at hf
  case isFalse => cases hf
  rename_i hm0
  split at hf
  case isFalse =>
    rename_i hmb
    obtain rfl := Option.some.inj hf
    obtain ⟨i5, hi5, _, hs5, _⟩ := info_parts info5
    obtain ⟨A1, hcut1, hrd1, hcp1⟩ := print_drop_of (P := Try.prog) (Value.int .u8) (0 : Int) 27 5 .i64 Try.underlying27 hi5 hs5 A0 c0 b ((b.length : Int) - 4) (by omega) (by omega) hc0
    rw [show ((b.length : Int) - 4).toNat = b.length - 4 by omega] at hcut1 hrd1 hcp1
    have HR1 := Aside0.mk (show Kd.C (Kd.int .u8) w A1 (b.drop (b.length - 4)).length (b.drop (b.length - 4)) from Kd.C_of_reads (h1 := fun _ => rfl) (hrd1 _ (Kd.reads_of_C hr0)))
    have HC1 := Aside0.mk hcp1
    have HM := Aside0.mk hm
    obtain ⟨D1, hD1⟩ : ∃ x, b.drop (b.length - 4) = x := ⟨_, rfl⟩
    rw [hD1] at HR1 HC1 HM hcut1
    have hw4 : wrap64 ((b.length : Int) - 4) = ((b.length - 4 : Nat) : Int) := br_s4 _ (by omega) (by omega)
    have hw5 : wrap64 ((b.length : Int) - 5) = ((b.length - 5 : Nat) : Int) := br_s5 _ (by omega) (by omega)
    have hb5 : decide ((b.length : Int) < 5) = false := decide_eq_false (by clear hw4 hw5; omega)
    have hb5' : decide (b.length < 5) = false := decide_eq_false (by clear hw4 hw5; omega)
    have hcq : decide (((b.length : Int) - 5) / 4 < m1) = true := decide_eq_true (by clear hw4 hw5; omega)
    have HB := Aside0.mk (Below.refl w.heap.size w)
    clear hrd1 hcp1 hr0 hm hi5 hs5 hD1 hf
    go_enter Try.func57, Try.ntmps57
    go_wp2_with (first
      | (go_at_call 31; with_reducible refine (codec_Fixed.calls k A1 _ D1 4 m1 m2 _ HR1.out HC1.out HM.out).mono ?_; rintro ex w2 ⟨rfl, ⟨nd, rfl⟩⟩; have HB2 := Aside0.mk (pw_below_drewN HB.out nd)))
    exact ⟨rfl, rfl, HB2.out⟩
  rename_i hmb
  have hmr : 0 ≤ m1 ∧ m1 ≤ (((b.length - 5) / 4 : Nat) : Int) := ⟨hm0, hmb⟩
  clear hm0 hmb
  obtain ⟨r1, hl1, hf⟩ := Option.bind_eq_some_iff.mp hf
  obtain rfl := Option.some.inj hf
  clear hf
  obtain ⟨m, rfl⟩ := Int.eq_ofNat_of_zero_le hmr.1
  have hm2 : m ≤ (b.length - 5) / 4 := by omega
  obtain ⟨i5, hi5, _, hs5, _⟩ := info_parts info5
  obtain ⟨A1, hcut1, hrd1, hcp1⟩ := print_drop_of (P := Try.prog) (Value.int .u8) (0 : Int) 27 5 .i64 Try.underlying27 hi5 hs5 A0 c0 b ((b.length : Int) - 4) (by omega) (by omega) hc0
  obtain ⟨hcut2, hrd2, hcp2⟩ := print_take_of (P := Try.prog) (Value.int .u8) (0 : Int) 27 5 .i64 Try.underlying27 hi5 hs5 A0 c0 b ((b.length : Int) - 5 - 4 * (m : Int)) (by omega) (by omega) hc0
  rw [show ((b.length : Int) - 4).toNat = b.length - 4 by omega] at hcut1 hrd1 hcp1
  rw [show ((b.length : Int) - 5 - 4 * (m : Int)).toNat = b.length - 5 - 4 * m by omega] at hcut2 hrd2 hcp2
  rw [Int.toNat_natCast] at hl1
  have HR1 := Aside0.mk (show Kd.C (Kd.int .u8) w A1 (b.drop (b.length - 4)).length (b.drop (b.length - 4)) from Kd.C_of_reads (h1 := fun _ => rfl) (hrd1 _ (Kd.reads_of_C hr0)))
  have HC1 := Aside0.mk hcp1
  have HR2 := Aside0.mk (show Kd.C (Kd.int .u8) w A0 (b.take (b.length - 5 - 4 * m)).length (b.take (b.length - 5 - 4 * m)) from Kd.C_of_reads (h1 := fun _ => rfl) (hrd2 _ (Kd.reads_of_C hr0)))
  have HC2 := Aside0.mk hcp2
  have HR0 := Aside0.mk hr0
  have HC0 := Aside0.mk hc0
  have HM := Aside0.mk hm
  have HL := Aside0.mk hl1
  have HLEN := Aside0.mk hlen
  obtain ⟨D1, hD1⟩ : ∃ x, b.drop (b.length - 4) = x := ⟨_, rfl⟩
  obtain ⟨D2, hD2⟩ : ∃ x, b.take (b.length - 5 - 4 * m) = x := ⟨_, rfl⟩
  rw [hD1] at HR1 HC1 HM hcut1
  rw [hD2] at HR2 HC2 HL hcut2
  have hw4 : wrap64 ((b.length : Int) - 4) = ((b.length - 4 : Nat) : Int) := br_s4 _ (by omega) (by omega)
  have hw5 : wrap64 ((b.length : Int) - 5) = ((b.length - 5 : Nat) : Int) := br_s5 _ (by omega) (by omega)
  have hb5 : decide ((b.length : Int) < 5) = false := decide_eq_false (by clear hw4 hw5; omega)
  have hb5' : decide (b.length < 5) = false := decide_eq_false (by clear hw4 hw5; omega)
  have hcq : decide (((b.length : Int) - 5) / 4 < (m : Int)) = false := decide_eq_false (by clear hw4 hw5; omega)
  have HB := Aside0.mk (Below.refl w.heap.size w)
  clear hrd1 hcp1 hrd2 hcp2 hr0 hc0 hm hl1 hi5 hs5 hD1 hD2
  go_enter Try.func57, Try.ntmps57
  go_wp2_with (first
    | (go_at_call 31; with_reducible refine (codec_Fixed.calls k A1 _ D1 4 (m : Int) m2 _ HR1.out HC1.out HM.out).mono ?_; rintro ex w2 ⟨rfl, ⟨nd, rfl⟩⟩; have HB2 := Aside0.mk (pw_below_drewN HB.out nd); clear HB; have HB := HB2; clear HB2)
    | ((with_reducible refine gate_dst (N := 49) rfl ?_); refine box_event ?hg (N := 49) ?hd (cs := #[.slice A0 D2.length c0]) (t := 120) ?hr ?_; (case hd => rfl); (case hg => rfl); (case hr => first | (go_simp; done) | (go_simp; rfl)); intro gr hg w3 hbox hb
       have BK := Aside0.mk hbox
       have GE : Aside0 (w.heap.size ≤ gr) := ⟨by rw [hg]; exact below_size HB.out⟩
       have HB3 := Aside0.mk (below_step HB.out hb)
       clear hb hbox hg HB
       have HB := HB3
       clear HB3))
  have HS : Aside0 (RdSt w gr D2 [] [] (.slice none 0 0) (.slice none 0 0) w3) := ⟨⟨⟨A0, c0, BK.out, HR2.out, HC2.out⟩, GE.out, Kd.R_nil _ _ _ _ _, Kd.R_nil _ _ _ _ _, HB.out⟩⟩
  have hB7 : Aside0 ((b.length : Int) < 9223372036854775808) := ⟨by have := HLEN.out; omega⟩
  clear hcut1 hcut2 hw4 hw5 hb5 hb5' hcq HR1 HC1 HM HR2 HC2 BK HB hlen hmr hm2
  go_loopg [2, 8] k (fun gf v2 v8 wx => ∃ (D last : List Int) (acc : List S47), Aside0 (rd_g gf b.length D last acc = some r1) ∧ Aside0 (RdSt w gr D last acc v2 v8 wx))
  case atStart => exact ⟨D2, [], [], HL, HS⟩
  case round =>
    clear HS HL
    obtain ⟨D, last, acc, HF, HS⟩ := hrel
    cases gk with
    | zero => exact absurd HF.out (by simp [rd_g])
    | succ g1 =>
      have H := HF.out
      clear HF
      simp only [rd_g] at H
      obtain ⟨Ad, cd, hBK, hCD, hLD⟩ := HS.out.blk
      have BK := Aside0.mk hBK
      have CD := Aside0.mk hCD
      have LD := Aside0.mk hLD
      have hcell : wr.cell? ⟨gr, 0, none⟩ = some (.slice Ad D.length cd) := (blk_cell hBK 0).trans rfl
      have hfz := blk_frozen hBK 0
      obtain ⟨A8, c8, e8⟩ := Kd.R_slice HS.out.rl
      subst e8
      clear hBK hCD hLD
      by_cases hd0 : D.length = 0
      · rw [if_pos hd0] at H
        obtain rfl := Option.some.inj H
        have d1 : decide (0 < (D.length : Int)) = false := decide_eq_false (by omega)
        have d2 : decide (0 < D.length) = false := decide_eq_false (by omega)
        clear H hd0
        have hbl := HLEN.out
        obtain ⟨adB, eB, hcB⟩ := Kd.at_int (Kd.C_below HR0.out HS.out.bel) ((b.length : Int) - 5) (by omega) (by omega)
        subst eB
        have p5 : (0 ≤ (b.length : Int) - 5) = True := eq_true (by omega)
        have q5 : ((b.length : Int) - 5 < (b.length : Int)) = True := eq_true (by omega)
        have p5b : decide (0 ≤ (b.length : Int) - 5) = true := decide_eq_true (by omega)
        have q5b : decide ((b.length : Int) - 5 < (b.length : Int)) = true := decide_eq_true (by omega)
        have x5 : (5 ≤ (b.length : Int)) = True := eq_true (by omega)
        have x5b : (5 ≤ b.length) = True := eq_true (by omega)
        have hw5 : wrap64 ((b.length : Int) - 5) = (b.length : Int) - 5 := by clear x5 x5b p5 q5 p5b q5b; unfold wrap64; omega
        clear hbl
        go_upto_region 19 with fail
        refine start_ (n := 10) (S := fun w' => w'.cell? (adB.add ((b.length : Int) - 5).toNat) = some (.int .u8 (rd b ((b.length : Int) - 5)))) (ds := []) #[false, false, false, false, false, false, false, false, false, false] (by kernel_rfl) rfl rfl (hcB) (fun hHeld => ?_)
        refine pure_ (i := 0) (N := some 95) (v := ?_) (a' := ?_) #[true, false, false, false, false, false, false, false, false, false] rfl rfl (by kernel_rfl) (fun _ _ _ h => h) (Or.inl ⟨by rfl, ?_⟩) ?_ ?_
        rotate_left
        · intro w'
          go_simp
          with_reducible rfl
        rotate_left
        · simp only [Act.put, List.setIfInBounds_toArray, List.set_cons_zero, List.set_cons_succ, i64_w, i32_w]
          rfl
        refine pure_ (i := 1) (N := some 96) (v := ?_) (a' := ?_) #[true, true, false, false, false, false, false, false, false, false] rfl rfl (by kernel_rfl) (fun _ _ _ h => h) (Or.inl ⟨by rfl, ?_⟩) ?_ ?_
        rotate_left
        · intro w'
          go_simp
          with_reducible rfl
        rotate_left
        · simp only [Act.put, List.setIfInBounds_toArray, List.set_cons_zero, List.set_cons_succ, i64_w, i32_w]
          rfl
        refine pure_ (i := 2) (N := some 97) (v := ?_) (a' := ?_) #[true, true, true, false, false, false, false, false, false, false] rfl rfl (by kernel_rfl) (fun _ _ _ h => h) (Or.inl ⟨by rfl, ?_⟩) ?_ ?_
        rotate_left
        · intro w'
          go_simp
          with_reducible rfl
        rotate_left
        · simp only [Act.put, List.setIfInBounds_toArray, List.set_cons_zero, List.set_cons_succ, i64_w, i32_w]
          rfl
        refine pure_ (i := 3) (N := some 98) (v := ?_) (a' := ?_) #[true, true, true, true, false, false, false, false, false, false] rfl rfl (by kernel_rfl) (fun _ _ _ h => h) (Or.inl ⟨by rfl, ?_⟩) ?_ ?_
        rotate_left
        · intro w'
          go_simp
          with_reducible rfl
        rotate_left
        · simp only [Act.put, List.setIfInBounds_toArray, List.set_cons_zero, List.set_cons_succ, i64_w, i32_w]
          rfl
        refine pure_ (i := 4) (N := some 99) (v := ?_) (a' := ?_) #[true, true, true, true, true, false, false, false, false, false] rfl rfl (by kernel_rfl) (fun _ _ _ h => h) (Or.inl ⟨by rfl, ?_⟩) ?_ ?_
        rotate_left
        · intro w'
          go_simp
          with_reducible rfl
        rotate_left
        · simp only [Act.put, List.setIfInBounds_toArray, List.set_cons_zero, List.set_cons_succ, i64_w, i32_w]
          rfl
        refine pure_ (i := 5) (N := some 100) (v := ?_) (a' := ?_) #[true, true, true, true, true, true, false, false, false, false] rfl rfl (by kernel_rfl) (fun _ _ _ h => h) (Or.inl ⟨by rfl, ?_⟩) ?_ ?_
        rotate_left
        · intro w'
          go_simp
          with_reducible rfl
        rotate_left
        · simp only [Act.put, List.setIfInBounds_toArray, List.set_cons_zero, List.set_cons_succ, i64_w, i32_w]
          rfl
        refine pure_ (i := 8) (N := some 2) (v := ?_) (a' := ?_) #[true, true, true, true, true, true, false, false, true, false] rfl rfl (by kernel_rfl) (fun _ _ _ h => h) (Or.inl ⟨by rfl, ?_⟩) ?_ ?_
        rotate_left
        · intro w'
          go_simp
          with_reducible rfl
        rotate_left
        · simp only [Act.put, List.setIfInBounds_toArray, List.set_cons_zero, List.set_cons_succ, i64_w, i32_w]
          rfl
        refine take_ (i := 6) (N := some 101) (v := ?_) (a' := ?_) #[true, true, true, true, true, true, true, false, true, false] rfl rfl (by kernel_rfl) (fun _ _ _ h => h) (Or.inl ⟨by rfl, ?_⟩) hHeld ?_ ?_
        rotate_left
        · intro w' s0
          go_simp
          with_reducible rfl
        rotate_left
        · simp only [Act.put, List.setIfInBounds_toArray, List.set_cons_zero, List.set_cons_succ, i64_w, i32_w]
          rfl
        refine pure_ (i := 7) (N := some 102) (v := ?_) (a' := ?_) #[true, true, true, true, true, true, true, true, true, false] rfl rfl (by kernel_rfl) (fun _ _ _ h => h) (Or.inl ⟨by rfl, ?_⟩) ?_ ?_
        rotate_left
        · intro w'
          go_simp
          with_reducible rfl
        rotate_left
        · simp only [Act.put, List.setIfInBounds_toArray, List.set_cons_zero, List.set_cons_succ, i64_w, i32_w]
          rfl
        refine pure_ (i := 9) (N := some 3) (v := ?_) (a' := ?_) #[true, true, true, true, true, true, true, true, true, true] rfl rfl (by kernel_rfl) (fun _ _ _ h => h) (Or.inl ⟨by rfl, ?_⟩) ?_ ?_
        rotate_left
        · intro w'
          go_simp
          with_reducible rfl
        rotate_left
        · simp only [Act.put, List.setIfInBounds_toArray, List.set_cons_zero, List.set_cons_succ, i64_w, i32_w]
          rfl
        refine done_ (by kernel_rfl) ?_
        go_wp2
        go_ret2
        show ∃ v0_ : Value, _ = _ ∧ _ ∧ _
        exact ⟨_, by first | rfl | simp, Kd.R_mono (Kd.R_drew HS.out.ra) (fun _ _ => trivial), below_drew1 HS.out.bel⟩
      · rw [if_neg hd0] at H
        have d1 : decide (0 < (D.length : Int)) = true := decide_eq_true (by omega)
        have d2 : decide (0 < D.length) = true := decide_eq_true (by omega)
        have hll : Aside0 ((last.length : Int) < 9223372036854775808) := ⟨by have := (Kd.R_reads' HS.out.rl).2.2.2.1; omega⟩
        obtain ⟨n1, k1, e1, hu1, H⟩ := nm_out H
        have HU1 := Aside0.mk hu1
        clear hu1 hd0
        rcases H with H | ⟨hbad, rfl⟩
        case inr =>
          have HBAD := Aside0.mk hbad
          clear hbad
          go_wp2_with (first
            | (go_at_call 70; with_reducible refine (num_bad g1 gr Ad cd D (last.length : Int) n1 k1 e1 _ hcell hfz (Kd.C_below CD.out HS.out.bel) LD.out HU1.out HBAD.out ⟨Int.natCast_nonneg _, hll.out⟩).mono ?_; rintro e W1 ⟨rfl, nd, rfl⟩))
          exact ⟨rfl, rfl, pw_below_drewN HS.out.bel nd⟩
        obtain ⟨rfl, hn1, hn1b, hk1, hk1b, H⟩ := H
        obtain ⟨D1, hD1⟩ : ∃ x, D.drop k1.toNat = x := ⟨_, rfl⟩
        rw [hD1] at H
        have HN1 := Aside0.mk (And.intro hn1 (And.intro hn1b (And.intro hk1 hk1b)))
        have HD1 := Aside0.mk hD1
        have HH := Aside0.mk H
        clear H hn1 hn1b hk1 hk1b hD1
        go_upto_region 11 with (first
          | (go_at_call 70; with_reducible refine (num_ok g1 gr Ad cd D (last.length : Int) n1 k1 _ hcell hfz (Kd.C_below CD.out HS.out.bel) LD.out HU1.out HN1.out.1 HN1.out.2.1 HN1.out.2.2 hll.out).mono ?_; rintro e W1 ⟨rfl, A1, c1, nd1, hw1, hA1, hcc1⟩; have HW1 := Aside0.mk hw1; clear hw1))
        have hw1 := HW1.out
        clear HW1
        rw [HD1.out] at hw1 hA1 hcc1
        have BK1 : Aside0 (W1.heap[gr]? = some (.cells #[.slice A1 D1.length c1] 120 (0, 0))) := ⟨by rw [hw1]; exact blk_put (cs := #[.slice Ad D.length cd]) (blk_drewN BK.out nd1) 0 _ rfl⟩
        have AD1 : Aside0 (Adv wr.heap.size gr wr W1) := ⟨(Adv.refl _ _ _).put hw1⟩
        have HB1 : Aside0 (Below w.heap.size w W1) := ⟨by rw [hw1]; exact below_set (pw_below_drewN (HS.out.bel) nd1) HS.out.ge⟩
        have CD1 := Aside0.mk (hA1 w CD.out)
        have LD1 := Aside0.mk hcc1
        have hcell1 : W1.cell? ⟨gr, 0, none⟩ = some (.slice A1 D1.length c1) := (blk_cell BK1.out 0).trans rfl
        have hfz1 := blk_frozen BK1.out 0
        clear hw1 hA1 hcc1 hcell hfz
        have H := HH.out
        clear HH
        obtain ⟨n2, k2, e2, hu2, H⟩ := nm_out H
        have HU2 := Aside0.mk hu2
        clear hu2
        rcases H with H | ⟨hbad, rfl⟩
        case inr =>
          have HBAD := Aside0.mk hbad
          clear hbad
          go_wp2_with (first
            | (go_at_call 70; with_reducible refine (num_bad g1 gr A1 c1 D1 (b.length : Int) n2 k2 e2 _ hcell1 hfz1 (Kd.C_below CD1.out HB1.out) LD1.out HU2.out HBAD.out ⟨Int.natCast_nonneg _, hB7.out⟩).mono ?_; rintro e W1_ ⟨rfl, nd, rfl⟩))
          exact ⟨rfl, rfl, pw_below_drewN HB1.out nd⟩
        obtain ⟨rfl, hn2, hn2b, hk2, hk2b, H⟩ := H
        obtain ⟨D2', hD2⟩ : ∃ x, D1.drop k2.toNat = x := ⟨_, rfl⟩
        rw [hD2] at H
        have HN2 := Aside0.mk (And.intro hn2 (And.intro hn2b (And.intro hk2 hk2b)))
        have HD2 := Aside0.mk hD2
        have HH := Aside0.mk H
        clear H hn2 hn2b hk2 hk2b hD2
        go_upto_region 12 with (first
          | (go_at_call 70; with_reducible refine (num_ok g1 gr A1 c1 D1 (b.length : Int) n2 k2 _ hcell1 hfz1 (Kd.C_below CD1.out HB1.out) LD1.out HU2.out HN2.out.1 HN2.out.2.1 HN2.out.2.2 hB7.out).mono ?_; rintro e W2 ⟨rfl, A2, c2, nd2, hw2, hA2, hcc2⟩; have HW2 := Aside0.mk hw2; clear hw2))
        have hw2 := HW2.out
        clear HW2
        rw [HD2.out] at hw2 hA2 hcc2
        have BK2 : Aside0 (W2.heap[gr]? = some (.cells #[.slice A2 D2'.length c2] 120 (0, 0))) := ⟨by rw [hw2]; exact blk_put (cs := #[.slice A1 D1.length c1]) (blk_drewN BK1.out nd2) 0 _ rfl⟩
        have AD2 : Aside0 (Adv wr.heap.size gr wr W2) := ⟨AD1.out.put hw2⟩
        have HB2 : Aside0 (Below w.heap.size w W2) := ⟨by rw [hw2]; exact below_set (pw_below_drewN (HB1.out) nd2) HS.out.ge⟩
        have CD2 := Aside0.mk (hA2 w CD1.out)
        have LD2 := Aside0.mk hcc2
        have hcell2 : W2.cell? ⟨gr, 0, none⟩ = some (.slice A2 D2'.length c2) := (blk_cell BK2.out 0).trans rfl
        have hfz2 := blk_frozen BK2.out 0
        clear hw2 hA2 hcc2 hcell1 hfz1
        have H := HH.out
        clear HH
        obtain ⟨n3, k3, e3, hu3, H⟩ := nm_out H
        have HU3 := Aside0.mk hu3
        clear hu3
        rcases H with H | ⟨hbad, rfl⟩
        case inr =>
          have HBAD := Aside0.mk hbad
          clear hbad
          go_wp2_with (first
            | (go_at_call 70; with_reducible refine (num_bad g1 gr A2 c2 D2' (b.length : Int) n3 k3 e3 _ hcell2 hfz2 (Kd.C_below CD2.out HB2.out) LD2.out HU3.out HBAD.out ⟨Int.natCast_nonneg _, hB7.out⟩).mono ?_; rintro e W1_ ⟨rfl, nd, rfl⟩))
          exact ⟨rfl, rfl, pw_below_drewN HB2.out nd⟩
        obtain ⟨rfl, hn3, hn3b, hk3, hk3b, H⟩ := H
        obtain ⟨D3, hD3⟩ : ∃ x, D2'.drop k3.toNat = x := ⟨_, rfl⟩
        rw [hD3] at H
        have HN3 := Aside0.mk (And.intro hn3 (And.intro hn3b (And.intro hk3 hk3b)))
        have HD3 := Aside0.mk hD3
        have HH := Aside0.mk H
        clear H hn3 hn3b hk3 hk3b hD3
        go_upto_region 13 with (first
          | (go_at_call 70; with_reducible refine (num_ok g1 gr A2 c2 D2' (b.length : Int) n3 k3 _ hcell2 hfz2 (Kd.C_below CD2.out HB2.out) LD2.out HU3.out HN3.out.1 HN3.out.2.1 HN3.out.2.2 hB7.out).mono ?_; rintro e W3 ⟨rfl, A3, c3, nd3, hw3, hA3, hcc3⟩; have HW3 := Aside0.mk hw3; clear hw3))
        have hw3 := HW3.out
        clear HW3
        rw [HD3.out] at hw3 hA3 hcc3
        have BK3 : Aside0 (W3.heap[gr]? = some (.cells #[.slice A3 D3.length c3] 120 (0, 0))) := ⟨by rw [hw3]; exact blk_put (cs := #[.slice A2 D2'.length c2]) (blk_drewN BK2.out nd3) 0 _ rfl⟩
        have AD3 : Aside0 (Adv wr.heap.size gr wr W3) := ⟨AD2.out.put hw3⟩
        have HB3 : Aside0 (Below w.heap.size w W3) := ⟨by rw [hw3]; exact below_set (pw_below_drewN (HB2.out) nd3) HS.out.ge⟩
        have CD3 := Aside0.mk (hA3 w CD2.out)
        have LD3 := Aside0.mk hcc3
        have hcell3 : W3.cell? ⟨gr, 0, none⟩ = some (.slice A3 D3.length c3) := (blk_cell BK3.out 0).trans rfl
        have hfz3 := blk_frozen BK3.out 0
        clear hw3 hA3 hcc3 hcell2 hfz2
        have H := HH.out
        clear HH
        split at H
        case isFalse => cases H
        rename_i hroom
        obtain ⟨i5, hi5, _, hs5, _⟩ := info_parts info5
        obtain ⟨hcut8, hrd8, hcp8⟩ := print_take_of (P := Try.prog) (Value.int .u8) (0 : Int) 27 5 .i64 Try.underlying27 hi5 hs5 A8 c8 last n1 HN1.out.1 HN1.out.2.1 (Kd.R_reads' HS.out.rl).2.1
        obtain ⟨P, hP⟩ : ∃ x, last.take n1.toNat = x := ⟨_, rfl⟩
        rw [hP] at hcut8 hrd8 hcp8
        have RL3 := Aside0.mk (R_adv HS.out.rl (fun k hk => hk.2) rfl AD3.out)
        have CP := Aside0.mk (show Kd.C (Kd.int .u8) W3 A8 P.length P from Kd.C_of_reads (h1 := fun _ => rfl) (hrd8 _ (Kd.reads_of_C (Kd.R_reads' RL3.out).2.2)))
        have LP := Aside0.mk hcp8
        obtain ⟨E, hE0⟩ : ∃ x, D3.take n2.toNat = x := ⟨_, rfl⟩
        obtain ⟨D4, hD4⟩ : ∃ x, D3.drop n2.toNat = x := ⟨_, rfl⟩
        have HE0 := Aside0.mk hE0
        have HD4 := Aside0.mk hD4
        have HP := Aside0.mk hP
        have HCL : Aside0 (bytes_Clone.f P = some P) := ⟨by unfold bytes_Clone.f; rw [if_pos (by rw [hP] at hroom; omega)]⟩
        have hEl : E.length ≤ D3.length := by rw [← hE0, List.length_take]; omega
        have HPE : Aside0 (P.length + E.length < 140737488355328) := ⟨by rw [hP] at hroom; omega⟩
        rw [hP] at H
        clear hrd8 hcp8 hi5 hs5 hP hroom hEl
        rcases tk_out H with ⟨hn4, H⟩ | ⟨hbad, rfl⟩
        case inr =>
          have HBAD := Aside0.mk hbad
          clear hbad H hE0 hD4
          go_wp2_with (first
            | (go_at_call 71; with_reducible refine (bytes_Clone.calls A8 c8 P P _ CP.out LP.out HCL.out).mono ?_; rintro e W4 ⟨v71, rfl, ho71, hb4⟩
               have BK4 := Aside0.mk (blk_below BK3.out hb4)
               have HB4 := Aside0.mk (below_step HB3.out hb4)
               have hcell4 : W4.cell? ⟨gr, 0, none⟩ = some (.slice A3 D3.length c3) := (blk_cell BK4.out 0).trans rfl
               have hfz4 := blk_frozen BK4.out 0
               clear ho71 hb4)
            | (go_at_call 72; with_reducible refine (take_bad gr A3 c3 D3 n2 _ hcell4 hfz4 HBAD.out).mono ?_; rintro e W5 ⟨rfl, rfl⟩))
          exact ⟨rfl, rfl, HB4.out⟩
        have HN4 : Aside0 (n2 ≤ (D3.length : Int) ∧ P.length + E.length < 140737488355328) := ⟨hn4, HPE.out⟩
        rw [hE0, hD4] at H
        clear hn4 HPE
        obtain ⟨KY, hKY⟩ : ∃ x, P ++ E = x := ⟨_, rfl⟩
        have HK := Aside0.mk hKY
        rw [hKY] at H
        clear hKY
        obtain ⟨⟨y1, y2, y3, y4⟩, hy, H⟩ := Option.bind_eq_some_iff.mp H
        dsimp only at H
        have HY := Aside0.mk hy
        have HH := Aside0.mk H
        clear H hy hE0 hD4
        go_upto_region 14 with (first
          | (go_at_call 71; with_reducible refine (bytes_Clone.calls A8 c8 P P _ CP.out LP.out HCL.out).mono ?_; rintro e W4 ⟨v71, rfl, ho71, hb4⟩
             have BK4 := Aside0.mk (blk_below BK3.out hb4)
             have HB4 := Aside0.mk (below_step HB3.out hb4)
             have AD4 : Aside0 (Adv wr.heap.size gr wr W4) := ⟨AD3.out.below hb4 (Nat.le_refl _)⟩
             have HO71 : Aside0 (Kd.R (Kd.int .u8) 5 W4 w.heap.size (fun k => wr.heap.size ≤ k) v71 P) := ⟨Kd.R_lower (Kd.R_mono (Kd.R_bound ho71) (fun k hk => Nat.le_trans AD3.out.1 hk.2.1)) (below_size HB3.out)⟩
             have hcell4 : W4.cell? ⟨gr, 0, none⟩ = some (.slice A3 D3.length c3) := (blk_cell BK4.out 0).trans rfl
             have hfz4 := blk_frozen BK4.out 0
             clear ho71 hb4)
          | (go_at_call 72; with_reducible refine (take_ok gr A3 c3 D3 n2 _ hcell4 hfz4 (Kd.C_below CD3.out HB4.out) LD3.out HN2.out.1 HN4.out.1).mono ?_; rintro e W5 ⟨he, hE, hEc, A5, c5, hw5, hA5, hcc5⟩
             rw [HE0.out] at he hE hEc
             subst he
             rw [HD4.out] at hw5 hA5 hcc5
             have BK5 : Aside0 (W5.heap[gr]? = some (.cells #[.slice A5 D4.length c5] 120 (0, 0))) := ⟨by rw [hw5]; exact blk_put (cs := #[.slice A3 D3.length c3]) BK4.out 0 _ rfl⟩
             have HB5 : Aside0 (Below w.heap.size w W5) := ⟨by rw [hw5]; exact below_set HB4.out HS.out.ge⟩
             have AD5 : Aside0 (Adv wr.heap.size gr wr W5) := ⟨AD4.out.put0 hw5⟩
             have CE := Aside0.mk (hE w CD3.out)
             have CD5 := Aside0.mk (hA5 w CD3.out)
             have LD5 := Aside0.mk hcc5
             have hgl : gr < wr.heap.size := blk_lt BK.out
             have HO72 : Aside0 (Kd.R (Kd.int .u8) 5 W5 w.heap.size (fun k => wr.heap.size ≤ k) v71 P) := ⟨Kd.R_move HO71.out (fun k hk => by rw [hw5]; exact Below.heap_setCell _ _ _ k (by show k ≠ gr; omega))⟩
             clear hE hEc hw5 hA5 hcc5 hcell4 hfz4 HO71)
          | ((with_reducible refine gate_builtin (b := .append) (xs := #[.tmp 71, .tmp 74]) rfl ?_); at_builtin; refine Kd.R_append_rows (Kd.int .u8) (w0 := w) w.heap.size rfl (.tmp 71) (.tmp 74) 27 5 (.int .u8 0) 1 rfl Try.underlying27 info5 rfl (by decide) (by decide) v71 P E _ _ _ (fun k => wr.heap.size ≤ k) (fun _ => False) rfl rfl ?aO ?aR (fun _ _ h => h) (fun _ h => h.elim) ?aF ?aB ?aS ?aL ?_
             (case aR => exact Kd.C_below CE.out HB5.out)
             (case aB => exact HB5.out)
             (case aF => exact (fun k_ hk => Nat.le_trans AD5.out.1 hk))
             (case aO => exact HO72.out)
             (case aS => exact below_size HB5.out)
             (case aL => have := HN4.out; omega)
             intro v75 W6 ho6 hb6 hg6 hat6
             rw [HK.out] at ho6
             have HO6 := Aside0.mk ho6
             have HB6 := Aside0.mk hb6
             have AD6 : Aside0 (Adv wr.heap.size gr wr W6) := ⟨AD5.out.grown hg6 (Nat.le_refl _) (fun k hk => HO72.out.1 k hk)⟩
             have BK6 : Aside0 (W6.heap[gr]? = some (.cells #[.slice A5 D4.length c5] 120 (0, 0))) := ⟨(hg6.block gr (blk_lt BK5.out) (fun e => by have := HO72.out.1 gr e.symm; omega)).trans BK5.out⟩
             obtain ⟨A6, c6, e6⟩ := Kd.R_slice ho6
             subst e6
             clear ho6 hb6 hg6 hat6))
        have H := HH.out
        clear HH
        by_cases hy4 : y4 = 0
        case neg =>
          rw [if_neg hy4] at H
          obtain rfl := Option.some.inj H
          have y4b : (y4 != 0) = true := bne_iff_ne.mpr hy4
          have y4c : (y4 == 0) = false := beq_eq_false_iff_ne.mpr hy4
          clear hy4 H
          go_wp2_with (first
            | (go_at_call 73; with_reducible refine (ikey_Decode.calls g1 A6 c6 KY y1 y2 y3 y4 _ (Kd.R_reads' HO6.out).2.2 (Kd.R_reads' HO6.out).2.1 HY.out).mono ?_; rintro e W7 ⟨rfl, hb7⟩
               have HO7 : Aside0 (Kd.R (Kd.int .u8) 5 W7 w.heap.size (fun k => wr.heap.size ≤ k) (.slice A6 KY.length c6) KY) := ⟨Kd.R_below HO6.out hb7⟩
               have BK7 := Aside0.mk (blk_below BK6.out hb7)
               have HB7 := Aside0.mk (below_step HB6.out hb7)
               have AD7 : Aside0 (Adv wr.heap.size gr wr W7) := ⟨AD6.out.below hb7 (Nat.le_refl _)⟩
               clear hb7 HO6)
            | ((with_reducible refine gate_dst (N := 13) rfl ?_); refine box_event ?hg (N := 13) ?hd (cs := #[.string (⟨#[]⟩ : ByteArray), .int .u64 0, .int .i64 0]) (t := 45) ?hr ?_; (case hd => rfl); (case hg => rfl); (case hr => first | (go_simp; done) | (go_simp; rfl)); intro gq hg W8 hbox hb8
               have BQ8 := Aside0.mk hbox
               have GQ : Aside0 (W7.heap.size ≤ gq) := ⟨by rw [hg]; exact Nat.le_refl _⟩
               have HO8 : Aside0 (Kd.R (Kd.int .u8) 5 W8 w.heap.size (fun k => wr.heap.size ≤ k ∧ k ≠ gq) (.slice A6 KY.length c6) KY) := ⟨Kd.R_below (Kd.R_mono (Kd.R_bound HO7.out) (fun k hk => ⟨hk.1, by have := hk.2.2.1; have := GQ.out; omega⟩)) hb8⟩
               have BK8 := Aside0.mk (blk_below BK7.out hb8)
               have HB8 := Aside0.mk (below_step HB7.out hb8)
               have AD8 : Aside0 (Adv wr.heap.size gr wr W8) := ⟨AD7.out.below hb8 (Nat.le_refl _)⟩
               have hcz0 : W8.cell? ⟨gq, 0, none⟩ = some (.string (⟨#[]⟩ : ByteArray)) := (blk_cell hbox 0).trans rfl
               have hcz1 : W8.cell? ⟨gq, 1, none⟩ = some (.int .u64 0) := (blk_cell hbox 1).trans rfl
               have hcz2 : W8.cell? ⟨gq, 2, none⟩ = some (.int .i64 0) := (blk_cell hbox 2).trans rfl
               have hfq0 := blk_frozen hbox 0
               have hfq1 := blk_frozen hbox 1
               have hfq2 := blk_frozen hbox 2
               clear hg hbox hb8 HO7))
          have GQ2 : Aside0 (wr.heap.size ≤ gq) := ⟨Nat.le_trans AD7.out.1 GQ.out⟩
          have GQ3 : Aside0 (w.heap.size ≤ gq) := ⟨Nat.le_trans (below_size HS.out.bel) GQ2.out⟩
          exact ⟨rfl, rfl, below_set (below_set (below_set HB8.out GQ3.out) GQ3.out) GQ3.out⟩
        subst hy4
        rw [if_pos rfl] at H
        have HH := Aside0.mk H
        clear H
        go_upto_region 17 with (first
          | (go_at_call 73; with_reducible refine (ikey_Decode.calls g1 A6 c6 KY y1 y2 y3 0 _ (Kd.R_reads' HO6.out).2.2 (Kd.R_reads' HO6.out).2.1 HY.out).mono ?_; rintro e W7 ⟨rfl, hb7⟩
             have HO7 : Aside0 (Kd.R (Kd.int .u8) 5 W7 w.heap.size (fun k => wr.heap.size ≤ k) (.slice A6 KY.length c6) KY) := ⟨Kd.R_below HO6.out hb7⟩
             have BK7 := Aside0.mk (blk_below BK6.out hb7)
             have HB7 := Aside0.mk (below_step HB6.out hb7)
             have AD7 : Aside0 (Adv wr.heap.size gr wr W7) := ⟨AD6.out.below hb7 (Nat.le_refl _)⟩
             clear hb7 HO6)
          | ((with_reducible refine gate_dst (N := 13) rfl ?_); refine box_event ?hg (N := 13) ?hd (cs := #[.string (⟨#[]⟩ : ByteArray), .int .u64 0, .int .i64 0]) (t := 45) ?hr ?_; (case hd => rfl); (case hg => rfl); (case hr => first | (go_simp; done) | (go_simp; rfl)); intro gq hg W8 hbox hb8
             have BQ8 := Aside0.mk hbox
             have GQ : Aside0 (W7.heap.size ≤ gq) := ⟨by rw [hg]; exact Nat.le_refl _⟩
             have HO8 : Aside0 (Kd.R (Kd.int .u8) 5 W8 w.heap.size (fun k => wr.heap.size ≤ k ∧ k ≠ gq) (.slice A6 KY.length c6) KY) := ⟨Kd.R_below (Kd.R_mono (Kd.R_bound HO7.out) (fun k hk => ⟨hk.1, by have := hk.2.2.1; have := GQ.out; omega⟩)) hb8⟩
             have BK8 := Aside0.mk (blk_below BK7.out hb8)
             have HB8 := Aside0.mk (below_step HB7.out hb8)
             have AD8 : Aside0 (Adv wr.heap.size gr wr W8) := ⟨AD7.out.below hb8 (Nat.le_refl _)⟩
             have hcz0 : W8.cell? ⟨gq, 0, none⟩ = some (.string (⟨#[]⟩ : ByteArray)) := (blk_cell hbox 0).trans rfl
             have hcz1 : W8.cell? ⟨gq, 1, none⟩ = some (.int .u64 0) := (blk_cell hbox 1).trans rfl
             have hcz2 : W8.cell? ⟨gq, 2, none⟩ = some (.int .i64 0) := (blk_cell hbox 2).trans rfl
             have hfq0 := blk_frozen hbox 0
             have hfq1 := blk_frozen hbox 1
             have hfq2 := blk_frozen hbox 2
             clear hg hbox hb8 HO7))
        have GQ2 : Aside0 (wr.heap.size ≤ gq) := ⟨Nat.le_trans AD7.out.1 GQ.out⟩
        have GQ3 : Aside0 (w.heap.size ≤ gq) := ⟨Nat.le_trans (below_size HS.out.bel) GQ2.out⟩
        obtain ⟨W9, hW9⟩ : ∃ x, (((W8.setCell ⟨gq, 0, none⟩ (.string y1)).setCell ⟨gq, 1, none⟩ (.int .u64 y2)).setCell ⟨gq, 2, none⟩ (.int .i64 y3)) = x := ⟨_, rfl⟩
        rw [hW9]
        have BQ9 : Aside0 (W9.heap[gq]? = some (.cells #[.string y1, .int .u64 y2, .int .i64 y3] 45 (0, 0))) := ⟨by rw [← hW9]; exact blk_put (cs := #[.string y1, .int .u64 y2, .int .i64 0]) (blk_put (cs := #[.string y1, .int .u64 0, .int .i64 0]) (blk_put (cs := #[.string (⟨#[]⟩ : ByteArray), .int .u64 0, .int .i64 0]) BQ8.out 0 _ rfl) 1 _ rfl) 2 _ rfl⟩
        have hp9 : ∀ j, j ≠ gq → W9.heap[j]? = W8.heap[j]? := fun j hj => by rw [← hW9, Below.heap_setCell _ _ _ j hj, Below.heap_setCell _ _ _ j hj, Below.heap_setCell _ _ _ j hj]
        have hs9 : W8.heap.size ≤ W9.heap.size := by rw [← hW9]; exact (Below.setCell (p := ⟨gq, 2, none⟩) (Below.setCell (p := ⟨gq, 1, none⟩) (Below.setCell (p := ⟨gq, 0, none⟩) (Below.refl 0 W8) (Nat.zero_le _) _) (Nat.zero_le _) _) (Nat.zero_le _) _).size
        have hgq : gr ≠ gq := by have := blk_lt BK.out; have := GQ2.out; omega
        have AD9 : Adv wr.heap.size gr wr W9 := AD8.out.trans ⟨hs9, fun j h3 h4 => hp9 j (by have := GQ2.out; omega)⟩
        have HB9 : Below w.heap.size w W9 := by rw [← hW9]; exact below_set (below_set (below_set HB8.out GQ3.out) GQ3.out) GQ3.out
        have BQD : Aside0 (W9.drew.heap[gq]? = some (.cells #[.string y1, .int .u64 y2, .int .i64 y3] 45 (0, 0))) := ⟨blk_drew BQ9.out⟩
        have BKD : Aside0 (W9.drew.heap[gr]? = some (.cells #[.slice A5 D4.length c5] 120 (0, 0))) := ⟨blk_drew ((hp9 gr hgq).trans BK8.out)⟩
        have HOD : Aside0 (Kd.R (Kd.int .u8) 5 W9.drew w.heap.size (fun k => wr.heap.size ≤ k ∧ k ≠ gq) (.slice A6 KY.length c6) KY) := ⟨Kd.R_drew (Kd.R_move HO8.out (fun j hj => hp9 j hj.2))⟩
        have RAD : Aside0 (Kd.R k47 47 W9.drew w.heap.size (fun k => k ≠ gr ∧ k < wr.heap.size) u2 acc) := ⟨Kd.R_drew (R_adv HS.out.ra (fun j hj => hj) rfl AD9)⟩
        have HBD : Aside0 (Below w.heap.size w W9.drew) := ⟨below_drew1 HB9⟩
        clear hW9 hp9 hs9 hgq AD9 HB9 BQ9 hcz0 hcz1 hcz2 hfq0 hfq1 hfq2 BQ8 BK8 HB8 AD8 HO8
        have H := HH.out
        clear HH
        rcases tk_out H with ⟨hv1, H⟩ | ⟨hbad, rfl⟩
        case inr =>
          have HBAD := Aside0.mk hbad
          clear hbad H
          refine start_ (n := 10) (S := fun w' => w'.cell? ⟨gq, 0, none⟩ = some (.string y1) ∧ w'.cell? ⟨gq, 1, none⟩ = some (.int .u64 y2) ∧ w'.cell? ⟨gq, 2, none⟩ = some (.int .i64 y3)) (ds := []) #[false, false, false, false, false, false, false, false, false, false] (by kernel_rfl) rfl rfl ⟨(blk_cell BQD.out 0).trans rfl, (blk_cell BQD.out 1).trans rfl, (blk_cell BQD.out 2).trans rfl⟩ (fun hHeld => ?_)
          refine pure_ (i := 0) (N := some 85) (v := ?_) (a' := ?_) #[true, false, false, false, false, false, false, false, false, false] rfl rfl (by kernel_rfl) (fun _ _ _ h => h) (Or.inl ⟨by rfl, ?_⟩) ?_ ?_
          rotate_left
          · intro w'
            go_simp
            with_reducible rfl
          rotate_left
          · simp only [Act.put, List.setIfInBounds_toArray, List.set_cons_zero, List.set_cons_succ, i64_w, i32_w]
            rfl
          refine pure_ (i := 2) (N := some 87) (v := ?_) (a' := ?_) #[true, false, true, false, false, false, false, false, false, false] rfl rfl (by kernel_rfl) (fun _ _ _ h => h) (Or.inl ⟨by rfl, ?_⟩) ?_ ?_
          rotate_left
          · intro w'
            go_simp
            with_reducible rfl
          rotate_left
          · simp only [Act.put, List.setIfInBounds_toArray, List.set_cons_zero, List.set_cons_succ, i64_w, i32_w]
            rfl
          refine pure_ (i := 3) (N := some 88) (v := ?_) (a' := ?_) #[true, false, true, true, false, false, false, false, false, false] rfl rfl (by kernel_rfl) (fun _ _ _ h => h) (Or.inl ⟨by rfl, ?_⟩) ?_ ?_
          rotate_left
          · intro w'
            go_simp
            with_reducible rfl
          rotate_left
          · simp only [Act.put, List.setIfInBounds_toArray, List.set_cons_zero, List.set_cons_succ, i64_w, i32_w]
            rfl
          refine take_ (i := 1) (N := some 86) (v := ?_) (a' := ?_) #[true, true, true, true, false, false, false, false, false, false] rfl rfl (by kernel_rfl) (fun _ _ _ h => h) (Or.inl ⟨by rfl, ?_⟩) hHeld ?_ ?_
          rotate_left
          · rintro w' ⟨s0, s1, s2⟩
            go_simp
            with_reducible rfl
          rotate_left
          · simp only [Act.put, List.setIfInBounds_toArray, List.set_cons_zero, List.set_cons_succ, i64_w, i32_w]
            rfl
          refine one_ (i := 4) (N := some 89) #[true, true, true, true, true, false, false, false, false, false] rfl rfl (by kernel_rfl) (by decide) (fun K hK => ?_)
          refine panics_ Try.func72 (by kernel_rfl) rfl #[.pointer (some ⟨gr, 0, none⟩), .int .i64 n3] (by rfl) rfl (by simp only [List.map_toArray, List.map_cons, List.map_nil]; rfl) ?_
          with_reducible refine (take_bad gr A5 c5 D4 n3 _ ((blk_cell BKD.out 0).trans rfl) (blk_frozen BKD.out 0) HBAD.out).mono ?_
          rintro e W11 ⟨rfl, rfl⟩
          exact ⟨_, rfl, rfl, rfl, HBD.out⟩
        split at H
        case isFalse => cases H
        rename_i hv2
        have HV := Aside0.mk (And.intro hv1 hv2)
        have HH := Aside0.mk H
        clear H hv1 hv2
        obtain ⟨V, hVV⟩ : ∃ x, D4.take n3.toNat = x := ⟨_, rfl⟩
        obtain ⟨D5, hVD⟩ : ∃ x, D4.drop n3.toNat = x := ⟨_, rfl⟩
        have HVV := Aside0.mk hVV
        have HVD := Aside0.mk hVD
        have H := HH.out
        clear HH
        rw [hVV, hVD] at H
        have HH := Aside0.mk H
        clear H hVV hVD
        obtain ⟨i5, hi5, _, hs5, _⟩ := info_parts info5
        obtain ⟨hcutV, hrdV, hcpV⟩ := print_take_of (P := Try.prog) (Value.int .u8) (0 : Int) 27 5 .i64 Try.underlying27 hi5 hs5 A5 c5 D4 n3 HN3.out.1 HV.out.1 LD5.out
        rw [HVV.out] at hrdV
        have CV := Aside0.mk (show Kd.C (Kd.int .u8) w A5 V.length V from Kd.C_of_reads (h1 := fun _ => rfl) (hrdV _ (Kd.reads_of_C CD5.out)))
        clear hcutV hrdV hcpV hi5 hs5
        refine start_ (n := 10) (S := fun w' => w'.cell? ⟨gq, 0, none⟩ = some (.string y1) ∧ w'.cell? ⟨gq, 1, none⟩ = some (.int .u64 y2) ∧ w'.cell? ⟨gq, 2, none⟩ = some (.int .i64 y3) ∧ Sem.run Try.prog (convert 27 9 (.slice A5 V.length c5)) w' = Result.ok (.string (strOfNums V)) w') (ds := []) #[false, false, false, false, false, false, false, false, false, false] (by kernel_rfl) rfl rfl ⟨(blk_cell BQD.out 0).trans rfl, (blk_cell BQD.out 1).trans rfl, (blk_cell BQD.out 2).trans rfl, Kd.C_string (P := Try.prog) (A := A5) (c := c5) Try.underlying27 Try.underlying5 Try.underlying9 (Kd.C_below CV.out HBD.out)⟩ (fun hHeld => ?_)
        generalize W9.drew = W10 at BQD BKD HOD RAD HBD hHeld ⊢
        have BQ10 := BQD
        have BK10 := BKD
        have HO10 := HOD
        have RA10 := RAD
        have HB10 := HBD
        clear BQD BKD HOD RAD HBD
        refine pure_ (i := 0) (N := some 85) (v := ?_) (a' := ?_) #[true, false, false, false, false, false, false, false, false, false] rfl rfl (by kernel_rfl) (fun _ _ _ h => h) (Or.inl ⟨by rfl, ?_⟩) ?_ ?_
        rotate_left
        · intro w'
          go_simp
          with_reducible rfl
        rotate_left
        · simp only [Act.put, List.setIfInBounds_toArray, List.set_cons_zero, List.set_cons_succ, i64_w, i32_w]
          rfl
        refine pure_ (i := 2) (N := some 87) (v := ?_) (a' := ?_) #[true, false, true, false, false, false, false, false, false, false] rfl rfl (by kernel_rfl) (fun _ _ _ h => h) (Or.inl ⟨by rfl, ?_⟩) ?_ ?_
        rotate_left
        · intro w'
          go_simp
          with_reducible rfl
        rotate_left
        · simp only [Act.put, List.setIfInBounds_toArray, List.set_cons_zero, List.set_cons_succ, i64_w, i32_w]
          rfl
        refine pure_ (i := 3) (N := some 88) (v := ?_) (a' := ?_) #[true, false, true, true, false, false, false, false, false, false] rfl rfl (by kernel_rfl) (fun _ _ _ h => h) (Or.inl ⟨by rfl, ?_⟩) ?_ ?_
        rotate_left
        · intro w'
          go_simp
          with_reducible rfl
        rotate_left
        · simp only [Act.put, List.setIfInBounds_toArray, List.set_cons_zero, List.set_cons_succ, i64_w, i32_w]
          rfl
        refine take_ (i := 1) (N := some 86) (v := ?_) (a' := ?_) #[true, true, true, true, false, false, false, false, false, false] rfl rfl (by kernel_rfl) (fun _ _ _ h => h) (Or.inl ⟨by rfl, ?_⟩) hHeld ?_ ?_
        rotate_left
        · rintro w' ⟨s0, s1, s2, s3⟩
          go_simp
          with_reducible rfl
        rotate_left
        · simp only [Act.put, List.setIfInBounds_toArray, List.set_cons_zero, List.set_cons_succ, i64_w, i32_w]
          rfl
        refine one_ (i := 4) (N := some 89) #[true, true, true, true, true, false, false, false, false, false] rfl rfl (by kernel_rfl) (by decide) (fun K hK => ?_)
        refine goes_ Try.func72 (by kernel_rfl) rfl #[.pointer (some ⟨gr, 0, none⟩), .int .i64 n3] (by rfl) rfl rfl (by simp only [List.map_toArray, List.map_cons, List.map_nil]; rfl) ?_
        with_reducible refine (take_ok2 gr A5 c5 D4 V D5 n3 _ ((blk_cell BK10.out 0).trans rfl) (blk_frozen BK10.out 0) (Kd.C_below CD5.out HB10.out) LD5.out HN3.out.1 HV.out.1 HVV.out HVD.out).mono ?_
        rintro e W11 ⟨rfl, hE, hEc, A11, c11, hw11, hA11, hcc11⟩
        refine ⟨_, rfl, ?_⟩
        have HW11 := Aside0.mk hw11
        have hgqr : gq ≠ gr := by have := GQ2.out; have := blk_lt BK.out; omega
        have BQ11 : Aside0 (W11.heap[gq]? = some (.cells #[.string y1, .int .u64 y2, .int .i64 y3] 45 (0, 0))) := ⟨by rw [hw11]; exact (Below.heap_setCell _ _ _ gq hgqr).trans BQ10.out⟩
        have BK11 : Aside0 (W11.heap[gr]? = some (.cells #[.slice A11 D5.length c11] 120 (0, 0))) := ⟨by rw [hw11]; exact blk_put (cs := #[.slice A5 D4.length c5]) BK10.out 0 _ rfl⟩
        have HB11 : Aside0 (Below w.heap.size w W11) := ⟨by rw [hw11]; exact below_set HB10.out HS.out.ge⟩
        have HO11 : Aside0 (Kd.R (Kd.int .u8) 5 W11 w.heap.size (fun k => wr.heap.size ≤ k ∧ k ≠ gq) (.slice A6 KY.length c6) KY) := ⟨Kd.R_move HO10.out (fun k hk => by rw [hw11]; exact Below.heap_setCell _ _ _ k (by show k ≠ gr; have := blk_lt BK.out; omega))⟩
        have RA11 : Aside0 (Kd.R k47 47 W11 w.heap.size (fun k => k ≠ gr ∧ k < wr.heap.size) u2 acc) := ⟨Kd.R_move RA10.out (fun k hk => by rw [hw11]; exact Below.heap_setCell _ _ _ k hk.1)⟩
        have CD11 := Aside0.mk (hA11 w CD5.out)
        have LD11 := Aside0.mk hcc11
        clear hw11 HW11 hE hEc hA11 hcc11 hgqr
        refine hK.out _ _ ⟨(blk_cell BQ11.out 0).trans rfl, (blk_cell BQ11.out 1).trans rfl, (blk_cell BQ11.out 2).trans rfl, Kd.C_string (P := Try.prog) (A := A5) (c := c5) Try.underlying27 Try.underlying5 Try.underlying9 (Kd.C_below CV.out HB11.out)⟩ (fun hHeld => ?_)
        clear hK K
        refine norm_ (a' := ?_) ?_ ?_
        rotate_left
        · show Act.put _ (some 89) _ = _
          simp only [Act.put, List.setIfInBounds_toArray, List.set_cons_zero, List.set_cons_succ, i64_w, i32_w]
          rfl
        refine take_ (i := 5) (N := some 90) (v := ?_) (a' := ?_) #[true, true, true, true, true, true, false, false, false, false] rfl rfl (by kernel_rfl) (fun _ _ _ h => h) (Or.inl ⟨by rfl, ?_⟩) hHeld ?_ ?_
        rotate_left
        · rintro w' ⟨s0, s1, s2, s3⟩
          go_simp
          with_reducible rfl
        rotate_left
        · simp only [Act.put, List.setIfInBounds_toArray, List.set_cons_zero, List.set_cons_succ, i64_w, i32_w]
          rfl
        refine pure_ (i := 6) (N := some 91) (v := ?_) (a' := ?_) #[true, true, true, true, true, true, true, false, false, false] rfl rfl (by kernel_rfl) (fun _ _ _ h => h) (Or.inl ⟨by rfl, ?_⟩) ?_ ?_
        rotate_left
        · intro w'
          go_simp
          with_reducible rfl
        rotate_left
        · simp only [Act.put, List.setIfInBounds_toArray, List.set_cons_zero, List.set_cons_succ, i64_w, i32_w]
          rfl
        refine one_ (i := 7) (N := some 92) #[true, true, true, true, true, true, true, true, false, false] rfl rfl (by kernel_rfl) (by decide) (fun K hK => ?_)
        refine value_ (w1 := ?_) (v := ?_) (by rfl) rfl ?_ ?_
        rotate_left 2
        · go_simp
          constructor
          · rfl
          · rfl
        refine hK.out _ _ ⟨(blk_cell (blk_alloc BQ11.out _) 0).trans rfl, (blk_cell (blk_alloc BQ11.out _) 1).trans rfl, (blk_cell (blk_alloc BQ11.out _) 2).trans rfl, Kd.C_string (P := Try.prog) (A := A5) (c := c5) Try.underlying27 Try.underlying5 Try.underlying9 (Kd.C_below CV.out (below_alloc HB11.out _))⟩ (fun hHeld => ?_)
        clear hK K
        refine norm_ (a' := ?_) ?_ ?_
        rotate_left
        · show Act.put _ (some 92) _ = _
          simp only [Act.put, List.setIfInBounds_toArray, List.set_cons_zero, List.set_cons_succ, i64_w, i32_w]
          rfl
        refine one_ (i := 8) (N := some 93) #[true, true, true, true, true, true, true, true, true, false] rfl rfl (by kernel_rfl) (by decide) (fun K hK => ?_)
        refine Kd.R_append_step k47 (w0 := w) w.heap.size (by rfl) (.tmp 85) (.tmp 92) 23 47 (.agg #[(.string ⟨#[]⟩), (.int .u64 0), (.int .i64 0), (.string ⟨#[]⟩)]) 48 rfl Try.underlying23 info47 rfl (by decide) (by decide) u2 acc (⟨(⟨y1, y2, y3⟩ : S45), strOfNums V⟩ : S47) [.string y1, .int .u64 y2, .int .i64 y3, .string (strOfNums V)] (fun k_ => k_ ≠ gr) (fun _ => False) rfl rfl ?aP (fun _ hk => hk.elim) ?aF ?aO ?aB ?aS ?aL ?_
        (case aP => exact k47_mkM _ _ _ (⟨(⟨y1, y2, y3⟩ : S45), strOfNums V⟩ : S47))
        (case aB => exact HB11.out)
        (case aF => exact (fun k_ hk => by have h1 := blk_lt BK11.out; intro e_; subst e_; exact absurd hk (by omega)))
        (case aO => exact Kd.R_mono RA11.out (fun k hk => hk.1))
        (case aS => exact below_size HB11.out)
        (case aL => have := HV.out.2; omega)
        intro v93 W12 ho hb hg hat
        have HO12 := Aside0.mk ho
        have HB12 := Aside0.mk hb
        have hown : ∀ k, u2.ownBlock = some k → k ≠ gr ∧ k < wr.heap.size := RA11.out.1
        have BQ12 : Aside0 (W12.heap[gq]? = some (.cells #[.string y1, .int .u64 y2, .int .i64 y3] 45 (0, 0))) := ⟨(hg.block gq (blk_lt BQ11.out) (fun e_ => by have := (hown gq e_.symm).2; have := GQ2.out; omega)).trans BQ11.out⟩
        have BK12 : Aside0 (W12.heap[gr]? = some (.cells #[.slice A11 D5.length c11] 120 (0, 0))) := ⟨(hg.block gr (blk_lt BK11.out) (fun e_ => (hown gr e_.symm).1 rfl)).trans BK11.out⟩
        have HL12 : Aside0 (Kd.R (Kd.int .u8) 5 W12 w.heap.size (fun k => some k ≠ v93.ownBlock ∧ k ≠ gr) (.slice A6 KY.length c6) KY) := ⟨by
          have h1 := Kd.R_bound HO11.out
          refine Kd.R_mono (Kd.R_move h1 (fun k hk => hg.block k hk.2.2.1 (fun e_ => by have := (hown k e_.symm).2; have := hk.1.1; omega))) (fun k hk => ⟨fun e_ => ?_, by have := hk.1.1; have := blk_lt BK.out; omega⟩)
          rcases hat with hat | ⟨b', hb', hle⟩
          · rw [hat] at e_; have := (hown k e_.symm).2; have := hk.1.1; omega
          · rw [hb'] at e_; injection e_ with e_; have := hk.2.2.1; omega⟩
        clear ho hb hg hat hown
        refine hK.out _ _ ⟨(blk_cell BQ12.out 0).trans rfl, (blk_cell BQ12.out 1).trans rfl, (blk_cell BQ12.out 2).trans rfl, Kd.C_string (P := Try.prog) (A := A5) (c := c5) Try.underlying27 Try.underlying5 Try.underlying9 (Kd.C_below CV.out HB12.out)⟩ (fun hHeld => ?_)
        clear hK K
        refine norm_ (a' := ?_) ?_ ?_
        rotate_left
        · show Act.put _ (some 93) _ = _
          simp only [Act.put, List.setIfInBounds_toArray, List.set_cons_zero, List.set_cons_succ, i64_w, i32_w]
          rfl
        refine pure_ (i := 9) (N := some 2) (v := ?_) (a' := ?_) #[true, true, true, true, true, true, true, true, true, true] rfl rfl (by kernel_rfl) (fun _ _ _ h => h) (Or.inl ⟨by rfl, ?_⟩) ?_ ?_
        rotate_left
        · intro w'
          go_simp
          with_reducible rfl
        rotate_left
        · simp only [Act.put, List.setIfInBounds_toArray, List.set_cons_zero, List.set_cons_succ, i64_w, i32_w]
          rfl
        refine done_ (by kernel_rfl) ?_
        go_wp2
        go_roundg g1
        case measure => omega
        case rel => exact ⟨D5, KY, acc ++ [⟨⟨y1, y2, y3⟩, strOfNums V⟩], HH, ⟨⟨⟨A11, c11, BK12.out, CD11.out, LD11.out⟩, HS.out.ge, HL12.out, HO12.out, HB12.out⟩⟩⟩
end Go.Proofs.Ythdemdjobgbpdaa.B
