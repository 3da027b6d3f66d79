/- block's Open, with all endings of read. -/
import Derived.Test.YtppkpleagnddeaaBS
import Derived.Test.YtppkpleagnddeaaBO
import Derived.Test.YtppkpleagnddeaaP7
import Derived.Test.YtppkpleagnddeaaP10
import Derived.Defers
import Derived.Deep.DeepMust
namespace Go.Proofs.Ytppkpleagnddeaa.B
open Go.RowKit Go.Proofs.YtppkpleagnddeaaW.PrintWords Go.Proofs.YtppkpleagnddeaaW.PrintLast Go.Proofs.YtppkpleagnddeaaW.PrintMore Go.Proofs.Ytppkpleagnddeaa.P
set_option linter.unusedVariables false
set_option linter.unusedSimpArgs false
theorem assert_bad (W : World) : (Instr.typeAssert (.iface 59 (.agg #[])) 20 59 true).run Try.prog W = .ok (.tuple #[.agg #[], .bool true]) W := by
  have hu : Try.prog.underlying 59 = some (.struct #[]) := by kernel_rfl
  simp [Instr.typeAssert, run_underlying hu, go_sem]
set_option maxHeartbeats 1000000 in
set_option maxRecDepth 100000 in
/-- the deferred closure, where deep code has given up -/
theorem catch_bad (ga ge : Nat) (w : World) (hA : w.heap[ga]? = some (.cells #[.pointer none] 33 (0, 0))) (hE : w.heap[ge]? = some (.cells #[.int .i64 0] 25 (0, 0))) (hne : ga ≠ ge) :
    CallsD Try.prog 29 #[.pointer (some ⟨ga, 0, none⟩), .pointer (some ⟨ge, 0, none⟩)] (.panicking [{ v := .iface 59 (.agg #[]), recovered := false }]) w fun e u' w' =>
      e = .returned (.tuple #[]) ∧ u' = .panicking [{ v := .iface 59 (.agg #[]), recovered := true }] ∧ (∀ w0 : World, Below w0.heap.size w0 w → w0.heap.size ≤ ga → w0.heap.size ≤ ge → Below w0.heap.size w0 w') ∧ w'.cell? ⟨ga, 0, none⟩ = some (.pointer none) ∧ w'.cell? ⟨ge, 0, none⟩ = some (.int .i64 111) := by
  have hne' := Ne.symm hne
  refine callsD_of_wpS Try.func29 rfl fun c₀ cs hu => ?_
  apply wpS_seq
  apply wpS_region
  simp [wpOpsS, go_sem, recoverD, hu, Try.ntmps29, Exit.thenS]
  refine wpS_of_wp ?_
  have hta := assert_bad
  go_wp2_with (first
    | ((with_reducible refine gate_dst (N := 3) rfl ?_); refine box_event ?hg (N := 3) ?hd (cs := #[]) (t := 59) ?hr ?_; (case hd => rfl); (case hg => rfl); (case hr => first | (go_simp; done) | (go_simp; rfl)); intro gx hg w3 hbox hb
       have HB := Aside0.mk hb
       have BA := Aside0.mk (blk_below hA hb)
       have BE := Aside0.mk (blk_below hE hb)
       have hca : w3.cell? ⟨ga, 0, none⟩ = some (.pointer none) := (blk_cell BA.out 0).trans rfl
       have hcf := blk_frozen BA.out 0
       have hce : w3.cell? ⟨ge, 0, none⟩ = some (.int .i64 0) := (blk_cell BE.out 0).trans rfl
       have hcg := blk_frozen BE.out 0
       clear hg hbox hb))
  have BA3 := (Below.heap_setCell (w3.setCell ⟨ga, 0, none⟩ (.pointer none)) ⟨ge, 0, none⟩ (.int .i64 111) ga hne).trans (blk_put (cs := #[.pointer none]) BA.out 0 (.pointer none) rfl)
  have BE3 := blk_put (cs := #[.int .i64 0]) ((Below.heap_setCell w3 ⟨ga, 0, none⟩ (.pointer none) ge (Ne.symm hne)).trans BE.out) 0 (.int .i64 111) rfl
  have hx1 : ((w3.setCell ⟨ga, 0, none⟩ (.pointer none)).setCell ⟨ge, 0, none⟩ (.int .i64 111)).cell? ⟨ga, 0, none⟩ = some (.pointer none) := (blk_cell BA3 0).trans rfl
  have hx2 : ((w3.setCell ⟨ga, 0, none⟩ (.pointer none)).setCell ⟨ge, 0, none⟩ (.int .i64 111)).cell? ⟨ge, 0, none⟩ = some (.int .i64 111) := (blk_cell BE3 0).trans rfl
  cases c₀
  refine ⟨rfl, _, rfl, ?_⟩
  exact ⟨.tuple #[], by simp [results, Try.results29, go_sem], rfl, rfl, fun w0 hb h1 h2 => below_set (below_set (below_step hb HB.out) h1) h2, hx1, hx2⟩
def open_g (k : Nat) (b : List Int) : Option (Option (List S42 × Int)) :=
  (read_g k b).bind fun r => match r with
  | none => some none
  | some x => (block_Build.f k x.1 x.2).bind fun y => if y.2 = 0 then (bytes_Equal.f y.1 b).bind fun q => if q = true then some (some x) else some none else some none
/-- a block whose row of entries is of one's own -/
def IsOwn (w : World) (n g : Nat) (l : List S42) (iv : Int) : Prop := ∃ A c, w.cell? ⟨g, 0, none⟩ = some (.slice A l.length c) ∧ w.cell? ⟨g, 1, none⟩ = some (.int .i64 iv) ∧ Kd.R k42 42 w n (fun _ => True) (.slice A l.length c) l
theorem IsOwn.blk {w : World} {n g : Nat} {l : List S42} {iv : Int} (h : IsOwn w n g l iv) : IsBlk w g l iv := by
  obtain ⟨A, c, h1, h2, h3⟩ := h
  exact ⟨A, c, h1, h2, (Kd.R_reads' h3).2.2, (Kd.R_reads' h3).2.1⟩
theorem IsOwn.below {w w1 : World} {n g : Nat} {l : List S42} {iv : Int} (h : IsOwn w n g l iv) (hb : Below w.heap.size w w1) : IsOwn w1 n g l iv := by
  obtain ⟨A, c, h1, h2, h3⟩ := h
  exact ⟨A, c, (hb.cell (World.block_lt_of_cell? w _ h1)).trans h1, (hb.cell (World.block_lt_of_cell? w _ h2)).trans h2, Kd.R_below h3 hb⟩
theorem cell_heap {w w1 : World} {g i : Nat} (h : w1.heap[g]? = w.heap[g]?) : w1.cell? ⟨g, i, none⟩ = w.cell? ⟨g, i, none⟩ := by
  simp [World.cell?, h]
theorem IsOwn.move {w w1 : World} {n g : Nat} {l : List S42} {iv : Int} (h : IsOwn w n g l iv) (hg : n ≤ g) (hm : ∀ k, n ≤ k → w1.heap[k]? = w.heap[k]?) : IsOwn w1 n g l iv := by
  obtain ⟨A, c, h1, h2, h3⟩ := h
  exact ⟨A, c, (cell_heap (hm g hg)).trans h1, (cell_heap (hm g hg)).trans h2, Kd.R_mono (Kd.R_move (Kd.R_bound h3) (fun k hk => hm k hk.2.1)) (fun _ _ => trivial)⟩
set_option maxHeartbeats 1000000 in
set_option maxRecDepth 100000 in
theorem Open_own (k : Nat) (A0 : Option Addr) (c0 : Nat) (b : List Int) (r : Option (List S42 × Int)) (w : World) (hr0 : Kd.C (Kd.int .u8) w A0 b.length b) (hc0 : b.length ≤ c0) (hf : open_g k b = some r) :
    Calls Try.prog 14 #[.slice A0 b.length c0] w fun e w' => Below w.heap.size w w' ∧
      match r with
      | some x => ∃ g, e = .returned (.tuple #[.pointer (some ⟨g, 0, none⟩), .int .i64 0]) ∧ w.heap.size ≤ g ∧ IsOwn w' w.heap.size g x.1 x.2
      | none => e = .returned (.tuple #[.pointer none, .int .i64 111]) := by
  unfold open_g at hf
  obtain ⟨r0, hrd, hf⟩ := Option.bind_eq_some_iff.mp hf
  have hmf : ∀ (fn : Fn) (first cap : Array Value) (w : World), (Instr.makeFunc fn first cap).run Try.prog w = .ok (.func fn first cap) w := fun _ _ _ _ => rfl
  cases r0 with
  | none =>
    obtain rfl := Option.some.inj hf
    have HR0 := Aside0.mk hr0
    have HC0 := Aside0.mk hc0
    have HRD := Aside0.mk hrd
    have HB := Aside0.mk (Below.refl w.heap.size w)
    clear hr0 hc0 hrd hf
    go_enter_defers Try.func14, Try.ntmps14
    go_wp2_with (first
      | ((with_reducible refine gate_dst (N := 2) rfl ?_); refine box_event ?hg (N := 2) ?hd (cs := #[.pointer none]) (t := 33) ?hr ?_; (case hd => rfl); (case hg => rfl); (case hr => first | (go_simp; done) | (go_simp; rfl)); intro ga hg w3 hbox hb
         have BA := Aside0.mk hbox
         have GA : Aside0 (w.heap.size ≤ ga) := ⟨by rw [hg]; exact below_size HB.out⟩
         have HB1 := Aside0.mk (below_step HB.out hb)
         clear hb hbox hg)
      | ((with_reducible refine gate_dst (N := 3) rfl ?_); refine box_event ?hg (N := 3) ?hd (cs := #[.int .i64 0]) (t := 25) ?hr ?_; (case hd => rfl); (case hg => rfl); (case hr => first | (go_simp; done) | (go_simp; rfl)); intro ge hg w4 hbox hb
         have BE := Aside0.mk hbox
         have GE : Aside0 (w.heap.size ≤ ge) := ⟨by rw [hg]; exact below_size HB1.out⟩
         have BA1 := Aside0.mk (blk_below BA.out hb)
         have HN : Aside0 (ga ≠ ge) := ⟨by have := blk_lt BA.out; omega⟩
         have HB2 := Aside0.mk (below_step HB1.out hb)
         clear hb hbox hg BA)
      | (go_at_call 30; (with_reducible refine (read_ends k A0 c0 b none _ (Kd.C_below HR0.out HB2.out) HC0.out HRD.out).mono ?_); (rintro e w5 ⟨rfl, hb⟩)
         have BA2 := Aside0.mk (blk_below BA1.out hb)
         have BE2 := Aside0.mk (blk_below BE.out hb)
         have HB3 := Aside0.mk (below_step HB2.out hb)
         clear hb BA1 BE))

    refine leaves_cons (f := 29) (args := #[.pointer (some ⟨ga, 0, none⟩), .pointer (some ⟨ge, 0, none⟩)]) (by simp) (by simp [go_sem]) ?_
    refine (catch_bad ga ge _ BA2.out BE2.out HN.out).mono ?_
    rintro e u' wz ⟨rfl, rfl, hk, hx1, hx2⟩
    have HBz : Below w.heap.size w wz := hk w HB3.out GA.out GE.out
    refine ⟨.tuple #[.pointer none, .int .i64 111], ?_, HBz, rfl⟩
    simp [results, Try.results14, go_sem, hx1, hx2]
  | some x0 =>
  obtain ⟨l, iv⟩ := x0
  dsimp only at hf
  obtain ⟨⟨bs, e2⟩, hbd, hf⟩ := Option.bind_eq_some_iff.mp hf
  dsimp only at hf hbd
  have HR0 := Aside0.mk hr0
  have HC0 := Aside0.mk hc0
  have HRD := Aside0.mk hrd
  have HBD := Aside0.mk hbd
  have HF := Aside0.mk hf
  have HB := Aside0.mk (Below.refl w.heap.size w)
  clear hr0 hc0 hrd hbd hf
  go_enter_defers Try.func14, Try.ntmps14
  go_upto_region 4 with (first
    | ((with_reducible refine gate_dst (N := 2) rfl ?_); refine box_event ?hg (N := 2) ?hd (cs := #[.pointer none]) (t := 33) ?hr ?_; (case hd => rfl); (case hg => rfl); (case hr => first | (go_simp; done) | (go_simp; rfl)); intro ga hg w3 hbox hb
       have BA := Aside0.mk hbox
       have GA : Aside0 (w.heap.size ≤ ga) := ⟨by rw [hg]; exact below_size HB.out⟩
       have HB1 := Aside0.mk (below_step HB.out hb)
       clear hb hbox hg)
    | ((with_reducible refine gate_dst (N := 3) rfl ?_); refine box_event ?hg (N := 3) ?hd (cs := #[.int .i64 0]) (t := 25) ?hr ?_; (case hd => rfl); (case hg => rfl); (case hr => first | (go_simp; done) | (go_simp; rfl)); intro ge hg w4 hbox hb
       have BE := Aside0.mk hbox
       have GE : Aside0 (w.heap.size ≤ ge) := ⟨by rw [hg]; exact below_size HB1.out⟩
       have BA1 := Aside0.mk (blk_below BA.out hb)
       have HN : Aside0 (ga ≠ ge) := ⟨by have := blk_lt BA.out; omega⟩
       have HB2 := Aside0.mk (below_step HB1.out hb)
       clear hb hbox hg BA)
    | (go_at_call 30; (with_reducible refine (read_ends k A0 c0 b (some (l, iv)) _ (Kd.C_below HR0.out HB2.out) HC0.out HRD.out).mono ?_); (rintro e w5 ⟨vl, rfl, hol, hb⟩)
       have HL : Aside0 (Kd.R k42 42 w5 w.heap.size (fun k => k ≠ ga ∧ k ≠ ge) vl l) := ⟨Kd.R_lower (Kd.R_mono (Kd.R_bound hol) (fun k hk => ⟨by have := blk_lt BA1.out; have := hk.2.1; omega, by have := blk_lt BE.out; have := hk.2.1; omega⟩)) (below_size HB2.out)⟩
       have BA2 := Aside0.mk (blk_below BA1.out hb)
       have BE2 := Aside0.mk (blk_below BE.out hb)
       have HB3 := Aside0.mk (below_step HB2.out hb)
       obtain ⟨Al, cl, el⟩ := Kd.R_slice HL.out
       subst el
       clear hb hol BA1 BE)
    | (go_at_call 11; with_reducible refine (block_Build.calls k Al cl l iv bs e2 _ (Kd.R_reads' HL.out).2.2 (Kd.R_reads' HL.out).2.1 HBD.out).mono ?_; rintro e w6 ⟨vb, rfl, hob, hb⟩
       have HL2 := Aside0.mk (Kd.R_below HL.out hb)
       have HO := Aside0.mk (Kd.R_lower hob (below_size HB3.out))
       have BA3 := Aside0.mk (blk_below BA2.out hb)
       have BE3 := Aside0.mk (blk_below BE2.out hb)
       have HB4 := Aside0.mk (below_step HB3.out hb)
       obtain ⟨Ab, cb, eb⟩ := Kd.R_slice HO.out
       subst eb
       clear hb hob BA2 BE2 HL))
  have hca : w6.cell? ⟨ga, 0, none⟩ = some (.pointer none) := (blk_cell BA3.out 0).trans rfl
  have hcf := blk_frozen BA3.out 0
  have hce : w6.cell? ⟨ge, 0, none⟩ = some (.int .i64 0) := (blk_cell BE3.out 0).trans rfl
  have hcg := blk_frozen BE3.out 0
  have hne := HN.out
  have hne' := Ne.symm HN.out
  by_cases h2 : e2 = 0
  · subst h2
    have F := HF.out
    rw [if_pos rfl] at F
    obtain ⟨q, hq, F⟩ := Option.bind_eq_some_iff.mp F
    have HQ := Aside0.mk hq
    cases hqq : q
    · subst hqq
      rw [if_neg (by decide)] at F
      obtain rfl := Option.some.inj F
      clear HF F hq
      go_upto_region 5 with (first
        | (go_at_call 31; with_reducible refine (bytes_Equal.calls Ab cb bs A0 c0 b false _ (Kd.R_reads' HO.out).2.2 (Kd.R_reads' HO.out).2.1 (Kd.C_below HR0.out HB4.out) HC0.out HQ.out).mono ?_; rintro e w7 ⟨rfl, ⟨nd, rfl⟩⟩))
      have BA4 := Aside0.mk (blk_drewN BA3.out nd)
      have BE4 := Aside0.mk (blk_drewN BE3.out nd)
      have HB5 := Aside0.mk (pw_below_drewN HB4.out nd)
      obtain ⟨w7, hw7⟩ : ∃ x, w6.drewN nd = x := ⟨_, rfl⟩
      rw [hw7] at BA4 BE4 HB5 ⊢
      clear hw7 hca hcf hce hcg
      have hca : w7.cell? ⟨ga, 0, none⟩ = some (.pointer none) := (blk_cell BA4.out 0).trans rfl
      have hcf := blk_frozen BA4.out 0
      have hce : w7.cell? ⟨ge, 0, none⟩ = some (.int .i64 0) := (blk_cell BE4.out 0).trans rfl
      have hcg := blk_frozen BE4.out 0
      go_wp2
      refine leaves_cons (f := 29) (args := #[.pointer (some ⟨ga, 0, none⟩), .pointer (some ⟨ge, 0, none⟩)]) (by simp) (by simp [go_sem]) ?_
      refine (catch_idle ⟨ga, 0, none⟩ ⟨ge, 0, none⟩ _).mono ?_
      rintro e u' wz ⟨rfl, rfl, hbz⟩
      have BAz := blk_below ((Below.heap_setCell (w7.setCell ⟨ga, 0, none⟩ (.pointer none)) ⟨ge, 0, none⟩ (.int .i64 111) ga HN.out).trans (blk_put (cs := #[.pointer none]) BA4.out 0 (.pointer none) rfl)) hbz
      have BEz := blk_below (blk_put (cs := #[.int .i64 0]) ((Below.heap_setCell w7 ⟨ga, 0, none⟩ (.pointer none) ge (Ne.symm HN.out)).trans BE4.out) 0 (.int .i64 111) rfl) hbz
      have hx1 : wz.cell? ⟨ga, 0, none⟩ = some (.pointer none) := (blk_cell BAz 0).trans rfl
      have hx2 : wz.cell? ⟨ge, 0, none⟩ = some (.int .i64 111) := (blk_cell BEz 0).trans rfl
      have HBz := below_step (below_set (below_set HB5.out GA.out) GE.out) hbz
      refine ⟨.tuple #[.pointer none, .int .i64 111], ?_, HBz, rfl⟩
      simp [results, Try.results14, go_sem, hx1, hx2]

    · subst hqq
      rw [if_pos rfl] at F
      obtain rfl := Option.some.inj F
      clear HF F hq
      go_upto_region 6 with (first
        | (go_at_call 31; with_reducible refine (bytes_Equal.calls Ab cb bs A0 c0 b true _ (Kd.R_reads' HO.out).2.2 (Kd.R_reads' HO.out).2.1 (Kd.C_below HR0.out HB4.out) HC0.out HQ.out).mono ?_; rintro e w7 ⟨rfl, ⟨nd, rfl⟩⟩))
      have BA4 := Aside0.mk (blk_drewN BA3.out nd)
      have BE4 := Aside0.mk (blk_drewN BE3.out nd)
      have HB5 := Aside0.mk (pw_below_drewN HB4.out nd)
      have HL4 := Aside0.mk (Kd.R_drewN HL2.out nd)
      obtain ⟨w7, hw7⟩ : ∃ x, w6.drewN nd = x := ⟨_, rfl⟩
      rw [hw7] at BA4 BE4 HB5 HL4 ⊢
      clear hw7 hca hcf hce hcg
      go_wp2_with (first
        | ((with_reducible refine gate_dst (N := 31) rfl ?_); refine box_event ?hg (N := 31) ?hd (cs := #[.slice Al l.length cl, .int .i64 iv]) (t := 65) ?hr ?_; (case hd => rfl); (case hg => rfl); (case hr => first | (go_simp; done) | (go_simp; rfl)); intro gB hg w8 hbox hb
           have BB := Aside0.mk hbox
           have BA5 := Aside0.mk (blk_below BA4.out hb)
           have BE5 := Aside0.mk (blk_below BE4.out hb)
           have HL5 := Aside0.mk (Kd.R_below HL4.out hb)
           have HB6 := Aside0.mk (below_step HB5.out hb)
           have GB : Aside0 (w.heap.size ≤ gB) := ⟨by rw [hg]; exact below_size HB5.out⟩
           have NA : Aside0 (gB ≠ ga) := ⟨by have := blk_lt BA4.out; omega⟩
           have NE : Aside0 (gB ≠ ge) := ⟨by have := blk_lt BE4.out; omega⟩
           clear hg hbox hb BA4 BE4 HL4
           have hca : w8.cell? ⟨ga, 0, none⟩ = some (.pointer none) := (blk_cell BA5.out 0).trans rfl
           have hcf := blk_frozen BA5.out 0
           have hce : w8.cell? ⟨ge, 0, none⟩ = some (.int .i64 0) := (blk_cell BE5.out 0).trans rfl
           have hcg := blk_frozen BE5.out 0))
      refine leaves_cons (f := 29) (args := #[.pointer (some ⟨ga, 0, none⟩), .pointer (some ⟨ge, 0, none⟩)]) (by simp) (by simp [go_sem]) ?_
      refine (catch_idle ⟨ga, 0, none⟩ ⟨ge, 0, none⟩ _).mono ?_
      rintro e u' wz ⟨rfl, rfl, hbz⟩
      have hS : ∀ k, k ≠ ga → k ≠ ge → ((w8.setCell ⟨ga, 0, none⟩ (.pointer (some ⟨gB, 0, none⟩))).setCell ⟨ge, 0, none⟩ (.int .i64 0)).heap[k]? = w8.heap[k]? := fun k h1 h2 => (Below.heap_setCell _ _ _ k h2).trans (Below.heap_setCell _ _ _ k h1)
      have BAz := blk_below ((Below.heap_setCell (w8.setCell ⟨ga, 0, none⟩ (.pointer (some ⟨gB, 0, none⟩))) ⟨ge, 0, none⟩ (.int .i64 0) ga HN.out).trans (blk_put (cs := #[.pointer none]) BA5.out 0 (.pointer (some ⟨gB, 0, none⟩)) rfl)) hbz
      have BEz := blk_below (blk_put (cs := #[.int .i64 0]) ((Below.heap_setCell w8 ⟨ga, 0, none⟩ (.pointer (some ⟨gB, 0, none⟩)) ge (Ne.symm HN.out)).trans BE5.out) 0 (.int .i64 0) rfl) hbz
      have BBz := blk_below ((hS gB NA.out NE.out).trans BB.out) hbz
      have HLz := Kd.R_below (Kd.R_move HL5.out (fun k hk => hS k hk.1 hk.2)) hbz
      have hx1 : wz.cell? ⟨ga, 0, none⟩ = some (.pointer (some ⟨gB, 0, none⟩)) := (blk_cell BAz 0).trans rfl
      have hx2 : wz.cell? ⟨ge, 0, none⟩ = some (.int .i64 0) := (blk_cell BEz 0).trans rfl
      have HBz := below_step (below_set (below_set HB6.out GA.out) GE.out) hbz
      refine ⟨.tuple #[.pointer (some ⟨gB, 0, none⟩), .int .i64 0], ?_, HBz, gB, rfl, GB.out, Al, cl, (blk_cell BBz 0).trans rfl, (blk_cell BBz 1).trans rfl, Kd.R_mono HLz (fun _ _ => trivial)⟩
      simp [results, Try.results14, go_sem, hx1, hx2]
  · have F := HF.out
    rw [if_neg h2] at F
    obtain rfl := Option.some.inj F
    have h2b : (e2 == 0) = false := beq_eq_false_iff_ne.mpr h2
    have h2c : (e2 != 0) = true := bne_iff_ne.mpr h2
    clear HF F
    go_wp2
    refine leaves_cons (f := 29) (args := #[.pointer (some ⟨ga, 0, none⟩), .pointer (some ⟨ge, 0, none⟩)]) (by simp) (by simp [go_sem]) ?_
    refine (catch_idle ⟨ga, 0, none⟩ ⟨ge, 0, none⟩ _).mono ?_
    rintro e u' wz ⟨rfl, rfl, hbz⟩
    have BAz := blk_below ((Below.heap_setCell (w6.setCell ⟨ga, 0, none⟩ (.pointer none)) ⟨ge, 0, none⟩ (.int .i64 111) ga HN.out).trans (blk_put (cs := #[.pointer none]) BA3.out 0 (.pointer none) rfl)) hbz
    have BEz := blk_below (blk_put (cs := #[.int .i64 0]) ((Below.heap_setCell w6 ⟨ga, 0, none⟩ (.pointer none) ge (Ne.symm HN.out)).trans BE3.out) 0 (.int .i64 111) rfl) hbz
    have hx1 : wz.cell? ⟨ga, 0, none⟩ = some (.pointer none) := (blk_cell BAz 0).trans rfl
    have hx2 : wz.cell? ⟨ge, 0, none⟩ = some (.int .i64 111) := (blk_cell BEz 0).trans rfl
    have HBz := below_step (below_set (below_set HB4.out GA.out) GE.out) hbz
    refine ⟨.tuple #[.pointer none, .int .i64 111], ?_, HBz, rfl⟩
    simp [results, Try.results14, go_sem, hx1, hx2]
end Go.Proofs.Ytppkpleagnddeaa.B
