/- block's reader: what num and take come to. block's Find. block's read, where nothing is amiss. block's read, with both endings. block's Open, where read finds nothing amiss. block's Open, with all endings of read. -/
import Derived.Test.YthdemdjobgbpdaaP8
import Derived.Test.YthdemdjobgbpdaaP11
import Derived.Test.YthdemdjobgbpdaaP13
import Derived.Recover
import Derived.Test.YthdemdjobgbpdaaP5
import Derived.Laws.ByValue
import Derived.OneCell
import Derived.Outline
import Derived.Test.YthdemdjobgbpdaaP12
import Derived.Test.YthdemdjobgbpdaaP2
import Derived.RangeFuncBox
import Derived.Defers
import Derived.Deep.DeepMust
set_option linter.unusedVariables false
set_option linter.unusedSimpArgs false
namespace Go.Proofs.Ythdemdjobgbpdaa.B
open Go.RowKit Go.Proofs.YthdemdjobgbpdaaW.PrintWords Go.Proofs.YthdemdjobgbpdaaW.PrintLast Go.Proofs.YthdemdjobgbpdaaW.PrintMore Go.Proofs.Ythdemdjobgbpdaa.P
theorem info47 : (Try.prog.info? 47).map (fun i => (i.zero, i.size, i.bytes)) = some (some (.agg #[(.string ⟨#[]⟩), (.int .u64 0), (.int .i64 0), (.string ⟨#[]⟩)]), 4, 48) := by kernel_rfl
set_option linter.unusedVariables false
set_option linter.unusedSimpArgs false
set_option maxHeartbeats 1000000 in
set_option maxRecDepth 100000 in
theorem num_ok (k : Nat) (g : Nat) (A : Option Addr) (c : Nat) (l : List Int) (most n kk : Int) (w : World)
    (hg : w.cell? ⟨g, 0, none⟩ = some (.slice A l.length c)) (hf : w.frozen? ⟨g, 0, none⟩ = false) (hC : Kd.C (Kd.int .u8) w A l.length l) (hc : l.length ≤ c)
    (hq : codec_Uvarint.f k l = some (n, kk, 0)) (hn0 : 0 ≤ n) (hn : n ≤ most) (hk : 0 ≤ kk ∧ kk ≤ l.length) (hm : most < 9223372036854775808) :
    Calls Try.prog 70 #[.pointer (some ⟨g, 0, none⟩), .int .i64 most] w fun e w' =>
      e = .returned (.int .i64 n) ∧ ∃ A' c' nd, w' = (w.drewN nd).setCell ⟨g, 0, none⟩ (.slice A' (l.drop kk.toNat).length c') ∧ (∀ W : World, Kd.C (Kd.int .u8) W A l.length l → Kd.C (Kd.int .u8) W A' (l.drop kk.toNat).length (l.drop kk.toNat)) ∧ (l.drop kk.toNat).length ≤ c' := by
  obtain ⟨i5, hi5, _, hs5, _⟩ := info_parts info5
  obtain ⟨A2, hcut, hrd, hcp⟩ := print_drop_of (P := Try.prog) (Value.int .u8) (0 : Int) 27 5 .i64 Try.underlying27 hi5 hs5 A c l kk hk.1 hk.2 hc
  have HR0 := Aside0.mk hC
  have HC0 := Aside0.mk hc
  have HQ := Aside0.mk hq
  have HR2 := Aside0.mk (show ∀ W : World, Kd.C (Kd.int .u8) W A l.length l → Kd.C (Kd.int .u8) W A2 (l.drop kk.toNat).length (l.drop kk.toNat) from fun W hW => Kd.C_of_reads (h1 := fun _ => rfl) (hrd W (Kd.reads_of_C hW)))
  have HC2 := Aside0.mk hcp
  obtain ⟨D, hD⟩ : ∃ x, l.drop kk.toNat = x := ⟨_, rfl⟩
  rw [hD] at HR2 HC2 hcut ⊢
  have HK := Aside0.mk hk
  have hmw : IntKind.u64.wrap most = most := by simp [IntKind.wrap, IntKind.bits, IntKind.signed]; omega
  have hnm : decide (most < n) = false := decide_eq_false (by omega)
  have hnw : wrap64 n = n := by unfold wrap64; omega
  have hnw2 : IntKind.i64.wrap n = n := (i64_w n).trans hnw
  clear hC hc hq hrd hcp hD hk hn hn0 hm
  go_enter Try.func70, Try.ntmps70
  go_wp2_with (first
    | (go_at_call 36; with_reducible refine (codec_Uvarint.calls k A _ l n kk 0 _ HR0.out HC0.out HQ.out).mono ?_; rintro ex w2 ⟨rfl, ⟨nd, rfl⟩⟩))
  go_ret
  exact ⟨by first | rfl | (simp [hnw]), A2, _, nd, rfl, HR2.out, HC2.out⟩
set_option maxHeartbeats 1000000 in
set_option maxRecDepth 100000 in
theorem num_bad (k : Nat) (g : Nat) (A : Option Addr) (c : Nat) (l : List Int) (most n kk er : Int) (w : World)
    (hg : w.cell? ⟨g, 0, none⟩ = some (.slice A l.length c)) (hf : w.frozen? ⟨g, 0, none⟩ = false) (hC : Kd.C (Kd.int .u8) w A l.length l) (hc : l.length ≤ c)
    (hq : codec_Uvarint.f k l = some (n, kk, er)) (hb : er ≠ 0 ∨ most < n) (hm : 0 ≤ most ∧ most < 9223372036854775808) :
    Calls Try.prog 70 #[.pointer (some ⟨g, 0, none⟩), .int .i64 most] w fun e w' =>
      e = .panicked [{ v := .iface 103 (.agg #[]), recovered := false }] ∧ ∃ nd, w' = w.drewN nd := by
  have HR0 := Aside0.mk hC
  have HC0 := Aside0.mk hc
  have HQ := Aside0.mk hq
  have hmw : IntKind.u64.wrap most = most := by simp [IntKind.wrap, IntKind.bits, IntKind.signed]; omega
  clear hC hc hq hm
  go_enter Try.func70, Try.ntmps70
  by_cases h0 : er = 0
  · subst h0
    have h1 : most < n := hb.resolve_left (by simp)
    have hnm : decide (most < n) = true := decide_eq_true h1
    clear hb h1
    go_wp2_with (first
      | (go_at_call 36; with_reducible refine (codec_Uvarint.calls k A _ l n kk 0 _ HR0.out HC0.out HQ.out).mono ?_; rintro ex w2 ⟨rfl, ⟨nd, rfl⟩⟩))
    exact ⟨rfl, rfl, nd, rfl⟩
  · have h0b : (er == 0) = false := beq_eq_false_iff_ne.mpr h0
    have h0c : (er != 0) = true := bne_iff_ne.mpr h0
    clear hb
    go_wp2_with (first
      | (go_at_call 36; with_reducible refine (codec_Uvarint.calls k A _ l n kk er _ HR0.out HC0.out HQ.out).mono ?_; rintro ex w2 ⟨rfl, ⟨nd, rfl⟩⟩))
    exact ⟨rfl, rfl, nd, rfl⟩
set_option maxHeartbeats 1000000 in
set_option maxRecDepth 100000 in
theorem take_ok (g : Nat) (A : Option Addr) (c : Nat) (l : List Int) (n : Int) (w : World)
    (hg : w.cell? ⟨g, 0, none⟩ = some (.slice A l.length c)) (hf : w.frozen? ⟨g, 0, none⟩ = false) (hC : Kd.C (Kd.int .u8) w A l.length l) (hc : l.length ≤ c) (h0 : 0 ≤ n) (hn : n ≤ l.length) :
    Calls Try.prog 72 #[.pointer (some ⟨g, 0, none⟩), .int .i64 n] w fun e w' =>
      e = .returned (.slice A (l.take n.toNat).length c) ∧ (∀ W : World, Kd.C (Kd.int .u8) W A l.length l → Kd.C (Kd.int .u8) W A (l.take n.toNat).length (l.take n.toNat)) ∧ (l.take n.toNat).length ≤ c ∧ ∃ A' c', w' = w.setCell ⟨g, 0, none⟩ (.slice A' (l.drop n.toNat).length c') ∧ (∀ W : World, Kd.C (Kd.int .u8) W A l.length l → Kd.C (Kd.int .u8) W A' (l.drop n.toNat).length (l.drop n.toNat)) ∧ (l.drop n.toNat).length ≤ c' := by
  obtain ⟨i5, hi5, _, hs5, _⟩ := info_parts info5
  obtain ⟨A2, hcut, hrd, hcp⟩ := print_drop_of (P := Try.prog) (Value.int .u8) (0 : Int) 27 5 .i64 Try.underlying27 hi5 hs5 A c l n h0 hn hc
  obtain ⟨hcut1, hrd1, hcp1⟩ := print_take_of (P := Try.prog) (Value.int .u8) (0 : Int) 27 5 .i64 Try.underlying27 hi5 hs5 A c l n h0 hn hc
  have HR1 := Aside0.mk (show ∀ W : World, Kd.C (Kd.int .u8) W A l.length l → Kd.C (Kd.int .u8) W A (l.take n.toNat).length (l.take n.toNat) from fun W hW => Kd.C_of_reads (h1 := fun _ => rfl) (hrd1 W (Kd.reads_of_C hW)))
  have HR2 := Aside0.mk (show ∀ W : World, Kd.C (Kd.int .u8) W A l.length l → Kd.C (Kd.int .u8) W A2 (l.drop n.toNat).length (l.drop n.toNat) from fun W hW => Kd.C_of_reads (h1 := fun _ => rfl) (hrd W (Kd.reads_of_C hW)))
  have HC1 := Aside0.mk hcp1
  have HC2 := Aside0.mk hcp
  obtain ⟨D, hD⟩ : ∃ x, l.drop n.toNat = x := ⟨_, rfl⟩
  obtain ⟨E, hE⟩ : ∃ x, l.take n.toNat = x := ⟨_, rfl⟩
  rw [hD] at HR2 HC2 hcut ⊢
  rw [hE] at HR1 HC1 hcut1 ⊢
  have hnm : decide ((l.length : Int) < n) = false := decide_eq_false (by omega)
  clear hC hc hrd hcp hD hE hn hrd1 hcp1 h0
  go_enter Try.func72, Try.ntmps72
  go_wp2
  go_ret
  exact ⟨by first | rfl | simp, HR1.out, HC1.out, A2, _, rfl, HR2.out, HC2.out⟩
set_option maxHeartbeats 1000000 in
set_option maxRecDepth 100000 in
theorem take_bad (g : Nat) (A : Option Addr) (c : Nat) (l : List Int) (n : Int) (w : World)
    (hg : w.cell? ⟨g, 0, none⟩ = some (.slice A l.length c)) (hf : w.frozen? ⟨g, 0, none⟩ = false) (hn : (l.length : Int) < n) :
    Calls Try.prog 72 #[.pointer (some ⟨g, 0, none⟩), .int .i64 n] w fun e w' =>
      e = .panicked [{ v := .iface 103 (.agg #[]), recovered := false }] ∧ w' = w := by
  have hnm : decide ((l.length : Int) < n) = true := decide_eq_true (by omega)
  clear hn
  go_enter Try.func72, Try.ntmps72
  go_wp2
  exact ⟨rfl, rfl, rfl⟩
theorem take_ok2 (g : Nat) (A : Option Addr) (c : Nat) (l E D : List Int) (n : Int) (w : World)
    (hg : w.cell? ⟨g, 0, none⟩ = some (.slice A l.length c)) (hf : w.frozen? ⟨g, 0, none⟩ = false) (hC : Kd.C (Kd.int .u8) w A l.length l) (hc : l.length ≤ c) (h0 : 0 ≤ n) (hn : n ≤ l.length) (hE : l.take n.toNat = E) (hD : l.drop n.toNat = D) :
    Calls Try.prog 72 #[.pointer (some ⟨g, 0, none⟩), .int .i64 n] w fun e w' =>
      e = .returned (.slice A E.length c) ∧ (∀ W : World, Kd.C (Kd.int .u8) W A l.length l → Kd.C (Kd.int .u8) W A E.length E) ∧ E.length ≤ c ∧ ∃ A' c', w' = w.setCell ⟨g, 0, none⟩ (.slice A' D.length c') ∧ (∀ W : World, Kd.C (Kd.int .u8) W A l.length l → Kd.C (Kd.int .u8) W A' D.length D) ∧ D.length ≤ c' := by
  subst hE hD
  exact take_ok g A c l n w hg hf hC hc h0 hn
/-! ### a block: a record of a row of entries and of the interval, at its own place -/
/-- what stands where a block lies -/
def IsBlk (w : World) (g : Nat) (l : List S47) (iv : Int) : Prop := ∃ A c, w.cell? ⟨g, 0, none⟩ = some (.slice A l.length c) ∧ w.cell? ⟨g, 1, none⟩ = some (.int .i64 iv) ∧ Kd.C k47 w A l.length l ∧ l.length ≤ c
theorem IsBlk.below {w w1 : World} {g : Nat} {l : List S47} {iv : Int} (h : IsBlk w g l iv) (hb : Below w.heap.size w w1) : IsBlk w1 g l iv := by
  obtain ⟨A, c, h1, h2, h3, h4⟩ := h
  exact ⟨A, c, (hb.cell (World.block_lt_of_cell? w _ h1)).trans h1, (hb.cell (World.block_lt_of_cell? w _ h2)).trans h2, Kd.C_below h3 hb, h4⟩
set_option maxHeartbeats 1000000 in
set_option maxRecDepth 100000 in
theorem Len_calls (g : Nat) (l : List S47) (iv : Int) (w : World) (h : IsBlk w g l iv) :
    Calls Try.prog 34 #[.pointer (some ⟨g, 0, none⟩)] w fun e w' => e = .returned (.int .i64 (l.length : Int)) ∧ w' = w := by
  obtain ⟨A, c, h1, h2, h3, h4⟩ := h
  clear h3 h4
  go_enter Try.func34, Try.ntmps34
  go_wp2
  go_ret
  exact ⟨rfl, rfl⟩
set_option maxHeartbeats 1000000 in
set_option maxRecDepth 100000 in
theorem Len_nil (w : World) : Calls Try.prog 34 #[.pointer none] w fun e w' => e = .returned (.int .i64 0) ∧ w' = w := by
  go_enter Try.func34, Try.ntmps34
  go_wp2
  go_ret
  exact ⟨rfl, rfl⟩
/-- an entry as a value -/
def kvV (x : S47) : Value := .agg #[.string x.f0.f0, .int .u64 x.f0.f1, .int .i64 x.f0.f2, .string x.f1]
set_option maxHeartbeats 1000000 in
set_option maxRecDepth 100000 in
theorem At_calls (g : Nat) (l : List S47) (iv i : Int) (w : World) (h : IsBlk w g l iv) (h0 : 0 ≤ i) (hi : i < l.length) :
    Calls Try.prog 35 #[.pointer (some ⟨g, 0, none⟩), .int .i64 i] w fun e w' => e = .returned (.tuple #[kvV (rd_T47 l i), .int .i64 0]) ∧ Below w.heap.size w w' := by
  obtain ⟨A, c, h1, h2, h3, h4⟩ := h
  obtain ⟨ad, rfl, k1, k2, k3, k4⟩ := at_T47 h3 i h0 hi
  have b1 : decide (i < 0) = false := decide_eq_false (by omega)
  have b2 : decide ((l.length : Int) ≤ i) = false := decide_eq_false (by omega)
  have b3 : decide (0 ≤ i) = true := decide_eq_true h0
  have b4 : decide (i < (l.length : Int)) = true := decide_eq_true hi
  clear h3 h4
  unfold kvV
  go_enter Try.func35, Try.ntmps35
  go_wp2_with (first
    | ((with_reducible refine gate_dst (N := 4) rfl ?_); refine box_event ?hg (N := 4) ?hd (cs := #[.string (⟨#[]⟩ : ByteArray), .int .u64 0, .int .i64 0, .string (⟨#[]⟩ : ByteArray)]) (t := 47) ?hr ?_; (case hd => rfl); (case hg => rfl); (case hr => first | (go_simp; done) | (go_simp; rfl)); intro gb hg w3 hbox hb
       have BK := Aside0.mk hbox
       have HB := Aside0.mk hb
       have q1 := (hb.cell (World.block_lt_of_cell? w _ h1)).trans h1
       have q2 := (hb.cell (World.block_lt_of_cell? w _ k1)).trans k1
       have q3 := (hb.cell (World.block_lt_of_cell? w _ k2)).trans k2
       have q4 := (hb.cell (World.block_lt_of_cell? w _ k3)).trans k3
       have q5 := (hb.cell (World.block_lt_of_cell? w _ k4)).trans k4
       have GE : Aside0 (w.heap.size ≤ gb) := ⟨by rw [hg]; exact Nat.le_refl _⟩
       clear hb hbox hg
       have hcz0 : w3.cell? ⟨gb, 0, none⟩ = some (.string (⟨#[]⟩ : ByteArray)) := (blk_cell BK.out 0).trans rfl
       have hcz1 : w3.cell? ⟨gb, 1, none⟩ = some (.int .u64 0) := (blk_cell BK.out 1).trans rfl
       have hcz2 : w3.cell? ⟨gb, 2, none⟩ = some (.int .i64 0) := (blk_cell BK.out 2).trans rfl
       have hcz3 : w3.cell? ⟨gb, 3, none⟩ = some (.string (⟨#[]⟩ : ByteArray)) := (blk_cell BK.out 3).trans rfl
       have hfz0 := blk_frozen BK.out 0
       have hfz1 := blk_frozen BK.out 1
       have hfz2 := blk_frozen BK.out 2
       have hfz3 := blk_frozen BK.out 3))
  refine bodyPost_ret (results_ct rfl _ _ gb 47 #[.string (rd_T47 l i).f0.f0, .int .u64 (rd_T47 l i).f0.f1, .int .i64 (rd_T47 l i).f0.f2, .string (rd_T47 l i).f1] (0, 0) _ rfl
    (blk_put (cs := #[.string (rd_T47 l i).f0.f0, .int .u64 (rd_T47 l i).f0.f1, .int .i64 (rd_T47 l i).f0.f2, .string (⟨#[]⟩ : ByteArray)]) (blk_put (cs := #[.string (rd_T47 l i).f0.f0, .int .u64 (rd_T47 l i).f0.f1, .int .i64 0, .string (⟨#[]⟩ : ByteArray)]) (blk_put (cs := #[.string (rd_T47 l i).f0.f0, .int .u64 0, .int .i64 0, .string (⟨#[]⟩ : ByteArray)]) (blk_put (cs := #[.string (⟨#[]⟩ : ByteArray), .int .u64 0, .int .i64 0, .string (⟨#[]⟩ : ByteArray)]) BK.out 0 _ rfl) 1 _ rfl) 2 _ rfl) 3 _ rfl) Try.underlying47 rfl (by kernel_rfl)) rfl ?_
  exact ⟨by first | rfl | simp, below_set (below_set (below_set (below_set HB.out GE.out) GE.out) GE.out) GE.out⟩
set_option maxHeartbeats 1000000 in
set_option maxRecDepth 100000 in
/-- an index that is out of it -/
theorem At_out (g : Nat) (l : List S47) (iv i : Int) (w : World) (h : IsBlk w g l iv) (h0 : i < 0 ∨ (l.length : Int) ≤ i) :
    Calls Try.prog 35 #[.pointer (some ⟨g, 0, none⟩), .int .i64 i] w fun e w' => e = .returned (.tuple #[kvV z47, .int .i64 1]) ∧ Below w.heap.size w w' := by
  obtain ⟨A, c, h1, h2, h3, h4⟩ := h
  clear h3 h4 h2
  unfold kvV
  have hu42 := Try.underlying47
  by_cases hi : i < 0
  · have b1 : decide (i < 0) = true := decide_eq_true hi
    clear h0 hi
    go_enter Try.func35, Try.ntmps35
    go_wp2_with (first
      | ((with_reducible refine gate_dst (N := 4) rfl ?_); refine box_event ?hg (N := 4) ?hd (cs := #[.string (⟨#[]⟩ : ByteArray), .int .u64 0, .int .i64 0, .string (⟨#[]⟩ : ByteArray)]) (t := 47) ?hr ?_; (case hd => rfl); (case hg => rfl); (case hr => first | (go_simp; done) | (go_simp; rfl)); intro gb hg w3 hbox hb
         have BK := Aside0.mk hbox
         have HB := Aside0.mk hb
         have q1 := (hb.cell (World.block_lt_of_cell? w _ h1)).trans h1
         have GE : Aside0 (w.heap.size ≤ gb) := ⟨by rw [hg]; exact Nat.le_refl _⟩
         clear hb hbox hg
         have hcz0 : w3.cell? ⟨gb, 0, none⟩ = some (.string (⟨#[]⟩ : ByteArray)) := (blk_cell BK.out 0).trans rfl
         have hcz1 : w3.cell? ⟨gb, 1, none⟩ = some (.int .u64 0) := (blk_cell BK.out 1).trans rfl
         have hcz2 : w3.cell? ⟨gb, 2, none⟩ = some (.int .i64 0) := (blk_cell BK.out 2).trans rfl
         have hcz3 : w3.cell? ⟨gb, 3, none⟩ = some (.string (⟨#[]⟩ : ByteArray)) := (blk_cell BK.out 3).trans rfl
         have hfz0 := blk_frozen BK.out 0
         have hfz1 := blk_frozen BK.out 1
         have hfz2 := blk_frozen BK.out 2
         have hfz3 := blk_frozen BK.out 3))
    refine bodyPost_ret (results_ct rfl _ _ gb 47 #[.string (⟨#[]⟩ : ByteArray), .int .u64 0, .int .i64 0, .string (⟨#[]⟩ : ByteArray)] (0, 0) _ rfl (blk_put (cs := #[.string (⟨#[]⟩ : ByteArray), .int .u64 0, .int .i64 0, .string (⟨#[]⟩ : ByteArray)]) (blk_put (cs := #[.string (⟨#[]⟩ : ByteArray), .int .u64 0, .int .i64 0, .string (⟨#[]⟩ : ByteArray)]) (blk_put (cs := #[.string (⟨#[]⟩ : ByteArray), .int .u64 0, .int .i64 0, .string (⟨#[]⟩ : ByteArray)]) (blk_put (cs := #[.string (⟨#[]⟩ : ByteArray), .int .u64 0, .int .i64 0, .string (⟨#[]⟩ : ByteArray)]) BK.out 0 _ rfl) 1 _ rfl) 2 _ rfl) 3 _ rfl) Try.underlying47 rfl (by kernel_rfl)) rfl ?_
    exact ⟨by first | rfl | simp [z47, z32], below_set (below_set (below_set (below_set HB.out GE.out) GE.out) GE.out) GE.out⟩

  · have b1 : decide (i < 0) = false := decide_eq_false hi
    have b2 : decide ((l.length : Int) ≤ i) = true := decide_eq_true (by omega)
    clear h0 hi
    go_enter Try.func35, Try.ntmps35
    go_wp2_with (first
      | ((with_reducible refine gate_dst (N := 4) rfl ?_); refine box_event ?hg (N := 4) ?hd (cs := #[.string (⟨#[]⟩ : ByteArray), .int .u64 0, .int .i64 0, .string (⟨#[]⟩ : ByteArray)]) (t := 47) ?hr ?_; (case hd => rfl); (case hg => rfl); (case hr => first | (go_simp; done) | (go_simp; rfl)); intro gb hg w3 hbox hb
         have BK := Aside0.mk hbox
         have HB := Aside0.mk hb
         have q1 := (hb.cell (World.block_lt_of_cell? w _ h1)).trans h1
         have GE : Aside0 (w.heap.size ≤ gb) := ⟨by rw [hg]; exact Nat.le_refl _⟩
         clear hb hbox hg
         have hcz0 : w3.cell? ⟨gb, 0, none⟩ = some (.string (⟨#[]⟩ : ByteArray)) := (blk_cell BK.out 0).trans rfl
         have hcz1 : w3.cell? ⟨gb, 1, none⟩ = some (.int .u64 0) := (blk_cell BK.out 1).trans rfl
         have hcz2 : w3.cell? ⟨gb, 2, none⟩ = some (.int .i64 0) := (blk_cell BK.out 2).trans rfl
         have hcz3 : w3.cell? ⟨gb, 3, none⟩ = some (.string (⟨#[]⟩ : ByteArray)) := (blk_cell BK.out 3).trans rfl
         have hfz0 := blk_frozen BK.out 0
         have hfz1 := blk_frozen BK.out 1
         have hfz2 := blk_frozen BK.out 2
         have hfz3 := blk_frozen BK.out 3))
    refine bodyPost_ret (results_ct rfl _ _ gb 47 #[.string (⟨#[]⟩ : ByteArray), .int .u64 0, .int .i64 0, .string (⟨#[]⟩ : ByteArray)] (0, 0) _ rfl (blk_put (cs := #[.string (⟨#[]⟩ : ByteArray), .int .u64 0, .int .i64 0, .string (⟨#[]⟩ : ByteArray)]) (blk_put (cs := #[.string (⟨#[]⟩ : ByteArray), .int .u64 0, .int .i64 0, .string (⟨#[]⟩ : ByteArray)]) (blk_put (cs := #[.string (⟨#[]⟩ : ByteArray), .int .u64 0, .int .i64 0, .string (⟨#[]⟩ : ByteArray)]) (blk_put (cs := #[.string (⟨#[]⟩ : ByteArray), .int .u64 0, .int .i64 0, .string (⟨#[]⟩ : ByteArray)]) BK.out 0 _ rfl) 1 _ rfl) 2 _ rfl) 3 _ rfl) Try.underlying47 rfl (by kernel_rfl)) rfl ?_
    exact ⟨by first | rfl | simp [z47, z32], below_set (below_set (below_set (below_set HB.out GE.out) GE.out) GE.out) GE.out⟩

set_option maxHeartbeats 1000000 in
set_option maxRecDepth 100000 in
theorem At_nil (i : Int) (w : World) :
    Calls Try.prog 35 #[.pointer none, .int .i64 i] w fun e w' => e = .returned (.tuple #[kvV z47, .int .i64 1]) ∧ Below w.heap.size w w' := by
  unfold kvV
  have hu42 := Try.underlying47
  go_enter Try.func35, Try.ntmps35
  go_wp2_with (first
    | ((with_reducible refine gate_dst (N := 4) rfl ?_); refine box_event ?hg (N := 4) ?hd (cs := #[.string (⟨#[]⟩ : ByteArray), .int .u64 0, .int .i64 0, .string (⟨#[]⟩ : ByteArray)]) (t := 47) ?hr ?_; (case hd => rfl); (case hg => rfl); (case hr => first | (go_simp; done) | (go_simp; rfl)); intro gb hg w3 hbox hb
       have BK := Aside0.mk hbox
       have HB := Aside0.mk hb
       have GE : Aside0 (w.heap.size ≤ gb) := ⟨by rw [hg]; exact Nat.le_refl _⟩
       clear hb hbox hg
       have hcz0 : w3.cell? ⟨gb, 0, none⟩ = some (.string (⟨#[]⟩ : ByteArray)) := (blk_cell BK.out 0).trans rfl
       have hcz1 : w3.cell? ⟨gb, 1, none⟩ = some (.int .u64 0) := (blk_cell BK.out 1).trans rfl
       have hcz2 : w3.cell? ⟨gb, 2, none⟩ = some (.int .i64 0) := (blk_cell BK.out 2).trans rfl
       have hcz3 : w3.cell? ⟨gb, 3, none⟩ = some (.string (⟨#[]⟩ : ByteArray)) := (blk_cell BK.out 3).trans rfl
       have hfz0 := blk_frozen BK.out 0
       have hfz1 := blk_frozen BK.out 1
       have hfz2 := blk_frozen BK.out 2
       have hfz3 := blk_frozen BK.out 3))
  refine bodyPost_ret (results_ct rfl _ _ gb 47 #[.string (⟨#[]⟩ : ByteArray), .int .u64 0, .int .i64 0, .string (⟨#[]⟩ : ByteArray)] (0, 0) _ rfl (blk_put (cs := #[.string (⟨#[]⟩ : ByteArray), .int .u64 0, .int .i64 0, .string (⟨#[]⟩ : ByteArray)]) (blk_put (cs := #[.string (⟨#[]⟩ : ByteArray), .int .u64 0, .int .i64 0, .string (⟨#[]⟩ : ByteArray)]) (blk_put (cs := #[.string (⟨#[]⟩ : ByteArray), .int .u64 0, .int .i64 0, .string (⟨#[]⟩ : ByteArray)]) (blk_put (cs := #[.string (⟨#[]⟩ : ByteArray), .int .u64 0, .int .i64 0, .string (⟨#[]⟩ : ByteArray)]) BK.out 0 _ rfl) 1 _ rfl) 2 _ rfl) 3 _ rfl) Try.underlying47 rfl (by kernel_rfl)) rfl ?_
  exact ⟨by first | rfl | simp [z47, z32], below_set (below_set (below_set (below_set HB.out GE.out) GE.out) GE.out) GE.out⟩
end Go.Proofs.Ythdemdjobgbpdaa.B
namespace Go.Proofs.Ythdemdjobgbpdaa.B
open Go.RowKit Go.Proofs.YthdemdjobgbpdaaW.PrintWords Go.Proofs.YthdemdjobgbpdaaW.PrintLast Go.Proofs.YthdemdjobgbpdaaW.PrintMore Go.Proofs.Ythdemdjobgbpdaa.P
attribute [local go_sem] max2_int min2_int max_two min_two max_three min_three max_four min_four
set_option linter.unusedVariables false
set_option linter.unusedSimpArgs false
set_option maxHeartbeats 1000000 in
set_option maxRecDepth 100000 in
theorem ahead_calls (g gb gk : Nat) (l : List S47) (iv i : Int) (q : S45) (r : Int) (w : World) (h : IsBlk w g l iv) (h0 : 0 ≤ i) (hi : i < l.length)
    (hb : w.cell? ⟨gb, 0, none⟩ = some (.pointer (some ⟨g, 0, none⟩))) (hk0 : w.cell? ⟨gk, 0, none⟩ = some (.string q.f0)) (hk1 : w.cell? ⟨gk, 1, none⟩ = some (.int .u64 q.f1)) (hk2 : w.cell? ⟨gk, 2, none⟩ = some (.int .i64 q.f2))
    (hr : ikey_Compare.f (rd_T47 l i).f0.f0 (rd_T47 l i).f0.f1 (rd_T47 l i).f0.f2 q.f0 q.f1 q.f2 = some r) :
    Calls Try.prog 62 #[.int .i64 i, .pointer (some ⟨gb, 0, none⟩), .pointer (some ⟨gk, 0, none⟩)] w fun e w' => e = .returned (.bool (decide (r < 0))) ∧ Below w.heap.size w w' := by
  obtain ⟨A, c, h1, h2, h3, h4⟩ := h
  obtain ⟨ad, rfl, k1, k2, k3, k4⟩ := at_T47 h3 i h0 hi
  obtain ⟨X, hX⟩ : ∃ x, rd_T47 l i = x := ⟨_, rfl⟩
  rw [hX] at k1 k2 k3 hr
  have b3 : decide (0 ≤ i) = true := decide_eq_true h0
  have b4 : decide (i < (l.length : Int)) = true := decide_eq_true hi
  have p3 := eq_true h0
  have p4 := eq_true hi
  have HR := Aside0.mk hr
  have HB := Aside0.mk (Below.refl w.heap.size w)
  clear h3 h4 hr hX k4 h2
  go_enter Try.func62, Try.ntmps62
  go_wp2_with fail
  replace HB := Aside0.mk (below_drew1 HB.out)
  refine start_ (n := 12) (S := fun w' => w'.cell? ⟨gb, 0, none⟩ = some (.pointer (some ⟨g, 0, none⟩)) ∧ w'.cell? ⟨g, 0, none⟩ = some (.slice (some ad) l.length c) ∧ w'.cell? (ad.add (i.toNat * 4)) = some (.string X.f0.f0) ∧ w'.cell? ⟨(ad.add (i.toNat * 4)).block, (ad.add (i.toNat * 4)).off + 1, none⟩ = some (.int .u64 X.f0.f1) ∧ w'.cell? ⟨(ad.add (i.toNat * 4)).block, (ad.add (i.toNat * 4)).off + 2, none⟩ = some (.int .i64 X.f0.f2) ∧ w'.cell? ⟨gk, 0, none⟩ = some (.string q.f0) ∧ w'.cell? ⟨gk, 1, none⟩ = some (.int .u64 q.f1) ∧ w'.cell? ⟨gk, 2, none⟩ = some (.int .i64 q.f2)) (ds := []) #[false, false, false, false, false, false, false, false, false, false, false, false] (by kernel_rfl) rfl rfl ⟨(by exact hb), (by exact h1), (by exact k1), (by exact k2), (by exact k3), (by exact hk0), (by exact hk1), (by exact hk2)⟩ (fun hHeld => ?_)
  refine pure_ (i := 4) (N := some 9) (v := ?_) (a' := ?_) #[false, false, false, false, true, false, false, false, false, false, false, false] rfl rfl (by kernel_rfl) (fun _ _ _ h => h) (Or.inl ⟨by rfl, ?_⟩) ?_ ?_
  rotate_left
  · intro w'
    go_simp
    with_reducible rfl
  rotate_left
  · simp only [Act.put, List.setIfInBounds_toArray, List.set_cons_zero, List.set_cons_succ, i64_w, i32_w]
    rfl
  refine take_ (i := 0) (N := some 5) (v := ?_) (a' := ?_) #[true, false, false, false, true, false, false, false, false, false, false, false] rfl rfl (by kernel_rfl) (fun _ _ _ h => h) (Or.inl ⟨by rfl, ?_⟩) hHeld ?_ ?_
  rotate_left
  · rintro w' ⟨s0, s1, s2, s3, s4, s5, s6, s7⟩
    go_simp
    with_reducible rfl
  rotate_left
  · simp only [Act.put, List.setIfInBounds_toArray, List.set_cons_zero, List.set_cons_succ, i64_w, i32_w]
    rfl
  refine pure_ (i := 1) (N := some 6) (v := ?_) (a' := ?_) #[true, true, false, false, true, false, false, false, false, false, false, false] rfl rfl (by kernel_rfl) (fun _ _ _ h => h) (Or.inl ⟨by rfl, ?_⟩) ?_ ?_
  rotate_left
  · intro w'
    go_simp
    with_reducible rfl
  rotate_left
  · simp only [Act.put, List.setIfInBounds_toArray, List.set_cons_zero, List.set_cons_succ, i64_w, i32_w]
    rfl
  refine pure_ (i := 2) (N := some 7) (v := ?_) (a' := ?_) #[true, true, true, false, true, false, false, false, false, false, false, false] rfl rfl (by kernel_rfl) (fun _ _ _ h => h) (Or.inl ⟨by rfl, ?_⟩) ?_ ?_
  rotate_left
  · intro w'
    go_simp
    with_reducible rfl
  rotate_left
  · simp only [Act.put, List.setIfInBounds_toArray, List.set_cons_zero, List.set_cons_succ, i64_w, i32_w]
    rfl
  refine take_ (i := 3) (N := some 8) (v := ?_) (a' := ?_) #[true, true, true, true, true, false, false, false, false, false, false, false] rfl rfl (by kernel_rfl) (fun _ _ _ h => h) (Or.inl ⟨by rfl, ?_⟩) hHeld ?_ ?_
  rotate_left
  · rintro w' ⟨s0, s1, s2, s3, s4, s5, s6, s7⟩
    go_simp
    with_reducible rfl
  rotate_left
  · simp only [Act.put, List.setIfInBounds_toArray, List.set_cons_zero, List.set_cons_succ, i64_w, i32_w]
    rfl
  refine pure_ (i := 5) (N := some 10) (v := ?_) (a' := ?_) #[true, true, true, true, true, true, false, false, false, false, false, false] rfl rfl (by kernel_rfl) (fun _ _ _ h => h) (Or.inl ⟨by rfl, ?_⟩) ?_ ?_
  rotate_left
  · intro w'
    go_simp
    with_reducible rfl
  rotate_left
  · simp only [Act.put, List.setIfInBounds_toArray, List.set_cons_zero, List.set_cons_succ, i64_w, i32_w]
    rfl
  refine pure_ (i := 6) (N := some 11) (v := ?_) (a' := ?_) #[true, true, true, true, true, true, true, false, false, false, false, false] rfl rfl (by kernel_rfl) (fun _ _ _ h => h) (Or.inl ⟨by rfl, ?_⟩) ?_ ?_
  rotate_left
  · intro w'
    go_simp
    with_reducible rfl
  rotate_left
  · simp only [Act.put, List.setIfInBounds_toArray, List.set_cons_zero, List.set_cons_succ, i64_w, i32_w]
    rfl
  refine take_ (i := 7) (N := some 12) (v := ?_) (a' := ?_) #[true, true, true, true, true, true, true, true, false, false, false, false] rfl rfl (by kernel_rfl) (fun _ _ _ h => h) (Or.inl ⟨by rfl, ?_⟩) hHeld ?_ ?_
  rotate_left
  · rintro w' ⟨s0, s1, s2, s3, s4, s5, s6, s7⟩
    go_simp
    with_reducible rfl
  rotate_left
  · simp only [Act.put, List.setIfInBounds_toArray, List.set_cons_zero, List.set_cons_succ, i64_w, i32_w]
    rfl
  refine take_ (i := 8) (N := some 13) (v := ?_) (a' := ?_) #[true, true, true, true, true, true, true, true, true, false, false, false] rfl rfl (by kernel_rfl) (fun _ _ _ h => h) (Or.inl ⟨by rfl, ?_⟩) hHeld ?_ ?_
  rotate_left
  · rintro w' ⟨s0, s1, s2, s3, s4, s5, s6, s7⟩
    go_simp
    with_reducible rfl
  rotate_left
  · simp only [Act.put, List.setIfInBounds_toArray, List.set_cons_zero, List.set_cons_succ, i64_w, i32_w]
    rfl
  refine one_ (i := 9) (N := some 14) #[true, true, true, true, true, true, true, true, true, true, false, false] rfl rfl (by kernel_rfl) (by decide) (fun K hK => ?_)
  refine goes_ Try.func39 (by kernel_rfl) rfl #[.agg #[.string X.f0.f0, .int .u64 X.f0.f1, .int .i64 X.f0.f2], .agg #[.string q.f0, .int .u64 q.f1, .int .i64 q.f2]] (by rfl) rfl rfl (by simp only [List.map_toArray, List.map_cons, List.map_nil]; rfl) ?_
  with_reducible refine (ikey_Compare.calls X.f0.f0 X.f0.f1 X.f0.f2 q.f0 q.f1 q.f2 r _ HR.out).mono ?_
  rintro e w3 ⟨rfl, hb3⟩
  refine ⟨_, rfl, ?_⟩
  have HB := Aside0.mk (below_step HB.out hb3)
  refine hK.out _ _ ⟨(hb3.cell (World.block_lt_of_cell? _ _ hHeld.1)).trans hHeld.1, (hb3.cell (World.block_lt_of_cell? _ _ hHeld.2.1)).trans hHeld.2.1, (hb3.cell (World.block_lt_of_cell? _ _ hHeld.2.2.1)).trans hHeld.2.2.1, (hb3.cell (World.block_lt_of_cell? _ _ hHeld.2.2.2.1)).trans hHeld.2.2.2.1, (hb3.cell (World.block_lt_of_cell? _ _ hHeld.2.2.2.2.1)).trans hHeld.2.2.2.2.1, (hb3.cell (World.block_lt_of_cell? _ _ hHeld.2.2.2.2.2.1)).trans hHeld.2.2.2.2.2.1, (hb3.cell (World.block_lt_of_cell? _ _ hHeld.2.2.2.2.2.2.1)).trans hHeld.2.2.2.2.2.2.1, (hb3.cell (World.block_lt_of_cell? _ _ hHeld.2.2.2.2.2.2.2)).trans hHeld.2.2.2.2.2.2.2⟩ (fun hHeld => ?_)
  clear hK K
  refine norm_ (a' := ?_) ?_ ?_
  rotate_left
  · show Act.put _ (some 14) _ = _
    simp only [Act.put, List.setIfInBounds_toArray, List.set_cons_zero, List.set_cons_succ, i64_w, i32_w]
    rfl
  refine pure_ (i := 10) (N := some 15) (v := ?_) (a' := ?_) #[true, true, true, true, true, true, true, true, true, true, true, false] rfl rfl (by kernel_rfl) (fun _ _ _ h => h) (Or.inl ⟨by rfl, ?_⟩) ?_ ?_
  rotate_left
  · intro w'
    go_simp
    with_reducible rfl
  rotate_left
  · simp only [Act.put, List.setIfInBounds_toArray, List.set_cons_zero, List.set_cons_succ, i64_w, i32_w]
    rfl
  refine pure_ (i := 11) (N := some 4) (v := ?_) (a' := ?_) #[true, true, true, true, true, true, true, true, true, true, true, true] rfl rfl (by kernel_rfl) (fun _ _ _ h => h) (Or.inl ⟨by rfl, ?_⟩) ?_ ?_
  rotate_left
  · intro w'
    go_simp
    with_reducible rfl
  rotate_left
  · simp only [Act.put, List.setIfInBounds_toArray, List.set_cons_zero, List.set_cons_succ, i64_w, i32_w]
    rfl
  refine done_ (by kernel_rfl) ?_
  go_wp2
  go_ret
  exact ⟨by first | rfl | simp, HB.out⟩
/-! ### Find -/
def cmpK (x : S47) (q : S45) : Option Int := ikey_Compare.f x.f0.f0 x.f0.f1 x.f0.f2 q.f0 q.f1 q.f2
def find_b : Nat → List S47 → Nat → S45 → Nat → Nat → Option Nat
  | 0, _, _, _, _, _ => none
  | k + 1, l, iv, q, lo, hi => if lo < hi then (if (lo + hi) / 2 * iv < l.length ∧ hi ≤ l.length then (cmpK (rd_T47 l (((lo + hi) / 2 * iv : Nat) : Int)) q).bind fun r => if r < 0 then find_b k l iv q ((lo + hi) / 2 + 1) hi else find_b k l iv q lo ((lo + hi) / 2) else none) else some lo
def find_s : Nat → List S47 → S45 → Nat → Option Nat
  | 0, _, _, _ => none
  | k + 1, l, q, at_ => if at_ < l.length then (cmpK (rd_T47 l (at_ : Int)) q).bind fun r => if r < 0 then find_s k l q (at_ + 1) else some at_ else some at_
def find_f (k : Nat) (l : List S47) (iv : Nat) (q : S45) : Option Nat :=
  if l.length < 281474976710656 ∧ 1 ≤ iv ∧ iv ≤ 16 then (find_b k l iv q 0 ((l.length + iv - 1) / iv)).bind fun lo => if lo ≤ l.length then find_s k l q ((lo - 1) * iv) else none else none
theorem fw1 (n : Nat) (h : n < 9000000000000000000) : wrap64 (n : Int) = (n : Int) := by unfold wrap64; omega
theorem fw2 (a b : Nat) (h : a + b < 9000000000000000000) : wrap64 ((a : Int) + (b : Int)) = ((a + b : Nat) : Int) := by unfold wrap64; omega
theorem fwm (a b m : Nat) (e : a * b = m) (h : m < 9000000000000000000) : wrap64 ((a : Int) * (b : Int)) = (m : Int) := by rw [← Int.natCast_mul, e]; exact fw1 m h
theorem fhalf (a m : Nat) (e : a / 2 = m) : Int.tdiv (a : Int) 2 = (m : Int) := by rw [Int.tdiv_eq_ediv_of_nonneg (by omega)]; omega
theorem fws (a : Nat) (h : 1 ≤ a) (h2 : a < 9000000000000000000) : wrap64 ((a : Int) - 1) = ((a - 1 : Nat) : Int) := by unfold wrap64; omega
/-- what stands while Find runs -/
structure FindSt (w : World) (g gb gq : Nat) (l : List S47) (iv : Int) (q : S45) (wx : World) : Prop where
  blk : IsBlk wx g l iv
  b : wx.cell? ⟨gb, 0, none⟩ = some (.pointer (some ⟨g, 0, none⟩))
  k0 : wx.cell? ⟨gq, 0, none⟩ = some (.string q.f0)
  k1 : wx.cell? ⟨gq, 1, none⟩ = some (.int .u64 q.f1)
  k2 : wx.cell? ⟨gq, 2, none⟩ = some (.int .i64 q.f2)
  bel : Below w.heap.size w wx
theorem FindSt.step {w wx w' : World} {g gb gq : Nat} {l : List S47} {iv : Int} {q : S45} (h : FindSt w g gb gq l iv q wx) (hb : Below wx.heap.size wx w') : FindSt w g gb gq l iv q w' :=
  ⟨h.blk.below hb, (hb.cell (World.block_lt_of_cell? _ _ h.b)).trans h.b, (hb.cell (World.block_lt_of_cell? _ _ h.k0)).trans h.k0, (hb.cell (World.block_lt_of_cell? _ _ h.k1)).trans h.k1, (hb.cell (World.block_lt_of_cell? _ _ h.k2)).trans h.k2, below_step h.bel hb⟩
set_option maxHeartbeats 1000000 in
set_option maxRecDepth 100000 in
theorem Find_calls (k g : Nat) (l : List S47) (iv : Nat) (q : S45) (r : Nat) (w : World) (h : IsBlk w g l (iv : Int)) (hf : find_f k l iv q = some r) :
    Calls Try.prog 43 #[.pointer (some ⟨g, 0, none⟩), .agg #[.string q.f0, .int .u64 q.f1, .int .i64 q.f2]] w fun e w' => e = .returned (.int .i64 (r : Int)) ∧ Below w.heap.size w w' := by
  unfold find_f at hf
  split at hf
  case isFalse => cases hf
  rename_i hlim
  obtain ⟨b0, hb, hf⟩ := Option.bind_eq_some_iff.mp hf
  split at hf
  case isFalse => cases hf
  rename_i hlo
  have HB1 := Aside0.mk hb
  have HF1 := Aside0.mk hf
  have HLIM := Aside0.mk hlim
  have HLO := Aside0.mk hlo
  have HBLK := Aside0.mk h
  obtain ⟨A, c, h1, h2, h3, h4⟩ := h
  have HB := Aside0.mk (Below.refl w.heap.size w)
  have HC := Aside0.mk (And.intro h3 h4)
  clear hb hf hlim hlo h3 h4
  have hmf : ∀ (fn : Fn) (first cap : Array Value) (w : World), (Instr.makeFunc fn first cap).run Try.prog w = .ok (.func fn first cap) w := fun _ _ _ _ => rfl
  go_enter Try.func43, Try.ntmps43
  go_wp2_with (first
    | ((with_reducible refine gate_dst (N := 2) rfl ?_); refine box_event ?hg (N := 2) ?hd (cs := #[.pointer (some ⟨g, 0, none⟩)]) (t := 70) ?hr ?_; (case hd => rfl); (case hg => rfl); (case hr => first | (go_simp; done) | (go_simp; rfl)); intro gb hg w3 hbox hb
       have BK := Aside0.mk hbox
       have HB := Aside0.mk (below_step HB.out hb)
       have q1 := (hb.cell (World.block_lt_of_cell? w _ h1)).trans h1
       have q2 := (hb.cell (World.block_lt_of_cell? w _ h2)).trans h2
       clear hb hbox hg)
    | ((with_reducible refine gate_dst (N := 3) rfl ?_); refine box_event ?hg (N := 3) ?hd (cs := #[.string q.f0, .int .u64 q.f1, .int .i64 q.f2]) (t := 45) ?hr ?_; (case hd => rfl); (case hg => rfl); (case hr => first | (go_simp; done) | (go_simp; rfl)); intro gq hg w4 hbox hb
       have BK2 := Aside0.mk hbox
       have BK1 := Aside0.mk (blk_below BK.out hb)
       have HB := Aside0.mk (below_step HB.out hb)
       have q3 := (hb.cell (World.block_lt_of_cell? _ _ q1)).trans q1
       have q4 := (hb.cell (World.block_lt_of_cell? _ _ q2)).trans q2
       have hz0 : w4.cell? ⟨gb, 0, none⟩ = some (.pointer (some ⟨g, 0, none⟩)) := (blk_cell BK1.out 0).trans rfl
       have hz1 : w4.cell? ⟨gq, 0, none⟩ = some (.string q.f0) := (blk_cell BK2.out 0).trans rfl
       have hz2 : w4.cell? ⟨gq, 1, none⟩ = some (.int .u64 q.f1) := (blk_cell BK2.out 1).trans rfl
       have hz3 : w4.cell? ⟨gq, 2, none⟩ = some (.int .i64 q.f2) := (blk_cell BK2.out 2).trans rfl
       clear hb hbox hg))
  have HS : Aside0 (FindSt w g gb gq l (iv : Int) q w4) := ⟨⟨⟨A, c, q3, q4, Kd.C_below (show Kd.C k47 w A l.length l from HC.out.1) HB.out, HC.out.2⟩, hz0, hz1, hz2, hz3, HB.out⟩⟩
  have hiv0 : ((iv : Int) == 0) = false := beq_eq_false_iff_ne.mpr (by have := HLIM.out; omega)
  have hiv1 : ¬ (iv : Int) = 0 := by have := HLIM.out; omega
  have hiv2 : (iv = 0) = False := eq_false (by have := HLIM.out; omega)
  obtain ⟨n0, hn0⟩ : ∃ n, (l.length + iv - 1) / iv = n := ⟨_, rfl⟩
  rw [hn0] at HB1
  have hq1 : wrap64 ((l.length : Int) + (iv : Int)) = ((l.length + iv : Nat) : Int) := by have := HLIM.out; exact fw2 _ _ (by omega)
  have hq2 : wrap64 (((l.length + iv : Nat) : Int) - 1) = ((l.length + iv - 1 : Nat) : Int) := by have := HLIM.out; exact fws _ (by omega) (by omega)
  have hq3 : Int.tdiv ((l.length + iv - 1 : Nat) : Int) (iv : Int) = (n0 : Int) := by rw [← hn0, Int.tdiv_eq_ediv_of_nonneg (by omega)]; exact (Int.natCast_ediv _ _).symm
  have hn1 : n0 ≤ l.length + 16 := by rw [← hn0]; have := HLIM.out; exact Nat.le_trans (Nat.div_le_self _ _) (by omega)
  have hq4 : wrap64 (n0 : Int) = (n0 : Int) := by have := HLIM.out; exact fw1 _ (by omega)
  have hq5 : IntKind.i64.wrap (n0 : Int) = (n0 : Int) := (i64_w _).trans hq4
  have HN1 := Aside0.mk hn1
  clear hn1
  refine start_ (n := 18) (S := fun w' => w'.cell? ⟨gb, 0, none⟩ = some (.pointer (some ⟨g, 0, none⟩)) ∧ w'.cell? ⟨g, 0, none⟩ = some (.slice A l.length c) ∧ w'.cell? ⟨g, 1, none⟩ = some (.int .i64 (iv : Int))) (ds := []) #[false, false, false, false, false, false, false, false, false, false, false, false, false, false, false, false, false, false] (by kernel_rfl) rfl rfl ⟨hz0, q3, q4⟩ (fun hHeld => ?_)
  refine pure_ (i := 16) (N := some 6) (v := ?_) (a' := ?_) #[false, false, false, false, false, false, false, false, false, false, false, false, false, false, false, false, true, false] rfl rfl (by kernel_rfl) (fun _ _ _ h => h) (Or.inl ⟨by rfl, ?_⟩) ?_ ?_
  rotate_left
  · intro w'
    go_simp
    with_reducible rfl
  rotate_left
  · simp only [Act.put, List.setIfInBounds_toArray, List.set_cons_zero, List.set_cons_succ, i64_w, i32_w]
    rfl
  refine take_ (i := 0) (N := some 13) (v := ?_) (a' := ?_) #[true, false, false, false, false, false, false, false, false, false, false, false, false, false, false, false, true, false] rfl rfl (by kernel_rfl) (fun _ _ _ h => h) (Or.inl ⟨by rfl, ?_⟩) hHeld ?_ ?_
  rotate_left
  · rintro w' ⟨s0, s1, s2⟩
    go_simp
    with_reducible rfl
  rotate_left
  · simp only [Act.put, List.setIfInBounds_toArray, List.set_cons_zero, List.set_cons_succ, i64_w, i32_w]
    rfl
  refine pure_ (i := 1) (N := some 14) (v := ?_) (a' := ?_) #[true, true, false, false, false, false, false, false, false, false, false, false, false, false, false, false, true, false] rfl rfl (by kernel_rfl) (fun _ _ _ h => h) (Or.inl ⟨by rfl, ?_⟩) ?_ ?_
  rotate_left
  · intro w'
    go_simp
    with_reducible rfl
  rotate_left
  · simp only [Act.put, List.setIfInBounds_toArray, List.set_cons_zero, List.set_cons_succ, i64_w, i32_w]
    rfl
  refine pure_ (i := 2) (N := some 15) (v := ?_) (a' := ?_) #[true, true, true, false, false, false, false, false, false, false, false, false, false, false, false, false, true, false] rfl rfl (by kernel_rfl) (fun _ _ _ h => h) (Or.inl ⟨by rfl, ?_⟩) ?_ ?_
  rotate_left
  · intro w'
    go_simp
    with_reducible rfl
  rotate_left
  · simp only [Act.put, List.setIfInBounds_toArray, List.set_cons_zero, List.set_cons_succ, i64_w, i32_w]
    rfl
  refine take_ (i := 3) (N := some 16) (v := ?_) (a' := ?_) #[true, true, true, true, false, false, false, false, false, false, false, false, false, false, false, false, true, false] rfl rfl (by kernel_rfl) (fun _ _ _ h => h) (Or.inl ⟨by rfl, ?_⟩) hHeld ?_ ?_
  rotate_left
  · rintro w' ⟨s0, s1, s2⟩
    go_simp
    with_reducible rfl
  rotate_left
  · simp only [Act.put, List.setIfInBounds_toArray, List.set_cons_zero, List.set_cons_succ, i64_w, i32_w]
    rfl
  refine pure_ (i := 4) (N := some 17) (v := ?_) (a' := ?_) #[true, true, true, true, true, false, false, false, false, false, false, false, false, false, false, false, true, false] rfl rfl (by kernel_rfl) (fun _ _ _ h => h) (Or.inl ⟨by rfl, ?_⟩) ?_ ?_
  rotate_left
  · intro w'
    go_simp
    with_reducible rfl
  rotate_left
  · simp only [Act.put, List.setIfInBounds_toArray, List.set_cons_zero, List.set_cons_succ, i64_w, i32_w]
    rfl
  refine take_ (i := 5) (N := some 18) (v := ?_) (a' := ?_) #[true, true, true, true, true, true, false, false, false, false, false, false, false, false, false, false, true, false] rfl rfl (by kernel_rfl) (fun _ _ _ h => h) (Or.inl ⟨by rfl, ?_⟩) hHeld ?_ ?_
  rotate_left
  · rintro w' ⟨s0, s1, s2⟩
    go_simp
    with_reducible rfl
  rotate_left
  · simp only [Act.put, List.setIfInBounds_toArray, List.set_cons_zero, List.set_cons_succ, i64_w, i32_w]
    rfl
  refine pure_ (i := 6) (N := some 19) (v := ?_) (a' := ?_) #[true, true, true, true, true, true, true, false, false, false, false, false, false, false, false, false, true, false] rfl rfl (by kernel_rfl) (fun _ _ _ h => h) (Or.inl ⟨by rfl, ?_⟩) ?_ ?_
  rotate_left
  · intro w'
    go_simp
    with_reducible rfl
  rotate_left
  · simp only [Act.put, List.setIfInBounds_toArray, List.set_cons_zero, List.set_cons_succ, i64_w, i32_w]
    rfl
  refine pure_ (i := 7) (N := some 20) (v := ?_) (a' := ?_) #[true, true, true, true, true, true, true, true, false, false, false, false, false, false, false, false, true, false] rfl rfl (by kernel_rfl) (fun _ _ _ h => h) (Or.inl ⟨by rfl, ?_⟩) ?_ ?_
  rotate_left
  · intro w'
    go_simp
    with_reducible rfl
  rotate_left
  · simp only [Act.put, List.setIfInBounds_toArray, List.set_cons_zero, List.set_cons_succ, i64_w, i32_w]
    rfl
  refine take_ (i := 8) (N := some 21) (v := ?_) (a' := ?_) #[true, true, true, true, true, true, true, true, true, false, false, false, false, false, false, false, true, false] rfl rfl (by kernel_rfl) (fun _ _ _ h => h) (Or.inl ⟨by rfl, ?_⟩) hHeld ?_ ?_
  rotate_left
  · rintro w' ⟨s0, s1, s2⟩
    go_simp
    with_reducible rfl
  rotate_left
  · simp only [Act.put, List.setIfInBounds_toArray, List.set_cons_zero, List.set_cons_succ, i64_w, i32_w]
    rfl
  refine pure_ (i := 9) (N := some 22) (v := ?_) (a' := ?_) #[true, true, true, true, true, true, true, true, true, true, false, false, false, false, false, false, true, false] rfl rfl (by kernel_rfl) (fun _ _ _ h => h) (Or.inl ⟨by rfl, ?_⟩) ?_ ?_
  rotate_left
  · intro w'
    go_simp
    with_reducible rfl
  rotate_left
  · simp only [Act.put, List.setIfInBounds_toArray, List.set_cons_zero, List.set_cons_succ, i64_w, i32_w]
    rfl
  refine pure_ (i := 10) (N := some 23) (v := ?_) (a' := ?_) #[true, true, true, true, true, true, true, true, true, true, true, false, false, false, false, false, true, false] rfl rfl (by kernel_rfl) (fun _ _ _ h => h) (Or.inl ⟨by rfl, ?_⟩) ?_ ?_
  rotate_left
  · intro w'
    go_simp
    with_reducible rfl
  rotate_left
  · simp only [Act.put, List.setIfInBounds_toArray, List.set_cons_zero, List.set_cons_succ, i64_w, i32_w]
    rfl
  refine take_ (i := 11) (N := some 24) (v := ?_) (a' := ?_) #[true, true, true, true, true, true, true, true, true, true, true, true, false, false, false, false, true, false] rfl rfl (by kernel_rfl) (fun _ _ _ h => h) (Or.inl ⟨by rfl, ?_⟩) hHeld ?_ ?_
  rotate_left
  · rintro w' ⟨s0, s1, s2⟩
    go_simp
    with_reducible rfl
  rotate_left
  · simp only [Act.put, List.setIfInBounds_toArray, List.set_cons_zero, List.set_cons_succ, i64_w, i32_w]
    rfl
  refine pure_ (i := 12) (N := some 25) (v := ?_) (a' := ?_) #[true, true, true, true, true, true, true, true, true, true, true, true, true, false, false, false, true, false] rfl rfl (by kernel_rfl) (fun _ _ _ h => h) (Or.inl ⟨by rfl, ?_⟩) ?_ ?_
  rotate_left
  · intro w'
    go_simp
    with_reducible rfl
  rotate_left
  · simp only [Act.put, List.setIfInBounds_toArray, List.set_cons_zero, List.set_cons_succ, i64_w, i32_w]
    rfl
  refine pure_ (i := 13) (N := some 26) (v := ?_) (a' := ?_) #[true, true, true, true, true, true, true, true, true, true, true, true, true, true, false, false, true, false] rfl rfl (by kernel_rfl) (fun _ _ _ h => h) (Or.inl ⟨by rfl, ?_⟩) ?_ ?_
  rotate_left
  · intro w'
    go_simp
    with_reducible rfl
  rotate_left
  · simp only [Act.put, List.setIfInBounds_toArray, List.set_cons_zero, List.set_cons_succ, i64_w, i32_w]
    rfl
  refine take_ (i := 14) (N := some 27) (v := ?_) (a' := ?_) #[true, true, true, true, true, true, true, true, true, true, true, true, true, true, true, false, true, false] rfl rfl (by kernel_rfl) (fun _ _ _ h => h) (Or.inl ⟨by rfl, ?_⟩) hHeld ?_ ?_
  rotate_left
  · rintro w' ⟨s0, s1, s2⟩
    go_simp
    with_reducible rfl
  rotate_left
  · simp only [Act.put, List.setIfInBounds_toArray, List.set_cons_zero, List.set_cons_succ, i64_w, i32_w]
    rfl
  refine pure_ (i := 15) (N := some 28) (v := ?_) (a' := ?_) #[true, true, true, true, true, true, true, true, true, true, true, true, true, true, true, true, true, false] rfl rfl (by kernel_rfl) (fun _ _ _ h => h) (Or.inl ⟨by rfl, ?_⟩) ?_ ?_
  rotate_left
  · intro w'
    go_simp
    with_reducible rfl
  rotate_left
  · simp only [Act.put, List.setIfInBounds_toArray, List.set_cons_zero, List.set_cons_succ, i64_w, i32_w]
    rfl
  refine pure_ (i := 17) (N := some 7) (v := ?_) (a' := ?_) #[true, true, true, true, true, true, true, true, true, true, true, true, true, true, true, true, true, true] rfl rfl (by kernel_rfl) (fun _ _ _ h => h) (Or.inl ⟨by rfl, ?_⟩) ?_ ?_
  rotate_left
  · intro w'
    go_simp
    with_reducible rfl
  rotate_left
  · simp only [Act.put, List.setIfInBounds_toArray, List.set_cons_zero, List.set_cons_succ, i64_w, i32_w]
    rfl
  refine done_ (by kernel_rfl) ?_
  have HS2 := Aside0.mk (HS.out.step (below_drew1 (Below.refl _ _)))
  clear HS HB
  generalize w4.drew = w5 at HS2 hHeld ⊢
  have HS := HS2
  clear HS2 hHeld
  have hq6 : wrap64 ((l.length : Int) + (iv : Int) - 1) = ((l.length + iv - 1 : Nat) : Int) := by have := HLIM.out; rw [← fws (l.length + iv) (by clear hq1 hq2 hq3 hq4 hq5; omega) (by clear hq1 hq2 hq3 hq4 hq5; omega)]; rfl
  have HQA : Aside0 (wrap64 (Int.tdiv (wrap64 ((l.length : Int) + (iv : Int) - 1)) (iv : Int)) = (n0 : Int)) := ⟨by rw [hq6, hq3, hq4]⟩
  clear hq1 hq2 hq3 hq4 hq5 hq6 hn0 hz0 hz1 hz2 hz3 q3 q4 q1 q2 h1 h2 hiv0 hiv1 hiv2 BK BK1 BK2 HBLK HC hf
  go_wp2
  go_loopg [6, 7] k (fun gf v6 v7 wx => ∃ lo hi : Nat, v6 = .int .i64 (lo : Int) ∧ v7 = .int .i64 (hi : Int) ∧ Aside0 (find_b gf l iv q lo hi = some b0) ∧ Aside0 (FindSt w g gb gq l (iv : Int) q wx))
  case atStart => exact ⟨0, n0, rfl, by rw [HQA.out], HB1, HS⟩
  case round =>
    clear HS HB1 HN1
    obtain ⟨lo, hi, rfl, rfl, HF, HS⟩ := hrel
    cases gk with
    | zero => exact absurd HF.out (by simp [find_b])
    | succ g1 =>
      have H := HF.out
      clear HF
      simp only [find_b] at H
      by_cases c1 : lo < hi
      · rw [if_pos c1] at H
        have c1b : decide ((lo : Int) < (hi : Int)) = true := decide_eq_true (by omega)
        have c1c : decide (lo < hi) = true := decide_eq_true c1
        split at H
        case isFalse => cases H
        rename_i hc2
        obtain ⟨r1, hr1, H⟩ := Option.bind_eq_some_iff.mp H
        obtain ⟨mid, hmid⟩ : ∃ m, (lo + hi) / 2 = m := ⟨_, rfl⟩
        rw [hmid] at hc2 hr1 H
        have hmh : mid < hi := by omega
        have hmn : mid < 281474976710656 + 16 := by have := HLIM.out; omega
        have hlh : lo + hi < 9000000000000000000 := by have := HLIM.out; omega
        obtain ⟨mi, hmi⟩ : ∃ m, mid * iv = m := ⟨_, rfl⟩
        rw [hmi] at hc2 hr1
        have HM : Aside0 (wrap64 (Int.tdiv (wrap64 ((lo : Int) + (hi : Int))) 2) = (mid : Int)) := ⟨by rw [fw2 lo hi hlh, fhalf _ _ hmid, fw1 mid (by omega)]⟩
        have HE : Aside0 (wrap64 (wrap64 (Int.tdiv (wrap64 ((lo : Int) + (hi : Int))) 2) * (iv : Int)) = (mi : Int)) := ⟨by rw [HM.out, fwm mid iv mi hmi (by have := HLIM.out; omega)]⟩
        have HM1 : Aside0 (wrap64 (wrap64 (Int.tdiv (wrap64 ((lo : Int) + (hi : Int))) 2) + 1) = ((mid + 1 : Nat) : Int)) := ⟨by rw [HM.out]; exact fw2 mid 1 (by omega)⟩
        have HR1 : Aside0 (ikey_Compare.f (rd_T47 l (mi : Int)).f0.f0 (rd_T47 l (mi : Int)).f0.f1 (rd_T47 l (mi : Int)).f0.f2 q.f0 q.f1 q.f2 = some r1) := ⟨hr1⟩
        have HMI := Aside0.mk hc2.1
        have HH := Aside0.mk H
        clear H hr1 hc2 hmi hmid c1 hmh hmn hlh
        obtain ⟨A1, cc1, z1, z2, z3, z4⟩ := HS.out.blk
        have hz0 := HS.out.b
        clear z3 z4
        by_cases c2 : r1 < 0
        · have H := HH.out
          rw [if_pos c2] at H
          have H' := Aside0.mk H
          have c2b : decide (r1 < 0) = true := decide_eq_true c2
          clear H HH c2
          go_wp2_with (first
            | (go_at_call 62; rw [HE.out]; with_reducible refine (ahead_calls g gb gq l (iv : Int) (mi : Int) q r1 _ HS.out.blk (Int.natCast_nonneg _) (Int.ofNat_lt.2 HMI.out) HS.out.b HS.out.k0 HS.out.k1 HS.out.k2 HR1.out).mono ?_; rintro e w6 ⟨rfl, hb6⟩; have HS6 := Aside0.mk (HS.out.step hb6); clear HS hb6; have HS := HS6; clear HS6))
          go_roundg g1
          case measure => omega
          case rel => exact ⟨mid + 1, hi, by rw [HM1.out], rfl, H', HS⟩
        · have H := HH.out
          rw [if_neg c2] at H
          have H' := Aside0.mk H
          have c2b : decide (r1 < 0) = false := decide_eq_false c2
          clear H HH c2
          go_wp2_with (first
            | (go_at_call 62; rw [HE.out]; with_reducible refine (ahead_calls g gb gq l (iv : Int) (mi : Int) q r1 _ HS.out.blk (Int.natCast_nonneg _) (Int.ofNat_lt.2 HMI.out) HS.out.b HS.out.k0 HS.out.k1 HS.out.k2 HR1.out).mono ?_; rintro e w6 ⟨rfl, hb6⟩; have HS6 := Aside0.mk (HS.out.step hb6); clear HS hb6; have HS := HS6; clear HS6))
          go_roundg g1
          case measure => omega
          case rel => exact ⟨lo, mid, rfl, by rw [HM.out], H', HS⟩
      · rw [if_neg c1] at H
        obtain rfl := Option.some.inj H
        have c1b : decide ((lo : Int) < (hi : Int)) = false := decide_eq_false (by omega)
        have c1c : decide (lo < hi) = false := decide_eq_false c1
        clear H c1
        obtain ⟨A1, cc1, z1, z2, z3, z4⟩ := HS.out.blk
        have hz0 := HS.out.b
        clear z3 z4
        obtain ⟨a0, ha0⟩ : ∃ x, (lo - 1) * iv = x := ⟨_, rfl⟩
        rw [ha0] at HF1
        have HA9 : Aside0 (a0 ≤ 16 * l.length) := ⟨by have h1 := HLIM.out; have h2 := HLO.out; rw [← ha0, Nat.mul_comm 16]; exact Nat.mul_le_mul (by omega) (by omega)⟩
        have HV9 : Aside0 (wrap64 ((if (0 : Int) < wrap64 ((lo : Int) - 1) then wrap64 ((lo : Int) - 1) else 0) * (iv : Int)) = (a0 : Int)) := ⟨by
          have h1 := HLIM.out
          have h2 := HLO.out
          have h9 := HA9.out
          by_cases hz : lo = 0
          · subst hz
            rw [if_neg (by unfold wrap64; omega), Int.zero_mul, ← ha0, Nat.zero_sub, Nat.zero_mul]
            unfold wrap64
            omega
          · rw [fws lo (by omega) (by omega)]
            by_cases h1' : lo = 1
            · subst h1'
              rw [if_neg (by omega), Int.zero_mul, ← ha0, Nat.sub_self, Nat.zero_mul]
              unfold wrap64
              omega
            · rw [if_pos (by omega), fwm (lo - 1) iv a0 ha0 (by omega)]⟩
        clear ha0
        by_cases cm : 0 < wrap64 ((lo : Int) - 1)
        · have HV : Aside0 (wrap64 (wrap64 ((lo : Int) - 1) * (iv : Int)) = (a0 : Int)) := ⟨by have := HV9.out; rwa [if_pos cm] at this⟩
          have cm2 : decide (0 < wrap64 ((lo : Int) - 1)) = true := decide_eq_true cm
          clear HV9
          go_upto_region 11 with fail
          rw [HV.out]
          clear HV z1 z2 hz0
          go_loopg [9] k (fun gf v9 wx => ∃ at_ : Nat, v9 = .int .i64 (at_ : Int) ∧ Aside0 (find_s gf l q at_ = some r) ∧ Aside0 (FindSt w g gb gq l (iv : Int) q wx))
          case atStart => exact ⟨a0, rfl, HF1, HS⟩
          case round =>
            clear HS HF1 cm cm2
            obtain ⟨at_, rfl, HF, HS⟩ := hrel
            cases gk with
            | zero => exact absurd HF.out (by simp [find_s])
            | succ g2 =>
              have H := HF.out
              clear HF
              simp only [find_s] at H
              obtain ⟨A2, cc2, y1, y2, y3, y4⟩ := HS.out.blk
              have hz0 := HS.out.b
              clear y3 y4
              by_cases c1 : at_ < l.length
              · rw [if_pos c1] at H
                have d1 : decide ((at_ : Int) < (l.length : Int)) = true := decide_eq_true (by omega)
                have d2 : decide (at_ < l.length) = true := decide_eq_true c1
                obtain ⟨r1, hr1, H⟩ := Option.bind_eq_some_iff.mp H
                have HR1 : Aside0 (ikey_Compare.f (rd_T47 l (at_ : Int)).f0.f0 (rd_T47 l (at_ : Int)).f0.f1 (rd_T47 l (at_ : Int)).f0.f2 q.f0 q.f1 q.f2 = some r1) := ⟨hr1⟩
                have HW : Aside0 (wrap64 ((at_ : Int) + 1) = ((at_ + 1 : Nat) : Int)) := ⟨by have := HLIM.out; exact fw2 at_ 1 (by omega)⟩
                have HC1 := Aside0.mk c1
                clear hr1 c1
                by_cases c2 : r1 < 0
                · rw [if_pos c2] at H
                  have H' := Aside0.mk H
                  have c2b : decide (r1 < 0) = true := decide_eq_true c2
                  clear H c2
                  go_wp2_with (first
                    | (go_at_call 62; with_reducible refine (ahead_calls g gb gq l (iv : Int) (at_ : Int) q r1 _ HS.out.blk (Int.natCast_nonneg _) (Int.ofNat_lt.2 HC1.out) HS.out.b HS.out.k0 HS.out.k1 HS.out.k2 HR1.out).mono ?_; rintro e w6 ⟨rfl, hb6⟩; have HS6 := Aside0.mk (HS.out.step hb6); clear HS hb6; have HS := HS6; clear HS6))
                  go_roundg g2
                  case measure => omega
                  case rel => exact ⟨at_ + 1, by rw [HW.out], H', HS⟩
                · rw [if_neg c2] at H
                  obtain rfl := Option.some.inj H
                  have c2b : decide (r1 < 0) = false := decide_eq_false c2
                  clear H c2
                  go_wp2_with (first
                    | (go_at_call 62; with_reducible refine (ahead_calls g gb gq l (iv : Int) (at_ : Int) q r1 _ HS.out.blk (Int.natCast_nonneg _) (Int.ofNat_lt.2 HC1.out) HS.out.b HS.out.k0 HS.out.k1 HS.out.k2 HR1.out).mono ?_; rintro e w6 ⟨rfl, hb6⟩; have HS6 := Aside0.mk (HS.out.step hb6); clear HS hb6; have HS := HS6; clear HS6))
                  go_ret
                  exact ⟨by first | rfl | simp, HS.out.bel⟩
              · rw [if_neg c1] at H
                obtain rfl := Option.some.inj H
                have d1 : decide ((at_ : Int) < (l.length : Int)) = false := decide_eq_false (by omega)
                have d2 : decide (at_ < l.length) = false := decide_eq_false c1
                clear H c1
                go_wp2
                go_ret
                exact ⟨by first | rfl | simp, HS.out.bel⟩
        · have HV : Aside0 (a0 = 0) := ⟨by have := HV9.out; rw [if_neg cm, Int.zero_mul] at this; have h0 : wrap64 0 = 0 := by unfold wrap64; omega
                                           rw [h0] at this; omega⟩
          have cm2 : decide (0 < wrap64 ((lo : Int) - 1)) = false := decide_eq_false cm
          clear HV9
          go_upto_region 11 with fail
          obtain rfl := HV.out
          clear HV z1 z2 hz0
          go_loopg [9] k (fun gf v9 wx => ∃ at_ : Nat, v9 = .int .i64 (at_ : Int) ∧ Aside0 (find_s gf l q at_ = some r) ∧ Aside0 (FindSt w g gb gq l (iv : Int) q wx))
          case atStart => exact ⟨0, rfl, HF1, HS⟩
          case round =>
            clear HS HF1 cm cm2
            obtain ⟨at_, rfl, HF, HS⟩ := hrel
            cases gk with
            | zero => exact absurd HF.out (by simp [find_s])
            | succ g2 =>
              have H := HF.out
              clear HF
              simp only [find_s] at H
              obtain ⟨A2, cc2, y1, y2, y3, y4⟩ := HS.out.blk
              have hz0 := HS.out.b
              clear y3 y4
              by_cases c1 : at_ < l.length
              · rw [if_pos c1] at H
                have d1 : decide ((at_ : Int) < (l.length : Int)) = true := decide_eq_true (by omega)
                have d2 : decide (at_ < l.length) = true := decide_eq_true c1
                obtain ⟨r1, hr1, H⟩ := Option.bind_eq_some_iff.mp H
                have HR1 : Aside0 (ikey_Compare.f (rd_T47 l (at_ : Int)).f0.f0 (rd_T47 l (at_ : Int)).f0.f1 (rd_T47 l (at_ : Int)).f0.f2 q.f0 q.f1 q.f2 = some r1) := ⟨hr1⟩
                have HW : Aside0 (wrap64 ((at_ : Int) + 1) = ((at_ + 1 : Nat) : Int)) := ⟨by have := HLIM.out; exact fw2 at_ 1 (by omega)⟩
                have HC1 := Aside0.mk c1
                clear hr1 c1
                by_cases c2 : r1 < 0
                · rw [if_pos c2] at H
                  have H' := Aside0.mk H
                  have c2b : decide (r1 < 0) = true := decide_eq_true c2
                  clear H c2
                  go_wp2_with (first
                    | (go_at_call 62; with_reducible refine (ahead_calls g gb gq l (iv : Int) (at_ : Int) q r1 _ HS.out.blk (Int.natCast_nonneg _) (Int.ofNat_lt.2 HC1.out) HS.out.b HS.out.k0 HS.out.k1 HS.out.k2 HR1.out).mono ?_; rintro e w6 ⟨rfl, hb6⟩; have HS6 := Aside0.mk (HS.out.step hb6); clear HS hb6; have HS := HS6; clear HS6))
                  go_roundg g2
                  case measure => omega
                  case rel => exact ⟨at_ + 1, by rw [HW.out], H', HS⟩
                · rw [if_neg c2] at H
                  obtain rfl := Option.some.inj H
                  have c2b : decide (r1 < 0) = false := decide_eq_false c2
                  clear H c2
                  go_wp2_with (first
                    | (go_at_call 62; with_reducible refine (ahead_calls g gb gq l (iv : Int) (at_ : Int) q r1 _ HS.out.blk (Int.natCast_nonneg _) (Int.ofNat_lt.2 HC1.out) HS.out.b HS.out.k0 HS.out.k1 HS.out.k2 HR1.out).mono ?_; rintro e w6 ⟨rfl, hb6⟩; have HS6 := Aside0.mk (HS.out.step hb6); clear HS hb6; have HS := HS6; clear HS6))
                  go_ret
                  exact ⟨by first | rfl | simp, HS.out.bel⟩
              · rw [if_neg c1] at H
                obtain rfl := Option.some.inj H
                have d1 : decide ((at_ : Int) < (l.length : Int)) = false := decide_eq_false (by omega)
                have d2 : decide (at_ < l.length) = false := decide_eq_false c1
                clear H c1
                go_wp2
                go_ret
                exact ⟨by first | rfl | simp, HS.out.bel⟩
end Go.Proofs.Ythdemdjobgbpdaa.B
namespace Go.Proofs.Ythdemdjobgbpdaa.B
open Go.RowKit Go.Proofs.YthdemdjobgbpdaaW.PrintWords Go.Proofs.YthdemdjobgbpdaaW.PrintLast Go.Proofs.YthdemdjobgbpdaaW.PrintMore Go.Proofs.Ythdemdjobgbpdaa.P
set_option linter.unusedVariables false
set_option linter.unusedSimpArgs false
/-- entry by entry -/
def rd_l : Nat → Nat → List Int → List Int → List S47 → Option (List S47)
  | 0, _, _, _, _ => none
  | k + 1, bl, D, last, acc => if D.length = 0 then some acc else
    (codec_Uvarint.f k D).bind fun u1 => if u1.2.2 = 0 ∧ 0 ≤ u1.1 ∧ u1.1 ≤ (last.length : Int) ∧ 0 ≤ u1.2.1 ∧ u1.2.1 ≤ (D.length : Int) then
    (codec_Uvarint.f k (D.drop u1.2.1.toNat)).bind fun u2 => if u2.2.2 = 0 ∧ 0 ≤ u2.1 ∧ u2.1 ≤ (bl : Int) ∧ 0 ≤ u2.2.1 ∧ u2.2.1 ≤ ((D.drop u1.2.1.toNat).length : Int) then
    (codec_Uvarint.f k ((D.drop u1.2.1.toNat).drop u2.2.1.toNat)).bind fun u3 => if u3.2.2 = 0 ∧ 0 ≤ u3.1 ∧ u3.1 ≤ (bl : Int) ∧ 0 ≤ u3.2.1 ∧ u3.2.1 ≤ (((D.drop u1.2.1.toNat).drop u2.2.1.toNat).length : Int) then
    (if u2.1 ≤ ((((D.drop u1.2.1.toNat).drop u2.2.1.toNat).drop u3.2.1.toNat).length : Int) ∧ (last.take u1.1.toNat).length + ((((D.drop u1.2.1.toNat).drop u2.2.1.toNat).drop u3.2.1.toNat).take u2.1.toNat).length < 140737488355328 then
      (ikey_Decode.f k (last.take u1.1.toNat ++ (((D.drop u1.2.1.toNat).drop u2.2.1.toNat).drop u3.2.1.toNat).take u2.1.toNat)).bind fun y =>
        if y.2.2.2 = 0 ∧ u3.1 ≤ (((((D.drop u1.2.1.toNat).drop u2.2.1.toNat).drop u3.2.1.toNat).drop u2.1.toNat).length : Int) ∧ acc.length < 2932031007402 then
          rd_l k bl (((((D.drop u1.2.1.toNat).drop u2.2.1.toNat).drop u3.2.1.toNat).drop u2.1.toNat).drop u3.1.toNat) (last.take u1.1.toNat ++ (((D.drop u1.2.1.toNat).drop u2.2.1.toNat).drop u3.2.1.toNat).take u2.1.toNat)
            (acc ++ [⟨⟨y.1, y.2.1, y.2.2.1⟩, strOfNums (((((D.drop u1.2.1.toNat).drop u2.2.1.toNat).drop u3.2.1.toNat).drop u2.1.toNat).take u3.1.toNat)⟩])
        else none
    else none) else none else none else none
def read_f (k : Nat) (b : List Int) : Option (List S47 × Int) :=
  if 5 ≤ b.length ∧ b.length < 140737488355328 then (codec_Fixed.f k (b.drop (b.length - 4)) 4).bind fun m =>
    if 0 ≤ m.1 ∧ m.1 ≤ (((b.length - 5) / 4 : Nat) : Int) then (rd_l k b.length (b.take (b.length - 5 - 4 * m.1.toNat)) [] []).bind fun l => some (l, wrap64 (rd b ((b.length : Int) - 5))) else none
  else none
theorem br_sub (a b : Nat) (h : b ≤ a) (h2 : a < 140737488355328) : wrap64 ((a : Int) - (b : Int)) = ((a - b : Nat) : Int) := by unfold wrap64; omega
theorem br_s4 (a : Nat) (h : 4 ≤ a) (h2 : a < 140737488355328) : wrap64 ((a : Int) - 4) = ((a - 4 : Nat) : Int) := by unfold wrap64; omega
theorem br_s5 (a : Nat) (h : 5 ≤ a) (h2 : a < 140737488355328) : wrap64 ((a : Int) - 5) = ((a - 5 : Nat) : Int) := by unfold wrap64; omega
theorem br_q (a : Nat) (h2 : a < 140737488355328) : IntKind.u64.wrap ((a : Int)) = (a : Int) := by simp [IntKind.wrap, IntKind.bits, IntKind.signed]; omega
/-! ### worlds that go on: what lies below a mark and is not the reader's stays -/
def Adv (n0 gr : Nat) (a c : World) : Prop := a.heap.size ≤ c.heap.size ∧ ∀ k, k < n0 → k ≠ gr → c.heap[k]? = a.heap[k]?
theorem Adv.refl (n0 gr : Nat) (a : World) : Adv n0 gr a a := ⟨Nat.le_refl _, fun _ _ _ => rfl⟩
theorem Adv.trans {n0 gr : Nat} {a b c : World} (h : Adv n0 gr a b) (h2 : Adv n0 gr b c) : Adv n0 gr a c := ⟨Nat.le_trans h.1 h2.1, fun k h3 h4 => (h2.2 k h3 h4).trans (h.2 k h3 h4)⟩
theorem Adv.below {n0 gr : Nat} {a b c : World} (h : Adv n0 gr a b) (hb : Below b.heap.size b c) (hn : n0 ≤ a.heap.size) : Adv n0 gr a c :=
  h.trans ⟨hb.size, fun k h3 _ => hb.block k (Nat.lt_of_lt_of_le h3 (Nat.le_trans hn h.1))⟩
theorem Adv.put {n0 gr : Nat} {a b c : World} (h : Adv n0 gr a b) {nd : Nat} {u : Value} (hc : c = (b.drewN nd).setCell ⟨gr, 0, none⟩ u) : Adv n0 gr a c := by
  subst hc
  exact h.trans ⟨(grownBy_setCell' (b.drewN nd) gr u).size, fun k h3 h4 => (Below.heap_setCell (b.drewN nd) ⟨gr, 0, none⟩ u k h4).trans rfl⟩
theorem Adv.put0 {n0 gr : Nat} {a b c : World} (h : Adv n0 gr a b) {u : Value} (hc : c = b.setCell ⟨gr, 0, none⟩ u) : Adv n0 gr a c := by
  subst hc
  exact h.trans ⟨(grownBy_setCell' b gr u).size, fun k h3 h4 => (Below.heap_setCell b ⟨gr, 0, none⟩ u k h4)⟩
theorem Adv.grown {n0 gr : Nat} {a b c : World} {row : Option Nat} (h : Adv n0 gr a b) (hg : b.grownBy c row) (hn : n0 ≤ a.heap.size) (hr : ∀ k, row = some k → n0 ≤ k) : Adv n0 gr a c :=
  h.trans ⟨hg.size, fun k h3 _ => hg.block k (Nat.lt_of_lt_of_le h3 (Nat.le_trans hn h.1)) (fun e => by have := hr k e.symm; omega)⟩
theorem R_adv {α : Type} {d : Kd α} {e base n0 gr : Nat} {ok : Nat → Prop} {a c : World} {v : Value} {xs : List α} (h : d.R e a base ok v xs) (hok : ∀ k, ok k → k ≠ gr) (hn : n0 = a.heap.size) (hA : Adv n0 gr a c) : d.R e c base (fun k => ok k ∧ k < n0) v xs := by
  have hb := Kd.R_bound h
  refine Kd.R_mono (Kd.R_move hb fun k hk => hA.2 k (by rw [hn]; exact hk.2.2.1) (hok k hk.1)) fun k hk => ⟨hk.1, by rw [hn]; exact hk.2.2.1⟩
/-- what stands while read runs -/
structure RdSt (w : World) (gr : Nat) (D last : List Int) (acc : List S47) (v2 v8 : Value) (wx : World) : Prop where
  blk : ∃ Ad cd, wx.heap[gr]? = some (.cells #[.slice Ad D.length cd] 120 (0, 0)) ∧ Kd.C (Kd.int .u8) w Ad D.length D ∧ D.length ≤ cd
  ge : w.heap.size ≤ gr
  rl : Kd.R (Kd.int .u8) 5 wx w.heap.size (fun k => some k ≠ v2.ownBlock ∧ k ≠ gr) v8 last
  ra : Kd.R k47 47 wx w.heap.size (fun k => k ≠ gr) v2 acc
  bel : Below w.heap.size w wx
theorem blk_lt {w : World} {g : Nat} {o : Obj} (h : w.heap[g]? = some o) : g < w.heap.size := (Array.getElem?_eq_some_iff.1 h).1
theorem br_pos (n : Int) (h0 : 0 ≤ n) (h : n < 9223372036854775808) : wrap64 n = n := by unfold wrap64; omega
end Go.Proofs.Ythdemdjobgbpdaa.B
namespace Go.Proofs.Ythdemdjobgbpdaa.B
open Go.RowKit Go.Proofs.YthdemdjobgbpdaaW.PrintWords Go.Proofs.YthdemdjobgbpdaaW.PrintLast Go.Proofs.YthdemdjobgbpdaaW.PrintMore Go.Proofs.Ythdemdjobgbpdaa.P
set_option linter.unusedVariables false
set_option linter.unusedSimpArgs false
/-- a number, or the end -/
def nm {α : Type} (k : Nat) (D : List Int) (most : Int) (f : Int → List Int → Option (Option α)) : Option (Option α) :=
  (codec_Uvarint.f k D).bind fun u => if u.2.2 = 0 ∧ 0 ≤ u.1 ∧ u.1 ≤ most ∧ 0 ≤ u.2.1 ∧ u.2.1 ≤ (D.length : Int) then f u.1 (D.drop u.2.1.toNat) else if u.2.2 ≠ 0 ∨ most < u.1 then some none else none
/-- bytes, or the end -/
def tk {α : Type} (D : List Int) (n : Int) (f : List Int → List Int → Option (Option α)) : Option (Option α) := if n ≤ (D.length : Int) then f (D.take n.toNat) (D.drop n.toNat) else some none
theorem nm_out {α : Type} {k : Nat} {D : List Int} {most : Int} {f : Int → List Int → Option (Option α)} {r : Option α} (h : nm k D most f = some r) :
    ∃ n kk e, codec_Uvarint.f k D = some (n, kk, e) ∧ ((e = 0 ∧ 0 ≤ n ∧ n ≤ most ∧ 0 ≤ kk ∧ kk ≤ (D.length : Int) ∧ f n (D.drop kk.toNat) = some r) ∨ ((e ≠ 0 ∨ most < n) ∧ r = none)) := by
  unfold nm at h
  obtain ⟨⟨n, kk, e⟩, hu, h⟩ := Option.bind_eq_some_iff.mp h
  refine ⟨n, kk, e, hu, ?_⟩
  dsimp only at h
  split at h
  · rename_i hc
    exact .inl ⟨hc.1, hc.2.1, hc.2.2.1, hc.2.2.2.1, hc.2.2.2.2, h⟩
  · split at h
    · rename_i hc
      exact .inr ⟨hc, (Option.some.inj h).symm⟩
    · cases h
theorem tk_out {α : Type} {D : List Int} {n : Int} {f : List Int → List Int → Option (Option α)} {r : Option α} (h : tk D n f = some r) : (n ≤ (D.length : Int) ∧ f (D.take n.toNat) (D.drop n.toNat) = some r) ∨ ((D.length : Int) < n ∧ r = none) := by
  unfold tk at h
  split at h
  · rename_i hc
    exact .inl ⟨hc, h⟩
  · rename_i hc
    exact .inr ⟨by omega, (Option.some.inj h).symm⟩
/-- entry by entry, or the end -/
def rd_g : Nat → Nat → List Int → List Int → List S47 → Option (Option (List S47))
  | 0, _, _, _, _ => none
  | k + 1, bl, D, last, acc => if D.length = 0 then some (some acc) else
    nm k D (last.length : Int) fun n1 D1 => nm k D1 (bl : Int) fun n2 D2 => nm k D2 (bl : Int) fun n3 D3 =>
    if (last.take n1.toNat).length + D3.length < 140737488355328 then tk D3 n2 fun E D4 =>
      (ikey_Decode.f k (last.take n1.toNat ++ E)).bind fun y => if y.2.2.2 = 0 then tk D4 n3 fun V D5 =>
        if acc.length < 2932031007402 then rd_g k bl D5 (last.take n1.toNat ++ E) (acc ++ [⟨⟨y.1, y.2.1, y.2.2.1⟩, strOfNums V⟩]) else none
      else some none
    else none
def read_g (k : Nat) (b : List Int) : Option (Option (List S47 × Int)) :=
  if b.length < 5 then some none else if b.length < 140737488355328 then (codec_Fixed.f k (b.drop (b.length - 4)) 4).bind fun m =>
    if 0 ≤ m.1 then if m.1 ≤ (((b.length - 5) / 4 : Nat) : Int) then (rd_g k b.length (b.take (b.length - 5 - 4 * m.1.toNat)) [] []).bind fun o => some (o.map fun l => (l, wrap64 (rd b ((b.length : Int) - 5)))) else some none else none
  else none
/-- how read ends -/
def RdEnd (w : World) (r : Option (List S47 × Int)) (e : Ending) (w' : World) : Prop := match r with
  | some x => ∃ v0_ : Value, e = .returned (.tuple #[v0_, .int .i64 x.2]) ∧ Kd.R k47 47 w' w.heap.size (fun _ => True) v0_ x.1 ∧ Below w.heap.size w w'
  | none => e = .panicked [{ v := .iface 103 (.agg #[]), recovered := false }] ∧ Below w.heap.size w w'
section
variable {P : Program} {ops : Array Oper} {Q : Exit → Act → World → Prop}
/-- a call that panics, in a region that draws its order -/
theorem panics_ {oi : Oper} {N : Option Tmp} {a : Act} {w : World} {K : Act → World → Prop} {f : FuncId} {fn : Func} {xs_ : Array Operand} {ts : Array TypeId} (hf : P.funcs[f]? = some fn) (hname : (fn.name == "runtime.NumGoroutine") = false) (hb : fn.body.isSome = true) (args : Array Value)
    (hw : Region.wanted oi (yielded ops a.tmps) = true) (hop : oi.op = .call { callee := .value (.func f), args := xs_, argTypes := ts }) (hargs : xs_.map a.eval = args)
    (h : Calls P f args w fun e w' => ∃ c, e = .panicked c ∧ Q (.panic c) a w') : if Region.wanted oi (yielded ops a.tmps) = true then Oper.wp P oi a w K Q else K (a.put N undef) w := by
  have he := enters_ hf hname hb args w
  have hrun : (execOp a.eval oi).run P w = .ok (.enter f args) w := by
    unfold execOp
    simp [hop, resolve, Deferred.ofValue, invoke, Act.eval, hargs, he]
  rw [if_pos hw]
  unfold Oper.wp
  rw [hrun, Oper.upon_enter]
  refine h.mono fun e w'' hh => ?_
  obtain ⟨c, rfl, hk⟩ := hh
  exact hk
end
set_option maxHeartbeats 1000000 in
set_option maxRecDepth 100000 in
theorem read_ends (k : Nat) (A0 : Option Addr) (c0 : Nat) (b : List Int) (r : Option (List S47 × Int)) (w : World) (hr0 : Kd.C (Kd.int .u8) w A0 b.length b) (hc0 : b.length ≤ c0) (hf : read_g k b = some r) :
    Calls Try.prog 57 #[.slice A0 b.length c0] w fun e w' => RdEnd w r e w' := by
  unfold read_g at hf
  split at hf
  case isTrue =>
    rename_i hlen
    obtain rfl := Option.some.inj hf
    have hb5 : decide ((b.length : Int) < 5) = true := decide_eq_true (by omega)
    have hb5' : decide (b.length < 5) = true := decide_eq_true hlen
    have HB := Aside0.mk (Below.refl w.heap.size w)
    clear hf hlen hr0
    go_enter Try.func57, Try.ntmps57
    go_wp2
    exact ⟨rfl, rfl, HB.out⟩
  rename_i hl5
  split at hf
  case isFalse => cases hf
  rename_i hlt
  have hlen : 5 ≤ b.length ∧ b.length < 140737488355328 := ⟨by omega, hlt⟩
  clear hl5 hlt
  obtain ⟨⟨m1, m2⟩, hm, hf⟩ := Option.bind_eq_some_iff.mp hf
  dsimp only at hf
  split at hf
  case isFalse => cases hf
  rename_i hm0
  split at hf
  case isFalse =>
    rename_i hmb
    obtain rfl := Option.some.inj hf
    obtain ⟨i5, hi5, _, hs5, _⟩ := info_parts info5
    obtain ⟨A1, hcut1, hrd1, hcp1⟩ := print_drop_of (P := Try.prog) (Value.int .u8) (0 : Int) 27 5 .i64 Try.underlying27 hi5 hs5 A0 c0 b ((b.length : Int) - 4) (by omega) (by omega) hc0
    rw [show ((b.length : Int) - 4).toNat = b.length - 4 by omega] at hcut1 hrd1 hcp1
    have HR1 := Aside0.mk (show Kd.C (Kd.int .u8) w A1 (b.drop (b.length - 4)).length (b.drop (b.length - 4)) from Kd.C_of_reads (h1 := fun _ => rfl) (hrd1 _ (Kd.reads_of_C hr0)))
    have HC1 := Aside0.mk hcp1
    have HM := Aside0.mk hm
    obtain ⟨D1, hD1⟩ : ∃ x, b.drop (b.length - 4) = x := ⟨_, rfl⟩
    rw [hD1] at HR1 HC1 HM hcut1
    have hw4 : wrap64 ((b.length : Int) - 4) = ((b.length - 4 : Nat) : Int) := br_s4 _ (by omega) (by omega)
    have hw5 : wrap64 ((b.length : Int) - 5) = ((b.length - 5 : Nat) : Int) := br_s5 _ (by omega) (by omega)
    have hb5 : decide ((b.length : Int) < 5) = false := decide_eq_false (by clear hw4 hw5; omega)
    have hb5' : decide (b.length < 5) = false := decide_eq_false (by clear hw4 hw5; omega)
    have hcq : decide (((b.length : Int) - 5) / 4 < m1) = true := decide_eq_true (by clear hw4 hw5; omega)
    have HB := Aside0.mk (Below.refl w.heap.size w)
    clear hrd1 hcp1 hr0 hm hi5 hs5 hD1 hf
    go_enter Try.func57, Try.ntmps57
    go_wp2_with (first
      | (go_at_call 31; with_reducible refine (codec_Fixed.calls k A1 _ D1 4 m1 m2 _ HR1.out HC1.out HM.out).mono ?_; rintro ex w2 ⟨rfl, ⟨nd, rfl⟩⟩; have HB2 := Aside0.mk (pw_below_drewN HB.out nd)))
    exact ⟨rfl, rfl, HB2.out⟩
  rename_i hmb
  have hmr : 0 ≤ m1 ∧ m1 ≤ (((b.length - 5) / 4 : Nat) : Int) := ⟨hm0, hmb⟩
  clear hm0 hmb
  obtain ⟨r1, hl1, hf⟩ := Option.bind_eq_some_iff.mp hf
  obtain rfl := Option.some.inj hf
  clear hf
  obtain ⟨m, rfl⟩ := Int.eq_ofNat_of_zero_le hmr.1
  have hm2 : m ≤ (b.length - 5) / 4 := by omega
  obtain ⟨i5, hi5, _, hs5, _⟩ := info_parts info5
  obtain ⟨A1, hcut1, hrd1, hcp1⟩ := print_drop_of (P := Try.prog) (Value.int .u8) (0 : Int) 27 5 .i64 Try.underlying27 hi5 hs5 A0 c0 b ((b.length : Int) - 4) (by omega) (by omega) hc0
  obtain ⟨hcut2, hrd2, hcp2⟩ := print_take_of (P := Try.prog) (Value.int .u8) (0 : Int) 27 5 .i64 Try.underlying27 hi5 hs5 A0 c0 b ((b.length : Int) - 5 - 4 * (m : Int)) (by omega) (by omega) hc0
  rw [show ((b.length : Int) - 4).toNat = b.length - 4 by omega] at hcut1 hrd1 hcp1
  rw [show ((b.length : Int) - 5 - 4 * (m : Int)).toNat = b.length - 5 - 4 * m by omega] at hcut2 hrd2 hcp2
  rw [Int.toNat_natCast] at hl1
  have HR1 := Aside0.mk (show Kd.C (Kd.int .u8) w A1 (b.drop (b.length - 4)).length (b.drop (b.length - 4)) from Kd.C_of_reads (h1 := fun _ => rfl) (hrd1 _ (Kd.reads_of_C hr0)))
  have HC1 := Aside0.mk hcp1
  have HR2 := Aside0.mk (show Kd.C (Kd.int .u8) w A0 (b.take (b.length - 5 - 4 * m)).length (b.take (b.length - 5 - 4 * m)) from Kd.C_of_reads (h1 := fun _ => rfl) (hrd2 _ (Kd.reads_of_C hr0)))
  have HC2 := Aside0.mk hcp2
  have HR0 := Aside0.mk hr0
  have HC0 := Aside0.mk hc0
  have HM := Aside0.mk hm
  have HL := Aside0.mk hl1
  have HLEN := Aside0.mk hlen
  obtain ⟨D1, hD1⟩ : ∃ x, b.drop (b.length - 4) = x := ⟨_, rfl⟩
  obtain ⟨D2, hD2⟩ : ∃ x, b.take (b.length - 5 - 4 * m) = x := ⟨_, rfl⟩
  rw [hD1] at HR1 HC1 HM hcut1
  rw [hD2] at HR2 HC2 HL hcut2
  have hw4 : wrap64 ((b.length : Int) - 4) = ((b.length - 4 : Nat) : Int) := br_s4 _ (by omega) (by omega)
  have hw5 : wrap64 ((b.length : Int) - 5) = ((b.length - 5 : Nat) : Int) := br_s5 _ (by omega) (by omega)
  have hb5 : decide ((b.length : Int) < 5) = false := decide_eq_false (by clear hw4 hw5; omega)
  have hb5' : decide (b.length < 5) = false := decide_eq_false (by clear hw4 hw5; omega)
  have hcq : decide (((b.length : Int) - 5) / 4 < (m : Int)) = false := decide_eq_false (by clear hw4 hw5; omega)
  have HB := Aside0.mk (Below.refl w.heap.size w)
  clear hrd1 hcp1 hrd2 hcp2 hr0 hc0 hm hl1 hi5 hs5 hD1 hD2
  go_enter Try.func57, Try.ntmps57
  go_wp2_with (first
    | (go_at_call 31; with_reducible refine (codec_Fixed.calls k A1 _ D1 4 (m : Int) m2 _ HR1.out HC1.out HM.out).mono ?_; rintro ex w2 ⟨rfl, ⟨nd, rfl⟩⟩; have HB2 := Aside0.mk (pw_below_drewN HB.out nd); clear HB; have HB := HB2; clear HB2)
    | ((with_reducible refine gate_dst (N := 49) rfl ?_); refine box_event ?hg (N := 49) ?hd (cs := #[.slice A0 D2.length c0]) (t := 120) ?hr ?_; (case hd => rfl); (case hg => rfl); (case hr => first | (go_simp; done) | (go_simp; rfl)); intro gr hg w3 hbox hb
       have BK := Aside0.mk hbox
       have GE : Aside0 (w.heap.size ≤ gr) := ⟨by rw [hg]; exact below_size HB.out⟩
       have HB3 := Aside0.mk (below_step HB.out hb)
       clear hb hbox hg HB
       have HB := HB3
       clear HB3))
  have HS : Aside0 (RdSt w gr D2 [] [] (.slice none 0 0) (.slice none 0 0) w3) := ⟨⟨⟨A0, c0, BK.out, HR2.out, HC2.out⟩, GE.out, Kd.R_nil _ _ _ _ _, Kd.R_nil _ _ _ _ _, HB.out⟩⟩
  have hB7 : Aside0 ((b.length : Int) < 9223372036854775808) := ⟨by have := HLEN.out; omega⟩
  clear hcut1 hcut2 hw4 hw5 hb5 hb5' hcq HR1 HC1 HM HR2 HC2 BK HB hlen hmr hm2
  go_loopg [2, 8] k (fun gf v2 v8 wx => ∃ (D last : List Int) (acc : List S47), Aside0 (rd_g gf b.length D last acc = some r1) ∧ Aside0 (RdSt w gr D last acc v2 v8 wx))
  case atStart => exact ⟨D2, [], [], HL, HS⟩
  case round =>
    clear HS HL
    obtain ⟨D, last, acc, HF, HS⟩ := hrel
    cases gk with
    | zero => exact absurd HF.out (by simp [rd_g])
    | succ g1 =>
      have H := HF.out
      clear HF
      simp only [rd_g] at H
      obtain ⟨Ad, cd, hBK, hCD, hLD⟩ := HS.out.blk
      have BK := Aside0.mk hBK
      have CD := Aside0.mk hCD
      have LD := Aside0.mk hLD
      have hcell : wr.cell? ⟨gr, 0, none⟩ = some (.slice Ad D.length cd) := (blk_cell hBK 0).trans rfl
      have hfz := blk_frozen hBK 0
      obtain ⟨A8, c8, e8⟩ := Kd.R_slice HS.out.rl
      subst e8
      clear hBK hCD hLD
      by_cases hd0 : D.length = 0
      · rw [if_pos hd0] at H
        obtain rfl := Option.some.inj H
        have d1 : decide (0 < (D.length : Int)) = false := decide_eq_false (by omega)
        have d2 : decide (0 < D.length) = false := decide_eq_false (by omega)
        clear H hd0
        have hbl := HLEN.out
        obtain ⟨adB, eB, hcB⟩ := Kd.at_int (Kd.C_below HR0.out HS.out.bel) ((b.length : Int) - 5) (by omega) (by omega)
        subst eB
        have p5 : (0 ≤ (b.length : Int) - 5) = True := eq_true (by omega)
        have q5 : ((b.length : Int) - 5 < (b.length : Int)) = True := eq_true (by omega)
        have p5b : decide (0 ≤ (b.length : Int) - 5) = true := decide_eq_true (by omega)
        have q5b : decide ((b.length : Int) - 5 < (b.length : Int)) = true := decide_eq_true (by omega)
        have x5 : (5 ≤ (b.length : Int)) = True := eq_true (by omega)
        have x5b : (5 ≤ b.length) = True := eq_true (by omega)
        have hw5 : wrap64 ((b.length : Int) - 5) = (b.length : Int) - 5 := by clear x5 x5b p5 q5 p5b q5b; unfold wrap64; omega
        clear hbl
        go_upto_region 19 with fail
        refine start_ (n := 10) (S := fun w' => w'.cell? (adB.add ((b.length : Int) - 5).toNat) = some (.int .u8 (rd b ((b.length : Int) - 5)))) (ds := []) #[false, false, false, false, false, false, false, false, false, false] (by kernel_rfl) rfl rfl (hcB) (fun hHeld => ?_)
        refine pure_ (i := 0) (N := some 95) (v := ?_) (a' := ?_) #[true, false, false, false, false, false, false, false, false, false] rfl rfl (by kernel_rfl) (fun _ _ _ h => h) (Or.inl ⟨by rfl, ?_⟩) ?_ ?_
        rotate_left
        · intro w'
          go_simp
          with_reducible rfl
        rotate_left
        · simp only [Act.put, List.setIfInBounds_toArray, List.set_cons_zero, List.set_cons_succ, i64_w, i32_w]
          rfl
        refine pure_ (i := 1) (N := some 96) (v := ?_) (a' := ?_) #[true, true, false, false, false, false, false, false, false, false] rfl rfl (by kernel_rfl) (fun _ _ _ h => h) (Or.inl ⟨by rfl, ?_⟩) ?_ ?_
        rotate_left
        · intro w'
          go_simp
          with_reducible rfl
        rotate_left
        · simp only [Act.put, List.setIfInBounds_toArray, List.set_cons_zero, List.set_cons_succ, i64_w, i32_w]
          rfl
        refine pure_ (i := 2) (N := some 97) (v := ?_) (a' := ?_) #[true, true, true, false, false, false, false, false, false, false] rfl rfl (by kernel_rfl) (fun _ _ _ h => h) (Or.inl ⟨by rfl, ?_⟩) ?_ ?_
        rotate_left
        · intro w'
          go_simp
          with_reducible rfl
        rotate_left
        · simp only [Act.put, List.setIfInBounds_toArray, List.set_cons_zero, List.set_cons_succ, i64_w, i32_w]
          rfl
        refine pure_ (i := 3) (N := some 98) (v := ?_) (a' := ?_) #[true, true, true, true, false, false, false, false, false, false] rfl rfl (by kernel_rfl) (fun _ _ _ h => h) (Or.inl ⟨by rfl, ?_⟩) ?_ ?_
        rotate_left
        · intro w'
          go_simp
          with_reducible rfl
        rotate_left
        · simp only [Act.put, List.setIfInBounds_toArray, List.set_cons_zero, List.set_cons_succ, i64_w, i32_w]
          rfl
        refine pure_ (i := 4) (N := some 99) (v := ?_) (a' := ?_) #[true, true, true, true, true, false, false, false, false, false] rfl rfl (by kernel_rfl) (fun _ _ _ h => h) (Or.inl ⟨by rfl, ?_⟩) ?_ ?_
        rotate_left
        · intro w'
          go_simp
          with_reducible rfl
        rotate_left
        · simp only [Act.put, List.setIfInBounds_toArray, List.set_cons_zero, List.set_cons_succ, i64_w, i32_w]
          rfl
        refine pure_ (i := 5) (N := some 100) (v := ?_) (a' := ?_) #[true, true, true, true, true, true, false, false, false, false] rfl rfl (by kernel_rfl) (fun _ _ _ h => h) (Or.inl ⟨by rfl, ?_⟩) ?_ ?_
        rotate_left
        · intro w'
          go_simp
          with_reducible rfl
        rotate_left
        · simp only [Act.put, List.setIfInBounds_toArray, List.set_cons_zero, List.set_cons_succ, i64_w, i32_w]
          rfl
        refine pure_ (i := 8) (N := some 2) (v := ?_) (a' := ?_) #[true, true, true, true, true, true, false, false, true, false] rfl rfl (by kernel_rfl) (fun _ _ _ h => h) (Or.inl ⟨by rfl, ?_⟩) ?_ ?_
        rotate_left
        · intro w'
          go_simp
          with_reducible rfl
        rotate_left
        · simp only [Act.put, List.setIfInBounds_toArray, List.set_cons_zero, List.set_cons_succ, i64_w, i32_w]
          rfl
        refine take_ (i := 6) (N := some 101) (v := ?_) (a' := ?_) #[true, true, true, true, true, true, true, false, true, false] rfl rfl (by kernel_rfl) (fun _ _ _ h => h) (Or.inl ⟨by rfl, ?_⟩) hHeld ?_ ?_
        rotate_left
        · intro w' s0
          go_simp
          with_reducible rfl
        rotate_left
        · simp only [Act.put, List.setIfInBounds_toArray, List.set_cons_zero, List.set_cons_succ, i64_w, i32_w]
          rfl
        refine pure_ (i := 7) (N := some 102) (v := ?_) (a' := ?_) #[true, true, true, true, true, true, true, true, true, false] rfl rfl (by kernel_rfl) (fun _ _ _ h => h) (Or.inl ⟨by rfl, ?_⟩) ?_ ?_
        rotate_left
        · intro w'
          go_simp
          with_reducible rfl
        rotate_left
        · simp only [Act.put, List.setIfInBounds_toArray, List.set_cons_zero, List.set_cons_succ, i64_w, i32_w]
          rfl
        refine pure_ (i := 9) (N := some 3) (v := ?_) (a' := ?_) #[true, true, true, true, true, true, true, true, true, true] rfl rfl (by kernel_rfl) (fun _ _ _ h => h) (Or.inl ⟨by rfl, ?_⟩) ?_ ?_
        rotate_left
        · intro w'
          go_simp
          with_reducible rfl
        rotate_left
        · simp only [Act.put, List.setIfInBounds_toArray, List.set_cons_zero, List.set_cons_succ, i64_w, i32_w]
          rfl
        refine done_ (by kernel_rfl) ?_
        go_wp2
        go_ret2
        show ∃ v0_ : Value, _ = _ ∧ _ ∧ _
        exact ⟨_, by first | rfl | simp, Kd.R_mono (Kd.R_drew HS.out.ra) (fun _ _ => trivial), below_drew1 HS.out.bel⟩
      · rw [if_neg hd0] at H
        have d1 : decide (0 < (D.length : Int)) = true := decide_eq_true (by omega)
        have d2 : decide (0 < D.length) = true := decide_eq_true (by omega)
        have hll : Aside0 ((last.length : Int) < 9223372036854775808) := ⟨by have := (Kd.R_reads' HS.out.rl).2.2.2.1; omega⟩
        obtain ⟨n1, k1, e1, hu1, H⟩ := nm_out H
        have HU1 := Aside0.mk hu1
        clear hu1 hd0
        rcases H with H | ⟨hbad, rfl⟩
        case inr =>
          have HBAD := Aside0.mk hbad
          clear hbad
          go_wp2_with (first
            | (go_at_call 70; with_reducible refine (num_bad g1 gr Ad cd D (last.length : Int) n1 k1 e1 _ hcell hfz (Kd.C_below CD.out HS.out.bel) LD.out HU1.out HBAD.out ⟨Int.natCast_nonneg _, hll.out⟩).mono ?_; rintro e W1 ⟨rfl, nd, rfl⟩))
          exact ⟨rfl, rfl, pw_below_drewN HS.out.bel nd⟩
        obtain ⟨rfl, hn1, hn1b, hk1, hk1b, H⟩ := H
        obtain ⟨D1, hD1⟩ : ∃ x, D.drop k1.toNat = x := ⟨_, rfl⟩
        rw [hD1] at H
        have HN1 := Aside0.mk (And.intro hn1 (And.intro hn1b (And.intro hk1 hk1b)))
        have HD1 := Aside0.mk hD1
        have HH := Aside0.mk H
        clear H hn1 hn1b hk1 hk1b hD1
        go_upto_region 11 with (first
          | (go_at_call 70; with_reducible refine (num_ok g1 gr Ad cd D (last.length : Int) n1 k1 _ hcell hfz (Kd.C_below CD.out HS.out.bel) LD.out HU1.out HN1.out.1 HN1.out.2.1 HN1.out.2.2 hll.out).mono ?_; rintro e W1 ⟨rfl, A1, c1, nd1, hw1, hA1, hcc1⟩; have HW1 := Aside0.mk hw1; clear hw1))
        have hw1 := HW1.out
        clear HW1
        rw [HD1.out] at hw1 hA1 hcc1
        have BK1 : Aside0 (W1.heap[gr]? = some (.cells #[.slice A1 D1.length c1] 120 (0, 0))) := ⟨by rw [hw1]; exact blk_put (cs := #[.slice Ad D.length cd]) (blk_drewN BK.out nd1) 0 _ rfl⟩
        have AD1 : Aside0 (Adv wr.heap.size gr wr W1) := ⟨(Adv.refl _ _ _).put hw1⟩
        have HB1 : Aside0 (Below w.heap.size w W1) := ⟨by rw [hw1]; exact below_set (pw_below_drewN (HS.out.bel) nd1) HS.out.ge⟩
        have CD1 := Aside0.mk (hA1 w CD.out)
        have LD1 := Aside0.mk hcc1
        have hcell1 : W1.cell? ⟨gr, 0, none⟩ = some (.slice A1 D1.length c1) := (blk_cell BK1.out 0).trans rfl
        have hfz1 := blk_frozen BK1.out 0
        clear hw1 hA1 hcc1 hcell hfz
        have H := HH.out
        clear HH
        obtain ⟨n2, k2, e2, hu2, H⟩ := nm_out H
        have HU2 := Aside0.mk hu2
        clear hu2
        rcases H with H | ⟨hbad, rfl⟩
        case inr =>
          have HBAD := Aside0.mk hbad
          clear hbad
          go_wp2_with (first
            | (go_at_call 70; with_reducible refine (num_bad g1 gr A1 c1 D1 (b.length : Int) n2 k2 e2 _ hcell1 hfz1 (Kd.C_below CD1.out HB1.out) LD1.out HU2.out HBAD.out ⟨Int.natCast_nonneg _, hB7.out⟩).mono ?_; rintro e W1_ ⟨rfl, nd, rfl⟩))
          exact ⟨rfl, rfl, pw_below_drewN HB1.out nd⟩
        obtain ⟨rfl, hn2, hn2b, hk2, hk2b, H⟩ := H
        obtain ⟨D2', hD2⟩ : ∃ x, D1.drop k2.toNat = x := ⟨_, rfl⟩
        rw [hD2] at H
        have HN2 := Aside0.mk (And.intro hn2 (And.intro hn2b (And.intro hk2 hk2b)))
        have HD2 := Aside0.mk hD2
        have HH := Aside0.mk H
        clear H hn2 hn2b hk2 hk2b hD2
        go_upto_region 12 with (first
          | (go_at_call 70; with_reducible refine (num_ok g1 gr A1 c1 D1 (b.length : Int) n2 k2 _ hcell1 hfz1 (Kd.C_below CD1.out HB1.out) LD1.out HU2.out HN2.out.1 HN2.out.2.1 HN2.out.2.2 hB7.out).mono ?_; rintro e W2 ⟨rfl, A2, c2, nd2, hw2, hA2, hcc2⟩; have HW2 := Aside0.mk hw2; clear hw2))
        have hw2 := HW2.out
        clear HW2
        rw [HD2.out] at hw2 hA2 hcc2
        have BK2 : Aside0 (W2.heap[gr]? = some (.cells #[.slice A2 D2'.length c2] 120 (0, 0))) := ⟨by rw [hw2]; exact blk_put (cs := #[.slice A1 D1.length c1]) (blk_drewN BK1.out nd2) 0 _ rfl⟩
        have AD2 : Aside0 (Adv wr.heap.size gr wr W2) := ⟨AD1.out.put hw2⟩
        have HB2 : Aside0 (Below w.heap.size w W2) := ⟨by rw [hw2]; exact below_set (pw_below_drewN (HB1.out) nd2) HS.out.ge⟩
        have CD2 := Aside0.mk (hA2 w CD1.out)
        have LD2 := Aside0.mk hcc2
        have hcell2 : W2.cell? ⟨gr, 0, none⟩ = some (.slice A2 D2'.length c2) := (blk_cell BK2.out 0).trans rfl
        have hfz2 := blk_frozen BK2.out 0
        clear hw2 hA2 hcc2 hcell1 hfz1
        have H := HH.out
        clear HH
        obtain ⟨n3, k3, e3, hu3, H⟩ := nm_out H
        have HU3 := Aside0.mk hu3
        clear hu3
        rcases H with H | ⟨hbad, rfl⟩
        case inr =>
          have HBAD := Aside0.mk hbad
          clear hbad
          go_wp2_with (first
            | (go_at_call 70; with_reducible refine (num_bad g1 gr A2 c2 D2' (b.length : Int) n3 k3 e3 _ hcell2 hfz2 (Kd.C_below CD2.out HB2.out) LD2.out HU3.out HBAD.out ⟨Int.natCast_nonneg _, hB7.out⟩).mono ?_; rintro e W1_ ⟨rfl, nd, rfl⟩))
          exact ⟨rfl, rfl, pw_below_drewN HB2.out nd⟩
        obtain ⟨rfl, hn3, hn3b, hk3, hk3b, H⟩ := H
        obtain ⟨D3, hD3⟩ : ∃ x, D2'.drop k3.toNat = x := ⟨_, rfl⟩
        rw [hD3] at H
        have HN3 := Aside0.mk (And.intro hn3 (And.intro hn3b (And.intro hk3 hk3b)))
        have HD3 := Aside0.mk hD3
        have HH := Aside0.mk H
        clear H hn3 hn3b hk3 hk3b hD3
        go_upto_region 13 with (first
          | (go_at_call 70; with_reducible refine (num_ok g1 gr A2 c2 D2' (b.length : Int) n3 k3 _ hcell2 hfz2 (Kd.C_below CD2.out HB2.out) LD2.out HU3.out HN3.out.1 HN3.out.2.1 HN3.out.2.2 hB7.out).mono ?_; rintro e W3 ⟨rfl, A3, c3, nd3, hw3, hA3, hcc3⟩; have HW3 := Aside0.mk hw3; clear hw3))
        have hw3 := HW3.out
        clear HW3
        rw [HD3.out] at hw3 hA3 hcc3
        have BK3 : Aside0 (W3.heap[gr]? = some (.cells #[.slice A3 D3.length c3] 120 (0, 0))) := ⟨by rw [hw3]; exact blk_put (cs := #[.slice A2 D2'.length c2]) (blk_drewN BK2.out nd3) 0 _ rfl⟩
        have AD3 : Aside0 (Adv wr.heap.size gr wr W3) := ⟨AD2.out.put hw3⟩
        have HB3 : Aside0 (Below w.heap.size w W3) := ⟨by rw [hw3]; exact below_set (pw_below_drewN (HB2.out) nd3) HS.out.ge⟩
        have CD3 := Aside0.mk (hA3 w CD2.out)
        have LD3 := Aside0.mk hcc3
        have hcell3 : W3.cell? ⟨gr, 0, none⟩ = some (.slice A3 D3.length c3) := (blk_cell BK3.out 0).trans rfl
        have hfz3 := blk_frozen BK3.out 0
        clear hw3 hA3 hcc3 hcell2 hfz2
        have H := HH.out
        clear HH
        split at H
        case isFalse => cases H
        rename_i hroom
        obtain ⟨i5, hi5, _, hs5, _⟩ := info_parts info5
        obtain ⟨hcut8, hrd8, hcp8⟩ := print_take_of (P := Try.prog) (Value.int .u8) (0 : Int) 27 5 .i64 Try.underlying27 hi5 hs5 A8 c8 last n1 HN1.out.1 HN1.out.2.1 (Kd.R_reads' HS.out.rl).2.1
        obtain ⟨P, hP⟩ : ∃ x, last.take n1.toNat = x := ⟨_, rfl⟩
        rw [hP] at hcut8 hrd8 hcp8
        have RL3 := Aside0.mk (R_adv HS.out.rl (fun k hk => hk.2) rfl AD3.out)
        have CP := Aside0.mk (show Kd.C (Kd.int .u8) W3 A8 P.length P from Kd.C_of_reads (h1 := fun _ => rfl) (hrd8 _ (Kd.reads_of_C (Kd.R_reads' RL3.out).2.2)))
        have LP := Aside0.mk hcp8
        obtain ⟨E, hE0⟩ : ∃ x, D3.take n2.toNat = x := ⟨_, rfl⟩
        obtain ⟨D4, hD4⟩ : ∃ x, D3.drop n2.toNat = x := ⟨_, rfl⟩
        have HE0 := Aside0.mk hE0
        have HD4 := Aside0.mk hD4
        have HP := Aside0.mk hP
        have HCL : Aside0 (bytes_Clone.f P = some P) := ⟨by unfold bytes_Clone.f; rw [if_pos (by rw [hP] at hroom; omega)]⟩
        have hEl : E.length ≤ D3.length := by rw [← hE0, List.length_take]; omega
        have HPE : Aside0 (P.length + E.length < 140737488355328) := ⟨by rw [hP] at hroom; omega⟩
        rw [hP] at H
        clear hrd8 hcp8 hi5 hs5 hP hroom hEl
        rcases tk_out H with ⟨hn4, H⟩ | ⟨hbad, rfl⟩
        case inr =>
          have HBAD := Aside0.mk hbad
          clear hbad H hE0 hD4
          go_wp2_with (first
            | (go_at_call 71; with_reducible refine (bytes_Clone.calls A8 c8 P P _ CP.out LP.out HCL.out).mono ?_; rintro e W4 ⟨v71, rfl, ho71, hb4⟩
               have BK4 := Aside0.mk (blk_below BK3.out hb4)
               have HB4 := Aside0.mk (below_step HB3.out hb4)
               have hcell4 : W4.cell? ⟨gr, 0, none⟩ = some (.slice A3 D3.length c3) := (blk_cell BK4.out 0).trans rfl
               have hfz4 := blk_frozen BK4.out 0
               clear ho71 hb4)
            | (go_at_call 72; with_reducible refine (take_bad gr A3 c3 D3 n2 _ hcell4 hfz4 HBAD.out).mono ?_; rintro e W5 ⟨rfl, rfl⟩))
          exact ⟨rfl, rfl, HB4.out⟩
        have HN4 : Aside0 (n2 ≤ (D3.length : Int) ∧ P.length + E.length < 140737488355328) := ⟨hn4, HPE.out⟩
        rw [hE0, hD4] at H
        clear hn4 HPE
        obtain ⟨KY, hKY⟩ : ∃ x, P ++ E = x := ⟨_, rfl⟩
        have HK := Aside0.mk hKY
        rw [hKY] at H
        clear hKY
        obtain ⟨⟨y1, y2, y3, y4⟩, hy, H⟩ := Option.bind_eq_some_iff.mp H
        dsimp only at H
        have HY := Aside0.mk hy
        have HH := Aside0.mk H
        clear H hy hE0 hD4
        go_upto_region 14 with (first
          | (go_at_call 71; with_reducible refine (bytes_Clone.calls A8 c8 P P _ CP.out LP.out HCL.out).mono ?_; rintro e W4 ⟨v71, rfl, ho71, hb4⟩
             have BK4 := Aside0.mk (blk_below BK3.out hb4)
             have HB4 := Aside0.mk (below_step HB3.out hb4)
             have AD4 : Aside0 (Adv wr.heap.size gr wr W4) := ⟨AD3.out.below hb4 (Nat.le_refl _)⟩
             have HO71 : Aside0 (Kd.R (Kd.int .u8) 5 W4 w.heap.size (fun k => wr.heap.size ≤ k) v71 P) := ⟨Kd.R_lower (Kd.R_mono (Kd.R_bound ho71) (fun k hk => Nat.le_trans AD3.out.1 hk.2.1)) (below_size HB3.out)⟩
             have hcell4 : W4.cell? ⟨gr, 0, none⟩ = some (.slice A3 D3.length c3) := (blk_cell BK4.out 0).trans rfl
             have hfz4 := blk_frozen BK4.out 0
             clear ho71 hb4)
          | (go_at_call 72; with_reducible refine (take_ok gr A3 c3 D3 n2 _ hcell4 hfz4 (Kd.C_below CD3.out HB4.out) LD3.out HN2.out.1 HN4.out.1).mono ?_; rintro e W5 ⟨he, hE, hEc, A5, c5, hw5, hA5, hcc5⟩
             rw [HE0.out] at he hE hEc
             subst he
             rw [HD4.out] at hw5 hA5 hcc5
             have BK5 : Aside0 (W5.heap[gr]? = some (.cells #[.slice A5 D4.length c5] 120 (0, 0))) := ⟨by rw [hw5]; exact blk_put (cs := #[.slice A3 D3.length c3]) BK4.out 0 _ rfl⟩
             have HB5 : Aside0 (Below w.heap.size w W5) := ⟨by rw [hw5]; exact below_set HB4.out HS.out.ge⟩
             have AD5 : Aside0 (Adv wr.heap.size gr wr W5) := ⟨AD4.out.put0 hw5⟩
             have CE := Aside0.mk (hE w CD3.out)
             have CD5 := Aside0.mk (hA5 w CD3.out)
             have LD5 := Aside0.mk hcc5
             have hgl : gr < wr.heap.size := blk_lt BK.out
             have HO72 : Aside0 (Kd.R (Kd.int .u8) 5 W5 w.heap.size (fun k => wr.heap.size ≤ k) v71 P) := ⟨Kd.R_move HO71.out (fun k hk => by rw [hw5]; exact Below.heap_setCell _ _ _ k (by show k ≠ gr; omega))⟩
             clear hE hEc hw5 hA5 hcc5 hcell4 hfz4 HO71)
          | ((with_reducible refine gate_builtin (b := .append) (xs := #[.tmp 71, .tmp 74]) rfl ?_); at_builtin; refine Kd.R_append_rows (Kd.int .u8) (w0 := w) w.heap.size rfl (.tmp 71) (.tmp 74) 27 5 (.int .u8 0) 1 rfl Try.underlying27 info5 rfl (by decide) (by decide) v71 P E _ _ _ (fun k => wr.heap.size ≤ k) (fun _ => False) rfl rfl ?aO ?aR (fun _ _ h => h) (fun _ h => h.elim) ?aF ?aB ?aS ?aL ?_
             (case aR => exact Kd.C_below CE.out HB5.out)
             (case aB => exact HB5.out)
             (case aF => exact (fun k_ hk => Nat.le_trans AD5.out.1 hk))
             (case aO => exact HO72.out)
             (case aS => exact below_size HB5.out)
             (case aL => have := HN4.out; omega)
             intro v75 W6 ho6 hb6 hg6 hat6
             rw [HK.out] at ho6
             have HO6 := Aside0.mk ho6
             have HB6 := Aside0.mk hb6
             have AD6 : Aside0 (Adv wr.heap.size gr wr W6) := ⟨AD5.out.grown hg6 (Nat.le_refl _) (fun k hk => HO72.out.1 k hk)⟩
             have BK6 : Aside0 (W6.heap[gr]? = some (.cells #[.slice A5 D4.length c5] 120 (0, 0))) := ⟨(hg6.block gr (blk_lt BK5.out) (fun e => by have := HO72.out.1 gr e.symm; omega)).trans BK5.out⟩
             obtain ⟨A6, c6, e6⟩ := Kd.R_slice ho6
             subst e6
             clear ho6 hb6 hg6 hat6))
        have H := HH.out
        clear HH
        by_cases hy4 : y4 = 0
        case neg =>
          rw [if_neg hy4] at H
          obtain rfl := Option.some.inj H
          have y4b : (y4 != 0) = true := bne_iff_ne.mpr hy4
          have y4c : (y4 == 0) = false := beq_eq_false_iff_ne.mpr hy4
          clear hy4 H
          go_wp2_with (first
            | (go_at_call 73; with_reducible refine (ikey_Decode.calls g1 A6 c6 KY y1 y2 y3 y4 _ (Kd.R_reads' HO6.out).2.2 (Kd.R_reads' HO6.out).2.1 HY.out).mono ?_; rintro e W7 ⟨rfl, hb7⟩
               have HO7 : Aside0 (Kd.R (Kd.int .u8) 5 W7 w.heap.size (fun k => wr.heap.size ≤ k) (.slice A6 KY.length c6) KY) := ⟨Kd.R_below HO6.out hb7⟩
               have BK7 := Aside0.mk (blk_below BK6.out hb7)
               have HB7 := Aside0.mk (below_step HB6.out hb7)
               have AD7 : Aside0 (Adv wr.heap.size gr wr W7) := ⟨AD6.out.below hb7 (Nat.le_refl _)⟩
               clear hb7 HO6)
            | ((with_reducible refine gate_dst (N := 13) rfl ?_); refine box_event ?hg (N := 13) ?hd (cs := #[.string (⟨#[]⟩ : ByteArray), .int .u64 0, .int .i64 0]) (t := 45) ?hr ?_; (case hd => rfl); (case hg => rfl); (case hr => first | (go_simp; done) | (go_simp; rfl)); intro gq hg W8 hbox hb8
               have BQ8 := Aside0.mk hbox
               have GQ : Aside0 (W7.heap.size ≤ gq) := ⟨by rw [hg]; exact Nat.le_refl _⟩
               have HO8 : Aside0 (Kd.R (Kd.int .u8) 5 W8 w.heap.size (fun k => wr.heap.size ≤ k ∧ k ≠ gq) (.slice A6 KY.length c6) KY) := ⟨Kd.R_below (Kd.R_mono (Kd.R_bound HO7.out) (fun k hk => ⟨hk.1, by have := hk.2.2.1; have := GQ.out; omega⟩)) hb8⟩
               have BK8 := Aside0.mk (blk_below BK7.out hb8)
               have HB8 := Aside0.mk (below_step HB7.out hb8)
               have AD8 : Aside0 (Adv wr.heap.size gr wr W8) := ⟨AD7.out.below hb8 (Nat.le_refl _)⟩
               have hcz0 : W8.cell? ⟨gq, 0, none⟩ = some (.string (⟨#[]⟩ : ByteArray)) := (blk_cell hbox 0).trans rfl
               have hcz1 : W8.cell? ⟨gq, 1, none⟩ = some (.int .u64 0) := (blk_cell hbox 1).trans rfl
               have hcz2 : W8.cell? ⟨gq, 2, none⟩ = some (.int .i64 0) := (blk_cell hbox 2).trans rfl
               have hfq0 := blk_frozen hbox 0
               have hfq1 := blk_frozen hbox 1
               have hfq2 := blk_frozen hbox 2
               clear hg hbox hb8 HO7))
          have GQ2 : Aside0 (wr.heap.size ≤ gq) := ⟨Nat.le_trans AD7.out.1 GQ.out⟩
          have GQ3 : Aside0 (w.heap.size ≤ gq) := ⟨Nat.le_trans (below_size HS.out.bel) GQ2.out⟩
          exact ⟨rfl, rfl, below_set (below_set (below_set HB8.out GQ3.out) GQ3.out) GQ3.out⟩
        subst hy4
        rw [if_pos rfl] at H
        have HH := Aside0.mk H
        clear H
        go_upto_region 17 with (first
          | (go_at_call 73; with_reducible refine (ikey_Decode.calls g1 A6 c6 KY y1 y2 y3 0 _ (Kd.R_reads' HO6.out).2.2 (Kd.R_reads' HO6.out).2.1 HY.out).mono ?_; rintro e W7 ⟨rfl, hb7⟩
             have HO7 : Aside0 (Kd.R (Kd.int .u8) 5 W7 w.heap.size (fun k => wr.heap.size ≤ k) (.slice A6 KY.length c6) KY) := ⟨Kd.R_below HO6.out hb7⟩
             have BK7 := Aside0.mk (blk_below BK6.out hb7)
             have HB7 := Aside0.mk (below_step HB6.out hb7)
             have AD7 : Aside0 (Adv wr.heap.size gr wr W7) := ⟨AD6.out.below hb7 (Nat.le_refl _)⟩
             clear hb7 HO6)
          | ((with_reducible refine gate_dst (N := 13) rfl ?_); refine box_event ?hg (N := 13) ?hd (cs := #[.string (⟨#[]⟩ : ByteArray), .int .u64 0, .int .i64 0]) (t := 45) ?hr ?_; (case hd => rfl); (case hg => rfl); (case hr => first | (go_simp; done) | (go_simp; rfl)); intro gq hg W8 hbox hb8
             have BQ8 := Aside0.mk hbox
             have GQ : Aside0 (W7.heap.size ≤ gq) := ⟨by rw [hg]; exact Nat.le_refl _⟩
             have HO8 : Aside0 (Kd.R (Kd.int .u8) 5 W8 w.heap.size (fun k => wr.heap.size ≤ k ∧ k ≠ gq) (.slice A6 KY.length c6) KY) := ⟨Kd.R_below (Kd.R_mono (Kd.R_bound HO7.out) (fun k hk => ⟨hk.1, by have := hk.2.2.1; have := GQ.out; omega⟩)) hb8⟩
             have BK8 := Aside0.mk (blk_below BK7.out hb8)
             have HB8 := Aside0.mk (below_step HB7.out hb8)
             have AD8 : Aside0 (Adv wr.heap.size gr wr W8) := ⟨AD7.out.below hb8 (Nat.le_refl _)⟩
             have hcz0 : W8.cell? ⟨gq, 0, none⟩ = some (.string (⟨#[]⟩ : ByteArray)) := (blk_cell hbox 0).trans rfl
             have hcz1 : W8.cell? ⟨gq, 1, none⟩ = some (.int .u64 0) := (blk_cell hbox 1).trans rfl
             have hcz2 : W8.cell? ⟨gq, 2, none⟩ = some (.int .i64 0) := (blk_cell hbox 2).trans rfl
             have hfq0 := blk_frozen hbox 0
             have hfq1 := blk_frozen hbox 1
             have hfq2 := blk_frozen hbox 2
             clear hg hbox hb8 HO7))
        have GQ2 : Aside0 (wr.heap.size ≤ gq) := ⟨Nat.le_trans AD7.out.1 GQ.out⟩
        have GQ3 : Aside0 (w.heap.size ≤ gq) := ⟨Nat.le_trans (below_size HS.out.bel) GQ2.out⟩
        obtain ⟨W9, hW9⟩ : ∃ x, (((W8.setCell ⟨gq, 0, none⟩ (.string y1)).setCell ⟨gq, 1, none⟩ (.int .u64 y2)).setCell ⟨gq, 2, none⟩ (.int .i64 y3)) = x := ⟨_, rfl⟩
        rw [hW9]
        have BQ9 : Aside0 (W9.heap[gq]? = some (.cells #[.string y1, .int .u64 y2, .int .i64 y3] 45 (0, 0))) := ⟨by rw [← hW9]; exact blk_put (cs := #[.string y1, .int .u64 y2, .int .i64 0]) (blk_put (cs := #[.string y1, .int .u64 0, .int .i64 0]) (blk_put (cs := #[.string (⟨#[]⟩ : ByteArray), .int .u64 0, .int .i64 0]) BQ8.out 0 _ rfl) 1 _ rfl) 2 _ rfl⟩
        have hp9 : ∀ j, j ≠ gq → W9.heap[j]? = W8.heap[j]? := fun j hj => by rw [← hW9, Below.heap_setCell _ _ _ j hj, Below.heap_setCell _ _ _ j hj, Below.heap_setCell _ _ _ j hj]
        have hs9 : W8.heap.size ≤ W9.heap.size := by rw [← hW9]; exact (Below.setCell (p := ⟨gq, 2, none⟩) (Below.setCell (p := ⟨gq, 1, none⟩) (Below.setCell (p := ⟨gq, 0, none⟩) (Below.refl 0 W8) (Nat.zero_le _) _) (Nat.zero_le _) _) (Nat.zero_le _) _).size
        have hgq : gr ≠ gq := by have := blk_lt BK.out; have := GQ2.out; omega
        have AD9 : Adv wr.heap.size gr wr W9 := AD8.out.trans ⟨hs9, fun j h3 h4 => hp9 j (by have := GQ2.out; omega)⟩
        have HB9 : Below w.heap.size w W9 := by rw [← hW9]; exact below_set (below_set (below_set HB8.out GQ3.out) GQ3.out) GQ3.out
        have BQD : Aside0 (W9.drew.heap[gq]? = some (.cells #[.string y1, .int .u64 y2, .int .i64 y3] 45 (0, 0))) := ⟨blk_drew BQ9.out⟩
        have BKD : Aside0 (W9.drew.heap[gr]? = some (.cells #[.slice A5 D4.length c5] 120 (0, 0))) := ⟨blk_drew ((hp9 gr hgq).trans BK8.out)⟩
        have HOD : Aside0 (Kd.R (Kd.int .u8) 5 W9.drew w.heap.size (fun k => wr.heap.size ≤ k ∧ k ≠ gq) (.slice A6 KY.length c6) KY) := ⟨Kd.R_drew (Kd.R_move HO8.out (fun j hj => hp9 j hj.2))⟩
        have RAD : Aside0 (Kd.R k47 47 W9.drew w.heap.size (fun k => k ≠ gr ∧ k < wr.heap.size) u2 acc) := ⟨Kd.R_drew (R_adv HS.out.ra (fun j hj => hj) rfl AD9)⟩
        have HBD : Aside0 (Below w.heap.size w W9.drew) := ⟨below_drew1 HB9⟩
        clear hW9 hp9 hs9 hgq AD9 HB9 BQ9 hcz0 hcz1 hcz2 hfq0 hfq1 hfq2 BQ8 BK8 HB8 AD8 HO8
        have H := HH.out
        clear HH
        rcases tk_out H with ⟨hv1, H⟩ | ⟨hbad, rfl⟩
        case inr =>
          have HBAD := Aside0.mk hbad
          clear hbad H
          refine start_ (n := 10) (S := fun w' => w'.cell? ⟨gq, 0, none⟩ = some (.string y1) ∧ w'.cell? ⟨gq, 1, none⟩ = some (.int .u64 y2) ∧ w'.cell? ⟨gq, 2, none⟩ = some (.int .i64 y3)) (ds := []) #[false, false, false, false, false, false, false, false, false, false] (by kernel_rfl) rfl rfl ⟨(blk_cell BQD.out 0).trans rfl, (blk_cell BQD.out 1).trans rfl, (blk_cell BQD.out 2).trans rfl⟩ (fun hHeld => ?_)
          refine pure_ (i := 0) (N := some 85) (v := ?_) (a' := ?_) #[true, false, false, false, false, false, false, false, false, false] rfl rfl (by kernel_rfl) (fun _ _ _ h => h) (Or.inl ⟨by rfl, ?_⟩) ?_ ?_
          rotate_left
          · intro w'
            go_simp
            with_reducible rfl
          rotate_left
          · simp only [Act.put, List.setIfInBounds_toArray, List.set_cons_zero, List.set_cons_succ, i64_w, i32_w]
            rfl
          refine pure_ (i := 2) (N := some 87) (v := ?_) (a' := ?_) #[true, false, true, false, false, false, false, false, false, false] rfl rfl (by kernel_rfl) (fun _ _ _ h => h) (Or.inl ⟨by rfl, ?_⟩) ?_ ?_
          rotate_left
          · intro w'
            go_simp
            with_reducible rfl
          rotate_left
          · simp only [Act.put, List.setIfInBounds_toArray, List.set_cons_zero, List.set_cons_succ, i64_w, i32_w]
            rfl
          refine pure_ (i := 3) (N := some 88) (v := ?_) (a' := ?_) #[true, false, true, true, false, false, false, false, false, false] rfl rfl (by kernel_rfl) (fun _ _ _ h => h) (Or.inl ⟨by rfl, ?_⟩) ?_ ?_
          rotate_left
          · intro w'
            go_simp
            with_reducible rfl
          rotate_left
          · simp only [Act.put, List.setIfInBounds_toArray, List.set_cons_zero, List.set_cons_succ, i64_w, i32_w]
            rfl
          refine take_ (i := 1) (N := some 86) (v := ?_) (a' := ?_) #[true, true, true, true, false, false, false, false, false, false] rfl rfl (by kernel_rfl) (fun _ _ _ h => h) (Or.inl ⟨by rfl, ?_⟩) hHeld ?_ ?_
          rotate_left
          · rintro w' ⟨s0, s1, s2⟩
            go_simp
            with_reducible rfl
          rotate_left
          · simp only [Act.put, List.setIfInBounds_toArray, List.set_cons_zero, List.set_cons_succ, i64_w, i32_w]
            rfl
          refine one_ (i := 4) (N := some 89) #[true, true, true, true, true, false, false, false, false, false] rfl rfl (by kernel_rfl) (by decide) (fun K hK => ?_)
          refine panics_ Try.func72 (by kernel_rfl) rfl #[.pointer (some ⟨gr, 0, none⟩), .int .i64 n3] (by rfl) rfl (by simp only [List.map_toArray, List.map_cons, List.map_nil]; rfl) ?_
          with_reducible refine (take_bad gr A5 c5 D4 n3 _ ((blk_cell BKD.out 0).trans rfl) (blk_frozen BKD.out 0) HBAD.out).mono ?_
          rintro e W11 ⟨rfl, rfl⟩
          exact ⟨_, rfl, rfl, rfl, HBD.out⟩
        split at H
        case isFalse => cases H
        rename_i hv2
        have HV := Aside0.mk (And.intro hv1 hv2)
        have HH := Aside0.mk H
        clear H hv1 hv2
        obtain ⟨V, hVV⟩ : ∃ x, D4.take n3.toNat = x := ⟨_, rfl⟩
        obtain ⟨D5, hVD⟩ : ∃ x, D4.drop n3.toNat = x := ⟨_, rfl⟩
        have HVV := Aside0.mk hVV
        have HVD := Aside0.mk hVD
        have H := HH.out
        clear HH
        rw [hVV, hVD] at H
        have HH := Aside0.mk H
        clear H hVV hVD
        obtain ⟨i5, hi5, _, hs5, _⟩ := info_parts info5
        obtain ⟨hcutV, hrdV, hcpV⟩ := print_take_of (P := Try.prog) (Value.int .u8) (0 : Int) 27 5 .i64 Try.underlying27 hi5 hs5 A5 c5 D4 n3 HN3.out.1 HV.out.1 LD5.out
        rw [HVV.out] at hrdV
        have CV := Aside0.mk (show Kd.C (Kd.int .u8) w A5 V.length V from Kd.C_of_reads (h1 := fun _ => rfl) (hrdV _ (Kd.reads_of_C CD5.out)))
        clear hcutV hrdV hcpV hi5 hs5
        refine start_ (n := 10) (S := fun w' => w'.cell? ⟨gq, 0, none⟩ = some (.string y1) ∧ w'.cell? ⟨gq, 1, none⟩ = some (.int .u64 y2) ∧ w'.cell? ⟨gq, 2, none⟩ = some (.int .i64 y3) ∧ Sem.run Try.prog (convert 27 9 (.slice A5 V.length c5)) w' = Result.ok (.string (strOfNums V)) w') (ds := []) #[false, false, false, false, false, false, false, false, false, false] (by kernel_rfl) rfl rfl ⟨(blk_cell BQD.out 0).trans rfl, (blk_cell BQD.out 1).trans rfl, (blk_cell BQD.out 2).trans rfl, Kd.C_string (P := Try.prog) (A := A5) (c := c5) Try.underlying27 Try.underlying5 Try.underlying9 (Kd.C_below CV.out HBD.out)⟩ (fun hHeld => ?_)
        generalize W9.drew = W10 at BQD BKD HOD RAD HBD hHeld ⊢
        have BQ10 := BQD
        have BK10 := BKD
        have HO10 := HOD
        have RA10 := RAD
        have HB10 := HBD
        clear BQD BKD HOD RAD HBD
        refine pure_ (i := 0) (N := some 85) (v := ?_) (a' := ?_) #[true, false, false, false, false, false, false, false, false, false] rfl rfl (by kernel_rfl) (fun _ _ _ h => h) (Or.inl ⟨by rfl, ?_⟩) ?_ ?_
        rotate_left
        · intro w'
          go_simp
          with_reducible rfl
        rotate_left
        · simp only [Act.put, List.setIfInBounds_toArray, List.set_cons_zero, List.set_cons_succ, i64_w, i32_w]
          rfl
        refine pure_ (i := 2) (N := some 87) (v := ?_) (a' := ?_) #[true, false, true, false, false, false, false, false, false, false] rfl rfl (by kernel_rfl) (fun _ _ _ h => h) (Or.inl ⟨by rfl, ?_⟩) ?_ ?_
        rotate_left
        · intro w'
          go_simp
          with_reducible rfl
        rotate_left
        · simp only [Act.put, List.setIfInBounds_toArray, List.set_cons_zero, List.set_cons_succ, i64_w, i32_w]
          rfl
        refine pure_ (i := 3) (N := some 88) (v := ?_) (a' := ?_) #[true, false, true, true, false, false, false, false, false, false] rfl rfl (by kernel_rfl) (fun _ _ _ h => h) (Or.inl ⟨by rfl, ?_⟩) ?_ ?_
        rotate_left
        · intro w'
          go_simp
          with_reducible rfl
        rotate_left
        · simp only [Act.put, List.setIfInBounds_toArray, List.set_cons_zero, List.set_cons_succ, i64_w, i32_w]
          rfl
        refine take_ (i := 1) (N := some 86) (v := ?_) (a' := ?_) #[true, true, true, true, false, false, false, false, false, false] rfl rfl (by kernel_rfl) (fun _ _ _ h => h) (Or.inl ⟨by rfl, ?_⟩) hHeld ?_ ?_
        rotate_left
        · rintro w' ⟨s0, s1, s2, s3⟩
          go_simp
          with_reducible rfl
        rotate_left
        · simp only [Act.put, List.setIfInBounds_toArray, List.set_cons_zero, List.set_cons_succ, i64_w, i32_w]
          rfl
        refine one_ (i := 4) (N := some 89) #[true, true, true, true, true, false, false, false, false, false] rfl rfl (by kernel_rfl) (by decide) (fun K hK => ?_)
        refine goes_ Try.func72 (by kernel_rfl) rfl #[.pointer (some ⟨gr, 0, none⟩), .int .i64 n3] (by rfl) rfl rfl (by simp only [List.map_toArray, List.map_cons, List.map_nil]; rfl) ?_
        with_reducible refine (take_ok2 gr A5 c5 D4 V D5 n3 _ ((blk_cell BK10.out 0).trans rfl) (blk_frozen BK10.out 0) (Kd.C_below CD5.out HB10.out) LD5.out HN3.out.1 HV.out.1 HVV.out HVD.out).mono ?_
        rintro e W11 ⟨rfl, hE, hEc, A11, c11, hw11, hA11, hcc11⟩
        refine ⟨_, rfl, ?_⟩
        have HW11 := Aside0.mk hw11
        have hgqr : gq ≠ gr := by have := GQ2.out; have := blk_lt BK.out; omega
        have BQ11 : Aside0 (W11.heap[gq]? = some (.cells #[.string y1, .int .u64 y2, .int .i64 y3] 45 (0, 0))) := ⟨by rw [hw11]; exact (Below.heap_setCell _ _ _ gq hgqr).trans BQ10.out⟩
        have BK11 : Aside0 (W11.heap[gr]? = some (.cells #[.slice A11 D5.length c11] 120 (0, 0))) := ⟨by rw [hw11]; exact blk_put (cs := #[.slice A5 D4.length c5]) BK10.out 0 _ rfl⟩
        have HB11 : Aside0 (Below w.heap.size w W11) := ⟨by rw [hw11]; exact below_set HB10.out HS.out.ge⟩
        have HO11 : Aside0 (Kd.R (Kd.int .u8) 5 W11 w.heap.size (fun k => wr.heap.size ≤ k ∧ k ≠ gq) (.slice A6 KY.length c6) KY) := ⟨Kd.R_move HO10.out (fun k hk => by rw [hw11]; exact Below.heap_setCell _ _ _ k (by show k ≠ gr; have := blk_lt BK.out; omega))⟩
        have RA11 : Aside0 (Kd.R k47 47 W11 w.heap.size (fun k => k ≠ gr ∧ k < wr.heap.size) u2 acc) := ⟨Kd.R_move RA10.out (fun k hk => by rw [hw11]; exact Below.heap_setCell _ _ _ k hk.1)⟩
        have CD11 := Aside0.mk (hA11 w CD5.out)
        have LD11 := Aside0.mk hcc11
        clear hw11 HW11 hE hEc hA11 hcc11 hgqr
        refine hK.out _ _ ⟨(blk_cell BQ11.out 0).trans rfl, (blk_cell BQ11.out 1).trans rfl, (blk_cell BQ11.out 2).trans rfl, Kd.C_string (P := Try.prog) (A := A5) (c := c5) Try.underlying27 Try.underlying5 Try.underlying9 (Kd.C_below CV.out HB11.out)⟩ (fun hHeld => ?_)
        clear hK K
        refine norm_ (a' := ?_) ?_ ?_
        rotate_left
        · show Act.put _ (some 89) _ = _
          simp only [Act.put, List.setIfInBounds_toArray, List.set_cons_zero, List.set_cons_succ, i64_w, i32_w]
          rfl
        refine take_ (i := 5) (N := some 90) (v := ?_) (a' := ?_) #[true, true, true, true, true, true, false, false, false, false] rfl rfl (by kernel_rfl) (fun _ _ _ h => h) (Or.inl ⟨by rfl, ?_⟩) hHeld ?_ ?_
        rotate_left
        · rintro w' ⟨s0, s1, s2, s3⟩
          go_simp
          with_reducible rfl
        rotate_left
        · simp only [Act.put, List.setIfInBounds_toArray, List.set_cons_zero, List.set_cons_succ, i64_w, i32_w]
          rfl
        refine pure_ (i := 6) (N := some 91) (v := ?_) (a' := ?_) #[true, true, true, true, true, true, true, false, false, false] rfl rfl (by kernel_rfl) (fun _ _ _ h => h) (Or.inl ⟨by rfl, ?_⟩) ?_ ?_
        rotate_left
        · intro w'
          go_simp
          with_reducible rfl
        rotate_left
        · simp only [Act.put, List.setIfInBounds_toArray, List.set_cons_zero, List.set_cons_succ, i64_w, i32_w]
          rfl
        refine one_ (i := 7) (N := some 92) #[true, true, true, true, true, true, true, true, false, false] rfl rfl (by kernel_rfl) (by decide) (fun K hK => ?_)
        refine value_ (w1 := ?_) (v := ?_) (by rfl) rfl ?_ ?_
        rotate_left 2
        · go_simp
          constructor
          · rfl
          · rfl
        refine hK.out _ _ ⟨(blk_cell (blk_alloc BQ11.out _) 0).trans rfl, (blk_cell (blk_alloc BQ11.out _) 1).trans rfl, (blk_cell (blk_alloc BQ11.out _) 2).trans rfl, Kd.C_string (P := Try.prog) (A := A5) (c := c5) Try.underlying27 Try.underlying5 Try.underlying9 (Kd.C_below CV.out (below_alloc HB11.out _))⟩ (fun hHeld => ?_)
        clear hK K
        refine norm_ (a' := ?_) ?_ ?_
        rotate_left
        · show Act.put _ (some 92) _ = _
          simp only [Act.put, List.setIfInBounds_toArray, List.set_cons_zero, List.set_cons_succ, i64_w, i32_w]
          rfl
        refine one_ (i := 8) (N := some 93) #[true, true, true, true, true, true, true, true, true, false] rfl rfl (by kernel_rfl) (by decide) (fun K hK => ?_)
        refine Kd.R_append_step k47 (w0 := w) w.heap.size (by rfl) (.tmp 85) (.tmp 92) 23 47 (.agg #[(.string ⟨#[]⟩), (.int .u64 0), (.int .i64 0), (.string ⟨#[]⟩)]) 48 rfl Try.underlying23 info47 rfl (by decide) (by decide) u2 acc (⟨(⟨y1, y2, y3⟩ : S45), strOfNums V⟩ : S47) [.string y1, .int .u64 y2, .int .i64 y3, .string (strOfNums V)] (fun k_ => k_ ≠ gr) (fun _ => False) rfl rfl ?aP (fun _ hk => hk.elim) ?aF ?aO ?aB ?aS ?aL ?_
        (case aP => exact k47_mkM _ _ _ (⟨(⟨y1, y2, y3⟩ : S45), strOfNums V⟩ : S47))
        (case aB => exact HB11.out)
        (case aF => exact (fun k_ hk => by have h1 := blk_lt BK11.out; intro e_; subst e_; exact absurd hk (by omega)))
        (case aO => exact Kd.R_mono RA11.out (fun k hk => hk.1))
        (case aS => exact below_size HB11.out)
        (case aL => have := HV.out.2; omega)
        intro v93 W12 ho hb hg hat
        have HO12 := Aside0.mk ho
        have HB12 := Aside0.mk hb
        have hown : ∀ k, u2.ownBlock = some k → k ≠ gr ∧ k < wr.heap.size := RA11.out.1
        have BQ12 : Aside0 (W12.heap[gq]? = some (.cells #[.string y1, .int .u64 y2, .int .i64 y3] 45 (0, 0))) := ⟨(hg.block gq (blk_lt BQ11.out) (fun e_ => by have := (hown gq e_.symm).2; have := GQ2.out; omega)).trans BQ11.out⟩
        have BK12 : Aside0 (W12.heap[gr]? = some (.cells #[.slice A11 D5.length c11] 120 (0, 0))) := ⟨(hg.block gr (blk_lt BK11.out) (fun e_ => (hown gr e_.symm).1 rfl)).trans BK11.out⟩
        have HL12 : Aside0 (Kd.R (Kd.int .u8) 5 W12 w.heap.size (fun k => some k ≠ v93.ownBlock ∧ k ≠ gr) (.slice A6 KY.length c6) KY) := ⟨by
          have h1 := Kd.R_bound HO11.out
          refine Kd.R_mono (Kd.R_move h1 (fun k hk => hg.block k hk.2.2.1 (fun e_ => by have := (hown k e_.symm).2; have := hk.1.1; omega))) (fun k hk => ⟨fun e_ => ?_, by have := hk.1.1; have := blk_lt BK.out; omega⟩)
          rcases hat with hat | ⟨b', hb', hle⟩
          · rw [hat] at e_; have := (hown k e_.symm).2; have := hk.1.1; omega
          · rw [hb'] at e_; injection e_ with e_; have := hk.2.2.1; omega⟩
        clear ho hb hg hat hown
        refine hK.out _ _ ⟨(blk_cell BQ12.out 0).trans rfl, (blk_cell BQ12.out 1).trans rfl, (blk_cell BQ12.out 2).trans rfl, Kd.C_string (P := Try.prog) (A := A5) (c := c5) Try.underlying27 Try.underlying5 Try.underlying9 (Kd.C_below CV.out HB12.out)⟩ (fun hHeld => ?_)
        clear hK K
        refine norm_ (a' := ?_) ?_ ?_
        rotate_left
        · show Act.put _ (some 93) _ = _
          simp only [Act.put, List.setIfInBounds_toArray, List.set_cons_zero, List.set_cons_succ, i64_w, i32_w]
          rfl
        refine pure_ (i := 9) (N := some 2) (v := ?_) (a' := ?_) #[true, true, true, true, true, true, true, true, true, true] rfl rfl (by kernel_rfl) (fun _ _ _ h => h) (Or.inl ⟨by rfl, ?_⟩) ?_ ?_
        rotate_left
        · intro w'
          go_simp
          with_reducible rfl
        rotate_left
        · simp only [Act.put, List.setIfInBounds_toArray, List.set_cons_zero, List.set_cons_succ, i64_w, i32_w]
          rfl
        refine done_ (by kernel_rfl) ?_
        go_wp2
        go_roundg g1
        case measure => omega
        case rel => exact ⟨D5, KY, acc ++ [⟨⟨y1, y2, y3⟩, strOfNums V⟩], HH, ⟨⟨⟨A11, c11, BK12.out, CD11.out, LD11.out⟩, HS.out.ge, HL12.out, HO12.out, HB12.out⟩⟩⟩
end Go.Proofs.Ythdemdjobgbpdaa.B
namespace Go.Proofs.Ythdemdjobgbpdaa.B
open Go.RowKit Go.Proofs.YthdemdjobgbpdaaW.PrintWords Go.Proofs.YthdemdjobgbpdaaW.PrintLast Go.Proofs.YthdemdjobgbpdaaW.PrintMore Go.Proofs.Ythdemdjobgbpdaa.P
set_option linter.unusedVariables false
set_option linter.unusedSimpArgs false
theorem assert_nil (W : World) : (Instr.typeAssert .nilIface 20 103 true).run Try.prog W = .ok (.tuple #[.agg #[], .bool false]) W := by
  have hu : Try.prog.underlying 103 = some (.struct #[]) := by kernel_rfl
  obtain ⟨i, hi, hz⟩ := Option.map_eq_some_iff.1 (show (Try.prog.info? 103).map (·.zero) = some (some (.agg #[])) from by kernel_rfl)
  simp [Instr.typeAssert, run_underlying hu, zeroValue, typeInfo, hi, hz]
set_option maxHeartbeats 1000000 in
set_option maxRecDepth 100000 in
/-- the deferred closure, where nothing is to be recovered -/
theorem catch_idle (a b : Addr) (w : World) :
    CallsD Try.prog 56 #[.pointer (some a), .pointer (some b)] .returning w fun e u' w' => e = .returned (.tuple #[]) ∧ u' = .returning ∧ Below w.heap.size w w' := by
  refine callsD_of_wpS Try.func56 rfl fun c₀ cs hu => ?_
  apply wpS_seq
  apply wpS_region
  simp [wpOpsS, go_sem, recoverD, hu, Try.ntmps56, Exit.thenS]
  refine wpS_of_wp ?_
  have hta := assert_nil
  go_wp2
  have hB : Below w.heap.size w (w.alloc (Obj.cells #[] 103)) := below_alloc (Below.refl _ _) _
  cases c₀
  simp_all [bodyPostS, results, Try.results56]
def open_f (k : Nat) (b : List Int) : Option (Option (List S47 × Int)) :=
  (read_f k b).bind fun x => (block_Build.f k x.1 x.2).bind fun y => if y.2 = 0 then (bytes_Equal.f y.1 b).bind fun q => if q = true then some (some x) else some none else some none
end Go.Proofs.Ythdemdjobgbpdaa.B
namespace Go.Proofs.Ythdemdjobgbpdaa.B
open Go.RowKit Go.Proofs.YthdemdjobgbpdaaW.PrintWords Go.Proofs.YthdemdjobgbpdaaW.PrintLast Go.Proofs.YthdemdjobgbpdaaW.PrintMore Go.Proofs.Ythdemdjobgbpdaa.P
set_option linter.unusedVariables false
set_option linter.unusedSimpArgs false
theorem assert_bad (W : World) : (Instr.typeAssert (.iface 103 (.agg #[])) 20 103 true).run Try.prog W = .ok (.tuple #[.agg #[], .bool true]) W := by
  have hu : Try.prog.underlying 103 = some (.struct #[]) := by kernel_rfl
  simp [Instr.typeAssert, run_underlying hu, go_sem]
set_option maxHeartbeats 1000000 in
set_option maxRecDepth 100000 in
/-- the deferred closure, where deep code has given up -/
theorem catch_bad (ga ge : Nat) (w : World) (hA : w.heap[ga]? = some (.cells #[.pointer none] 70 (0, 0))) (hE : w.heap[ge]? = some (.cells #[.int .i64 0] 28 (0, 0))) (hne : ga ≠ ge) :
    CallsD Try.prog 56 #[.pointer (some ⟨ga, 0, none⟩), .pointer (some ⟨ge, 0, none⟩)] (.panicking [{ v := .iface 103 (.agg #[]), recovered := false }]) w fun e u' w' =>
      e = .returned (.tuple #[]) ∧ u' = .panicking [{ v := .iface 103 (.agg #[]), recovered := true }] ∧ (∀ w0 : World, Below w0.heap.size w0 w → w0.heap.size ≤ ga → w0.heap.size ≤ ge → Below w0.heap.size w0 w') ∧ w'.cell? ⟨ga, 0, none⟩ = some (.pointer none) ∧ w'.cell? ⟨ge, 0, none⟩ = some (.int .i64 111) := by
  have hne' := Ne.symm hne
  refine callsD_of_wpS Try.func56 rfl fun c₀ cs hu => ?_
  apply wpS_seq
  apply wpS_region
  simp [wpOpsS, go_sem, recoverD, hu, Try.ntmps56, Exit.thenS]
  refine wpS_of_wp ?_
  have hta := assert_bad
  go_wp2_with (first
    | ((with_reducible refine gate_dst (N := 3) rfl ?_); refine box_event ?hg (N := 3) ?hd (cs := #[]) (t := 103) ?hr ?_; (case hd => rfl); (case hg => rfl); (case hr => first | (go_simp; done) | (go_simp; rfl)); intro gx hg w3 hbox hb
       have HB := Aside0.mk hb
       have BA := Aside0.mk (blk_below hA hb)
       have BE := Aside0.mk (blk_below hE hb)
       have hca : w3.cell? ⟨ga, 0, none⟩ = some (.pointer none) := (blk_cell BA.out 0).trans rfl
       have hcf := blk_frozen BA.out 0
       have hce : w3.cell? ⟨ge, 0, none⟩ = some (.int .i64 0) := (blk_cell BE.out 0).trans rfl
       have hcg := blk_frozen BE.out 0
       clear hg hbox hb))
  have BA3 := (Below.heap_setCell (w3.setCell ⟨ga, 0, none⟩ (.pointer none)) ⟨ge, 0, none⟩ (.int .i64 111) ga hne).trans (blk_put (cs := #[.pointer none]) BA.out 0 (.pointer none) rfl)
  have BE3 := blk_put (cs := #[.int .i64 0]) ((Below.heap_setCell w3 ⟨ga, 0, none⟩ (.pointer none) ge (Ne.symm hne)).trans BE.out) 0 (.int .i64 111) rfl
  have hx1 : ((w3.setCell ⟨ga, 0, none⟩ (.pointer none)).setCell ⟨ge, 0, none⟩ (.int .i64 111)).cell? ⟨ga, 0, none⟩ = some (.pointer none) := (blk_cell BA3 0).trans rfl
  have hx2 : ((w3.setCell ⟨ga, 0, none⟩ (.pointer none)).setCell ⟨ge, 0, none⟩ (.int .i64 111)).cell? ⟨ge, 0, none⟩ = some (.int .i64 111) := (blk_cell BE3 0).trans rfl
  cases c₀
  refine ⟨rfl, _, rfl, ?_⟩
  exact ⟨.tuple #[], by simp [results, Try.results56, go_sem], rfl, rfl, fun w0 hb h1 h2 => below_set (below_set (below_step hb HB.out) h1) h2, hx1, hx2⟩
def open_g (k : Nat) (b : List Int) : Option (Option (List S47 × Int)) :=
  (read_g k b).bind fun r => match r with
  | none => some none
  | some x => (block_Build.f k x.1 x.2).bind fun y => if y.2 = 0 then (bytes_Equal.f y.1 b).bind fun q => if q = true then some (some x) else some none else some none
/-- a block whose row of entries is of one's own -/
def IsOwn (w : World) (n g : Nat) (l : List S47) (iv : Int) : Prop := ∃ A c, w.cell? ⟨g, 0, none⟩ = some (.slice A l.length c) ∧ w.cell? ⟨g, 1, none⟩ = some (.int .i64 iv) ∧ Kd.R k47 47 w n (fun _ => True) (.slice A l.length c) l
theorem IsOwn.blk {w : World} {n g : Nat} {l : List S47} {iv : Int} (h : IsOwn w n g l iv) : IsBlk w g l iv := by
  obtain ⟨A, c, h1, h2, h3⟩ := h
  exact ⟨A, c, h1, h2, (Kd.R_reads' h3).2.2, (Kd.R_reads' h3).2.1⟩
theorem IsOwn.below {w w1 : World} {n g : Nat} {l : List S47} {iv : Int} (h : IsOwn w n g l iv) (hb : Below w.heap.size w w1) : IsOwn w1 n g l iv := by
  obtain ⟨A, c, h1, h2, h3⟩ := h
  exact ⟨A, c, (hb.cell (World.block_lt_of_cell? w _ h1)).trans h1, (hb.cell (World.block_lt_of_cell? w _ h2)).trans h2, Kd.R_below h3 hb⟩
theorem cell_heap {w w1 : World} {g i : Nat} (h : w1.heap[g]? = w.heap[g]?) : w1.cell? ⟨g, i, none⟩ = w.cell? ⟨g, i, none⟩ := by
  simp [World.cell?, h]
theorem IsOwn.move {w w1 : World} {n g : Nat} {l : List S47} {iv : Int} (h : IsOwn w n g l iv) (hg : n ≤ g) (hm : ∀ k, n ≤ k → w1.heap[k]? = w.heap[k]?) : IsOwn w1 n g l iv := by
  obtain ⟨A, c, h1, h2, h3⟩ := h
  exact ⟨A, c, (cell_heap (hm g hg)).trans h1, (cell_heap (hm g hg)).trans h2, Kd.R_mono (Kd.R_move (Kd.R_bound h3) (fun k hk => hm k hk.2.1)) (fun _ _ => trivial)⟩
set_option maxHeartbeats 1000000 in
set_option maxRecDepth 100000 in
theorem Open_own (k : Nat) (A0 : Option Addr) (c0 : Nat) (b : List Int) (r : Option (List S47 × Int)) (w : World) (hr0 : Kd.C (Kd.int .u8) w A0 b.length b) (hc0 : b.length ≤ c0) (hf : open_g k b = some r) :
    Calls Try.prog 33 #[.slice A0 b.length c0] w fun e w' => Below w.heap.size w w' ∧
      match r with
      | some x => ∃ g, e = .returned (.tuple #[.pointer (some ⟨g, 0, none⟩), .int .i64 0]) ∧ w.heap.size ≤ g ∧ IsOwn w' w.heap.size g x.1 x.2
      | none => e = .returned (.tuple #[.pointer none, .int .i64 111]) := by
  unfold open_g at hf
  obtain ⟨r0, hrd, hf⟩ := Option.bind_eq_some_iff.mp hf
  have hmf : ∀ (fn : Fn) (first cap : Array Value) (w : World), (Instr.makeFunc fn first cap).run Try.prog w = .ok (.func fn first cap) w := fun _ _ _ _ => rfl
  cases r0 with
  | none =>
    obtain rfl := Option.some.inj hf
    have HR0 := Aside0.mk hr0
    have HC0 := Aside0.mk hc0
    have HRD := Aside0.mk hrd
    have HB := Aside0.mk (Below.refl w.heap.size w)
    clear hr0 hc0 hrd hf
    go_enter_defers Try.func33, Try.ntmps33
    go_wp2_with (first
      | ((with_reducible refine gate_dst (N := 2) rfl ?_); refine box_event ?hg (N := 2) ?hd (cs := #[.pointer none]) (t := 70) ?hr ?_; (case hd => rfl); (case hg => rfl); (case hr => first | (go_simp; done) | (go_simp; rfl)); intro ga hg w3 hbox hb
         have BA := Aside0.mk hbox
         have GA : Aside0 (w.heap.size ≤ ga) := ⟨by rw [hg]; exact below_size HB.out⟩
         have HB1 := Aside0.mk (below_step HB.out hb)
         clear hb hbox hg)
      | ((with_reducible refine gate_dst (N := 3) rfl ?_); refine box_event ?hg (N := 3) ?hd (cs := #[.int .i64 0]) (t := 28) ?hr ?_; (case hd => rfl); (case hg => rfl); (case hr => first | (go_simp; done) | (go_simp; rfl)); intro ge hg w4 hbox hb
         have BE := Aside0.mk hbox
         have GE : Aside0 (w.heap.size ≤ ge) := ⟨by rw [hg]; exact below_size HB1.out⟩
         have BA1 := Aside0.mk (blk_below BA.out hb)
         have HN : Aside0 (ga ≠ ge) := ⟨by have := blk_lt BA.out; omega⟩
         have HB2 := Aside0.mk (below_step HB1.out hb)
         clear hb hbox hg BA)
      | (go_at_call 57; (with_reducible refine (read_ends k A0 c0 b none _ (Kd.C_below HR0.out HB2.out) HC0.out HRD.out).mono ?_); (rintro e w5 ⟨rfl, hb⟩)
         have BA2 := Aside0.mk (blk_below BA1.out hb)
         have BE2 := Aside0.mk (blk_below BE.out hb)
         have HB3 := Aside0.mk (below_step HB2.out hb)
         clear hb BA1 BE))

    refine leaves_cons (f := 56) (args := #[.pointer (some ⟨ga, 0, none⟩), .pointer (some ⟨ge, 0, none⟩)]) (by simp) (by simp [go_sem]) ?_
    refine (catch_bad ga ge _ BA2.out BE2.out HN.out).mono ?_
    rintro e u' wz ⟨rfl, rfl, hk, hx1, hx2⟩
    have HBz : Below w.heap.size w wz := hk w HB3.out GA.out GE.out
    refine ⟨.tuple #[.pointer none, .int .i64 111], ?_, HBz, rfl⟩
    simp [results, Try.results33, go_sem, hx1, hx2]
  | some x0 =>
  obtain ⟨l, iv⟩ := x0
  dsimp only at hf
  obtain ⟨⟨bs, e2⟩, hbd, hf⟩ := Option.bind_eq_some_iff.mp hf
  dsimp only at hf hbd
  have HR0 := Aside0.mk hr0
  have HC0 := Aside0.mk hc0
  have HRD := Aside0.mk hrd
  have HBD := Aside0.mk hbd
  have HF := Aside0.mk hf
  have HB := Aside0.mk (Below.refl w.heap.size w)
  clear hr0 hc0 hrd hbd hf
  go_enter_defers Try.func33, Try.ntmps33
  go_upto_region 4 with (first
    | ((with_reducible refine gate_dst (N := 2) rfl ?_); refine box_event ?hg (N := 2) ?hd (cs := #[.pointer none]) (t := 70) ?hr ?_; (case hd => rfl); (case hg => rfl); (case hr => first | (go_simp; done) | (go_simp; rfl)); intro ga hg w3 hbox hb
       have BA := Aside0.mk hbox
       have GA : Aside0 (w.heap.size ≤ ga) := ⟨by rw [hg]; exact below_size HB.out⟩
       have HB1 := Aside0.mk (below_step HB.out hb)
       clear hb hbox hg)
    | ((with_reducible refine gate_dst (N := 3) rfl ?_); refine box_event ?hg (N := 3) ?hd (cs := #[.int .i64 0]) (t := 28) ?hr ?_; (case hd => rfl); (case hg => rfl); (case hr => first | (go_simp; done) | (go_simp; rfl)); intro ge hg w4 hbox hb
       have BE := Aside0.mk hbox
       have GE : Aside0 (w.heap.size ≤ ge) := ⟨by rw [hg]; exact below_size HB1.out⟩
       have BA1 := Aside0.mk (blk_below BA.out hb)
       have HN : Aside0 (ga ≠ ge) := ⟨by have := blk_lt BA.out; omega⟩
       have HB2 := Aside0.mk (below_step HB1.out hb)
       clear hb hbox hg BA)
    | (go_at_call 57; (with_reducible refine (read_ends k A0 c0 b (some (l, iv)) _ (Kd.C_below HR0.out HB2.out) HC0.out HRD.out).mono ?_); (rintro e w5 ⟨vl, rfl, hol, hb⟩)
       have HL : Aside0 (Kd.R k47 47 w5 w.heap.size (fun k => k ≠ ga ∧ k ≠ ge) vl l) := ⟨Kd.R_lower (Kd.R_mono (Kd.R_bound hol) (fun k hk => ⟨by have := blk_lt BA1.out; have := hk.2.1; omega, by have := blk_lt BE.out; have := hk.2.1; omega⟩)) (below_size HB2.out)⟩
       have BA2 := Aside0.mk (blk_below BA1.out hb)
       have BE2 := Aside0.mk (blk_below BE.out hb)
       have HB3 := Aside0.mk (below_step HB2.out hb)
       obtain ⟨Al, cl, el⟩ := Kd.R_slice HL.out
       subst el
       clear hb hol BA1 BE)
    | (go_at_call 19; with_reducible refine (block_Build.calls k Al cl l iv bs e2 _ (Kd.R_reads' HL.out).2.2 (Kd.R_reads' HL.out).2.1 HBD.out).mono ?_; rintro e w6 ⟨vb, rfl, hob, hb⟩
       have HL2 := Aside0.mk (Kd.R_below HL.out hb)
       have HO := Aside0.mk (Kd.R_lower hob (below_size HB3.out))
       have BA3 := Aside0.mk (blk_below BA2.out hb)
       have BE3 := Aside0.mk (blk_below BE2.out hb)
       have HB4 := Aside0.mk (below_step HB3.out hb)
       obtain ⟨Ab, cb, eb⟩ := Kd.R_slice HO.out
       subst eb
       clear hb hob BA2 BE2 HL))
  have hca : w6.cell? ⟨ga, 0, none⟩ = some (.pointer none) := (blk_cell BA3.out 0).trans rfl
  have hcf := blk_frozen BA3.out 0
  have hce : w6.cell? ⟨ge, 0, none⟩ = some (.int .i64 0) := (blk_cell BE3.out 0).trans rfl
  have hcg := blk_frozen BE3.out 0
  have hne := HN.out
  have hne' := Ne.symm HN.out
  by_cases h2 : e2 = 0
  · subst h2
    have F := HF.out
    rw [if_pos rfl] at F
    obtain ⟨q, hq, F⟩ := Option.bind_eq_some_iff.mp F
    have HQ := Aside0.mk hq
    cases hqq : q
    · subst hqq
      rw [if_neg (by decide)] at F
      obtain rfl := Option.some.inj F
      clear HF F hq
      go_upto_region 5 with (first
        | (go_at_call 58; with_reducible refine (bytes_Equal.calls Ab cb bs A0 c0 b false _ (Kd.R_reads' HO.out).2.2 (Kd.R_reads' HO.out).2.1 (Kd.C_below HR0.out HB4.out) HC0.out HQ.out).mono ?_; rintro e w7 ⟨rfl, ⟨nd, rfl⟩⟩))
      have BA4 := Aside0.mk (blk_drewN BA3.out nd)
      have BE4 := Aside0.mk (blk_drewN BE3.out nd)
      have HB5 := Aside0.mk (pw_below_drewN HB4.out nd)
      obtain ⟨w7, hw7⟩ : ∃ x, w6.drewN nd = x := ⟨_, rfl⟩
      rw [hw7] at BA4 BE4 HB5 ⊢
      clear hw7 hca hcf hce hcg
      have hca : w7.cell? ⟨ga, 0, none⟩ = some (.pointer none) := (blk_cell BA4.out 0).trans rfl
      have hcf := blk_frozen BA4.out 0
      have hce : w7.cell? ⟨ge, 0, none⟩ = some (.int .i64 0) := (blk_cell BE4.out 0).trans rfl
      have hcg := blk_frozen BE4.out 0
      go_wp2
      refine leaves_cons (f := 56) (args := #[.pointer (some ⟨ga, 0, none⟩), .pointer (some ⟨ge, 0, none⟩)]) (by simp) (by simp [go_sem]) ?_
      refine (catch_idle ⟨ga, 0, none⟩ ⟨ge, 0, none⟩ _).mono ?_
      rintro e u' wz ⟨rfl, rfl, hbz⟩
      have BAz := blk_below ((Below.heap_setCell (w7.setCell ⟨ga, 0, none⟩ (.pointer none)) ⟨ge, 0, none⟩ (.int .i64 111) ga HN.out).trans (blk_put (cs := #[.pointer none]) BA4.out 0 (.pointer none) rfl)) hbz
      have BEz := blk_below (blk_put (cs := #[.int .i64 0]) ((Below.heap_setCell w7 ⟨ga, 0, none⟩ (.pointer none) ge (Ne.symm HN.out)).trans BE4.out) 0 (.int .i64 111) rfl) hbz
      have hx1 : wz.cell? ⟨ga, 0, none⟩ = some (.pointer none) := (blk_cell BAz 0).trans rfl
      have hx2 : wz.cell? ⟨ge, 0, none⟩ = some (.int .i64 111) := (blk_cell BEz 0).trans rfl
      have HBz := below_step (below_set (below_set HB5.out GA.out) GE.out) hbz
      refine ⟨.tuple #[.pointer none, .int .i64 111], ?_, HBz, rfl⟩
      simp [results, Try.results33, go_sem, hx1, hx2]

    · subst hqq
      rw [if_pos rfl] at F
      obtain rfl := Option.some.inj F
      clear HF F hq
      go_upto_region 6 with (first
        | (go_at_call 58; with_reducible refine (bytes_Equal.calls Ab cb bs A0 c0 b true _ (Kd.R_reads' HO.out).2.2 (Kd.R_reads' HO.out).2.1 (Kd.C_below HR0.out HB4.out) HC0.out HQ.out).mono ?_; rintro e w7 ⟨rfl, ⟨nd, rfl⟩⟩))
      have BA4 := Aside0.mk (blk_drewN BA3.out nd)
      have BE4 := Aside0.mk (blk_drewN BE3.out nd)
      have HB5 := Aside0.mk (pw_below_drewN HB4.out nd)
      have HL4 := Aside0.mk (Kd.R_drewN HL2.out nd)
      obtain ⟨w7, hw7⟩ : ∃ x, w6.drewN nd = x := ⟨_, rfl⟩
      rw [hw7] at BA4 BE4 HB5 HL4 ⊢
      clear hw7 hca hcf hce hcg
      go_wp2_with (first
        | ((with_reducible refine gate_dst (N := 31) rfl ?_); refine box_event ?hg (N := 31) ?hd (cs := #[.slice Al l.length cl, .int .i64 iv]) (t := 108) ?hr ?_; (case hd => rfl); (case hg => rfl); (case hr => first | (go_simp; done) | (go_simp; rfl)); intro gB hg w8 hbox hb
           have BB := Aside0.mk hbox
           have BA5 := Aside0.mk (blk_below BA4.out hb)
           have BE5 := Aside0.mk (blk_below BE4.out hb)
           have HL5 := Aside0.mk (Kd.R_below HL4.out hb)
           have HB6 := Aside0.mk (below_step HB5.out hb)
           have GB : Aside0 (w.heap.size ≤ gB) := ⟨by rw [hg]; exact below_size HB5.out⟩
           have NA : Aside0 (gB ≠ ga) := ⟨by have := blk_lt BA4.out; omega⟩
           have NE : Aside0 (gB ≠ ge) := ⟨by have := blk_lt BE4.out; omega⟩
           clear hg hbox hb BA4 BE4 HL4
           have hca : w8.cell? ⟨ga, 0, none⟩ = some (.pointer none) := (blk_cell BA5.out 0).trans rfl
           have hcf := blk_frozen BA5.out 0
           have hce : w8.cell? ⟨ge, 0, none⟩ = some (.int .i64 0) := (blk_cell BE5.out 0).trans rfl
           have hcg := blk_frozen BE5.out 0))
      refine leaves_cons (f := 56) (args := #[.pointer (some ⟨ga, 0, none⟩), .pointer (some ⟨ge, 0, none⟩)]) (by simp) (by simp [go_sem]) ?_
      refine (catch_idle ⟨ga, 0, none⟩ ⟨ge, 0, none⟩ _).mono ?_
      rintro e u' wz ⟨rfl, rfl, hbz⟩
      have hS : ∀ k, k ≠ ga → k ≠ ge → ((w8.setCell ⟨ga, 0, none⟩ (.pointer (some ⟨gB, 0, none⟩))).setCell ⟨ge, 0, none⟩ (.int .i64 0)).heap[k]? = w8.heap[k]? := fun k h1 h2 => (Below.heap_setCell _ _ _ k h2).trans (Below.heap_setCell _ _ _ k h1)
      have BAz := blk_below ((Below.heap_setCell (w8.setCell ⟨ga, 0, none⟩ (.pointer (some ⟨gB, 0, none⟩))) ⟨ge, 0, none⟩ (.int .i64 0) ga HN.out).trans (blk_put (cs := #[.pointer none]) BA5.out 0 (.pointer (some ⟨gB, 0, none⟩)) rfl)) hbz
      have BEz := blk_below (blk_put (cs := #[.int .i64 0]) ((Below.heap_setCell w8 ⟨ga, 0, none⟩ (.pointer (some ⟨gB, 0, none⟩)) ge (Ne.symm HN.out)).trans BE5.out) 0 (.int .i64 0) rfl) hbz
      have BBz := blk_below ((hS gB NA.out NE.out).trans BB.out) hbz
      have HLz := Kd.R_below (Kd.R_move HL5.out (fun k hk => hS k hk.1 hk.2)) hbz
      have hx1 : wz.cell? ⟨ga, 0, none⟩ = some (.pointer (some ⟨gB, 0, none⟩)) := (blk_cell BAz 0).trans rfl
      have hx2 : wz.cell? ⟨ge, 0, none⟩ = some (.int .i64 0) := (blk_cell BEz 0).trans rfl
      have HBz := below_step (below_set (below_set HB6.out GA.out) GE.out) hbz
      refine ⟨.tuple #[.pointer (some ⟨gB, 0, none⟩), .int .i64 0], ?_, HBz, gB, rfl, GB.out, Al, cl, (blk_cell BBz 0).trans rfl, (blk_cell BBz 1).trans rfl, Kd.R_mono HLz (fun _ _ => trivial)⟩
      simp [results, Try.results33, go_sem, hx1, hx2]
  · have F := HF.out
    rw [if_neg h2] at F
    obtain rfl := Option.some.inj F
    have h2b : (e2 == 0) = false := beq_eq_false_iff_ne.mpr h2
    have h2c : (e2 != 0) = true := bne_iff_ne.mpr h2
    clear HF F
    go_wp2
    refine leaves_cons (f := 56) (args := #[.pointer (some ⟨ga, 0, none⟩), .pointer (some ⟨ge, 0, none⟩)]) (by simp) (by simp [go_sem]) ?_
    refine (catch_idle ⟨ga, 0, none⟩ ⟨ge, 0, none⟩ _).mono ?_
    rintro e u' wz ⟨rfl, rfl, hbz⟩
    have BAz := blk_below ((Below.heap_setCell (w6.setCell ⟨ga, 0, none⟩ (.pointer none)) ⟨ge, 0, none⟩ (.int .i64 111) ga HN.out).trans (blk_put (cs := #[.pointer none]) BA3.out 0 (.pointer none) rfl)) hbz
    have BEz := blk_below (blk_put (cs := #[.int .i64 0]) ((Below.heap_setCell w6 ⟨ga, 0, none⟩ (.pointer none) ge (Ne.symm HN.out)).trans BE3.out) 0 (.int .i64 111) rfl) hbz
    have hx1 : wz.cell? ⟨ga, 0, none⟩ = some (.pointer none) := (blk_cell BAz 0).trans rfl
    have hx2 : wz.cell? ⟨ge, 0, none⟩ = some (.int .i64 111) := (blk_cell BEz 0).trans rfl
    have HBz := below_step (below_set (below_set HB4.out GA.out) GE.out) hbz
    refine ⟨.tuple #[.pointer none, .int .i64 111], ?_, HBz, rfl⟩
    simp [results, Try.results33, go_sem, hx1, hx2]
end Go.Proofs.Ythdemdjobgbpdaa.B
