/- block's reader: what num and take come to. -/
import Derived.Test.YthdemdjobgbpdaaP8
import Derived.Test.YthdemdjobgbpdaaP11
import Derived.Test.YthdemdjobgbpdaaP13
import Derived.Recover
namespace Go.Proofs.Ythdemdjobgbpdaa.B
open Go.RowKit Go.Proofs.YthdemdjobgbpdaaW.PrintWords Go.Proofs.YthdemdjobgbpdaaW.PrintLast Go.Proofs.YthdemdjobgbpdaaW.PrintMore Go.Proofs.Ythdemdjobgbpdaa.P
theorem info47 : (Try.prog.info? 47).map (fun i => (i.zero, i.size, i.bytes)) = some (some (.agg #[(.string ⟨#[]⟩), (.int .u64 0), (.int .i64 0), (.string ⟨#[]⟩)]), 4, 48) := by kernel_rfl
set_option linter.unusedVariables false
set_option linter.unusedSimpArgs false
set_option maxHeartbeats 1000000 in
set_option maxRecDepth 100000 in
theorem num_ok (k : Nat) (g : Nat) (A : Option Addr) (c : Nat) (l : List Int) (most n kk : Int) (w : World)
    (hg : w.cell? ⟨g, 0, none⟩ = some (.slice A l.length c)) (hf : w.frozen? ⟨g, 0, none⟩ = false) (hC : Kd.C (Kd.int .u8) w A l.length l) (hc : l.length ≤ c)
    (hq : codec_Uvarint.f k l = some (n, kk, 0)) (hn0 : 0 ≤ n) (hn : n ≤ most) (hk : 0 ≤ kk ∧ kk ≤ l.length) (hm : most < 9223372036854775808) :
    Calls Try.prog 70 #[.pointer (some ⟨g, 0, none⟩), .int .i64 most] w fun e w' =>
      e = .returned (.int .i64 n) ∧ ∃ A' c' nd, w' = (w.drewN nd).setCell ⟨g, 0, none⟩ (.slice A' (l.drop kk.toNat).length c') ∧ (∀ W : World, Kd.C (Kd.int .u8) W A l.length l → Kd.C (Kd.int .u8) W A' (l.drop kk.toNat).length (l.drop kk.toNat)) ∧ (l.drop kk.toNat).length ≤ c' := by
  obtain ⟨i5, hi5, _, hs5, _⟩ := info_parts info5
  obtain ⟨A2, hcut, hrd, hcp⟩ := print_drop_of (P := Try.prog) (Value.int .u8) (0 : Int) 27 5 .i64 Try.underlying27 hi5 hs5 A c l kk hk.1 hk.2 hc
  have HR0 := Aside0.mk hC
  have HC0 := Aside0.mk hc
  have HQ := Aside0.mk hq
  have HR2 := Aside0.mk (show ∀ W : World, Kd.C (Kd.int .u8) W A l.length l → Kd.C (Kd.int .u8) W A2 (l.drop kk.toNat).length (l.drop kk.toNat) from fun W hW => Kd.C_of_reads (h1 := fun _ => rfl) (hrd W (Kd.reads_of_C hW)))
  have HC2 := Aside0.mk hcp
  obtain ⟨D, hD⟩ : ∃ x, l.drop kk.toNat = x := ⟨_, rfl⟩
  rw [hD] at HR2 HC2 hcut ⊢
  have HK := Aside0.mk hk
  have hmw : IntKind.u64.wrap most = most := by simp [IntKind.wrap, IntKind.bits, IntKind.signed]; omega
  have hnm : decide (most < n) = false := decide_eq_false (by omega)
  have hnw : wrap64 n = n := by unfold wrap64; omega
  have hnw2 : IntKind.i64.wrap n = n := (i64_w n).trans hnw
  clear hC hc hq hrd hcp hD hk hn hn0 hm
  go_enter Try.func70, Try.ntmps70
  go_wp2_with (first
    | (go_at_call 36; with_reducible refine (codec_Uvarint.calls k A _ l n kk 0 _ HR0.out HC0.out HQ.out).mono ?_; rintro ex w2 ⟨rfl, ⟨nd, rfl⟩⟩))
  go_ret
  exact ⟨by first | rfl | (simp [hnw]), A2, _, nd, rfl, HR2.out, HC2.out⟩
set_option maxHeartbeats 1000000 in
set_option maxRecDepth 100000 in
theorem num_bad (k : Nat) (g : Nat) (A : Option Addr) (c : Nat) (l : List Int) (most n kk er : Int) (w : World)
    (hg : w.cell? ⟨g, 0, none⟩ = some (.slice A l.length c)) (hf : w.frozen? ⟨g, 0, none⟩ = false) (hC : Kd.C (Kd.int .u8) w A l.length l) (hc : l.length ≤ c)
    (hq : codec_Uvarint.f k l = some (n, kk, er)) (hb : er ≠ 0 ∨ most < n) (hm : 0 ≤ most ∧ most < 9223372036854775808) :
    Calls Try.prog 70 #[.pointer (some ⟨g, 0, none⟩), .int .i64 most] w fun e w' =>
      e = .panicked [{ v := .iface 103 (.agg #[]), recovered := false }] ∧ ∃ nd, w' = w.drewN nd := by
  have HR0 := Aside0.mk hC
  have HC0 := Aside0.mk hc
  have HQ := Aside0.mk hq
  have hmw : IntKind.u64.wrap most = most := by simp [IntKind.wrap, IntKind.bits, IntKind.signed]; omega
  clear hC hc hq hm
  go_enter Try.func70, Try.ntmps70
  by_cases h0 : er = 0
  · subst h0
    have h1 : most < n := hb.resolve_left (by simp)
    have hnm : decide (most < n) = true := decide_eq_true h1
    clear hb h1
    go_wp2_with (first
      | (go_at_call 36; with_reducible refine (codec_Uvarint.calls k A _ l n kk 0 _ HR0.out HC0.out HQ.out).mono ?_; rintro ex w2 ⟨rfl, ⟨nd, rfl⟩⟩))
    exact ⟨rfl, rfl, nd, rfl⟩
  · have h0b : (er == 0) = false := beq_eq_false_iff_ne.mpr h0
    have h0c : (er != 0) = true := bne_iff_ne.mpr h0
    clear hb
    go_wp2_with (first
      | (go_at_call 36; with_reducible refine (codec_Uvarint.calls k A _ l n kk er _ HR0.out HC0.out HQ.out).mono ?_; rintro ex w2 ⟨rfl, ⟨nd, rfl⟩⟩))
    exact ⟨rfl, rfl, nd, rfl⟩
set_option maxHeartbeats 1000000 in
set_option maxRecDepth 100000 in
theorem take_ok (g : Nat) (A : Option Addr) (c : Nat) (l : List Int) (n : Int) (w : World)
    (hg : w.cell? ⟨g, 0, none⟩ = some (.slice A l.length c)) (hf : w.frozen? ⟨g, 0, none⟩ = false) (hC : Kd.C (Kd.int .u8) w A l.length l) (hc : l.length ≤ c) (h0 : 0 ≤ n) (hn : n ≤ l.length) :
    Calls Try.prog 72 #[.pointer (some ⟨g, 0, none⟩), .int .i64 n] w fun e w' =>
      e = .returned (.slice A (l.take n.toNat).length c) ∧ (∀ W : World, Kd.C (Kd.int .u8) W A l.length l → Kd.C (Kd.int .u8) W A (l.take n.toNat).length (l.take n.toNat)) ∧ (l.take n.toNat).length ≤ c ∧ ∃ A' c', w' = w.setCell ⟨g, 0, none⟩ (.slice A' (l.drop n.toNat).length c') ∧ (∀ W : World, Kd.C (Kd.int .u8) W A l.length l → Kd.C (Kd.int .u8) W A' (l.drop n.toNat).length (l.drop n.toNat)) ∧ (l.drop n.toNat).length ≤ c' := by
  obtain ⟨i5, hi5, _, hs5, _⟩ := info_parts info5
  obtain ⟨A2, hcut, hrd, hcp⟩ := print_drop_of (P := Try.prog) (Value.int .u8) (0 : Int) 27 5 .i64 Try.underlying27 hi5 hs5 A c l n h0 hn hc
  obtain ⟨hcut1, hrd1, hcp1⟩ := print_take_of (P := Try.prog) (Value.int .u8) (0 : Int) 27 5 .i64 Try.underlying27 hi5 hs5 A c l n h0 hn hc
  have HR1 := Aside0.mk (show ∀ W : World, Kd.C (Kd.int .u8) W A l.length l → Kd.C (Kd.int .u8) W A (l.take n.toNat).length (l.take n.toNat) from fun W hW => Kd.C_of_reads (h1 := fun _ => rfl) (hrd1 W (Kd.reads_of_C hW)))
  have HR2 := Aside0.mk (show ∀ W : World, Kd.C (Kd.int .u8) W A l.length l → Kd.C (Kd.int .u8) W A2 (l.drop n.toNat).length (l.drop n.toNat) from fun W hW => Kd.C_of_reads (h1 := fun _ => rfl) (hrd W (Kd.reads_of_C hW)))
  have HC1 := Aside0.mk hcp1
  have HC2 := Aside0.mk hcp
  obtain ⟨D, hD⟩ : ∃ x, l.drop n.toNat = x := ⟨_, rfl⟩
  obtain ⟨E, hE⟩ : ∃ x, l.take n.toNat = x := ⟨_, rfl⟩
  rw [hD] at HR2 HC2 hcut ⊢
  rw [hE] at HR1 HC1 hcut1 ⊢
  have hnm : decide ((l.length : Int) < n) = false := decide_eq_false (by omega)
  clear hC hc hrd hcp hD hE hn hrd1 hcp1 h0
  go_enter Try.func72, Try.ntmps72
  go_wp2
  go_ret
  exact ⟨by first | rfl | simp, HR1.out, HC1.out, A2, _, rfl, HR2.out, HC2.out⟩
set_option maxHeartbeats 1000000 in
set_option maxRecDepth 100000 in
theorem take_bad (g : Nat) (A : Option Addr) (c : Nat) (l : List Int) (n : Int) (w : World)
    (hg : w.cell? ⟨g, 0, none⟩ = some (.slice A l.length c)) (hf : w.frozen? ⟨g, 0, none⟩ = false) (hn : (l.length : Int) < n) :
    Calls Try.prog 72 #[.pointer (some ⟨g, 0, none⟩), .int .i64 n] w fun e w' =>
      e = .panicked [{ v := .iface 103 (.agg #[]), recovered := false }] ∧ w' = w := by
  have hnm : decide ((l.length : Int) < n) = true := decide_eq_true (by omega)
  clear hn
  go_enter Try.func72, Try.ntmps72
  go_wp2
  exact ⟨rfl, rfl, rfl⟩
theorem take_ok2 (g : Nat) (A : Option Addr) (c : Nat) (l E D : List Int) (n : Int) (w : World)
    (hg : w.cell? ⟨g, 0, none⟩ = some (.slice A l.length c)) (hf : w.frozen? ⟨g, 0, none⟩ = false) (hC : Kd.C (Kd.int .u8) w A l.length l) (hc : l.length ≤ c) (h0 : 0 ≤ n) (hn : n ≤ l.length) (hE : l.take n.toNat = E) (hD : l.drop n.toNat = D) :
    Calls Try.prog 72 #[.pointer (some ⟨g, 0, none⟩), .int .i64 n] w fun e w' =>
      e = .returned (.slice A E.length c) ∧ (∀ W : World, Kd.C (Kd.int .u8) W A l.length l → Kd.C (Kd.int .u8) W A E.length E) ∧ E.length ≤ c ∧ ∃ A' c', w' = w.setCell ⟨g, 0, none⟩ (.slice A' D.length c') ∧ (∀ W : World, Kd.C (Kd.int .u8) W A l.length l → Kd.C (Kd.int .u8) W A' D.length D) ∧ D.length ≤ c' := by
  subst hE hD
  exact take_ok g A c l n w hg hf hC hc h0 hn
/-! ### a block: a record of a row of entries and of the interval, at its own place -/
/-- what stands where a block lies -/
def IsBlk (w : World) (g : Nat) (l : List S47) (iv : Int) : Prop := ∃ A c, w.cell? ⟨g, 0, none⟩ = some (.slice A l.length c) ∧ w.cell? ⟨g, 1, none⟩ = some (.int .i64 iv) ∧ Kd.C k47 w A l.length l ∧ l.length ≤ c
theorem IsBlk.below {w w1 : World} {g : Nat} {l : List S47} {iv : Int} (h : IsBlk w g l iv) (hb : Below w.heap.size w w1) : IsBlk w1 g l iv := by
  obtain ⟨A, c, h1, h2, h3, h4⟩ := h
  exact ⟨A, c, (hb.cell (World.block_lt_of_cell? w _ h1)).trans h1, (hb.cell (World.block_lt_of_cell? w _ h2)).trans h2, Kd.C_below h3 hb, h4⟩
set_option maxHeartbeats 1000000 in
set_option maxRecDepth 100000 in
theorem Len_calls (g : Nat) (l : List S47) (iv : Int) (w : World) (h : IsBlk w g l iv) :
    Calls Try.prog 34 #[.pointer (some ⟨g, 0, none⟩)] w fun e w' => e = .returned (.int .i64 (l.length : Int)) ∧ w' = w := by
  obtain ⟨A, c, h1, h2, h3, h4⟩ := h
  clear h3 h4
  go_enter Try.func34, Try.ntmps34
  go_wp2
  go_ret
  exact ⟨rfl, rfl⟩
set_option maxHeartbeats 1000000 in
set_option maxRecDepth 100000 in
theorem Len_nil (w : World) : Calls Try.prog 34 #[.pointer none] w fun e w' => e = .returned (.int .i64 0) ∧ w' = w := by
  go_enter Try.func34, Try.ntmps34
  go_wp2
  go_ret
  exact ⟨rfl, rfl⟩
/-- an entry as a value -/
def kvV (x : S47) : Value := .agg #[.string x.f0.f0, .int .u64 x.f0.f1, .int .i64 x.f0.f2, .string x.f1]
set_option maxHeartbeats 1000000 in
set_option maxRecDepth 100000 in
theorem At_calls (g : Nat) (l : List S47) (iv i : Int) (w : World) (h : IsBlk w g l iv) (h0 : 0 ≤ i) (hi : i < l.length) :
    Calls Try.prog 35 #[.pointer (some ⟨g, 0, none⟩), .int .i64 i] w fun e w' => e = .returned (.tuple #[kvV (rd_T47 l i), .int .i64 0]) ∧ Below w.heap.size w w' := by
  obtain ⟨A, c, h1, h2, h3, h4⟩ := h
  obtain ⟨ad, rfl, k1, k2, k3, k4⟩ := at_T47 h3 i h0 hi
  have b1 : decide (i < 0) = false := decide_eq_false (by omega)
  have b2 : decide ((l.length : Int) ≤ i) = false := decide_eq_false (by omega)
  have b3 : decide (0 ≤ i) = true := decide_eq_true h0
  have b4 : decide (i < (l.length : Int)) = true := decide_eq_true hi
  clear h3 h4
  unfold kvV
  go_enter Try.func35, Try.ntmps35
  go_wp2_with (first
    | ((with_reducible refine gate_dst (N := 4) rfl ?_); refine box_event ?hg (N := 4) ?hd (cs := #[.string (⟨#[]⟩ : ByteArray), .int .u64 0, .int .i64 0, .string (⟨#[]⟩ : ByteArray)]) (t := 47) ?hr ?_; (case hd => rfl); (case hg => rfl); (case hr => first | (go_simp; done) | (go_simp; rfl)); intro gb hg w3 hbox hb
       have BK := Aside0.mk hbox
       have HB := Aside0.mk hb
       have q1 := (hb.cell (World.block_lt_of_cell? w _ h1)).trans h1
       have q2 := (hb.cell (World.block_lt_of_cell? w _ k1)).trans k1
       have q3 := (hb.cell (World.block_lt_of_cell? w _ k2)).trans k2
       have q4 := (hb.cell (World.block_lt_of_cell? w _ k3)).trans k3
       have q5 := (hb.cell (World.block_lt_of_cell? w _ k4)).trans k4
       have GE : Aside0 (w.heap.size ≤ gb) := ⟨by rw [hg]; exact Nat.le_refl _⟩
       clear hb hbox hg
       have hcz0 : w3.cell? ⟨gb, 0, none⟩ = some (.string (⟨#[]⟩ : ByteArray)) := (blk_cell BK.out 0).trans rfl
       have hcz1 : w3.cell? ⟨gb, 1, none⟩ = some (.int .u64 0) := (blk_cell BK.out 1).trans rfl
       have hcz2 : w3.cell? ⟨gb, 2, none⟩ = some (.int .i64 0) := (blk_cell BK.out 2).trans rfl
       have hcz3 : w3.cell? ⟨gb, 3, none⟩ = some (.string (⟨#[]⟩ : ByteArray)) := (blk_cell BK.out 3).trans rfl
       have hfz0 := blk_frozen BK.out 0
       have hfz1 := blk_frozen BK.out 1
       have hfz2 := blk_frozen BK.out 2
       have hfz3 := blk_frozen BK.out 3))
  refine bodyPost_ret (results_ct rfl _ _ gb 47 #[.string (rd_T47 l i).f0.f0, .int .u64 (rd_T47 l i).f0.f1, .int .i64 (rd_T47 l i).f0.f2, .string (rd_T47 l i).f1] (0, 0) _ rfl
    (blk_put (cs := #[.string (rd_T47 l i).f0.f0, .int .u64 (rd_T47 l i).f0.f1, .int .i64 (rd_T47 l i).f0.f2, .string (⟨#[]⟩ : ByteArray)]) (blk_put (cs := #[.string (rd_T47 l i).f0.f0, .int .u64 (rd_T47 l i).f0.f1, .int .i64 0, .string (⟨#[]⟩ : ByteArray)]) (blk_put (cs := #[.string (rd_T47 l i).f0.f0, .int .u64 0, .int .i64 0, .string (⟨#[]⟩ : ByteArray)]) (blk_put (cs := #[.string (⟨#[]⟩ : ByteArray), .int .u64 0, .int .i64 0, .string (⟨#[]⟩ : ByteArray)]) BK.out 0 _ rfl) 1 _ rfl) 2 _ rfl) 3 _ rfl) Try.underlying47 rfl (by kernel_rfl)) rfl ?_
  exact ⟨by first | rfl | simp, below_set (below_set (below_set (below_set HB.out GE.out) GE.out) GE.out) GE.out⟩
set_option maxHeartbeats 1000000 in
set_option maxRecDepth 100000 in
/-- an index that is out of it -/
theorem At_out (g : Nat) (l : List S47) (iv i : Int) (w : World) (h : IsBlk w g l iv) (h0 : i < 0 ∨ (l.length : Int) ≤ i) :
    Calls Try.prog 35 #[.pointer (some ⟨g, 0, none⟩), .int .i64 i] w fun e w' => e = .returned (.tuple #[kvV z47, .int .i64 1]) ∧ Below w.heap.size w w' := by
  obtain ⟨A, c, h1, h2, h3, h4⟩ := h
  clear h3 h4 h2
  unfold kvV
  have hu42 := Try.underlying47
  by_cases hi : i < 0
  · have b1 : decide (i < 0) = true := decide_eq_true hi
    clear h0 hi
    go_enter Try.func35, Try.ntmps35
    go_wp2_with (first
      | ((with_reducible refine gate_dst (N := 4) rfl ?_); refine box_event ?hg (N := 4) ?hd (cs := #[.string (⟨#[]⟩ : ByteArray), .int .u64 0, .int .i64 0, .string (⟨#[]⟩ : ByteArray)]) (t := 47) ?hr ?_; (case hd => rfl); (case hg => rfl); (case hr => first | (go_simp; done) | (go_simp; rfl)); intro gb hg w3 hbox hb
         have BK := Aside0.mk hbox
         have HB := Aside0.mk hb
         have q1 := (hb.cell (World.block_lt_of_cell? w _ h1)).trans h1
         have GE : Aside0 (w.heap.size ≤ gb) := ⟨by rw [hg]; exact Nat.le_refl _⟩
         clear hb hbox hg
         have hcz0 : w3.cell? ⟨gb, 0, none⟩ = some (.string (⟨#[]⟩ : ByteArray)) := (blk_cell BK.out 0).trans rfl
         have hcz1 : w3.cell? ⟨gb, 1, none⟩ = some (.int .u64 0) := (blk_cell BK.out 1).trans rfl
         have hcz2 : w3.cell? ⟨gb, 2, none⟩ = some (.int .i64 0) := (blk_cell BK.out 2).trans rfl
         have hcz3 : w3.cell? ⟨gb, 3, none⟩ = some (.string (⟨#[]⟩ : ByteArray)) := (blk_cell BK.out 3).trans rfl
         have hfz0 := blk_frozen BK.out 0
         have hfz1 := blk_frozen BK.out 1
         have hfz2 := blk_frozen BK.out 2
         have hfz3 := blk_frozen BK.out 3))
    refine bodyPost_ret (results_ct rfl _ _ gb 47 #[.string (⟨#[]⟩ : ByteArray), .int .u64 0, .int .i64 0, .string (⟨#[]⟩ : ByteArray)] (0, 0) _ rfl (blk_put (cs := #[.string (⟨#[]⟩ : ByteArray), .int .u64 0, .int .i64 0, .string (⟨#[]⟩ : ByteArray)]) (blk_put (cs := #[.string (⟨#[]⟩ : ByteArray), .int .u64 0, .int .i64 0, .string (⟨#[]⟩ : ByteArray)]) (blk_put (cs := #[.string (⟨#[]⟩ : ByteArray), .int .u64 0, .int .i64 0, .string (⟨#[]⟩ : ByteArray)]) (blk_put (cs := #[.string (⟨#[]⟩ : ByteArray), .int .u64 0, .int .i64 0, .string (⟨#[]⟩ : ByteArray)]) BK.out 0 _ rfl) 1 _ rfl) 2 _ rfl) 3 _ rfl) Try.underlying47 rfl (by kernel_rfl)) rfl ?_
    exact ⟨by first | rfl | simp [z47, z32], below_set (below_set (below_set (below_set HB.out GE.out) GE.out) GE.out) GE.out⟩

  · have b1 : decide (i < 0) = false := decide_eq_false hi
    have b2 : decide ((l.length : Int) ≤ i) = true := decide_eq_true (by omega)
    clear h0 hi
    go_enter Try.func35, Try.ntmps35
    go_wp2_with (first
      | ((with_reducible refine gate_dst (N := 4) rfl ?_); refine box_event ?hg (N := 4) ?hd (cs := #[.string (⟨#[]⟩ : ByteArray), .int .u64 0, .int .i64 0, .string (⟨#[]⟩ : ByteArray)]) (t := 47) ?hr ?_; (case hd => rfl); (case hg => rfl); (case hr => first | (go_simp; done) | (go_simp; rfl)); intro gb hg w3 hbox hb
         have BK := Aside0.mk hbox
         have HB := Aside0.mk hb
         have q1 := (hb.cell (World.block_lt_of_cell? w _ h1)).trans h1
         have GE : Aside0 (w.heap.size ≤ gb) := ⟨by rw [hg]; exact Nat.le_refl _⟩
         clear hb hbox hg
         have hcz0 : w3.cell? ⟨gb, 0, none⟩ = some (.string (⟨#[]⟩ : ByteArray)) := (blk_cell BK.out 0).trans rfl
         have hcz1 : w3.cell? ⟨gb, 1, none⟩ = some (.int .u64 0) := (blk_cell BK.out 1).trans rfl
         have hcz2 : w3.cell? ⟨gb, 2, none⟩ = some (.int .i64 0) := (blk_cell BK.out 2).trans rfl
         have hcz3 : w3.cell? ⟨gb, 3, none⟩ = some (.string (⟨#[]⟩ : ByteArray)) := (blk_cell BK.out 3).trans rfl
         have hfz0 := blk_frozen BK.out 0
         have hfz1 := blk_frozen BK.out 1
         have hfz2 := blk_frozen BK.out 2
         have hfz3 := blk_frozen BK.out 3))
    refine bodyPost_ret (results_ct rfl _ _ gb 47 #[.string (⟨#[]⟩ : ByteArray), .int .u64 0, .int .i64 0, .string (⟨#[]⟩ : ByteArray)] (0, 0) _ rfl (blk_put (cs := #[.string (⟨#[]⟩ : ByteArray), .int .u64 0, .int .i64 0, .string (⟨#[]⟩ : ByteArray)]) (blk_put (cs := #[.string (⟨#[]⟩ : ByteArray), .int .u64 0, .int .i64 0, .string (⟨#[]⟩ : ByteArray)]) (blk_put (cs := #[.string (⟨#[]⟩ : ByteArray), .int .u64 0, .int .i64 0, .string (⟨#[]⟩ : ByteArray)]) (blk_put (cs := #[.string (⟨#[]⟩ : ByteArray), .int .u64 0, .int .i64 0, .string (⟨#[]⟩ : ByteArray)]) BK.out 0 _ rfl) 1 _ rfl) 2 _ rfl) 3 _ rfl) Try.underlying47 rfl (by kernel_rfl)) rfl ?_
    exact ⟨by first | rfl | simp [z47, z32], below_set (below_set (below_set (below_set HB.out GE.out) GE.out) GE.out) GE.out⟩

set_option maxHeartbeats 1000000 in
set_option maxRecDepth 100000 in
theorem At_nil (i : Int) (w : World) :
    Calls Try.prog 35 #[.pointer none, .int .i64 i] w fun e w' => e = .returned (.tuple #[kvV z47, .int .i64 1]) ∧ Below w.heap.size w w' := by
  unfold kvV
  have hu42 := Try.underlying47
  go_enter Try.func35, Try.ntmps35
  go_wp2_with (first
    | ((with_reducible refine gate_dst (N := 4) rfl ?_); refine box_event ?hg (N := 4) ?hd (cs := #[.string (⟨#[]⟩ : ByteArray), .int .u64 0, .int .i64 0, .string (⟨#[]⟩ : ByteArray)]) (t := 47) ?hr ?_; (case hd => rfl); (case hg => rfl); (case hr => first | (go_simp; done) | (go_simp; rfl)); intro gb hg w3 hbox hb
       have BK := Aside0.mk hbox
       have HB := Aside0.mk hb
       have GE : Aside0 (w.heap.size ≤ gb) := ⟨by rw [hg]; exact Nat.le_refl _⟩
       clear hb hbox hg
       have hcz0 : w3.cell? ⟨gb, 0, none⟩ = some (.string (⟨#[]⟩ : ByteArray)) := (blk_cell BK.out 0).trans rfl
       have hcz1 : w3.cell? ⟨gb, 1, none⟩ = some (.int .u64 0) := (blk_cell BK.out 1).trans rfl
       have hcz2 : w3.cell? ⟨gb, 2, none⟩ = some (.int .i64 0) := (blk_cell BK.out 2).trans rfl
       have hcz3 : w3.cell? ⟨gb, 3, none⟩ = some (.string (⟨#[]⟩ : ByteArray)) := (blk_cell BK.out 3).trans rfl
       have hfz0 := blk_frozen BK.out 0
       have hfz1 := blk_frozen BK.out 1
       have hfz2 := blk_frozen BK.out 2
       have hfz3 := blk_frozen BK.out 3))
  refine bodyPost_ret (results_ct rfl _ _ gb 47 #[.string (⟨#[]⟩ : ByteArray), .int .u64 0, .int .i64 0, .string (⟨#[]⟩ : ByteArray)] (0, 0) _ rfl (blk_put (cs := #[.string (⟨#[]⟩ : ByteArray), .int .u64 0, .int .i64 0, .string (⟨#[]⟩ : ByteArray)]) (blk_put (cs := #[.string (⟨#[]⟩ : ByteArray), .int .u64 0, .int .i64 0, .string (⟨#[]⟩ : ByteArray)]) (blk_put (cs := #[.string (⟨#[]⟩ : ByteArray), .int .u64 0, .int .i64 0, .string (⟨#[]⟩ : ByteArray)]) (blk_put (cs := #[.string (⟨#[]⟩ : ByteArray), .int .u64 0, .int .i64 0, .string (⟨#[]⟩ : ByteArray)]) BK.out 0 _ rfl) 1 _ rfl) 2 _ rfl) 3 _ rfl) Try.underlying47 rfl (by kernel_rfl)) rfl ?_
  exact ⟨by first | rfl | simp [z47, z32], below_set (below_set (below_set (below_set HB.out GE.out) GE.out) GE.out) GE.out⟩
end Go.Proofs.Ythdemdjobgbpdaa.B
