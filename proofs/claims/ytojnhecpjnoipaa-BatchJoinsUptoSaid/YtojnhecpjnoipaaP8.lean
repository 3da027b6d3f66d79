-- By this session's wip/hprint.py: the kit's print.py with functions by hand beside it. Not trusted: Lean checks it.
import Derived.Test.YtojnhecpjnoipaaP0
import Derived.Test.YtojnhecpjnoipaaP2
import Derived.Test.YtojnhecpjnoipaaP6
import Derived.Test.YtojnhecpjnoipaaP7
namespace Go.Proofs.Ytojnhecpjnoipaa.P
open Go.RowKit Go.Proofs.YtojnhecpjnoipaaW.PrintWords Go.Proofs.YtojnhecpjnoipaaW.PrintLast Go.Proofs.YtojnhecpjnoipaaW.PrintMore
attribute [local go_sem] max2_int min2_int max_two min_two max_three min_three max_four min_four   -- for this text's walks alone
set_option linter.unusedVariables false
set_option linter.unusedSimpArgs false

/-! ### batch_Decode: function 15 -/
set_option maxHeartbeats 400000 in
set_option maxRecDepth 100000 in
theorem batch_text.calls (k gb ga gg : Nat) (A : Option Addr) (c : Nat) (l : List Int) (at_ : Int) (good : Bool) (s : ByteArray) (n e : Int) (w : World)
    (hB : w.heap[gb]? = some (.cells #[.slice A l.length c] 25 (0, 0))) (hA : w.heap[ga]? = some (.cells #[.int .i64 at_] 3 (0, 0))) (hG : w.heap[gg]? = some (.cells #[.bool good] 4 (0, 0)))
    (hr : Kd.C (Kd.int .u8) w A l.length l) (hc : l.length ≤ c) (h0 : 0 ≤ at_) (h1 : at_ ≤ l.length) (h : codec_Text.f k (l.drop at_.toNat) = some (s, n, e)) :
    Calls Try.prog 22 #[.pointer (some ⟨gb, 0, none⟩), .pointer (some ⟨ga, 0, none⟩), .pointer (some ⟨gg, 0, none⟩)] w fun ex w' => ex = .returned (.string s) ∧ (∀ B, B ≤ ga → B ≤ gg → Below B w w') ∧
      (∀ g o, g ≠ ga → g ≠ gg → w.heap[g]? = some o → w'.heap[g]? = some o) ∧ w'.heap[ga]? = some (.cells #[.int .i64 (wrap64 (at_ + n))] 3 (0, 0)) ∧ w'.heap[gg]? = some (.cells #[.bool (good && (e == 0))] 4 (0, 0)) := by
  have ne1 : ga ≠ gg := blk_ne hA hG (by decide)
  have ne2 : gb ≠ ga := blk_ne hB hA (by decide)
  have ne3 : gb ≠ gg := blk_ne hB hG (by decide)
  have cB := cell_of_one hB
  have cA := cell_of_one hA
  have cG := cell_of_one hG
  have fB := free_of_one hB
  have fA := free_of_one hA
  have fG := free_of_one hG
  obtain ⟨i5, hi5, _, hs5, _⟩ := info_parts info5
  obtain ⟨A2, hcut, hrd, hcp⟩ := print_drop_of (P := Try.prog) (Value.int .u8) (0 : Int) 25 5 .i64 Try.underlying25 hi5 hs5 A c l at_ h0 h1 hc
  have HR2 := Aside0.mk (Kd.C_of_reads (h1 := fun _ => rfl) (hrd _ (Kd.reads_of_C hr)))
  have HC2 := Aside0.mk hcp
  have HT := Aside0.mk h
  have HL : Aside0 (l.length - at_.toNat = (l.drop at_.toNat).length) := ⟨List.length_drop.symm⟩
  have HAll := Aside0.mk (And.intro hA (And.intro hG (And.intro ne1 (And.intro ne2 ne3))))
  clear hrd hcp hr hc h hi5 hs5 hA hG hB
  cases good
  · go_enter Try.func22, Try.ntmps22
    go_wp2_with (go_at_call 23; rw [HL.out]; refine (codec_Text.calls k _ _ (l.drop at_.toNat) s n e _ HR2.out HC2.out HT.out).mono ?_; rintro ex w2 ⟨rfl, ⟨nd, rfl⟩⟩)
    go_ret
    have hW : (w.drewN nd).heap = w.heap := rfl
    obtain ⟨hA, hG, ne1, ne2, ne3⟩ := HAll.out
    have hA1 : (w.drewN nd).heap[ga]? = some (.cells #[.int .i64 at_] 3 (0, 0)) := hA
    have hG1 : (w.drewN nd).heap[gg]? = some (.cells #[.bool false] 4 (0, 0)) := hG
    refine ⟨rfl, fun B b1 b2 => ?_, fun g o g1 g2 hg => ?_, ?_, ?_⟩
    · have hD : Below w.heap.size w (w.drewN nd) := Drawn0.below ⟨⟨nd, rfl⟩⟩
      have hlt := blk_lt hA
      have hD2 : Below B w (w.drewN nd) := ⟨hD.os, hD.tape, hD.output, hD.size, fun k hk => hD.block k (by omega)⟩
      exact (hD2.setCell b1 _).setCell b2 _
    · exact ((Below.heap_setCell _ _ _ g g2).trans (Below.heap_setCell _ _ _ g g1)).trans hg
    · exact blk_far (one_setCell hA1) ne1 _
    · exact one_setCell (blk_far hG1 (Ne.symm ne1) _)
  · go_enter Try.func22, Try.ntmps22
    go_wp2_with (go_at_call 23; rw [HL.out]; refine (codec_Text.calls k _ _ (l.drop at_.toNat) s n e _ HR2.out HC2.out HT.out).mono ?_; rintro ex w2 ⟨rfl, ⟨nd, rfl⟩⟩)
    go_ret
    have hW : (w.drewN nd).heap = w.heap := rfl
    obtain ⟨hA, hG, ne1, ne2, ne3⟩ := HAll.out
    have hA1 : (w.drewN nd).heap[ga]? = some (.cells #[.int .i64 at_] 3 (0, 0)) := hA
    have hG1 : (w.drewN nd).heap[gg]? = some (.cells #[.bool true] 4 (0, 0)) := hG
    refine ⟨rfl, fun B b1 b2 => ?_, fun g o g1 g2 hg => ?_, ?_, ?_⟩
    · have hD : Below w.heap.size w (w.drewN nd) := Drawn0.below ⟨⟨nd, rfl⟩⟩
      have hlt := blk_lt hA
      have hD2 : Below B w (w.drewN nd) := ⟨hD.os, hD.tape, hD.output, hD.size, fun k hk => hD.block k (by omega)⟩
      exact (hD2.setCell b1 _).setCell b2 _
    · exact ((Below.heap_setCell _ _ _ g g2).trans (Below.heap_setCell _ _ _ g g1)).trans hg
    · exact blk_far (one_setCell hA1) ne1 _
    · exact one_setCell (blk_far hG1 (Ne.symm ne1) _)
/-- behind the loop -/
def batch_Decode.p (k : Nat) (l0 : List Int) (q : Int) (ops : List S39) (at_ : Int) (good : Bool) : Option (Int × (List S39) × Int) :=
  if good = true then (if at_ = (l0.length : Int) then ((batch_Encode.f k q ops).bind fun t => (if t.2 = 0 then ((bytes_Equal.f t.1 l0).bind fun b => (if b = true then (some (q, ops, 0)) else (some (0, ([] : List S39), 32)))) else (some (0, ([] : List S39), 32)))) else (some (0, ([] : List S39), 32))) else (some (0, ([] : List S39), 32))
/-- the loop's rounds -/
def batch_Decode.l : Nat → List Int → Int → Int → List S39 → Int → Bool → Int → Option (Int × (List S39) × Int)
  | 0, _, _, _, _, _, _, _ => none
  | k + 1, l0, q, cnt, ops, at_, good, i =>
    if i < cnt then
      (if (good && decide (at_ < (l0.length : Int))) = true then
        (if 0 ≤ at_ then (if 0 ≤ wrap64 (at_ + 1) then (if wrap64 (at_ + 1) ≤ (l0.length : Int) then
          ((codec_Text.f k (l0.drop (wrap64 (at_ + 1)).toNat)).bind fun t =>
            (if (wrap64 (rd l0 at_) == 1 && t.2.2 == 0) = true then
              (if 0 ≤ wrap64 (wrap64 (at_ + 1) + t.2.1) then (if wrap64 (wrap64 (at_ + 1) + t.2.1) ≤ (l0.length : Int) then
                ((codec_Text.f k (l0.drop (wrap64 (wrap64 (at_ + 1) + t.2.1)).toNat)).bind fun u =>
                  (if ops.length < 3518437208883 then (batch_Decode.l k l0 q cnt (ops ++ [(⟨wrap64 (rd l0 at_), t.1, u.1⟩ : S39)]) (wrap64 (wrap64 (wrap64 (at_ + 1) + t.2.1) + u.2.1)) (u.2.2 == 0) (i + 1)) else (none)))
              else (none)) else (none))
            else (if ops.length < 3518437208883 then (batch_Decode.l k l0 q cnt (ops ++ [(⟨wrap64 (rd l0 at_), t.1, (⟨#[]⟩ : ByteArray)⟩ : S39)]) (wrap64 (wrap64 (at_ + 1) + t.2.1)) (t.2.2 == 0) (i + 1)) else (none))))
          else (none)) else (none)) else (none))
      else (batch_Decode.p k l0 q ops at_ false))
    else (batch_Decode.p k l0 q ops at_ good)
def batch_Decode.f (k : Nat) (l0 : List Int) : Option (Int × (List S39) × Int) :=
  (codec_Fixed.f k l0 8).bind fun t => (if t.2 = 0 then (if (l0.length : Int) < 12 then (some (0, ([] : List S39), 32)) else ((codec_Fixed.f k (l0.drop 8) 4).bind fun u => (batch_Decode.l k l0 t.1 (if 65 < u.1 then 65 else u.1) ([] : List S39) 12 true 0))) else (some (0, ([] : List S39), 32)))
theorem batch_Decode.mono_p (k : Nat) (l0 : List Int) (q : Int) (ops : List S39) (at_ : Int) (good : Bool) : LeO (batch_Decode.p k l0 q ops at_ good) (batch_Decode.p (k + 1) l0 q ops at_ good) := by
  unfold batch_Decode.p
  repeat' first
    | (with_reducible exact LeO.refl _)
    | (with_reducible exact batch_Encode.mono _ _ _)
    | (with_reducible refine LeO.ite ?_ ?_)
    | (with_reducible refine LeO.bind ?_ (fun _ => ?_))
theorem batch_Decode.mono_l : ∀ k, (∀ l0 q cnt ops at_ good i, LeO (batch_Decode.l k l0 q cnt ops at_ good i) (batch_Decode.l (k + 1) l0 q cnt ops at_ good i))
  | 0 => fun _ _ _ _ _ _ _ r h => by simp [batch_Decode.l] at h
  | k + 1 => by
    have ih := batch_Decode.mono_l k
    intro l0 q cnt ops at_ good i
    unfold batch_Decode.l
    repeat' first
      | (with_reducible exact ih _ _ _ _ _ _ _)
      | (with_reducible exact batch_Decode.mono_p _ _ _ _ _ _)
      | (with_reducible exact codec_Text.mono _ _)
      | (with_reducible exact LeO.refl _)
      | (with_reducible exact LeO.none _)
      | (with_reducible refine LeO.ite ?_ ?_)
      | (with_reducible refine LeO.bind ?_ (fun _ => ?_))
theorem batch_Decode.mono : ∀ a0 k, LeO (batch_Decode.f k a0) (batch_Decode.f (k + 1) a0) := by
  intro a0 k
  unfold batch_Decode.f
  repeat' first
      | (with_reducible exact batch_Decode.mono_l _ _ _ _ _ _ _ _)
      | (with_reducible exact codec_Fixed.mono _ _ _)
      | (with_reducible exact LeO.refl _)
      | (with_reducible refine LeO.ite ?_ ?_)
      | (with_reducible refine LeO.bind ?_ (fun _ => ?_))
set_option maxHeartbeats 800000 in
set_option maxRecDepth 100000 in
theorem batch_Decode_loop (k : Nat) (A0 : Option Addr) (c0 : Nat) (l0 : List Int) (q1 q2 e2 cnt : Int) (r1 r3 : Int) (r2 : List S39) (w : World) (hr0 : Kd.C (Kd.int .u8) w A0 l0.length l0) (hc0 : l0.length ≤ c0) (hlen : 12 ≤ l0.length)
    (hF1 : codec_Fixed.f k l0 8 = some (q1, 0)) (hF2 : codec_Fixed.f k (l0.drop 8) 4 = some (q2, e2)) (hcnt : (65 < q2 ∧ cnt = 65) ∨ (¬ 65 < q2 ∧ cnt = q2)) (hl : batch_Decode.l k l0 q1 cnt [] 12 true 0 = some (r1, r2, r3)) :
    Calls Try.prog 15 #[.slice A0 l0.length c0] w fun e w' => ∃ v1_ : Value, e = .returned (.tuple #[.int .u64 r1, v1_, .int .i64 r3]) ∧ Kd.R k39 39 w' w.heap.size (fun k_ => (w.heap.size ≤ k_)) v1_ r2 ∧ Below w.heap.size w w' := by
  have hl1 : decide ((l0.length : Int) < 12) = false := decide_eq_false (by omega)
  have hl2 : decide (l0.length < 12) = false := decide_eq_false (by omega)
  obtain ⟨i5, hi5, _, hs5, _⟩ := info_parts info5
  obtain ⟨A2, hcut, hrd, hcp⟩ := print_drop_of (P := Try.prog) (Value.int .u8) (0 : Int) 25 5 .i64 Try.underlying25 hi5 hs5 A0 c0 l0 8 (by decide) (by omega) hc0
  have HR0 := Aside0.mk hr0
  have HC0 := Aside0.mk hc0
  have HR2 : Aside0 (∀ W : World, Kd.C (Kd.int .u8) W A0 l0.length l0 → Kd.C (Kd.int .u8) W A2 (l0.drop 8).length (l0.drop 8)) := ⟨fun W hW => Kd.C_of_reads (h1 := fun _ => rfl) (hrd W (Kd.reads_of_C hW))⟩
  have HC2 := Aside0.mk hcp
  have HF1 := Aside0.mk hF1
  have HF2 := Aside0.mk hF2
  have HL : Aside0 (l0.length - 8 = (l0.drop 8).length) := ⟨List.length_drop.symm⟩
  have HLL := Aside0.mk hl
  clear hrd hcp hr0 hc0 hF1 hF2 hi5 hs5 hlen hl
  have hmin : (if (65 : Int) < q2 then 65 else q2) = cnt := by
    rcases hcnt with ⟨a, b⟩ | ⟨a, b⟩
    · rw [if_pos a, b]
    · rw [if_neg a, b]
  have HC65 : Aside0 (cnt ≤ 65) := ⟨by omega⟩
  clear hcnt
  go_enter Try.func15, Try.ntmps15
  go_wp2_with fail
  refine wp_scope_straight ?_
  go_wp2_with (first
    | (go_at_call 21; with_reducible refine (codec_Fixed.calls k _ _ l0 8 q1 0 _ (Kd.C_alloc HR0.out _) HC0.out HF1.out).mono ?_; rintro ex w2 ⟨rfl, ⟨nd, rfl⟩⟩)
    | (go_at_call 21; rw [HL.out]; with_reducible refine (codec_Fixed.calls k _ _ (l0.drop 8) 4 q2 e2 _ (HR2.out _ (Kd.C_drewN (Kd.C_alloc HR0.out _) _)) HC2.out HF2.out).mono ?_; rintro ex w3 ⟨rfl, ⟨nd2, rfl⟩⟩))
  refine wp_label ?_
  go_wp2
  generalize hX : (w.alloc (.cells #[.slice A0 l0.length c0] 25)).drewN (nd + nd2) = X
  have hXs : X.heap.size = w.heap.size + 1 := by rw [← hX]; show (w.heap.push _).size = _; exact Array.size_push ..
  have hXb : X.heap[w.heap.size]? = some (.cells #[.slice A0 l0.length c0] 25 (0, 0)) := by rw [← hX]; exact blk_drewN (blk_new w _) _
  have hXB : Below w.heap.size w X := by rw [← hX]; exact Drawn0.below ⟨⟨_, rfl⟩⟩ |> fun h => below_step (below_alloc (Below.refl _ _) _) h
  generalize hW : (X.alloc (.cells #[.int .i64 12] 3)).alloc (.cells #[.bool true] 4) = W
  have BB : Aside0 (W.heap[w.heap.size]? = some (.cells #[.slice A0 l0.length c0] 25 (0, 0))) := ⟨by rw [← hW]; exact blk_alloc (blk_alloc hXb _) _⟩
  have BA : Aside0 (W.heap[w.heap.size + 1]? = some (.cells #[.int .i64 12] 3 (0, 0))) := ⟨by rw [← hW, ← hXs]; exact heap_alloc2_old _ _ _⟩
  have BG : Aside0 (W.heap[w.heap.size + 1 + 1]? = some (.cells #[.bool true] 4 (0, 0))) := ⟨by rw [← hW, ← hXs]; exact heap_alloc2_new _ _ _⟩
  have HBW : Aside0 (Below w.heap.size w W) := ⟨by rw [← hW]; exact below_alloc (below_alloc hXB _) _⟩
  clear hX hXs hXb hXB hW hcut hmin
  go_loopg [3, 35] k (fun g s3 s35 wx => ∃ (ops : List S39) (at_ : Int) (good : Bool) (i : Int), s35 = .int .u64 i ∧ Aside0 (batch_Decode.l g l0 q1 cnt ops at_ good i = some (r1, r2, r3)) ∧
    Aside0 (Kd.R k39 39 wx w.heap.size (fun k_ => w.heap.size ≤ k_ ∧ k_ ≠ w.heap.size ∧ k_ ≠ w.heap.size + 1 ∧ k_ ≠ w.heap.size + 1 + 1) s3 ops) ∧
    Aside0 (wx.heap[w.heap.size]? = some (.cells #[.slice A0 l0.length c0] 25 (0, 0))) ∧ Aside0 (wx.heap[w.heap.size + 1]? = some (.cells #[.int .i64 at_] 3 (0, 0))) ∧
    Aside0 (wx.heap[w.heap.size + 1 + 1]? = some (.cells #[.bool good] 4 (0, 0))) ∧ Aside0 (Below w.heap.size w wx) ∧ Aside0 (0 ≤ i))
  case atStart => exact ⟨[], 12, true, 0, rfl, HLL, ⟨Kd.R_nil _ _ _ _ _⟩, BB, BA, BG, HBW, ⟨by decide⟩⟩
  case round =>
    obtain ⟨ops, at_, good, i, rfl, HF, HO, HB1, HA1, HG1, HBel, HI⟩ := hrel
    clear BB BA BG HBW HLL
    cases gk with
    | zero => exact absurd HF.out (by simp [batch_Decode.l])
    | succ g =>
      have H := HF.out
      simp only [batch_Decode.l] at H
      have cB := cell_of_one HB1.out
      have cA := cell_of_one HA1.out
      have cG := cell_of_one HG1.out
      have fB := free_of_one HB1.out
      have fA := free_of_one HA1.out
      have fG := free_of_one HG1.out
      by_cases hi : i < cnt
      · rw [if_pos hi] at H
        have hib : decide (i < cnt) = true := decide_eq_true hi
        by_cases hg : (good && decide (at_ < (l0.length : Int))) = true
        · rw [if_pos hg] at H
          have HIC := Aside0.mk hi
          clear hi
          obtain ⟨hg1, hg2⟩ : good = true ∧ at_ < (l0.length : Int) := by simpa using hg
          clear hg
          subst hg1
          have hlt : decide (at_ < (l0.length : Int)) = true := decide_eq_true hg2
          by_cases h0 : 0 ≤ at_
          · rw [if_pos h0] at H
            by_cases h1 : 0 ≤ wrap64 (at_ + 1)
            · rw [if_pos h1] at H
              by_cases h2 : wrap64 (at_ + 1) ≤ (l0.length : Int)
              · rw [if_pos h2] at H
                rcases hT : codec_Text.f g (l0.drop (wrap64 (at_ + 1)).toNat) with _ | ⟨s1, n1, e1⟩
                · rw [hT] at H; cases H
                rw [hT, Option.bind_some] at H
                dsimp only at H
                have HT1 := Aside0.mk hT
                have H12 := Aside0.mk (And.intro h1 h2)
                rcases hkb : (wrap64 (rd l0 at_) == 1) with _ | _
                · rw [hkb, Bool.false_and, if_neg (by decide)] at H
                  by_cases hol : ops.length < 3518437208883
                  · rw [if_pos hol] at H
                    have HH := Aside0.mk H
                    have HOL := Aside0.mk hol
                    clear hol
                    obtain ⟨ad, eA, hcell⟩ := Kd.at_int (Kd.C_below HR0.out HBel.out) at_ h0 hg2
                    have p1 : (0 ≤ at_) = True := eq_true h0
                    have p2 : (at_ < (l0.length : Int)) = True := eq_true hg2
                    obtain ⟨ad', eA', hcw⟩ := Kd.at_int HR0.out at_ h0 hg2
                    have hblt := World.block_lt_of_cell? _ _ hcw
                    obtain rfl : ad = ad' := Option.some.inj (eA.symm.trans eA')
                    have hne : (ad.add at_.toNat).block ≠ w.heap.size + 1 + 1 := by omega
                    have hcell2 : (wr.setCell ⟨w.heap.size + 1 + 1, 0, none⟩ (.bool true)).cell? (ad.add at_.toNat) = some (.int .u8 (rd l0 at_)) := (cell_far hne _).trans hcell
                    have HBL := Aside0.mk hblt
                    have HB2 : (wr.setCell ⟨w.heap.size + 1 + 1, 0, none⟩ (.bool true)).heap[w.heap.size]? = some (.cells #[.slice A0 l0.length c0] 25 (0, 0)) := blk_far HB1.out (by show w.heap.size ≠ w.heap.size + 1 + 1; omega) _
                    have HA2 : (wr.setCell ⟨w.heap.size + 1 + 1, 0, none⟩ (.bool true)).heap[w.heap.size + 1]? = some (.cells #[.int .i64 at_] 3 (0, 0)) := blk_far HA1.out (by show w.heap.size + 1 ≠ w.heap.size + 1 + 1; omega) _
                    have HG2 : (wr.setCell ⟨w.heap.size + 1 + 1, 0, none⟩ (.bool true)).heap[w.heap.size + 1 + 1]? = some (.cells #[.bool true] 4 (0, 0)) := one_setCell HG1.out
                    have cA2 := cell_of_one HA2
                    have fA2 := free_of_one HA2
                    have cB2 := cell_of_one HB2
                    have fB2 := free_of_one HB2
                    have HKK := Aside0.mk (And.intro HB2 (And.intro HA2 HG2))
                    have cA3 : ∀ o : Obj, ((wr.setCell ⟨w.heap.size + 1 + 1, 0, none⟩ (.bool true)).alloc o).cell? ⟨w.heap.size + 1, 0, none⟩ = some (.int .i64 at_) := fun o => (World.cell?_alloc_lt _ _ _ (World.block_lt_of_cell? _ _ cA2)).trans cA2
                    have fA3 : ∀ o : Obj, ((wr.setCell ⟨w.heap.size + 1 + 1, 0, none⟩ (.bool true)).alloc o).frozen? ⟨w.heap.size + 1, 0, none⟩ = false := fun o => free_of_one (blk_alloc HA2 o)
                    clear HB2 HA2 HG2
                    subst eA
                    clear hT H h1 h2 h0 hg2 eA' hcw hblt hne
                    have hszb := blk_lt HG1.out
                    go_wp2_with fail
                    (go_at_call 22; refine (batch_text.calls g w.heap.size (w.heap.size + 1) (w.heap.size + 1 + 1) (some ad) c0 l0 (wrap64 (at_ + 1)) true s1 n1 e1 _ (blk_far (blk_alloc HKK.out.1 _) (by show w.heap.size ≠ w.heap.size + 1; omega) _) (one_setCell (blk_alloc HKK.out.2.1 _)) (blk_far (blk_alloc HKK.out.2.2 _) (by show w.heap.size + 1 + 1 ≠ w.heap.size + 1; omega) _) (Kd.C_below HR0.out (below_set (below_alloc (below_set HBel.out (by omega)) _) (by omega))) HC0.out H12.out.1 H12.out.2 HT1.out).mono ?_; rintro ex w6 ⟨rfl, hb6, hk6, ha6, hg6⟩)
                    rw [Bool.true_and] at hg6
                    have hO6 : w6.heap[wr.heap.size]? = some (.cells #[.int .i64 (wrap64 (rd l0 at_)), .string ⟨#[]⟩, .string ⟨#[]⟩] 39 (0, 0)) := hk6 _ _ (by omega) (by omega) (blk_far (by have hn := blk_new (wr.setCell ⟨w.heap.size + 1 + 1, 0, none⟩ (.bool true)) (.cells #[.int .i64 (wrap64 (rd l0 at_)), .string ⟨#[]⟩, .string ⟨#[]⟩] 39); rwa [World.size_setCell] at hn) (by show wr.heap.size ≠ w.heap.size + 1; omega) _)
                    have hB6 := hk6 w.heap.size _ (by omega) (by omega) (blk_far (blk_alloc HKK.out.1 _) (by show w.heap.size ≠ w.heap.size + 1; omega) _)
                    have hBel6 : Below w.heap.size w w6 := Below.trans (below_set (below_alloc (below_set HBel.out (by omega)) _) (by omega)) (hb6 w.heap.size (by omega) (by omega))
                    have hR6 := Kd.R_step (Kd.R_far (p := ⟨w.heap.size + 1, 0, none⟩) (Kd.R_alloc (Kd.R_far (p := ⟨w.heap.size + 1 + 1, 0, none⟩) (Kd.R_elderB HO.out wr.heap.size (Nat.le_refl _)) (fun _ hk => hk.1.2.2.2) (.bool true)) (.cells #[.int .i64 (wrap64 (rd l0 at_)), .string ⟨#[]⟩, .string ⟨#[]⟩] 39)) (fun _ hk => hk.1.2.2.1) (.int .i64 (wrap64 (at_ + 1)))) (fun k_ hk hlt => (hk6 k_ _ hk.1.2.2.1 hk.1.2.2.2 (Array.getElem?_eq_getElem hlt)).trans (Array.getElem?_eq_getElem hlt).symm)
                    have HO6 := Aside0.mk (blk_put (cs' := #[.int .i64 (wrap64 (rd l0 at_)), .string s1, .string ⟨#[]⟩]) hO6 1 (.string s1) rfl)
                    have HB6 := Aside0.mk (blk_far hB6 (p := ⟨wr.heap.size, 1, none⟩) (by show w.heap.size ≠ wr.heap.size; omega) (.string s1))
                    have HA6 := Aside0.mk (blk_far ha6 (p := ⟨wr.heap.size, 1, none⟩) (by show w.heap.size + 1 ≠ wr.heap.size; omega) (.string s1))
                    have HG6 := Aside0.mk (blk_far hg6 (p := ⟨wr.heap.size, 1, none⟩) (by show w.heap.size + 1 + 1 ≠ wr.heap.size; omega) (.string s1))
                    have HBel6 := Aside0.mk (below_set (g := wr.heap.size) (j := 1) (v := .string s1) hBel6 (by omega))
                    have HR6 := Aside0.mk (Kd.R_far (p := ⟨wr.heap.size, 1, none⟩) hR6 (fun _ hk => hk.2) (.string s1))
                    have cO61 := (blk_cell hO6 1).trans rfl
                    have fO61 := blk_frozen hO6 1
                    have HNE := Aside0.mk (And.intro (show wr.heap.size ≠ w.heap.size + 1 by omega) (And.intro (show wr.heap.size ≠ w.heap.size + 1 + 1 by omega) (And.intro (show wr.heap.size ≠ w.heap.size by omega) (show w.heap.size ≤ wr.heap.size by omega))))
                    clear hO6 hB6 hBel6 hR6 hb6 hk6 ha6 hg6 hszb
                    go_wp2_with (first | ((with_reducible refine gate_store (t := 9) (p := 56) rfl ?_); refine store_event (t := 9) (p := 56) (v := ?vo) (w1 := w6.setCell ⟨wr.heap.size, 1, none⟩ (.string s1)) ?hg ?ho ?hn ?hr ?_; (case ho => rfl); (case hg => rfl); (case hn => rfl); (case hr => first | (go_simp; done) | (go_simp; rfl)); intro w7 hw7; rw [← hw7] at HO6 HB6 HA6 HG6 HBel6 HR6; clear hw7; have cO70 := (blk_cell HO6.out 0).trans rfl; have cO71 := (blk_cell HO6.out 1).trans rfl; have cO72 := (blk_cell HO6.out 2).trans rfl; have fO70 := blk_frozen HO6.out 0; have fO71 := blk_frozen HO6.out 1; have fO72 := blk_frozen HO6.out 2; have cA7 := cell_of_one HA6.out; have cG7 := cell_of_one HG6.out; have fA7 := free_of_one HA6.out; have fG7 := free_of_one HG6.out) | ((with_reducible refine gate_builtin (b := .append) (xs := #[.tmp 66, .tmp 68]) rfl ?_); at_builtin; refine Kd.R_append k39 (w0 := w) w.heap.size rfl (.tmp 66) (.tmp 68) 24 39 (.agg #[(.int .i64 0), (.string ⟨#[]⟩), (.string ⟨#[]⟩)]) 40 rfl Try.underlying24 info39 rfl (by decide) (by omega) _ ops (⟨wrap64 (rd l0 at_), s1, (⟨#[]⟩ : ByteArray)⟩ : S39) [.int .i64 (wrap64 (rd l0 at_)), .string s1, .string (⟨#[]⟩ : ByteArray)] (fun k_ => (w.heap.size ≤ k_ ∧ k_ ≠ w.heap.size ∧ k_ ≠ w.heap.size + 1 ∧ k_ ≠ w.heap.size + 1 + 1) ∧ k_ ≠ wr.heap.size) (fun _ => False) rfl rfl ?aP (fun _ hk => hk.elim) ?aF ?aO ?aB ?aS ?aL ?_; (case aP => exact k39_mkM _ _ _ (⟨wrap64 (rd l0 at_), s1, (⟨#[]⟩ : ByteArray)⟩ : S39)); (case aB => exact HBel6.out); (case aF => exact (fun k_ hk => by have q1 := blk_lt HO6.out; have q2 := blk_lt HB6.out; have q3 := blk_lt HA6.out; have q4 := blk_lt HG6.out; refine ⟨⟨?_, ?_, ?_, ?_⟩, ?_⟩ <;> omega)); (case aO => exact HR6.out); (case aS => exact below_size HBel6.out); (case aL => have := HOL.out; omega); intro v8 w8 ho hb hg hat; have HB8 := Aside0.mk (blk_grown HB6.out hg (Kd.R_away HR6.out (fun _ hk => hk.1.2.1))); have HA8 := Aside0.mk (blk_grown HA6.out hg (Kd.R_away HR6.out (fun _ hk => hk.1.2.2.1))); have HG8 := Aside0.mk (blk_grown HG6.out hg (Kd.R_away HR6.out (fun _ hk => hk.1.2.2.2))); clear hg; have HR8 := Aside0.mk ho; have HBel8 := Aside0.mk hb; clear ho hb hat))
                    go_roundg g
                    case measure => omega
                    case rel => exact ⟨_, _, _, i + 1, by rw [IntWalk.u64_in _ ⟨by have := HI.out; omega, by have := HIC.out; have := HC65.out; omega⟩], HH, ⟨Kd.R_mono HR8.out (fun _ hk => hk.1)⟩, HB8, HA8, HG8, HBel8, ⟨by have := HI.out; omega⟩⟩
                  · rw [if_neg hol] at H; cases H
                · rw [hkb, Bool.true_and] at H
                  rcases he : (e1 == 0) with _ | _
                  · rw [he, if_neg (by decide)] at H
                    by_cases hol : ops.length < 3518437208883
                    · rw [if_pos hol] at H
                      rw [← he] at H
                      have HH := Aside0.mk H
                      have HOL := Aside0.mk hol
                      clear hol
                      obtain ⟨ad, eA, hcell⟩ := Kd.at_int (Kd.C_below HR0.out HBel.out) at_ h0 hg2
                      have p1 : (0 ≤ at_) = True := eq_true h0
                      have p2 : (at_ < (l0.length : Int)) = True := eq_true hg2
                      obtain ⟨ad', eA', hcw⟩ := Kd.at_int HR0.out at_ h0 hg2
                      have hblt := World.block_lt_of_cell? _ _ hcw
                      obtain rfl : ad = ad' := Option.some.inj (eA.symm.trans eA')
                      have hne : (ad.add at_.toNat).block ≠ w.heap.size + 1 + 1 := by omega
                      have hcell2 : (wr.setCell ⟨w.heap.size + 1 + 1, 0, none⟩ (.bool true)).cell? (ad.add at_.toNat) = some (.int .u8 (rd l0 at_)) := (cell_far hne _).trans hcell
                      have HBL := Aside0.mk hblt
                      have HB2 : (wr.setCell ⟨w.heap.size + 1 + 1, 0, none⟩ (.bool true)).heap[w.heap.size]? = some (.cells #[.slice A0 l0.length c0] 25 (0, 0)) := blk_far HB1.out (by show w.heap.size ≠ w.heap.size + 1 + 1; omega) _
                      have HA2 : (wr.setCell ⟨w.heap.size + 1 + 1, 0, none⟩ (.bool true)).heap[w.heap.size + 1]? = some (.cells #[.int .i64 at_] 3 (0, 0)) := blk_far HA1.out (by show w.heap.size + 1 ≠ w.heap.size + 1 + 1; omega) _
                      have HG2 : (wr.setCell ⟨w.heap.size + 1 + 1, 0, none⟩ (.bool true)).heap[w.heap.size + 1 + 1]? = some (.cells #[.bool true] 4 (0, 0)) := one_setCell HG1.out
                      have cA2 := cell_of_one HA2
                      have fA2 := free_of_one HA2
                      have cB2 := cell_of_one HB2
                      have fB2 := free_of_one HB2
                      have HKK := Aside0.mk (And.intro HB2 (And.intro HA2 HG2))
                      have cA3 : ∀ o : Obj, ((wr.setCell ⟨w.heap.size + 1 + 1, 0, none⟩ (.bool true)).alloc o).cell? ⟨w.heap.size + 1, 0, none⟩ = some (.int .i64 at_) := fun o => (World.cell?_alloc_lt _ _ _ (World.block_lt_of_cell? _ _ cA2)).trans cA2
                      have fA3 : ∀ o : Obj, ((wr.setCell ⟨w.heap.size + 1 + 1, 0, none⟩ (.bool true)).alloc o).frozen? ⟨w.heap.size + 1, 0, none⟩ = false := fun o => free_of_one (blk_alloc HA2 o)
                      clear HB2 HA2 HG2
                      subst eA
                      clear hT H h1 h2 h0 hg2 eA' hcw hblt hne
                      have hszb := blk_lt HG1.out
                      go_wp2_with fail
                      (go_at_call 22; refine (batch_text.calls g w.heap.size (w.heap.size + 1) (w.heap.size + 1 + 1) (some ad) c0 l0 (wrap64 (at_ + 1)) true s1 n1 e1 _ (blk_far (blk_alloc HKK.out.1 _) (by show w.heap.size ≠ w.heap.size + 1; omega) _) (one_setCell (blk_alloc HKK.out.2.1 _)) (blk_far (blk_alloc HKK.out.2.2 _) (by show w.heap.size + 1 + 1 ≠ w.heap.size + 1; omega) _) (Kd.C_below HR0.out (below_set (below_alloc (below_set HBel.out (by omega)) _) (by omega))) HC0.out H12.out.1 H12.out.2 HT1.out).mono ?_; rintro ex w6 ⟨rfl, hb6, hk6, ha6, hg6⟩)
                      rw [Bool.true_and] at hg6
                      have hO6 : w6.heap[wr.heap.size]? = some (.cells #[.int .i64 (wrap64 (rd l0 at_)), .string ⟨#[]⟩, .string ⟨#[]⟩] 39 (0, 0)) := hk6 _ _ (by omega) (by omega) (blk_far (by have hn := blk_new (wr.setCell ⟨w.heap.size + 1 + 1, 0, none⟩ (.bool true)) (.cells #[.int .i64 (wrap64 (rd l0 at_)), .string ⟨#[]⟩, .string ⟨#[]⟩] 39); rwa [World.size_setCell] at hn) (by show wr.heap.size ≠ w.heap.size + 1; omega) _)
                      have hB6 := hk6 w.heap.size _ (by omega) (by omega) (blk_far (blk_alloc HKK.out.1 _) (by show w.heap.size ≠ w.heap.size + 1; omega) _)
                      have hBel6 : Below w.heap.size w w6 := Below.trans (below_set (below_alloc (below_set HBel.out (by omega)) _) (by omega)) (hb6 w.heap.size (by omega) (by omega))
                      have hR6 := Kd.R_step (Kd.R_far (p := ⟨w.heap.size + 1, 0, none⟩) (Kd.R_alloc (Kd.R_far (p := ⟨w.heap.size + 1 + 1, 0, none⟩) (Kd.R_elderB HO.out wr.heap.size (Nat.le_refl _)) (fun _ hk => hk.1.2.2.2) (.bool true)) (.cells #[.int .i64 (wrap64 (rd l0 at_)), .string ⟨#[]⟩, .string ⟨#[]⟩] 39)) (fun _ hk => hk.1.2.2.1) (.int .i64 (wrap64 (at_ + 1)))) (fun k_ hk hlt => (hk6 k_ _ hk.1.2.2.1 hk.1.2.2.2 (Array.getElem?_eq_getElem hlt)).trans (Array.getElem?_eq_getElem hlt).symm)
                      have HO6 := Aside0.mk (blk_put (cs' := #[.int .i64 (wrap64 (rd l0 at_)), .string s1, .string ⟨#[]⟩]) hO6 1 (.string s1) rfl)
                      have HB6 := Aside0.mk (blk_far hB6 (p := ⟨wr.heap.size, 1, none⟩) (by show w.heap.size ≠ wr.heap.size; omega) (.string s1))
                      have HA6 := Aside0.mk (blk_far ha6 (p := ⟨wr.heap.size, 1, none⟩) (by show w.heap.size + 1 ≠ wr.heap.size; omega) (.string s1))
                      have HG6 := Aside0.mk (blk_far hg6 (p := ⟨wr.heap.size, 1, none⟩) (by show w.heap.size + 1 + 1 ≠ wr.heap.size; omega) (.string s1))
                      have HBel6 := Aside0.mk (below_set (g := wr.heap.size) (j := 1) (v := .string s1) hBel6 (by omega))
                      have HR6 := Aside0.mk (Kd.R_far (p := ⟨wr.heap.size, 1, none⟩) hR6 (fun _ hk => hk.2) (.string s1))
                      have cO61 := (blk_cell hO6 1).trans rfl
                      have fO61 := blk_frozen hO6 1
                      have HNE := Aside0.mk (And.intro (show wr.heap.size ≠ w.heap.size + 1 by omega) (And.intro (show wr.heap.size ≠ w.heap.size + 1 + 1 by omega) (And.intro (show wr.heap.size ≠ w.heap.size by omega) (show w.heap.size ≤ wr.heap.size by omega))))
                      clear hO6 hB6 hBel6 hR6 hb6 hk6 ha6 hg6 hszb
                      go_wp2_with (first | ((with_reducible refine gate_store (t := 9) (p := 56) rfl ?_); refine store_event (t := 9) (p := 56) (v := ?vo) (w1 := w6.setCell ⟨wr.heap.size, 1, none⟩ (.string s1)) ?hg ?ho ?hn ?hr ?_; (case ho => rfl); (case hg => rfl); (case hn => rfl); (case hr => first | (go_simp; done) | (go_simp; rfl)); intro w7 hw7; rw [← hw7] at HO6 HB6 HA6 HG6 HBel6 HR6; clear hw7; have cO70 := (blk_cell HO6.out 0).trans rfl; have cO71 := (blk_cell HO6.out 1).trans rfl; have cO72 := (blk_cell HO6.out 2).trans rfl; have fO70 := blk_frozen HO6.out 0; have fO71 := blk_frozen HO6.out 1; have fO72 := blk_frozen HO6.out 2; have cA7 := cell_of_one HA6.out; have cG7 := cell_of_one HG6.out; have fA7 := free_of_one HA6.out; have fG7 := free_of_one HG6.out) | ((with_reducible refine gate_builtin (b := .append) (xs := #[.tmp 66, .tmp 68]) rfl ?_); at_builtin; refine Kd.R_append k39 (w0 := w) w.heap.size rfl (.tmp 66) (.tmp 68) 24 39 (.agg #[(.int .i64 0), (.string ⟨#[]⟩), (.string ⟨#[]⟩)]) 40 rfl Try.underlying24 info39 rfl (by decide) (by omega) _ ops (⟨wrap64 (rd l0 at_), s1, (⟨#[]⟩ : ByteArray)⟩ : S39) [.int .i64 (wrap64 (rd l0 at_)), .string s1, .string (⟨#[]⟩ : ByteArray)] (fun k_ => (w.heap.size ≤ k_ ∧ k_ ≠ w.heap.size ∧ k_ ≠ w.heap.size + 1 ∧ k_ ≠ w.heap.size + 1 + 1) ∧ k_ ≠ wr.heap.size) (fun _ => False) rfl rfl ?aP (fun _ hk => hk.elim) ?aF ?aO ?aB ?aS ?aL ?_; (case aP => exact k39_mkM _ _ _ (⟨wrap64 (rd l0 at_), s1, (⟨#[]⟩ : ByteArray)⟩ : S39)); (case aB => exact HBel6.out); (case aF => exact (fun k_ hk => by have q1 := blk_lt HO6.out; have q2 := blk_lt HB6.out; have q3 := blk_lt HA6.out; have q4 := blk_lt HG6.out; refine ⟨⟨?_, ?_, ?_, ?_⟩, ?_⟩ <;> omega)); (case aO => exact HR6.out); (case aS => exact below_size HBel6.out); (case aL => have := HOL.out; omega); intro v8 w8 ho hb hg hat; have HB8 := Aside0.mk (blk_grown HB6.out hg (Kd.R_away HR6.out (fun _ hk => hk.1.2.1))); have HA8 := Aside0.mk (blk_grown HA6.out hg (Kd.R_away HR6.out (fun _ hk => hk.1.2.2.1))); have HG8 := Aside0.mk (blk_grown HG6.out hg (Kd.R_away HR6.out (fun _ hk => hk.1.2.2.2))); clear hg; have HR8 := Aside0.mk ho; have HBel8 := Aside0.mk hb; clear ho hb hat))
                      go_roundg g
                      case measure => omega
                      case rel => exact ⟨_, _, _, i + 1, by rw [IntWalk.u64_in _ ⟨by have := HI.out; omega, by have := HIC.out; have := HC65.out; omega⟩], HH, ⟨Kd.R_mono HR8.out (fun _ hk => hk.1)⟩, HB8, HA8, HG8, HBel8, ⟨by have := HI.out; omega⟩⟩
                    · rw [if_neg hol] at H; cases H
                  · rw [he, if_pos rfl] at H
                    by_cases h3 : 0 ≤ wrap64 (wrap64 (at_ + 1) + n1)
                    · rw [if_pos h3] at H
                      by_cases h4 : wrap64 (wrap64 (at_ + 1) + n1) ≤ (l0.length : Int)
                      · rw [if_pos h4] at H
                        rcases hT2 : codec_Text.f g (l0.drop (wrap64 (wrap64 (at_ + 1) + n1)).toNat) with _ | ⟨s2, n2, e3⟩
                        · rw [hT2] at H; cases H
                        rw [hT2, Option.bind_some] at H
                        dsimp only at H
                        by_cases hol : ops.length < 3518437208883
                        · rw [if_pos hol] at H
                          have HH := Aside0.mk H
                          have HT2 := Aside0.mk hT2
                          have H34 := Aside0.mk (And.intro h3 h4)
                          have HOL := Aside0.mk hol
                          clear hol hT2 h3 h4
                          obtain ⟨ad, eA, hcell⟩ := Kd.at_int (Kd.C_below HR0.out HBel.out) at_ h0 hg2
                          have p1 : (0 ≤ at_) = True := eq_true h0
                          have p2 : (at_ < (l0.length : Int)) = True := eq_true hg2
                          obtain ⟨ad', eA', hcw⟩ := Kd.at_int HR0.out at_ h0 hg2
                          have hblt := World.block_lt_of_cell? _ _ hcw
                          obtain rfl : ad = ad' := Option.some.inj (eA.symm.trans eA')
                          have hne : (ad.add at_.toNat).block ≠ w.heap.size + 1 + 1 := by omega
                          have hcell2 : (wr.setCell ⟨w.heap.size + 1 + 1, 0, none⟩ (.bool true)).cell? (ad.add at_.toNat) = some (.int .u8 (rd l0 at_)) := (cell_far hne _).trans hcell
                          have HBL := Aside0.mk hblt
                          have HB2 : (wr.setCell ⟨w.heap.size + 1 + 1, 0, none⟩ (.bool true)).heap[w.heap.size]? = some (.cells #[.slice A0 l0.length c0] 25 (0, 0)) := blk_far HB1.out (by show w.heap.size ≠ w.heap.size + 1 + 1; omega) _
                          have HA2 : (wr.setCell ⟨w.heap.size + 1 + 1, 0, none⟩ (.bool true)).heap[w.heap.size + 1]? = some (.cells #[.int .i64 at_] 3 (0, 0)) := blk_far HA1.out (by show w.heap.size + 1 ≠ w.heap.size + 1 + 1; omega) _
                          have HG2 : (wr.setCell ⟨w.heap.size + 1 + 1, 0, none⟩ (.bool true)).heap[w.heap.size + 1 + 1]? = some (.cells #[.bool true] 4 (0, 0)) := one_setCell HG1.out
                          have cA2 := cell_of_one HA2
                          have fA2 := free_of_one HA2
                          have cB2 := cell_of_one HB2
                          have fB2 := free_of_one HB2
                          have HKK := Aside0.mk (And.intro HB2 (And.intro HA2 HG2))
                          have cA3 : ∀ o : Obj, ((wr.setCell ⟨w.heap.size + 1 + 1, 0, none⟩ (.bool true)).alloc o).cell? ⟨w.heap.size + 1, 0, none⟩ = some (.int .i64 at_) := fun o => (World.cell?_alloc_lt _ _ _ (World.block_lt_of_cell? _ _ cA2)).trans cA2
                          have fA3 : ∀ o : Obj, ((wr.setCell ⟨w.heap.size + 1 + 1, 0, none⟩ (.bool true)).alloc o).frozen? ⟨w.heap.size + 1, 0, none⟩ = false := fun o => free_of_one (blk_alloc HA2 o)
                          clear HB2 HA2 HG2
                          subst eA
                          clear hT H h1 h2 h0 hg2 eA' hcw hblt hne
                          have hszb := blk_lt HG1.out
                          go_wp2_with fail
                          (go_at_call 22; refine (batch_text.calls g w.heap.size (w.heap.size + 1) (w.heap.size + 1 + 1) (some ad) c0 l0 (wrap64 (at_ + 1)) true s1 n1 e1 _ (blk_far (blk_alloc HKK.out.1 _) (by show w.heap.size ≠ w.heap.size + 1; omega) _) (one_setCell (blk_alloc HKK.out.2.1 _)) (blk_far (blk_alloc HKK.out.2.2 _) (by show w.heap.size + 1 + 1 ≠ w.heap.size + 1; omega) _) (Kd.C_below HR0.out (below_set (below_alloc (below_set HBel.out (by omega)) _) (by omega))) HC0.out H12.out.1 H12.out.2 HT1.out).mono ?_; rintro ex w6 ⟨rfl, hb6, hk6, ha6, hg6⟩)
                          rw [Bool.true_and, he] at hg6
                          have hO6 : w6.heap[wr.heap.size]? = some (.cells #[.int .i64 (wrap64 (rd l0 at_)), .string ⟨#[]⟩, .string ⟨#[]⟩] 39 (0, 0)) := hk6 _ _ (by omega) (by omega) (blk_far (by have hn := blk_new (wr.setCell ⟨w.heap.size + 1 + 1, 0, none⟩ (.bool true)) (.cells #[.int .i64 (wrap64 (rd l0 at_)), .string ⟨#[]⟩, .string ⟨#[]⟩] 39); rwa [World.size_setCell] at hn) (by show wr.heap.size ≠ w.heap.size + 1; omega) _)
                          have hB6 := hk6 w.heap.size _ (by omega) (by omega) (blk_far (blk_alloc HKK.out.1 _) (by show w.heap.size ≠ w.heap.size + 1; omega) _)
                          have hBel6 : Below w.heap.size w w6 := Below.trans (below_set (below_alloc (below_set HBel.out (by omega)) _) (by omega)) (hb6 w.heap.size (by omega) (by omega))
                          have hR6 := Kd.R_step (Kd.R_far (p := ⟨w.heap.size + 1, 0, none⟩) (Kd.R_alloc (Kd.R_far (p := ⟨w.heap.size + 1 + 1, 0, none⟩) (Kd.R_elderB HO.out wr.heap.size (Nat.le_refl _)) (fun _ hk => hk.1.2.2.2) (.bool true)) (.cells #[.int .i64 (wrap64 (rd l0 at_)), .string ⟨#[]⟩, .string ⟨#[]⟩] 39)) (fun _ hk => hk.1.2.2.1) (.int .i64 (wrap64 (at_ + 1)))) (fun k_ hk hlt => (hk6 k_ _ hk.1.2.2.1 hk.1.2.2.2 (Array.getElem?_eq_getElem hlt)).trans (Array.getElem?_eq_getElem hlt).symm)
                          have HO6 := Aside0.mk (blk_put (cs' := #[.int .i64 (wrap64 (rd l0 at_)), .string s1, .string ⟨#[]⟩]) hO6 1 (.string s1) rfl)
                          have HB6 := Aside0.mk (blk_far hB6 (p := ⟨wr.heap.size, 1, none⟩) (by show w.heap.size ≠ wr.heap.size; omega) (.string s1))
                          have HA6 := Aside0.mk (blk_far ha6 (p := ⟨wr.heap.size, 1, none⟩) (by show w.heap.size + 1 ≠ wr.heap.size; omega) (.string s1))
                          have HG6 := Aside0.mk (blk_far hg6 (p := ⟨wr.heap.size, 1, none⟩) (by show w.heap.size + 1 + 1 ≠ wr.heap.size; omega) (.string s1))
                          have HBel6 := Aside0.mk (below_set (g := wr.heap.size) (j := 1) (v := .string s1) hBel6 (by omega))
                          have HR6 := Aside0.mk (Kd.R_far (p := ⟨wr.heap.size, 1, none⟩) hR6 (fun _ hk => hk.2) (.string s1))
                          have cO61 := (blk_cell hO6 1).trans rfl
                          have fO61 := blk_frozen hO6 1
                          have HNE := Aside0.mk (And.intro (show wr.heap.size ≠ w.heap.size + 1 by omega) (And.intro (show wr.heap.size ≠ w.heap.size + 1 + 1 by omega) (And.intro (show wr.heap.size ≠ w.heap.size by omega) (show w.heap.size ≤ wr.heap.size by omega))))
                          clear hO6 hB6 hBel6 hR6 hb6 hk6 ha6 hg6 hszb
                          go_wp2_with (first | ((with_reducible refine gate_store (t := 9) (p := 56) rfl ?_); refine store_event (t := 9) (p := 56) (v := ?vo) (w1 := w6.setCell ⟨wr.heap.size, 1, none⟩ (.string s1)) ?hg ?ho ?hn ?hr ?_; (case ho => rfl); (case hg => rfl); (case hn => rfl); (case hr => first | (go_simp; done) | (go_simp; rfl)); intro w7 hw7; rw [← hw7] at HO6 HB6 HA6 HG6 HBel6 HR6; clear hw7; have cO70 := (blk_cell HO6.out 0).trans rfl; have cO71 := (blk_cell HO6.out 1).trans rfl; have cO72 := (blk_cell HO6.out 2).trans rfl; have fO70 := blk_frozen HO6.out 0; have fO71 := blk_frozen HO6.out 1; have fO72 := blk_frozen HO6.out 2; have cA7 := cell_of_one HA6.out; have cG7 := cell_of_one HG6.out; have fA7 := free_of_one HA6.out; have fG7 := free_of_one HG6.out))
                          (go_at_call 22; refine (batch_text.calls g w.heap.size (w.heap.size + 1) (w.heap.size + 1 + 1) (some ad) c0 l0 (wrap64 (wrap64 (at_ + 1) + n1)) true s2 n2 e3 _ HB6.out HA6.out HG6.out (Kd.C_below HR0.out HBel6.out) HC0.out H34.out.1 H34.out.2 HT2.out).mono ?_; rintro ex w9 ⟨rfl, hb9, hk9, ha9, hg9⟩)
                          clear cO70 cO71 cO72 fO70 fO71 fO72 cA7 cG7 fA7 fG7 cO61 fO61
                          rw [Bool.true_and] at hg9
                          obtain ⟨ne1, ne2, ne3, ge1⟩ := HNE.out
                          have hO9 := hk9 _ _ ne1 ne2 HO6.out
                          have hB9 := hk9 w.heap.size _ (by omega) (by omega) HB6.out
                          have hBel9 : Below w.heap.size w w9 := Below.trans HBel6.out (hb9 w.heap.size (by omega) (by omega))
                          have hR9 := Kd.R_step HR6.out (fun k_ hk hlt => (hk9 k_ _ hk.1.2.2.1 hk.1.2.2.2 (Array.getElem?_eq_getElem hlt)).trans (Array.getElem?_eq_getElem hlt).symm)
                          clear HO6 HB6 HA6 HG6 HBel6 HR6
                          have HO9 := Aside0.mk (blk_put (cs' := #[.int .i64 (wrap64 (rd l0 at_)), .string s1, .string s2]) hO9 2 (.string s2) rfl)
                          have HB9 := Aside0.mk (blk_far hB9 (p := ⟨wr.heap.size, 2, none⟩) (Ne.symm ne3) (.string s2))
                          have HA9 := Aside0.mk (blk_far ha9 (p := ⟨wr.heap.size, 2, none⟩) (Ne.symm ne1) (.string s2))
                          have HG9 := Aside0.mk (blk_far hg9 (p := ⟨wr.heap.size, 2, none⟩) (Ne.symm ne2) (.string s2))
                          have HBel9 := Aside0.mk (below_set (g := wr.heap.size) (j := 2) (v := .string s2) hBel9 ge1)
                          have HR9 := Aside0.mk (Kd.R_far (p := ⟨wr.heap.size, 2, none⟩) hR9 (fun _ hk => hk.2) (.string s2))
                          have cO92 := (blk_cell hO9 2).trans rfl
                          have fO92 := blk_frozen hO9 2
                          clear hO9 hB9 hBel9 hR9 hb9 hk9 ha9 hg9 ne1 ne2 ne3 ge1
                          go_wp2_with (first | ((with_reducible refine gate_store (t := 9) (p := 65) rfl ?_); refine store_event (t := 9) (p := 65) (v := ?vo2) (w1 := w9.setCell ⟨wr.heap.size, 2, none⟩ (.string s2)) ?hg ?ho ?hn ?hr ?_; (case ho => rfl); (case hg => rfl); (case hn => rfl); (case hr => first | (go_simp; done) | (go_simp; rfl)); intro w11 hw11; rw [← hw11] at HO9 HB9 HA9 HG9 HBel9 HR9; clear hw11; have cO70 := (blk_cell HO9.out 0).trans rfl; have cO71 := (blk_cell HO9.out 1).trans rfl; have cO72 := (blk_cell HO9.out 2).trans rfl; have fO70 := blk_frozen HO9.out 0; have fO71 := blk_frozen HO9.out 1; have fO72 := blk_frozen HO9.out 2; have cA7 := cell_of_one HA9.out; have cG7 := cell_of_one HG9.out; have fA7 := free_of_one HA9.out; have fG7 := free_of_one HG9.out) | ((with_reducible refine gate_builtin (b := .append) (xs := #[.tmp 66, .tmp 68]) rfl ?_); at_builtin; refine Kd.R_append k39 (w0 := w) w.heap.size rfl (.tmp 66) (.tmp 68) 24 39 (.agg #[(.int .i64 0), (.string ⟨#[]⟩), (.string ⟨#[]⟩)]) 40 rfl Try.underlying24 info39 rfl (by decide) (by omega) _ ops (⟨wrap64 (rd l0 at_), s1, s2⟩ : S39) [.int .i64 (wrap64 (rd l0 at_)), .string s1, .string s2] (fun k_ => (w.heap.size ≤ k_ ∧ k_ ≠ w.heap.size ∧ k_ ≠ w.heap.size + 1 ∧ k_ ≠ w.heap.size + 1 + 1) ∧ k_ ≠ wr.heap.size) (fun _ => False) rfl rfl ?aP (fun _ hk => hk.elim) ?aF ?aO ?aB ?aS ?aL ?_; (case aP => exact k39_mkM _ _ _ (⟨wrap64 (rd l0 at_), s1, s2⟩ : S39)); (case aB => exact HBel9.out); (case aF => exact (fun k_ hk => by have q1 := blk_lt HO9.out; have q2 := blk_lt HB9.out; have q3 := blk_lt HA9.out; have q4 := blk_lt HG9.out; refine ⟨⟨?_, ?_, ?_, ?_⟩, ?_⟩ <;> omega)); (case aO => exact HR9.out); (case aS => exact below_size HBel9.out); (case aL => have := HOL.out; omega); intro v8 w8 ho hb hg hat; have HB8 := Aside0.mk (blk_grown HB9.out hg (Kd.R_away HR9.out (fun _ hk => hk.1.2.1))); have HA8 := Aside0.mk (blk_grown HA9.out hg (Kd.R_away HR9.out (fun _ hk => hk.1.2.2.1))); have HG8 := Aside0.mk (blk_grown HG9.out hg (Kd.R_away HR9.out (fun _ hk => hk.1.2.2.2))); clear hg; have HR8 := Aside0.mk ho; have HBel8 := Aside0.mk hb; clear ho hb hat))
                          go_roundg g
                          case measure => omega
                          case rel => exact ⟨_, _, _, i + 1, by rw [IntWalk.u64_in _ ⟨by have := HI.out; omega, by have := HIC.out; have := HC65.out; omega⟩], HH, ⟨Kd.R_mono HR8.out (fun _ hk => hk.1)⟩, HB8, HA8, HG8, HBel8, ⟨by have := HI.out; omega⟩⟩
                        · rw [if_neg hol] at H; cases H
                      · rw [if_neg h4] at H; cases H
                    · rw [if_neg h3] at H; cases H
              · rw [if_neg h2] at H; cases H
            · rw [if_neg h1] at H; cases H
          · rw [if_neg h0] at H; cases H
        · rw [if_neg hg] at H
          clear hi
          unfold batch_Decode.p at H
          rw [if_neg (by decide)] at H
          obtain ⟨rfl, rfl, rfl⟩ : (0 : Int) = r1 ∧ ([] : List S39) = r2 ∧ (32 : Int) = r3 := by simpa using H
          clear H
          cases good
          · clear hg
            go_wp2
            dsimp only [Exit.noGoto]
            go_ret3
            exact ⟨_, rfl, Kd.R_nil _ _ _ _ _, below_set HBel.out (by omega)⟩
          · have hlt : decide (at_ < (l0.length : Int)) = false := by simpa using hg
            clear hg
            go_wp2
            dsimp only [Exit.noGoto]
            go_ret3
            exact ⟨_, rfl, Kd.R_nil _ _ _ _ _, below_set HBel.out (by omega)⟩
      · rw [if_neg hi] at H
        have hib : decide (i < cnt) = false := decide_eq_false hi
        clear hi
        unfold batch_Decode.p at H
        cases good
        · rw [if_neg (by decide)] at H
          obtain ⟨rfl, rfl, rfl⟩ : (0 : Int) = r1 ∧ ([] : List S39) = r2 ∧ (32 : Int) = r3 := by simpa using H
          clear H
          go_wp2
          dsimp only [Exit.noGoto]
          go_ret3
          exact ⟨_, rfl, Kd.R_nil _ _ _ _ _, HBel.out⟩
        · rw [if_pos rfl] at H
          by_cases ha : at_ = (l0.length : Int)
          · rw [if_pos ha] at H
            have hab : (at_ != (l0.length : Int)) = false := bne_eq_false_iff_eq.mpr ha
            have hab2 : (at_ == (l0.length : Int)) = true := beq_iff_eq.mpr ha
            obtain ⟨Ao, co, eo⟩ := Kd.R_slice HO.out
            subst eo
            rcases hE : batch_Encode.f g q1 ops with _ | ⟨t1, t2⟩
            · rw [hE] at H; cases H
            rw [hE, Option.bind_some] at H
            have HE := Aside0.mk hE
            clear hE ha
            by_cases ht : t2 = 0
            · rw [if_pos ht] at H
              subst ht
              obtain ⟨b, hq⟩ : ∃ b, bytes_Equal.f t1 l0 = some b := ⟨_, rfl⟩
              rw [hq, Option.bind_some] at H
              have HQ := Aside0.mk hq
              clear hq
              cases b
              · rw [if_neg (by decide)] at H
                obtain ⟨rfl, rfl, rfl⟩ : (0 : Int) = r1 ∧ ([] : List S39) = r2 ∧ (32 : Int) = r3 := by simpa using H
                clear H
                go_wp2_with (first | (go_at_call 10; with_reducible refine (batch_Encode.calls g q1 _ _ ops t1 0 _ (Kd.R_reads' HO.out).2.2 (Kd.R_reads' HO.out).2.1 HE.out).mono ?_; rintro ex w5 ⟨v5, rfl, ho5, hb5⟩; have HO5 := Aside0.mk ho5; have HO6 := Aside0.mk (Kd.R_below HO.out hb5); have HB5 := Aside0.mk (below_step HBel.out hb5); have HX5 := Aside0.mk (blk_below HB1.out hb5); have cB5 := cell_of_one HX5.out; have fB5 := free_of_one HX5.out; clear hb5 ho5; obtain ⟨A6, c6, e6⟩ := Kd.R_slice HO5.out; subst e6) | (go_at_call 24; with_reducible refine (bytes_Equal.calls _ _ t1 _ _ l0 false _ (Kd.R_reads' HO5.out).2.2 (Kd.R_reads' HO5.out).2.1 (Kd.C_below HR0.out HB5.out) HC0.out HQ.out).mono ?_; rintro ex w7 ⟨rfl, ⟨nd7, rfl⟩⟩))
                dsimp only [Exit.noGoto]
                go_ret3
                exact ⟨_, rfl, Kd.R_nil _ _ _ _ _, below_step HB5.out (Drawn0.below ⟨⟨_, rfl⟩⟩)⟩
              · rw [if_pos rfl] at H
                simp only [Option.some.injEq, Prod.mk.injEq] at H
                obtain ⟨rfl, rfl, rfl⟩ := H
                go_wp2_with (first | (go_at_call 10; with_reducible refine (batch_Encode.calls g q1 _ _ ops t1 0 _ (Kd.R_reads' HO.out).2.2 (Kd.R_reads' HO.out).2.1 HE.out).mono ?_; rintro ex w5 ⟨v5, rfl, ho5, hb5⟩; have HO5 := Aside0.mk ho5; have HO6 := Aside0.mk (Kd.R_below HO.out hb5); have HB5 := Aside0.mk (below_step HBel.out hb5); have HX5 := Aside0.mk (blk_below HB1.out hb5); have cB5 := cell_of_one HX5.out; have fB5 := free_of_one HX5.out; clear hb5 ho5; obtain ⟨A6, c6, e6⟩ := Kd.R_slice HO5.out; subst e6) | (go_at_call 24; with_reducible refine (bytes_Equal.calls _ _ t1 _ _ l0 true _ (Kd.R_reads' HO5.out).2.2 (Kd.R_reads' HO5.out).2.1 (Kd.C_below HR0.out HB5.out) HC0.out HQ.out).mono ?_; rintro ex w7 ⟨rfl, ⟨nd7, rfl⟩⟩))
                dsimp only [Exit.noGoto]
                go_ret3
                exact ⟨_, rfl, Kd.R_mono (Kd.R_drewN HO6.out _) (fun k_ hk => hk.1), below_step HB5.out (Drawn0.below ⟨⟨_, rfl⟩⟩)⟩
            · rw [if_neg ht] at H
              have htb : (t2 != 0) = true := bne_iff_ne.mpr ht
              have htb2 : (t2 == 0) = false := beq_eq_false_iff_ne.mpr ht
              clear ht
              obtain ⟨rfl, rfl, rfl⟩ : (0 : Int) = r1 ∧ ([] : List S39) = r2 ∧ (32 : Int) = r3 := by simpa using H
              clear H
              go_wp2_with (first | (go_at_call 10; with_reducible refine (batch_Encode.calls g q1 _ _ ops t1 t2 _ (Kd.R_reads' HO.out).2.2 (Kd.R_reads' HO.out).2.1 HE.out).mono ?_; rintro ex w5 ⟨v5, rfl, ho5, hb5⟩; have HO5 := Aside0.mk ho5; have HO6 := Aside0.mk (Kd.R_below HO.out hb5); have HB5 := Aside0.mk (below_step HBel.out hb5); have HX5 := Aside0.mk (blk_below HB1.out hb5); have cB5 := cell_of_one HX5.out; have fB5 := free_of_one HX5.out; clear hb5 ho5; obtain ⟨A6, c6, e6⟩ := Kd.R_slice HO5.out; subst e6))
              dsimp only [Exit.noGoto]
              go_ret3
              exact ⟨_, rfl, Kd.R_nil _ _ _ _ _, HB5.out⟩
          · rw [if_neg ha] at H
            have hab : (at_ != (l0.length : Int)) = true := bne_iff_ne.mpr ha
            have hab2 : (at_ == (l0.length : Int)) = false := beq_eq_false_iff_ne.mpr ha
            obtain ⟨rfl, rfl, rfl⟩ : (0 : Int) = r1 ∧ ([] : List S39) = r2 ∧ (32 : Int) = r3 := by simpa using H
            clear H ha
            go_wp2
            dsimp only [Exit.noGoto]
            go_ret3
            exact ⟨_, rfl, Kd.R_nil _ _ _ _ _, HBel.out⟩
set_option maxHeartbeats 800000 in
set_option maxRecDepth 100000 in
theorem batch_Decode_calls0 (k : Nat) (A0 : Option Addr) (c0 : Nat) (l0 : List Int) (r1 : Int) (r2 : List S39) (r3 : Int) (w : World) (hr0 : Kd.C (Kd.int .u8) w A0 l0.length l0) (hc0 : l0.length ≤ c0) (h : batch_Decode.f k l0 = some (r1, r2, r3)) :
    Calls Try.prog 15 #[.slice A0 l0.length c0] w fun e w' => ∃ v1_ : Value, e = .returned (.tuple #[.int .u64 r1, v1_, .int .i64 r3]) ∧ Kd.R k39 39 w' w.heap.size (fun k_ => (w.heap.size ≤ k_)) v1_ r2 ∧ Below w.heap.size w w' := by
  have H := h
  unfold batch_Decode.f at H
  rcases hF : codec_Fixed.f k l0 8 with _ | ⟨q1, e1⟩
  · rw [hF] at H; cases H
  rw [hF, Option.bind_some] at H
  dsimp only at H
  by_cases he : e1 = 0
  · rw [if_pos he] at H
    subst he
    by_cases hl : (l0.length : Int) < 12
    · rw [if_pos hl] at H
      obtain ⟨rfl, rfl, rfl⟩ : (0 : Int) = r1 ∧ ([] : List S39) = r2 ∧ (32 : Int) = r3 := by simpa using H
      have hl1 : decide ((l0.length : Int) < 12) = true := decide_eq_true hl
      have hl2 : decide (l0.length < 12) = true := decide_eq_true (by omega)
      have HR0 := Aside0.mk hr0
      have HC0 := Aside0.mk hc0
      have HF := Aside0.mk hF
      clear H h hF hl hr0 hc0
      go_enter Try.func15, Try.ntmps15
      go_wp2_with fail
      refine wp_scope_straight ?_
      go_wp2_with (go_at_call 21; with_reducible refine (codec_Fixed.calls k _ _ l0 8 q1 0 _ (Kd.C_alloc HR0.out _) HC0.out HF.out).mono ?_; rintro ex w2 ⟨rfl, ⟨nd, rfl⟩⟩)
      dsimp only [Exit.noGoto]
      go_ret3
      exact ⟨_, rfl, Kd.R_nil _ _ _ _ _, below_step (below_alloc (Below.refl _ _) _) (Drawn0.below ⟨⟨_, rfl⟩⟩)⟩
    · rw [if_neg hl] at H
      rcases hF2 : codec_Fixed.f k (l0.drop 8) 4 with _ | ⟨q2, e2⟩
      · rw [hF2] at H; cases H
      rw [hF2, Option.bind_some] at H
      dsimp only at H
      refine batch_Decode_loop k A0 c0 l0 q1 q2 e2 (if 65 < q2 then 65 else q2) r1 r3 r2 w hr0 hc0 (by omega) hF hF2 ?_ H
      by_cases hq : 65 < q2
      · exact .inl ⟨hq, if_pos hq⟩
      · exact .inr ⟨hq, if_neg hq⟩
  · rw [if_neg he] at H
    obtain ⟨rfl, rfl, rfl⟩ : (0 : Int) = r1 ∧ ([] : List S39) = r2 ∧ (32 : Int) = r3 := by simpa using H
    have he1 : (e1 != 0) = true := bne_iff_ne.mpr he
    have he2 : (e1 == 0) = false := beq_eq_false_iff_ne.mpr he
    have HR0 := Aside0.mk hr0
    have HC0 := Aside0.mk hc0
    have HF := Aside0.mk hF
    clear H h hF he hr0 hc0
    go_enter Try.func15, Try.ntmps15
    go_wp2_with fail
    refine wp_scope_straight ?_
    go_wp2_with (go_at_call 21; with_reducible refine (codec_Fixed.calls k _ _ l0 8 q1 e1 _ (Kd.C_alloc HR0.out _) HC0.out HF.out).mono ?_; rintro ex w2 ⟨rfl, ⟨nd, rfl⟩⟩)
    dsimp only [Exit.noGoto]
    go_ret3
    exact ⟨_, rfl, Kd.R_nil _ _ _ _ _, below_step (below_alloc (Below.refl _ _) _) (Drawn0.below ⟨⟨_, rfl⟩⟩)⟩
theorem batch_Decode.calls (k : Nat) (A0 : Option Addr) (c0 : Nat) (l0 : List Int) (r1 : Int) (r2 : List S39) (r3 : Int) (w : World) (hr0 : Kd.C (Kd.int .u8) w A0 l0.length l0) (hc0 : l0.length ≤ c0) (h : batch_Decode.f k l0 = some (r1, r2, r3)) :
    Calls Try.prog 15 #[.slice A0 l0.length c0] w fun e w' => ∃ v1_ : Value, e = .returned (.tuple #[.int .u64 r1, v1_, .int .i64 r3]) ∧ Kd.R k39 39 w' w.heap.size (fun _ => True) v1_ r2 ∧ Below w.heap.size w w' :=
  (batch_Decode_calls0 k A0 c0 l0 r1 r2 r3 w hr0 hc0 h).mono fun _ _ ⟨v, he, hr, hb⟩ => ⟨v, he, Kd.R_mono hr (fun _ _ => trivial), hb⟩

end Go.Proofs.Ytojnhecpjnoipaa.P
