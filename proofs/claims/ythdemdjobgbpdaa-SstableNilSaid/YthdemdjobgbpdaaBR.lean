/- block's read, where nothing is amiss. -/
import Derived.Test.YthdemdjobgbpdaaBW
import Derived.Test.YthdemdjobgbpdaaP12
import Derived.Test.YthdemdjobgbpdaaP2
import Derived.OneCell
import Derived.RangeFuncBox

namespace Go.Proofs.Ythdemdjobgbpdaa.B
open Go.RowKit Go.Proofs.YthdemdjobgbpdaaW.PrintWords Go.Proofs.YthdemdjobgbpdaaW.PrintLast Go.Proofs.YthdemdjobgbpdaaW.PrintMore Go.Proofs.Ythdemdjobgbpdaa.P
set_option linter.unusedVariables false
set_option linter.unusedSimpArgs false
/-- entry by entry -/
def rd_l : Nat → Nat → List Int → List Int → List S47 → Option (List S47)
  | 0, _, _, _, _ => none
  | k + 1, bl, D, last, acc => if D.length = 0 then some acc else
    (codec_Uvarint.f k D).bind fun u1 => if u1.2.2 = 0 ∧ 0 ≤ u1.1 ∧ u1.1 ≤ (last.length : Int) ∧ 0 ≤ u1.2.1 ∧ u1.2.1 ≤ (D.length : Int) then
    (codec_Uvarint.f k (D.drop u1.2.1.toNat)).bind fun u2 => if u2.2.2 = 0 ∧ 0 ≤ u2.1 ∧ u2.1 ≤ (bl : Int) ∧ 0 ≤ u2.2.1 ∧ u2.2.1 ≤ ((D.drop u1.2.1.toNat).length : Int) then
    (codec_Uvarint.f k ((D.drop u1.2.1.toNat).drop u2.2.1.toNat)).bind fun u3 => if u3.2.2 = 0 ∧ 0 ≤ u3.1 ∧ u3.1 ≤ (bl : Int) ∧ 0 ≤ u3.2.1 ∧ u3.2.1 ≤ (((D.drop u1.2.1.toNat).drop u2.2.1.toNat).length : Int) then
    (if u2.1 ≤ ((((D.drop u1.2.1.toNat).drop u2.2.1.toNat).drop u3.2.1.toNat).length : Int) ∧ (last.take u1.1.toNat).length + ((((D.drop u1.2.1.toNat).drop u2.2.1.toNat).drop u3.2.1.toNat).take u2.1.toNat).length < 140737488355328 then
      (ikey_Decode.f k (last.take u1.1.toNat ++ (((D.drop u1.2.1.toNat).drop u2.2.1.toNat).drop u3.2.1.toNat).take u2.1.toNat)).bind fun y =>
        if y.2.2.2 = 0 ∧ u3.1 ≤ (((((D.drop u1.2.1.toNat).drop u2.2.1.toNat).drop u3.2.1.toNat).drop u2.1.toNat).length : Int) ∧ acc.length < 2932031007402 then
          rd_l k bl (((((D.drop u1.2.1.toNat).drop u2.2.1.toNat).drop u3.2.1.toNat).drop u2.1.toNat).drop u3.1.toNat) (last.take u1.1.toNat ++ (((D.drop u1.2.1.toNat).drop u2.2.1.toNat).drop u3.2.1.toNat).take u2.1.toNat)
            (acc ++ [⟨⟨y.1, y.2.1, y.2.2.1⟩, strOfNums (((((D.drop u1.2.1.toNat).drop u2.2.1.toNat).drop u3.2.1.toNat).drop u2.1.toNat).take u3.1.toNat)⟩])
        else none
    else none) else none else none else none
def read_f (k : Nat) (b : List Int) : Option (List S47 × Int) :=
  if 5 ≤ b.length ∧ b.length < 140737488355328 then (codec_Fixed.f k (b.drop (b.length - 4)) 4).bind fun m =>
    if 0 ≤ m.1 ∧ m.1 ≤ (((b.length - 5) / 4 : Nat) : Int) then (rd_l k b.length (b.take (b.length - 5 - 4 * m.1.toNat)) [] []).bind fun l => some (l, wrap64 (rd b ((b.length : Int) - 5))) else none
  else none
theorem br_sub (a b : Nat) (h : b ≤ a) (h2 : a < 140737488355328) : wrap64 ((a : Int) - (b : Int)) = ((a - b : Nat) : Int) := by unfold wrap64; omega
theorem br_s4 (a : Nat) (h : 4 ≤ a) (h2 : a < 140737488355328) : wrap64 ((a : Int) - 4) = ((a - 4 : Nat) : Int) := by unfold wrap64; omega
theorem br_s5 (a : Nat) (h : 5 ≤ a) (h2 : a < 140737488355328) : wrap64 ((a : Int) - 5) = ((a - 5 : Nat) : Int) := by unfold wrap64; omega
theorem br_q (a : Nat) (h2 : a < 140737488355328) : IntKind.u64.wrap ((a : Int)) = (a : Int) := by simp [IntKind.wrap, IntKind.bits, IntKind.signed]; omega
/-! ### worlds that go on: what lies below a mark and is not the reader's stays -/
def Adv (n0 gr : Nat) (a c : World) : Prop := a.heap.size ≤ c.heap.size ∧ ∀ k, k < n0 → k ≠ gr → c.heap[k]? = a.heap[k]?
theorem Adv.refl (n0 gr : Nat) (a : World) : Adv n0 gr a a := ⟨Nat.le_refl _, fun _ _ _ => rfl⟩
theorem Adv.trans {n0 gr : Nat} {a b c : World} (h : Adv n0 gr a b) (h2 : Adv n0 gr b c) : Adv n0 gr a c := ⟨Nat.le_trans h.1 h2.1, fun k h3 h4 => (h2.2 k h3 h4).trans (h.2 k h3 h4)⟩
theorem Adv.below {n0 gr : Nat} {a b c : World} (h : Adv n0 gr a b) (hb : Below b.heap.size b c) (hn : n0 ≤ a.heap.size) : Adv n0 gr a c :=
  h.trans ⟨hb.size, fun k h3 _ => hb.block k (Nat.lt_of_lt_of_le h3 (Nat.le_trans hn h.1))⟩
theorem Adv.put {n0 gr : Nat} {a b c : World} (h : Adv n0 gr a b) {nd : Nat} {u : Value} (hc : c = (b.drewN nd).setCell ⟨gr, 0, none⟩ u) : Adv n0 gr a c := by
  subst hc
  exact h.trans ⟨(grownBy_setCell' (b.drewN nd) gr u).size, fun k h3 h4 => (Below.heap_setCell (b.drewN nd) ⟨gr, 0, none⟩ u k h4).trans rfl⟩
theorem Adv.put0 {n0 gr : Nat} {a b c : World} (h : Adv n0 gr a b) {u : Value} (hc : c = b.setCell ⟨gr, 0, none⟩ u) : Adv n0 gr a c := by
  subst hc
  exact h.trans ⟨(grownBy_setCell' b gr u).size, fun k h3 h4 => (Below.heap_setCell b ⟨gr, 0, none⟩ u k h4)⟩
theorem Adv.grown {n0 gr : Nat} {a b c : World} {row : Option Nat} (h : Adv n0 gr a b) (hg : b.grownBy c row) (hn : n0 ≤ a.heap.size) (hr : ∀ k, row = some k → n0 ≤ k) : Adv n0 gr a c :=
  h.trans ⟨hg.size, fun k h3 _ => hg.block k (Nat.lt_of_lt_of_le h3 (Nat.le_trans hn h.1)) (fun e => by have := hr k e.symm; omega)⟩
theorem R_adv {α : Type} {d : Kd α} {e base n0 gr : Nat} {ok : Nat → Prop} {a c : World} {v : Value} {xs : List α} (h : d.R e a base ok v xs) (hok : ∀ k, ok k → k ≠ gr) (hn : n0 = a.heap.size) (hA : Adv n0 gr a c) : d.R e c base (fun k => ok k ∧ k < n0) v xs := by
  have hb := Kd.R_bound h
  refine Kd.R_mono (Kd.R_move hb fun k hk => hA.2 k (by rw [hn]; exact hk.2.2.1) (hok k hk.1)) fun k hk => ⟨hk.1, by rw [hn]; exact hk.2.2.1⟩
/-- what stands while read runs -/
structure RdSt (w : World) (gr : Nat) (D last : List Int) (acc : List S47) (v2 v8 : Value) (wx : World) : Prop where
  blk : ∃ Ad cd, wx.heap[gr]? = some (.cells #[.slice Ad D.length cd] 120 (0, 0)) ∧ Kd.C (Kd.int .u8) w Ad D.length D ∧ D.length ≤ cd
  ge : w.heap.size ≤ gr
  rl : Kd.R (Kd.int .u8) 5 wx w.heap.size (fun k => some k ≠ v2.ownBlock ∧ k ≠ gr) v8 last
  ra : Kd.R k47 47 wx w.heap.size (fun k => k ≠ gr) v2 acc
  bel : Below w.heap.size w wx
theorem blk_lt {w : World} {g : Nat} {o : Obj} (h : w.heap[g]? = some o) : g < w.heap.size := (Array.getElem?_eq_some_iff.1 h).1
theorem br_pos (n : Int) (h0 : 0 ≤ n) (h : n < 9223372036854775808) : wrap64 n = n := by unfold wrap64; omega
end Go.Proofs.Ythdemdjobgbpdaa.B
