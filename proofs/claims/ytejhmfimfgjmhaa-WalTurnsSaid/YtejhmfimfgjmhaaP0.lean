-- By this session's wip/hprint.py: the kit's print.py with functions by hand beside it. Not trusted: Lean checks it.
import Derived.Test.YtejhmfimfgjmhaaProg
import Derived.Below
import Derived.Deep.Draws
import Derived.Deep.AppendLies
import Derived.Maps.AppendAt
import Derived.OwnWalk
import Derived.Laws.BytesArg
import Derived.Laws.MakeOwn
import Derived.Laws.OwnMore
import Derived.Deep.OwnRows
import Derived.Tactics
import Derived.Lib.ConvBytes
import Derived.Laws.Slices
import Derived.WalkKit
import Derived.KernelRfl
import Derived.RowKit3
import Derived.Deep.LoopGhost
import Derived.Deep.QuietTactic
import Derived.BigQuiet
import Derived.WideLaws
import Derived.Deep.DeepCutAuto
import Derived.Deep.CutBlock
import Derived.Deep.RegionHeld3
import Derived.Laws.Rows
import Derived.Lib.AppendStr
import Derived.ArgAppend
import Derived.Laws.IdiomCopy
import Derived.OrdersHeld
import Derived.Laws.BitsLemmas
import Derived.RowKit
import Derived.Deep.WholeRow
import Derived.Laws.ResultCell
import Derived.Laws.Rows
import Derived.Lib.SlBytesConst
import Derived.OpenShut
import Derived.WalkSpells
import Derived.Test.YtejhmfimfgjmhaaWWords
import Derived.Test.YtejhmfimfgjmhaaWLast
import Derived.Test.YtejhmfimfgjmhaaWTab
import Derived.Test.YtejhmfimfgjmhaaWFour
import Derived.Test.YtejhmfimfgjmhaaWQPut
import Derived.Test.YtejhmfimfgjmhaaWApart
import Derived.Test.YtejhmfimfgjmhaaWArr
import Derived.Test.YtejhmfimfgjmhaaWZeros
import Derived.Test.YtejhmfimfgjmhaaWFoot
import Derived.Test.YtejhmfimfgjmhaaWKept
import Derived.Test.YtejhmfimfgjmhaaWShare
import Derived.Test.YtejhmfimfgjmhaaWN
import Derived.Test.YtejhmfimfgjmhaaWFootNe
import Derived.Test.YtejhmfimfgjmhaaWAt
import Derived.Test.YtejhmfimfgjmhaaWEqStruct
import Derived.Test.YtejhmfimfgjmhaaWRepsOne
import Derived.Test.YtejhmfimfgjmhaaWInv
import Derived.Test.YtejhmfimfgjmhaaWInvWords
import Derived.Test.YtejhmfimfgjmhaaWGuard
import Derived.Test.YtejhmfimfgjmhaaWNEv
import Derived.Test.YtejhmfimfgjmhaaWMore
namespace Go.Proofs.Ytejhmfimfgjmhaa.P
open Go.RowKit Go.Proofs.YtejhmfimfgjmhaaW.PrintWords Go.Proofs.YtejhmfimfgjmhaaW.PrintLast Go.Proofs.YtejhmfimfgjmhaaW.PrintMore
attribute [local go_sem] max2_int min2_int max_two min_two max_three min_three max_four min_four   -- for this text's walks alone
set_option linter.unusedVariables false
set_option linter.unusedSimpArgs false

/-! ### What this session adds: '[]byte(s)' of a variable string: a row that is only read (its block bears a conversion's mark) -/
theorem h_bytes_C (W : World) (e : TypeId) (s : ByteArray) (hs : s.size ≤ 9223372036854775807) : Kd.C (Kd.int .u8) (Lib.bytesWorld W e s) (some ⟨W.heap.size, 0, none⟩) (bytesOf s).length (bytesOf s) := by
  rw [bytesOf_length]
  exact Kd.C_of_reads (h1 := fun _ => rfl) (d := (0 : Int)) (bytes_reads W e s hs)
theorem h_bytes_V (W : World) (e base : Nat) (s : ByteArray) (hs : s.size ≤ 9223372036854775807) :
    Kd.V (Kd.int .u8) e (Lib.bytesWorld W e s) base (fun k_ => W.heap.size ≤ k_) (.slice (some ⟨W.heap.size, 0, none⟩) (bytesOf s).length (grownCap W s.size 0 e)) (bytesOf s) := by
  refine Kd.V_mk ?_ ?_
  · rw [bytesOf_length]; exact grownCap_ge W s.size 0 e
  · intro W' hW'
    have hlt : W.heap.size < (Lib.bytesWorld W e s).heap.size := by rw [Lib.bytesWorld_size]; omega
    have hb := hW' W.heap.size (Nat.le_refl _) hlt
    have hC := h_bytes_C W e s hs
    refine ⟨hC.1, hC.2.1, fun hp => ?_⟩
    obtain ⟨ad, e1, hc⟩ := hC.2.2 hp
    refine ⟨ad, e1, fun j p hj => ?_⟩
    obtain ⟨c, h1, h2, h3⟩ := hc j p hj
    refine ⟨c, h1, h2, fun i u hu => ?_⟩
    have hblk : (ad.add (j * 1 + i)).block = W.heap.size := by
      cases e1
      unfold Addr.add
      split <;> rfl
    have := h3 i u hu
    rw [World.cell?_of_block (w := Lib.bytesWorld W e s) (by rw [show (ad.add (j * (Kd.int IntKind.u8).sz + i)).block = W.heap.size from hblk]; exact hb)]
    exact this
section
variable {P : Program} {ops : Array Oper} {rest : List Oper} {o : Oper} {a : Act} {Q : Exit → Act → World → Prop} {W : World}
theorem kd_V_conv (hgd : o.guard = none) {N : Tmp} (_hd : o.dst = some N) (src dst e : TypeId) (x : Operand) (ho : o.op = .convert src dst x) (s : ByteArray) (hx : a.eval x = .string s)
    {u : TypeDesc} (hs : P.underlying src = some u) (hdst : P.underlying dst = some (.slice e)) (he : P.underlying e = some (.int .u8)) (hl : s.size ≤ 9223372036854775807)
    (h : ∀ v1 w1, Kd.V (Kd.int .u8) e w1 W.heap.size (fun k_ => W.heap.size ≤ k_) v1 (bytesOf s) → Below W.heap.size W w1 → True → True → wpList P ops Q rest (a.put o.dst v1) w1) : wpList P ops Q (o :: rest) a W := by
  refine wpList_plain hgd fun _ hK => ?_
  unfold Oper.wp execOp
  simp only [ho, hx, Sem.run_bind, Sem.run_pure, print_bytes (P := P) src dst e hs hdst he s W, Result.andThen_ok]
  refine hK _ _ ?_
  have hv := h_bytes_V W e W.heap.size s hl
  rw [bytesOf_length] at hv
  exact h _ _ hv (bytes_below (Below.refl _ _) (Nat.le_refl _) e s) trivial trivial
end
theorem h_cell {k : IntKind} {x y : Int} {W : World} {b : Nat} {ok : Nat → Prop} (h : x = y) : Kd.M (Kd.int k) W b ok x [.int k y] := by subst h; rfl
/-- '[]byte("constant")': the literal's row, marked: a row that is only read. -/
theorem h_marked_V (W : World) (e base : Nat) (xs : List Int) (hs : xs.length ≤ 9223372036854775807) (fr : Nat × Nat) :
    Kd.V (Kd.int .u8) e (W.alloc (.cells (nums .u8 xs).toArray e fr)) base (fun k_ => W.heap.size ≤ k_) (.slice (some ⟨W.heap.size, 0, none⟩) xs.length xs.length) xs := by
  refine Kd.V_mk (Nat.le_refl _) (fun W' hW' => ?_)
  have hlt : W.heap.size < (W.alloc (.cells (nums .u8 xs).toArray e fr)).heap.size := by
    show W.heap.size < (W.heap.push _).size
    simp
  have hb := hW' W.heap.size (Nat.le_refl _) hlt
  rw [heap_alloc_new] at hb
  refine Kd.C_of_reads (h1 := fun _ => rfl) (d := (0 : Int)) (show ReadsOf (Value.int .u8) 0 W' _ _ _ from ⟨rfl, hs, fun _ => ⟨_, rfl, fun j hj => ?_⟩⟩)
  rw [add_plain, cell_of_row W' W.heap.size j _ e fr hb]
  simp [nums, List.getD_eq_getElem?_getD, hj]
section
variable {P : Program} {ops : Array Oper} {rest : List Oper} {o : Oper} {a : Act} {Q : Exit → Act → World → Prop} {W : World}
theorem kd_V_blit (hgd : o.guard = none) {N : Tmp} (_hd : o.dst = some N) (t e : TypeId) (x : Operand) (ho : o.op = .convert t t x) (xs : List Int) (cs : List Value) (n : Nat) (hcs : cs = nums .u8 xs) (hx : a.eval x = .slice (some ⟨W.heap.size, 0, none⟩) n n) (hn : n = xs.length)
    (ht : P.underlying t = some (.slice e)) (he : P.underlying e = some (.int .u8)) (hl : xs.length ≤ 9223372036854775807)
    (h : ∀ v1 w1, Kd.V (Kd.int .u8) e w1 W.heap.size (fun k_ => W.heap.size ≤ k_) v1 xs → Below W.heap.size W w1 → True → True → wpList P ops Q rest (a.put o.dst v1) w1) : wpList P ops Q (o :: rest) a (W.alloc (.cells cs.toArray e)) := by
  subst hcs hn
  refine wpList_plain hgd fun _ hK => ?_
  unfold Oper.wp execOp
  simp only [ho, hx, Sem.run_bind, Sem.run_pure, Lib.run_convert_bytes_const (P := P) W t e _ _ _ ht he, Result.andThen_ok]
  exact hK _ _ (h _ _ (h_marked_V W e W.heap.size xs hl _) ((Below.refl _ _).alloc (Nat.le_refl _) _) trivial trivial)
end
theorem u8w_ (n : Int) : IntKind.u8.wrap n = n % 256 := by simp [IntKind.wrap, IntKind.bits, IntKind.signed]



def errW : Option Int → Value
  | none => .nilIface
  | some c => .iface 0 (.int .i64 c)
theorem errW_none : errW none = .nilIface := rfl
theorem errW_some (c : Int) : errW (some c) = .iface 0 (.int .i64 c) := rfl

theorem info5 : (Try.prog.info? 5).map (fun i => (i.zero, i.size, i.bytes)) = some (some (.int .u8 0), 1, 1) := by kernel_rfl
theorem info23 : (Try.prog.info? 23).map (fun i => (i.zero, i.size, i.bytes)) = some (some (.slice none 0 0), 1, 24) := by kernel_rfl
-- the values' own types
def rd_L4 (xs : List (List Int)) (i : Int) : (List Int) := xs.getD i.toNat ([] : List Int)
theorem at_L4 {w : World} {A : Option Addr} {n : Nat} {xs : List (List Int)} (h : Kd.C (Kd.slice 5 (Kd.int .u8)) w A n xs) (i : Int) (h0 : 0 ≤ i) (h1 : i < n) : ∃ ad A0 c0, A = some ad ∧ w.cell? (ad.add i.toNat) = some (.slice A0 (rd_L4 xs i).length c0) ∧ (rd_L4 xs i).length ≤ c0 ∧ (Kd.int .u8).C w A0 (rd_L4 xs i).length (rd_L4 xs i) := by
  obtain ⟨ad, c, e, _, hK, hc0⟩ := Kd.C_get h ([] : List Int) i h0 h1
  have hc : ∀ j u, c[j]? = some u → w.cell? (ad.add (i.toNat * 1 + j)) = some u := hc0
  obtain ⟨A0, c0, rfl, l0, g0⟩ := hK
  exact ⟨ad, A0, c0, e, by have hq := hc 0 _ rfl; rwa [Nat.mul_one, Nat.add_zero] at hq, l0, g0⟩

end Go.Proofs.Ytejhmfimfgjmhaa.P
