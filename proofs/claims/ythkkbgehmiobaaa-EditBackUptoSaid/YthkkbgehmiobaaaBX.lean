/- Words that are wanted besides. -/
import Derived.Test.YthkkbgehmiobaaaWWords
import Derived.Test.YthkkbgehmiobaaaWLast
import Derived.Test.YthkkbgehmiobaaaWApart
import Derived.Test.YthkkbgehmiobaaaWArr
import Derived.Test.YthkkbgehmiobaaaWFoot
import Derived.Test.YthkkbgehmiobaaaWKept
import Derived.Test.YthkkbgehmiobaaaWShare
import Derived.Test.YthkkbgehmiobaaaWZeros
import Derived.Test.YthkkbgehmiobaaaWN
import Derived.Test.YthkkbgehmiobaaaWFootNe
import Derived.Test.YthkkbgehmiobaaaWAt
import Derived.Test.YthkkbgehmiobaaaWEqStruct
import Derived.Test.YthkkbgehmiobaaaWTab
import Derived.Test.YthkkbgehmiobaaaWFour
import Derived.Test.YthkkbgehmiobaaaWGuard
import Derived.Test.YthkkbgehmiobaaaWInv
import Derived.Test.YthkkbgehmiobaaaWInvWords
import Derived.Test.YthkkbgehmiobaaaWQPut
import Derived.Test.YthkkbgehmiobaaaWNEv
import Derived.Test.YthkkbgehmiobaaaWMore
import Derived.Test.YthkkbgehmiobaaaWRepsOne
import Derived.Test.YthkkbgehmiobaaaWSized
import Derived.ArgAppend
import Derived.Below
import Derived.BigQuiet
import Derived.ChangeSlices
import Derived.Deep.AppendLies
import Derived.Deep.CutBlock
import Derived.Deep.DeepCutAuto
import Derived.Deep.Draws
import Derived.Deep.LoopGhost
import Derived.Deep.OwnRows
import Derived.Deep.QuietTactic
import Derived.Deep.RegionHeld3
import Derived.KernelRfl
import Derived.Laws.BitsLemmas
import Derived.Laws.BytesArg
import Derived.Laws.IdiomCopy
import Derived.Laws.MakeOwn
import Derived.Laws.OwnMore
import Derived.Laws.Rows
import Derived.Laws.Slices
import Derived.Laws.StructEq
import Derived.Lib.AppendStr
import Derived.Lib.ConvBytes
import Derived.Maps.AppendAt
import Derived.OrdersHeld
import Derived.OwnWalk
import Derived.RowKit
import Derived.RowKit3
import Derived.SizedLaws
import Derived.Tactics
import Derived.WalkKit
import Derived.WideLaws
set_option linter.unusedVariables false
set_option linter.unusedSimpArgs false
namespace Go.Proofs.YthkkbgehmiobaaaW.PrintWords
open Go.ChangeShapes Go.WideShapes
theorem sized_ints {H : Type} {enc : TypeId × Value → H} {P : Program} {W : World} {base : Nat} {spare : Nat → Bool} {held : Bool} {t e : TypeId} {k : IntKind} {a : Option Addr} {len cap : Nat} {d : DataW H} {ps : List MemPlace} {ts : List TypeId} {ds : List (DataW H)} {j : Nat}
    (hsz : (DataW.weightsEach P ts ds).all (· ≤ reachBytes) = true) (ht : ts[j]? = some t) (hd : ds[j]? = some d) (hu : P.underlying t = some (.slice e)) (he : P.underlying e = some (.int k)) (hc : P.cellsOf e = 1) {B : Nat} (hB : P.bytesOf e = B)
    (h : DataW.Trod enc P W base spare held t (.slice a len cap) d ps) : len * B ≤ 140737488351232 := by
  obtain ⟨fuel, hf⟩ := h
  rcases open_ints hu he hc hf with ⟨hcs, _⟩ | ⟨x, l, c, zs, hcs, _, hl, _, hz, hx, _, _⟩
  · simp [Value.cells] at hcs
    obtain ⟨rfl, rfl, rfl⟩ := hcs
    simp
  · simp [Value.cells] at hcs
    obtain ⟨rfl, rfl, rfl⟩ := hcs
    obtain ⟨hx, _⟩ := Prod.mk.inj hx
    subst hx
    have z := sized_slice hsz ht hd hu
    rw [hB] at z
    have hl2 : len ≤ zs.length := by
      rw [hz]
      split
      · exact hl
      · exact Nat.le_refl _
    have h1 : (lits (H := H) k (zs.take len)).length + (lits (H := H) k (zs.drop len)).length = zs.length := by
      simp [lits]
      omega
    rw [h1] at z
    exact Nat.le_trans (Nat.mul_le_mul_right _ hl2) z
end Go.Proofs.YthkkbgehmiobaaaW.PrintWords
