/-
  No cell of these rows narrows 'for every input' (looked for: loops, veiled, ifaces, maps, wideKeys, modest, calm, conditions, laid).
  DERIVED. THE GIVEN ROWS OF THIS SEAT. 6 by the template 'for every input the law returns true; each argument reads behind the call as it read before'; 0 by the template 'total and deterministic' (their statements: YtejhmfimfgjmhaaTotals.lean).
  GIVEN WITH THE SEED: the statements are not yours to turn. If you find one false, say at which input.
  Laid BY PROGRAM, IN A SANDBOX (cutbox-rows.mjs): the forced cells as the released guide's own fill.sh prints them over the translation 3f8bf50902a0321a… (all of the seat's roots in one cut). By AI agents, Wed Nov 11 2026. No macro, syntax, notation, axiom, sorry.
-/
import Derived.Test.YtejhmfimfgjmhaaChecked
import GoSem.Claim
import GoSem.ClaimJoined
import GoSem.ClaimMapViews
import Derived.JoinedTies
import Derived.KernelRfl
namespace Go.Proofs.Ytejhmfimfgjmhaa
/- THE CELL 'sum', in the pinned program and in every row, IS THE sha256 OF THE DUMP (.gsa) THAT YtejhmfimfgjmhaaProg.lean LOADS. Nothing in Lean hashes anything: it is a label: what it is worth is what the hold of that sum in a sandbox is worth. -/
noncomputable def Try.pinned : Pinned := { name := "ytejhmfimfgjmhaa", sum := "3f8bf50902a0321a5806d38930c2968a88c68ea04747c5b67898d77a6d199300", checked := Try.checked }
namespace Rows
def none {H : Type} : Left H := { results := [], args := [] }

/-- 'staddlelaw09.WalNames': WHATEVER THE INPUT: true; the input reads as it did. -/
def walNamesSpec : ChangeSpec := { name := "walNames", fn := fun _ => fun
  | [] => { results := [.lit (.bool true)], args := [] }
  | _ => none }
def walNamesRow : OpenClaim := { program := "ytejhmfimfgjmhaa", sum := "3f8bf50902a0321a5806d38930c2968a88c68ea04747c5b67898d77a6d199300", func := "staddle/staddlelaw09.WalNames", spec := "walNames", unfollowed := true, recurses := true, apart := false }
def WalNamesSaid : Prop := walNamesRow.holds Try.pinned (OpenSpec.ofChange walNamesSpec)

/-- ITS FALSE NEIGHBOUR: 'it returns false'. Refute it at one input. -/
def walNamesWrong : ChangeSpec := { name := "walNames", fn := fun _ => fun
  | [] => { results := [.lit (.bool false)], args := [] }
  | _ => none }
def WalNamesWrongFalsely : Prop := walNamesRow.holds Try.pinned (OpenSpec.ofChange walNamesWrong)

/-- 'staddlelaw09.WalPuts': WHATEVER THE INPUT: true; the input reads as it did. -/
def walPutsSpec : ChangeSpec := { name := "walPuts", fn := fun _ => fun
  | [d1, d2] => { results := [.lit (.bool true)], args := [d1, d2] }
  | _ => none }
def walPutsRow : OpenClaim := { program := "ytejhmfimfgjmhaa", sum := "3f8bf50902a0321a5806d38930c2968a88c68ea04747c5b67898d77a6d199300", func := "staddle/staddlelaw09.WalPuts", spec := "walPuts", unfollowed := true, recurses := true, apart := false }
def WalPutsSaid : Prop := walPutsRow.holds Try.pinned (OpenSpec.ofChange walPutsSpec)

/-- ITS FALSE NEIGHBOUR: 'it returns false'. Refute it at one input. -/
def walPutsWrong : ChangeSpec := { name := "walPuts", fn := fun _ => fun
  | [d1, d2] => { results := [.lit (.bool false)], args := [d1, d2] }
  | _ => none }
def WalPutsWrongFalsely : Prop := walPutsRow.holds Try.pinned (OpenSpec.ofChange walPutsWrong)

/-- 'staddlelaw09.WalReads': WHATEVER THE INPUT: true; the input reads as it did. -/
def walReadsSpec : ChangeSpec := { name := "walReads", fn := fun _ => fun
  | [d] => { results := [.lit (.bool true)], args := [d] }
  | _ => none }
def walReadsRow : OpenClaim := { program := "ytejhmfimfgjmhaa", sum := "3f8bf50902a0321a5806d38930c2968a88c68ea04747c5b67898d77a6d199300", func := "staddle/staddlelaw09.WalReads", spec := "walReads", unfollowed := true, recurses := true, apart := false }
def WalReadsSaid : Prop := walReadsRow.holds Try.pinned (OpenSpec.ofChange walReadsSpec)

/-- ITS FALSE NEIGHBOUR: 'it returns false'. Refute it at one input. -/
def walReadsWrong : ChangeSpec := { name := "walReads", fn := fun _ => fun
  | [d] => { results := [.lit (.bool false)], args := [d] }
  | _ => none }
def WalReadsWrongFalsely : Prop := walReadsRow.holds Try.pinned (OpenSpec.ofChange walReadsWrong)

/-- 'staddlelaw09.WalBack': WHATEVER THE INPUT: true; the input reads as it did. -/
def walBackSpec : ChangeSpec := { name := "walBack", fn := fun _ => fun
  | [d1, d2] => { results := [.lit (.bool true)], args := [d1, d2] }
  | _ => none }
def walBackRow : OpenClaim := { program := "ytejhmfimfgjmhaa", sum := "3f8bf50902a0321a5806d38930c2968a88c68ea04747c5b67898d77a6d199300", func := "staddle/staddlelaw09.WalBack", spec := "walBack", unfollowed := true, recurses := true, apart := false }
def WalBackSaid : Prop := walBackRow.holds Try.pinned (OpenSpec.ofChange walBackSpec)

/-- ITS FALSE NEIGHBOUR: 'it returns false'. Refute it at one input. -/
def walBackWrong : ChangeSpec := { name := "walBack", fn := fun _ => fun
  | [d1, d2] => { results := [.lit (.bool false)], args := [d1, d2] }
  | _ => none }
def WalBackWrongFalsely : Prop := walBackRow.holds Try.pinned (OpenSpec.ofChange walBackWrong)

/-- 'staddlelaw09.WalTurns': WHATEVER THE INPUT: true; the input reads as it did. -/
def walTurnsSpec : ChangeSpec := { name := "walTurns", fn := fun _ => fun
  | [d1, d2, d3, d4] => { results := [.lit (.bool true)], args := [d1, d2, d3, d4] }
  | _ => none }
def walTurnsRow : OpenClaim := { program := "ytejhmfimfgjmhaa", sum := "3f8bf50902a0321a5806d38930c2968a88c68ea04747c5b67898d77a6d199300", func := "staddle/staddlelaw09.WalTurns", spec := "walTurns", unfollowed := true, recurses := true, apart := false }
def WalTurnsSaid : Prop := walTurnsRow.holds Try.pinned (OpenSpec.ofChange walTurnsSpec)

/-- ITS FALSE NEIGHBOUR: 'it returns false'. Refute it at one input. -/
def walTurnsWrong : ChangeSpec := { name := "walTurns", fn := fun _ => fun
  | [d1, d2, d3, d4] => { results := [.lit (.bool false)], args := [d1, d2, d3, d4] }
  | _ => none }
def WalTurnsWrongFalsely : Prop := walTurnsRow.holds Try.pinned (OpenSpec.ofChange walTurnsWrong)

/-- 'staddlelaw09.WalPlaces': WHATEVER THE INPUT: true; the input reads as it did. -/
def walPlacesSpec : ChangeSpec := { name := "walPlaces", fn := fun _ => fun
  | [d1, d2, d3] => { results := [.lit (.bool true)], args := [d1, d2, d3] }
  | _ => none }
def walPlacesRow : OpenClaim := { program := "ytejhmfimfgjmhaa", sum := "3f8bf50902a0321a5806d38930c2968a88c68ea04747c5b67898d77a6d199300", func := "staddle/staddlelaw09.WalPlaces", spec := "walPlaces", unfollowed := true, recurses := true, apart := false }
def WalPlacesSaid : Prop := walPlacesRow.holds Try.pinned (OpenSpec.ofChange walPlacesSpec)

/-- ITS FALSE NEIGHBOUR: 'it returns false'. Refute it at one input. -/
def walPlacesWrong : ChangeSpec := { name := "walPlaces", fn := fun _ => fun
  | [d1, d2, d3] => { results := [.lit (.bool false)], args := [d1, d2, d3] }
  | _ => none }
def WalPlacesWrongFalsely : Prop := walPlacesRow.holds Try.pinned (OpenSpec.ofChange walPlacesWrong)

/- THE SECOND FORM. 'bulk': how many values and letters a reading holds, each counted each time it is reached (what is shared counts as often as it is met; a slice's spare places count too). A statement '..UptoSaid' is the law's where the arguments, and the package variables that the reading takes, are together of bulk at most 1048576: NARROWER than '..Said'. Prove '..Said' where nothing that the law and all that it calls make is longer than what came in: it says more and counts as full. Else prove '..UptoSaid'. A law counts once. -/
mutual
def uptoBulk {H : Type} : DataW H → Nat
  | .lit (.string bytes) => bytes.length + 1
  | .lit _ => 1
  | .nil => 1
  | .ptr d => uptoBulk d + 1
  | .slice elems spare => uptoBulkAll elems + uptoBulkAll spare + 1
  | .agg parts => uptoBulkAll parts + 1
  | .iface _ d => uptoBulk d + 1
  | .map entries => uptoBulkEntries entries + 1
  | .held _ => 1
def uptoBulkAll {H : Type} : List (DataW H) → Nat
  | [] => 0
  | d :: r => uptoBulk d + uptoBulkAll r
def uptoBulkEntries {H : Type} : List (Lit × DataW H) → Nat
  | [] => 0
  | x :: r => uptoBulkEntry x + uptoBulkEntries r
def uptoBulkEntry {H : Type} : Lit × DataW H → Nat
  | (.string bytes, d) => bytes.length + uptoBulk d + 1
  | (_, d) => uptoBulk d + 1
 end
def uptoSmall : (H : Type) → List (DataW H) → Bool := fun _ ds => decide (uptoBulkAll ds ≤ 1048576)
def OpenSpec.upto (s : _root_.Go.ChangeSpec) : _root_.Go.OpenSpec := { _root_.Go.OpenSpec.ofChange s with cond := some uptoSmall }

/-- 'staddlelaw09.WalNames', WHERE WHAT IT READS IS OF BULK AT MOST 1048576: true; the input reads as it did. -/
def walNamesUptoRow : OpenClaim := { program := "ytejhmfimfgjmhaa", sum := "3f8bf50902a0321a5806d38930c2968a88c68ea04747c5b67898d77a6d199300", func := "staddle/staddlelaw09.WalNames", spec := "walNames", unfollowed := true, recurses := true, apart := false, narrowed := true }
def WalNamesUptoSaid : Prop := walNamesUptoRow.holds Try.pinned (OpenSpec.upto walNamesSpec)

/-- 'staddlelaw09.WalPuts', WHERE WHAT IT READS IS OF BULK AT MOST 1048576: true; the input reads as it did. -/
def walPutsUptoRow : OpenClaim := { program := "ytejhmfimfgjmhaa", sum := "3f8bf50902a0321a5806d38930c2968a88c68ea04747c5b67898d77a6d199300", func := "staddle/staddlelaw09.WalPuts", spec := "walPuts", unfollowed := true, recurses := true, apart := false, narrowed := true }
def WalPutsUptoSaid : Prop := walPutsUptoRow.holds Try.pinned (OpenSpec.upto walPutsSpec)

/-- 'staddlelaw09.WalReads', WHERE WHAT IT READS IS OF BULK AT MOST 1048576: true; the input reads as it did. -/
def walReadsUptoRow : OpenClaim := { program := "ytejhmfimfgjmhaa", sum := "3f8bf50902a0321a5806d38930c2968a88c68ea04747c5b67898d77a6d199300", func := "staddle/staddlelaw09.WalReads", spec := "walReads", unfollowed := true, recurses := true, apart := false, narrowed := true }
def WalReadsUptoSaid : Prop := walReadsUptoRow.holds Try.pinned (OpenSpec.upto walReadsSpec)

/-- 'staddlelaw09.WalBack', WHERE WHAT IT READS IS OF BULK AT MOST 1048576: true; the input reads as it did. -/
def walBackUptoRow : OpenClaim := { program := "ytejhmfimfgjmhaa", sum := "3f8bf50902a0321a5806d38930c2968a88c68ea04747c5b67898d77a6d199300", func := "staddle/staddlelaw09.WalBack", spec := "walBack", unfollowed := true, recurses := true, apart := false, narrowed := true }
def WalBackUptoSaid : Prop := walBackUptoRow.holds Try.pinned (OpenSpec.upto walBackSpec)

/-- 'staddlelaw09.WalTurns', WHERE WHAT IT READS IS OF BULK AT MOST 1048576: true; the input reads as it did. -/
def walTurnsUptoRow : OpenClaim := { program := "ytejhmfimfgjmhaa", sum := "3f8bf50902a0321a5806d38930c2968a88c68ea04747c5b67898d77a6d199300", func := "staddle/staddlelaw09.WalTurns", spec := "walTurns", unfollowed := true, recurses := true, apart := false, narrowed := true }
def WalTurnsUptoSaid : Prop := walTurnsUptoRow.holds Try.pinned (OpenSpec.upto walTurnsSpec)

/-- 'staddlelaw09.WalPlaces', WHERE WHAT IT READS IS OF BULK AT MOST 1048576: true; the input reads as it did. -/
def walPlacesUptoRow : OpenClaim := { program := "ytejhmfimfgjmhaa", sum := "3f8bf50902a0321a5806d38930c2968a88c68ea04747c5b67898d77a6d199300", func := "staddle/staddlelaw09.WalPlaces", spec := "walPlaces", unfollowed := true, recurses := true, apart := false, narrowed := true }
def WalPlacesUptoSaid : Prop := walPlacesUptoRow.holds Try.pinned (OpenSpec.upto walPlacesSpec)

end Rows
end Go.Proofs.Ytejhmfimfgjmhaa
