/-
  No cell of these rows narrows 'for every input' (looked for: loops, veiled, ifaces, maps, wideKeys, modest, calm, conditions, laid).
  DERIVED. THE GIVEN ROWS OF THIS SEAT. 5 by the template 'for every input the law returns true; each argument reads behind the call as it read before'; 0 by the template 'total and deterministic' (their statements: YthkkbgehmiobaaaTotals.lean).
  GIVEN WITH THE SEED: the statements are not yours to turn. If you find one false, say at which input.
  Laid BY PROGRAM, IN A SANDBOX (cutbox-rows.mjs): the forced cells as the released guide's own fill.sh prints them over the translation e6f37e446d3bd6b9… (all of the seat's roots in one cut). By AI agents, Wed Nov 11 2026. No macro, syntax, notation, axiom, sorry.
-/
import Derived.Test.YthkkbgehmiobaaaChecked
import GoSem.Claim
import GoSem.ClaimJoined
import GoSem.ClaimMapViews
import Derived.JoinedTies
import Derived.KernelRfl
namespace Go.Proofs.Ythkkbgehmiobaaa
/- THE CELL 'sum', in the pinned program and in every row, IS THE sha256 OF THE DUMP (.gsa) THAT YthkkbgehmiobaaaProg.lean LOADS. Nothing in Lean hashes anything: it is a label: what it is worth is what the hold of that sum in a sandbox is worth. -/
noncomputable def Try.pinned : Pinned := { name := "ythkkbgehmiobaaa", sum := "e6f37e446d3bd6b9a11c7c05e2d7f02902075efa97aa71c6236fb880de103187", checked := Try.checked }
namespace Rows
def none {H : Type} : Left H := { results := [], args := [] }

/-- 'staddlelaw13.EditNames': WHATEVER THE INPUT: true; the input reads as it did. -/
def editNamesSpec : ChangeSpec := { name := "editNames", fn := fun _ => fun
  | [] => { results := [.lit (.bool true)], args := [] }
  | _ => none }
def editNamesRow : OpenClaim := { program := "ythkkbgehmiobaaa", sum := "e6f37e446d3bd6b9a11c7c05e2d7f02902075efa97aa71c6236fb880de103187", func := "staddle/staddlelaw13.EditNames", spec := "editNames", inPlace := ["internal/bytealg.abigen_runtime_cmpstring"], unfollowed := true, recurses := true, apart := false }
def EditNamesSaid : Prop := editNamesRow.holds Try.pinned (OpenSpec.ofChange editNamesSpec)

/-- ITS FALSE NEIGHBOUR: 'it returns false'. Refute it at one input. -/
def editNamesWrong : ChangeSpec := { name := "editNames", fn := fun _ => fun
  | [] => { results := [.lit (.bool false)], args := [] }
  | _ => none }
def EditNamesWrongFalsely : Prop := editNamesRow.holds Try.pinned (OpenSpec.ofChange editNamesWrong)

/-- 'staddlelaw13.EditLays': WHATEVER THE INPUT: true; the input reads as it did. -/
def editLaysSpec : ChangeSpec := { name := "editLays", fn := fun _ => fun
  | [d] => { results := [.lit (.bool true)], args := [d] }
  | _ => none }
def editLaysRow : OpenClaim := { program := "ythkkbgehmiobaaa", sum := "e6f37e446d3bd6b9a11c7c05e2d7f02902075efa97aa71c6236fb880de103187", func := "staddle/staddlelaw13.EditLays", spec := "editLays", inPlace := ["internal/bytealg.abigen_runtime_cmpstring"], unfollowed := true, recurses := true, apart := false }
def EditLaysSaid : Prop := editLaysRow.holds Try.pinned (OpenSpec.ofChange editLaysSpec)

/-- ITS FALSE NEIGHBOUR: 'it returns false'. Refute it at one input. -/
def editLaysWrong : ChangeSpec := { name := "editLays", fn := fun _ => fun
  | [d] => { results := [.lit (.bool false)], args := [d] }
  | _ => none }
def EditLaysWrongFalsely : Prop := editLaysRow.holds Try.pinned (OpenSpec.ofChange editLaysWrong)

/-- 'staddlelaw13.EditReads': WHATEVER THE INPUT: true; the input reads as it did. -/
def editReadsSpec : ChangeSpec := { name := "editReads", fn := fun _ => fun
  | [d] => { results := [.lit (.bool true)], args := [d] }
  | _ => none }
def editReadsRow : OpenClaim := { program := "ythkkbgehmiobaaa", sum := "e6f37e446d3bd6b9a11c7c05e2d7f02902075efa97aa71c6236fb880de103187", func := "staddle/staddlelaw13.EditReads", spec := "editReads", inPlace := ["internal/bytealg.abigen_runtime_cmpstring"], unfollowed := true, recurses := true, apart := false }
def EditReadsSaid : Prop := editReadsRow.holds Try.pinned (OpenSpec.ofChange editReadsSpec)

/-- ITS FALSE NEIGHBOUR: 'it returns false'. Refute it at one input. -/
def editReadsWrong : ChangeSpec := { name := "editReads", fn := fun _ => fun
  | [d] => { results := [.lit (.bool false)], args := [d] }
  | _ => none }
def EditReadsWrongFalsely : Prop := editReadsRow.holds Try.pinned (OpenSpec.ofChange editReadsWrong)

/-- 'staddlelaw13.EditBack': WHATEVER THE INPUT: true; the input reads as it did. -/
def editBackSpec : ChangeSpec := { name := "editBack", fn := fun _ => fun
  | [d1, d2, d3] => { results := [.lit (.bool true)], args := [d1, d2, d3] }
  | _ => none }
def editBackRow : OpenClaim := { program := "ythkkbgehmiobaaa", sum := "e6f37e446d3bd6b9a11c7c05e2d7f02902075efa97aa71c6236fb880de103187", func := "staddle/staddlelaw13.EditBack", spec := "editBack", inPlace := ["internal/bytealg.abigen_runtime_cmpstring"], unfollowed := true, recurses := true, apart := false }
def EditBackSaid : Prop := editBackRow.holds Try.pinned (OpenSpec.ofChange editBackSpec)

/-- ITS FALSE NEIGHBOUR: 'it returns false'. Refute it at one input. -/
def editBackWrong : ChangeSpec := { name := "editBack", fn := fun _ => fun
  | [d1, d2, d3] => { results := [.lit (.bool false)], args := [d1, d2, d3] }
  | _ => none }
def EditBackWrongFalsely : Prop := editBackRow.holds Try.pinned (OpenSpec.ofChange editBackWrong)

/-- 'staddlelaw13.EditParts': WHATEVER THE INPUT: true; the input reads as it did. -/
def editPartsSpec : ChangeSpec := { name := "editParts", fn := fun _ => fun
  | [d] => { results := [.lit (.bool true)], args := [d] }
  | _ => none }
def editPartsRow : OpenClaim := { program := "ythkkbgehmiobaaa", sum := "e6f37e446d3bd6b9a11c7c05e2d7f02902075efa97aa71c6236fb880de103187", func := "staddle/staddlelaw13.EditParts", spec := "editParts", inPlace := ["internal/bytealg.abigen_runtime_cmpstring"], unfollowed := true, recurses := true, apart := false }
def EditPartsSaid : Prop := editPartsRow.holds Try.pinned (OpenSpec.ofChange editPartsSpec)

/-- ITS FALSE NEIGHBOUR: 'it returns false'. Refute it at one input. -/
def editPartsWrong : ChangeSpec := { name := "editParts", fn := fun _ => fun
  | [d] => { results := [.lit (.bool false)], args := [d] }
  | _ => none }
def EditPartsWrongFalsely : Prop := editPartsRow.holds Try.pinned (OpenSpec.ofChange editPartsWrong)

/- THE SECOND FORM. 'bulk': how many values and letters a reading holds, each counted each time it is reached (what is shared counts as often as it is met; a slice's spare places count too). A statement '..UptoSaid' is the law's where the arguments, and the package variables that the reading takes, are together of bulk at most 1048576: NARROWER than '..Said'. Prove '..Said' where nothing that the law and all that it calls make is longer than what came in: it says more and counts as full. Else prove '..UptoSaid'. A law counts once. -/
mutual
def uptoBulk {H : Type} : DataW H → Nat
  | .lit (.string bytes) => bytes.length + 1
  | .lit _ => 1
  | .nil => 1
  | .ptr d => uptoBulk d + 1
  | .slice elems spare => uptoBulkAll elems + uptoBulkAll spare + 1
  | .agg parts => uptoBulkAll parts + 1
  | .iface _ d => uptoBulk d + 1
  | .map entries => uptoBulkEntries entries + 1
  | .held _ => 1
def uptoBulkAll {H : Type} : List (DataW H) → Nat
  | [] => 0
  | d :: r => uptoBulk d + uptoBulkAll r
def uptoBulkEntries {H : Type} : List (Lit × DataW H) → Nat
  | [] => 0
  | x :: r => uptoBulkEntry x + uptoBulkEntries r
def uptoBulkEntry {H : Type} : Lit × DataW H → Nat
  | (.string bytes, d) => bytes.length + uptoBulk d + 1
  | (_, d) => uptoBulk d + 1
 end
def uptoSmall : (H : Type) → List (DataW H) → Bool := fun _ ds => decide (uptoBulkAll ds ≤ 1048576)
def OpenSpec.upto (s : _root_.Go.ChangeSpec) : _root_.Go.OpenSpec := { _root_.Go.OpenSpec.ofChange s with cond := some uptoSmall }

/-- 'staddlelaw13.EditNames', WHERE WHAT IT READS IS OF BULK AT MOST 1048576: true; the input reads as it did. -/
def editNamesUptoRow : OpenClaim := { program := "ythkkbgehmiobaaa", sum := "e6f37e446d3bd6b9a11c7c05e2d7f02902075efa97aa71c6236fb880de103187", func := "staddle/staddlelaw13.EditNames", spec := "editNames", inPlace := ["internal/bytealg.abigen_runtime_cmpstring"], unfollowed := true, recurses := true, apart := false, narrowed := true }
def EditNamesUptoSaid : Prop := editNamesUptoRow.holds Try.pinned (OpenSpec.upto editNamesSpec)

/-- 'staddlelaw13.EditLays', WHERE WHAT IT READS IS OF BULK AT MOST 1048576: true; the input reads as it did. -/
def editLaysUptoRow : OpenClaim := { program := "ythkkbgehmiobaaa", sum := "e6f37e446d3bd6b9a11c7c05e2d7f02902075efa97aa71c6236fb880de103187", func := "staddle/staddlelaw13.EditLays", spec := "editLays", inPlace := ["internal/bytealg.abigen_runtime_cmpstring"], unfollowed := true, recurses := true, apart := false, narrowed := true }
def EditLaysUptoSaid : Prop := editLaysUptoRow.holds Try.pinned (OpenSpec.upto editLaysSpec)

/-- 'staddlelaw13.EditReads', WHERE WHAT IT READS IS OF BULK AT MOST 1048576: true; the input reads as it did. -/
def editReadsUptoRow : OpenClaim := { program := "ythkkbgehmiobaaa", sum := "e6f37e446d3bd6b9a11c7c05e2d7f02902075efa97aa71c6236fb880de103187", func := "staddle/staddlelaw13.EditReads", spec := "editReads", inPlace := ["internal/bytealg.abigen_runtime_cmpstring"], unfollowed := true, recurses := true, apart := false, narrowed := true }
def EditReadsUptoSaid : Prop := editReadsUptoRow.holds Try.pinned (OpenSpec.upto editReadsSpec)

/-- 'staddlelaw13.EditBack', WHERE WHAT IT READS IS OF BULK AT MOST 1048576: true; the input reads as it did. -/
def editBackUptoRow : OpenClaim := { program := "ythkkbgehmiobaaa", sum := "e6f37e446d3bd6b9a11c7c05e2d7f02902075efa97aa71c6236fb880de103187", func := "staddle/staddlelaw13.EditBack", spec := "editBack", inPlace := ["internal/bytealg.abigen_runtime_cmpstring"], unfollowed := true, recurses := true, apart := false, narrowed := true }
def EditBackUptoSaid : Prop := editBackUptoRow.holds Try.pinned (OpenSpec.upto editBackSpec)

/-- 'staddlelaw13.EditParts', WHERE WHAT IT READS IS OF BULK AT MOST 1048576: true; the input reads as it did. -/
def editPartsUptoRow : OpenClaim := { program := "ythkkbgehmiobaaa", sum := "e6f37e446d3bd6b9a11c7c05e2d7f02902075efa97aa71c6236fb880de103187", func := "staddle/staddlelaw13.EditParts", spec := "editParts", inPlace := ["internal/bytealg.abigen_runtime_cmpstring"], unfollowed := true, recurses := true, apart := false, narrowed := true }
def EditPartsUptoSaid : Prop := editPartsUptoRow.holds Try.pinned (OpenSpec.upto editPartsSpec)

end Rows
end Go.Proofs.Ythkkbgehmiobaaa
