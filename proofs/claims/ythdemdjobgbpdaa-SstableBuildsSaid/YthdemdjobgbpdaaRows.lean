/-
  No cell of these rows narrows 'for every input' (looked for: loops, veiled, ifaces, maps, wideKeys, modest, calm, conditions, laid).
  DERIVED. THE GIVEN ROWS OF THIS SEAT. 6 by the template 'for every input the law returns true; each argument reads behind the call as it read before'; 0 by the template 'total and deterministic' (their statements: YthdemdjobgbpdaaTotals.lean).
  GIVEN WITH THE SEED: the statements are not yours to turn. If you find one false, say at which input.
  Laid BY PROGRAM, IN A SANDBOX (cutbox-rows.mjs): the forced cells as the released guide's own fill.sh prints them over the translation 02b59772a8440e93… (all of the seat's roots in one cut). By AI agents, Wed Nov 11 2026. No macro, syntax, notation, axiom, sorry.
-/
import Derived.Test.YthdemdjobgbpdaaChecked
import GoSem.Claim
import GoSem.ClaimJoined
import GoSem.ClaimMapViews
import Derived.JoinedTies
import Derived.KernelRfl
namespace Go.Proofs.Ythdemdjobgbpdaa
/- THE CELL 'sum', in the pinned program and in every row, IS THE sha256 OF THE DUMP (.gsa) THAT YthdemdjobgbpdaaProg.lean LOADS. Nothing in Lean hashes anything: it is a label: what it is worth is what the hold of that sum in a sandbox is worth. -/
noncomputable def Try.pinned : Pinned := { name := "ythdemdjobgbpdaa", sum := "02b59772a8440e938483872e9dfd788ba6a55626f9de9e0c363e95bde4234cf3", checked := Try.checked }
namespace Rows
def none {H : Type} : Left H := { results := [], args := [] }

/-- 'staddlelaw12.SstableNames': WHATEVER THE INPUT: true; the input reads as it did. -/
def sstableNamesSpec : ChangeSpec := { name := "sstableNames", fn := fun _ => fun
  | [] => { results := [.lit (.bool true)], args := [] }
  | _ => none }
def sstableNamesRow : OpenClaim := { program := "ythdemdjobgbpdaa", sum := "02b59772a8440e938483872e9dfd788ba6a55626f9de9e0c363e95bde4234cf3", func := "staddle/staddlelaw12.SstableNames", spec := "sstableNames", inPlace := ["internal/bytealg.abigen_runtime_cmpstring"], unfollowed := true, recurses := true, apart := false }
def SstableNamesSaid : Prop := sstableNamesRow.holds Try.pinned (OpenSpec.ofChange sstableNamesSpec)

/-- ITS FALSE NEIGHBOUR: 'it returns false'. Refute it at one input. -/
def sstableNamesWrong : ChangeSpec := { name := "sstableNames", fn := fun _ => fun
  | [] => { results := [.lit (.bool false)], args := [] }
  | _ => none }
def SstableNamesWrongFalsely : Prop := sstableNamesRow.holds Try.pinned (OpenSpec.ofChange sstableNamesWrong)

/-- 'staddlelaw12.SstableBuilds': WHATEVER THE INPUT: true; the input reads as it did. -/
def sstableBuildsSpec : ChangeSpec := { name := "sstableBuilds", fn := fun _ => fun
  | [d1, d2] => { results := [.lit (.bool true)], args := [d1, d2] }
  | _ => none }
def sstableBuildsRow : OpenClaim := { program := "ythdemdjobgbpdaa", sum := "02b59772a8440e938483872e9dfd788ba6a55626f9de9e0c363e95bde4234cf3", func := "staddle/staddlelaw12.SstableBuilds", spec := "sstableBuilds", inPlace := ["internal/bytealg.abigen_runtime_cmpstring"], unfollowed := true, recurses := true, apart := false }
def SstableBuildsSaid : Prop := sstableBuildsRow.holds Try.pinned (OpenSpec.ofChange sstableBuildsSpec)

/-- ITS FALSE NEIGHBOUR: 'it returns false'. Refute it at one input. -/
def sstableBuildsWrong : ChangeSpec := { name := "sstableBuilds", fn := fun _ => fun
  | [d1, d2] => { results := [.lit (.bool false)], args := [d1, d2] }
  | _ => none }
def SstableBuildsWrongFalsely : Prop := sstableBuildsRow.holds Try.pinned (OpenSpec.ofChange sstableBuildsWrong)

/-- 'staddlelaw12.SstableBack': WHATEVER THE INPUT: true; the input reads as it did. -/
def sstableBackSpec : ChangeSpec := { name := "sstableBack", fn := fun _ => fun
  | [d1, d2, d3, d4] => { results := [.lit (.bool true)], args := [d1, d2, d3, d4] }
  | _ => none }
def sstableBackRow : OpenClaim := { program := "ythdemdjobgbpdaa", sum := "02b59772a8440e938483872e9dfd788ba6a55626f9de9e0c363e95bde4234cf3", func := "staddle/staddlelaw12.SstableBack", spec := "sstableBack", inPlace := ["internal/bytealg.abigen_runtime_cmpstring"], unfollowed := true, recurses := true, apart := false }
def SstableBackSaid : Prop := sstableBackRow.holds Try.pinned (OpenSpec.ofChange sstableBackSpec)

/-- ITS FALSE NEIGHBOUR: 'it returns false'. Refute it at one input. -/
def sstableBackWrong : ChangeSpec := { name := "sstableBack", fn := fun _ => fun
  | [d1, d2, d3, d4] => { results := [.lit (.bool false)], args := [d1, d2, d3, d4] }
  | _ => none }
def SstableBackWrongFalsely : Prop := sstableBackRow.holds Try.pinned (OpenSpec.ofChange sstableBackWrong)

/-- 'staddlelaw12.SstableTurns': WHATEVER THE INPUT: true; the input reads as it did. -/
def sstableTurnsSpec : ChangeSpec := { name := "sstableTurns", fn := fun _ => fun
  | [d1, d2, d3, d4, d5] => { results := [.lit (.bool true)], args := [d1, d2, d3, d4, d5] }
  | _ => none }
def sstableTurnsRow : OpenClaim := { program := "ythdemdjobgbpdaa", sum := "02b59772a8440e938483872e9dfd788ba6a55626f9de9e0c363e95bde4234cf3", func := "staddle/staddlelaw12.SstableTurns", spec := "sstableTurns", inPlace := ["internal/bytealg.abigen_runtime_cmpstring"], unfollowed := true, recurses := true, apart := false }
def SstableTurnsSaid : Prop := sstableTurnsRow.holds Try.pinned (OpenSpec.ofChange sstableTurnsSpec)

/-- ITS FALSE NEIGHBOUR: 'it returns false'. Refute it at one input. -/
def sstableTurnsWrong : ChangeSpec := { name := "sstableTurns", fn := fun _ => fun
  | [d1, d2, d3, d4, d5] => { results := [.lit (.bool false)], args := [d1, d2, d3, d4, d5] }
  | _ => none }
def SstableTurnsWrongFalsely : Prop := sstableTurnsRow.holds Try.pinned (OpenSpec.ofChange sstableTurnsWrong)

/-- 'staddlelaw12.SstableNil': WHATEVER THE INPUT: true; the input reads as it did. -/
def sstableNilSpec : ChangeSpec := { name := "sstableNil", fn := fun _ => fun
  | [d1, d2] => { results := [.lit (.bool true)], args := [d1, d2] }
  | _ => none }
def sstableNilRow : OpenClaim := { program := "ythdemdjobgbpdaa", sum := "02b59772a8440e938483872e9dfd788ba6a55626f9de9e0c363e95bde4234cf3", func := "staddle/staddlelaw12.SstableNil", spec := "sstableNil", inPlace := ["internal/bytealg.abigen_runtime_cmpstring"], unfollowed := true, recurses := true, apart := false }
def SstableNilSaid : Prop := sstableNilRow.holds Try.pinned (OpenSpec.ofChange sstableNilSpec)

/-- ITS FALSE NEIGHBOUR: 'it returns false'. Refute it at one input. -/
def sstableNilWrong : ChangeSpec := { name := "sstableNil", fn := fun _ => fun
  | [d1, d2] => { results := [.lit (.bool false)], args := [d1, d2] }
  | _ => none }
def SstableNilWrongFalsely : Prop := sstableNilRow.holds Try.pinned (OpenSpec.ofChange sstableNilWrong)

/-- 'staddlelaw12.SstableTunes': WHATEVER THE INPUT: true; the input reads as it did. -/
def sstableTunesSpec : ChangeSpec := { name := "sstableTunes", fn := fun _ => fun
  | [d1, d2, d3, d4, d5] => { results := [.lit (.bool true)], args := [d1, d2, d3, d4, d5] }
  | _ => none }
def sstableTunesRow : OpenClaim := { program := "ythdemdjobgbpdaa", sum := "02b59772a8440e938483872e9dfd788ba6a55626f9de9e0c363e95bde4234cf3", func := "staddle/staddlelaw12.SstableTunes", spec := "sstableTunes", inPlace := ["internal/bytealg.abigen_runtime_cmpstring"], unfollowed := true, recurses := true, apart := false }
def SstableTunesSaid : Prop := sstableTunesRow.holds Try.pinned (OpenSpec.ofChange sstableTunesSpec)

/-- ITS FALSE NEIGHBOUR: 'it returns false'. Refute it at one input. -/
def sstableTunesWrong : ChangeSpec := { name := "sstableTunes", fn := fun _ => fun
  | [d1, d2, d3, d4, d5] => { results := [.lit (.bool false)], args := [d1, d2, d3, d4, d5] }
  | _ => none }
def SstableTunesWrongFalsely : Prop := sstableTunesRow.holds Try.pinned (OpenSpec.ofChange sstableTunesWrong)

/- THE SECOND FORM. 'bulk': how many values and letters a reading holds, each counted each time it is reached (what is shared counts as often as it is met; a slice's spare places count too). A statement '..UptoSaid' is the law's where the arguments, and the package variables that the reading takes, are together of bulk at most 1048576: NARROWER than '..Said'. Prove '..Said' where nothing that the law and all that it calls make is longer than what came in: it says more and counts as full. Else prove '..UptoSaid'. A law counts once. -/
mutual
def uptoBulk {H : Type} : DataW H → Nat
  | .lit (.string bytes) => bytes.length + 1
  | .lit _ => 1
  | .nil => 1
  | .ptr d => uptoBulk d + 1
  | .slice elems spare => uptoBulkAll elems + uptoBulkAll spare + 1
  | .agg parts => uptoBulkAll parts + 1
  | .iface _ d => uptoBulk d + 1
  | .map entries => uptoBulkEntries entries + 1
  | .held _ => 1
def uptoBulkAll {H : Type} : List (DataW H) → Nat
  | [] => 0
  | d :: r => uptoBulk d + uptoBulkAll r
def uptoBulkEntries {H : Type} : List (Lit × DataW H) → Nat
  | [] => 0
  | x :: r => uptoBulkEntry x + uptoBulkEntries r
def uptoBulkEntry {H : Type} : Lit × DataW H → Nat
  | (.string bytes, d) => bytes.length + uptoBulk d + 1
  | (_, d) => uptoBulk d + 1
 end
def uptoSmall : (H : Type) → List (DataW H) → Bool := fun _ ds => decide (uptoBulkAll ds ≤ 1048576)
def OpenSpec.upto (s : _root_.Go.ChangeSpec) : _root_.Go.OpenSpec := { _root_.Go.OpenSpec.ofChange s with cond := some uptoSmall }

/-- 'staddlelaw12.SstableNames', WHERE WHAT IT READS IS OF BULK AT MOST 1048576: true; the input reads as it did. -/
def sstableNamesUptoRow : OpenClaim := { program := "ythdemdjobgbpdaa", sum := "02b59772a8440e938483872e9dfd788ba6a55626f9de9e0c363e95bde4234cf3", func := "staddle/staddlelaw12.SstableNames", spec := "sstableNames", inPlace := ["internal/bytealg.abigen_runtime_cmpstring"], unfollowed := true, recurses := true, apart := false, narrowed := true }
def SstableNamesUptoSaid : Prop := sstableNamesUptoRow.holds Try.pinned (OpenSpec.upto sstableNamesSpec)

/-- 'staddlelaw12.SstableBuilds', WHERE WHAT IT READS IS OF BULK AT MOST 1048576: true; the input reads as it did. -/
def sstableBuildsUptoRow : OpenClaim := { program := "ythdemdjobgbpdaa", sum := "02b59772a8440e938483872e9dfd788ba6a55626f9de9e0c363e95bde4234cf3", func := "staddle/staddlelaw12.SstableBuilds", spec := "sstableBuilds", inPlace := ["internal/bytealg.abigen_runtime_cmpstring"], unfollowed := true, recurses := true, apart := false, narrowed := true }
def SstableBuildsUptoSaid : Prop := sstableBuildsUptoRow.holds Try.pinned (OpenSpec.upto sstableBuildsSpec)

/-- 'staddlelaw12.SstableBack', WHERE WHAT IT READS IS OF BULK AT MOST 1048576: true; the input reads as it did. -/
def sstableBackUptoRow : OpenClaim := { program := "ythdemdjobgbpdaa", sum := "02b59772a8440e938483872e9dfd788ba6a55626f9de9e0c363e95bde4234cf3", func := "staddle/staddlelaw12.SstableBack", spec := "sstableBack", inPlace := ["internal/bytealg.abigen_runtime_cmpstring"], unfollowed := true, recurses := true, apart := false, narrowed := true }
def SstableBackUptoSaid : Prop := sstableBackUptoRow.holds Try.pinned (OpenSpec.upto sstableBackSpec)

/-- 'staddlelaw12.SstableTurns', WHERE WHAT IT READS IS OF BULK AT MOST 1048576: true; the input reads as it did. -/
def sstableTurnsUptoRow : OpenClaim := { program := "ythdemdjobgbpdaa", sum := "02b59772a8440e938483872e9dfd788ba6a55626f9de9e0c363e95bde4234cf3", func := "staddle/staddlelaw12.SstableTurns", spec := "sstableTurns", inPlace := ["internal/bytealg.abigen_runtime_cmpstring"], unfollowed := true, recurses := true, apart := false, narrowed := true }
def SstableTurnsUptoSaid : Prop := sstableTurnsUptoRow.holds Try.pinned (OpenSpec.upto sstableTurnsSpec)

/-- 'staddlelaw12.SstableNil', WHERE WHAT IT READS IS OF BULK AT MOST 1048576: true; the input reads as it did. -/
def sstableNilUptoRow : OpenClaim := { program := "ythdemdjobgbpdaa", sum := "02b59772a8440e938483872e9dfd788ba6a55626f9de9e0c363e95bde4234cf3", func := "staddle/staddlelaw12.SstableNil", spec := "sstableNil", inPlace := ["internal/bytealg.abigen_runtime_cmpstring"], unfollowed := true, recurses := true, apart := false, narrowed := true }
def SstableNilUptoSaid : Prop := sstableNilUptoRow.holds Try.pinned (OpenSpec.upto sstableNilSpec)

/-- 'staddlelaw12.SstableTunes', WHERE WHAT IT READS IS OF BULK AT MOST 1048576: true; the input reads as it did. -/
def sstableTunesUptoRow : OpenClaim := { program := "ythdemdjobgbpdaa", sum := "02b59772a8440e938483872e9dfd788ba6a55626f9de9e0c363e95bde4234cf3", func := "staddle/staddlelaw12.SstableTunes", spec := "sstableTunes", inPlace := ["internal/bytealg.abigen_runtime_cmpstring"], unfollowed := true, recurses := true, apart := false, narrowed := true }
def SstableTunesUptoSaid : Prop := sstableTunesUptoRow.holds Try.pinned (OpenSpec.upto sstableTunesSpec)

end Rows
end Go.Proofs.Ythdemdjobgbpdaa
