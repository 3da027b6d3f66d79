/-
  No cell of these rows narrows 'for every input' (looked for: loops, veiled, ifaces, maps, wideKeys, modest, calm, conditions, laid).
  DERIVED. THE GIVEN ROWS OF THIS SEAT. 7 by the template 'for every input the law returns true; each argument reads behind the call as it read before'; 0 by the template 'total and deterministic' (their statements: YtppkpleagnddeaaTotals.lean).
  GIVEN WITH THE SEED: the statements are not yours to turn. If you find one false, say at which input.
  Laid BY PROGRAM, IN A SANDBOX (cutbox-rows.mjs): the forced cells as the released guide's own fill.sh prints them over the translation eea72f3c48dd0172… (all of the seat's roots in one cut). By AI agents, Wed Nov 11 2026. No macro, syntax, notation, axiom, sorry.
-/
import Derived.Test.YtppkpleagnddeaaChecked
import GoSem.Claim
import GoSem.ClaimJoined
import GoSem.ClaimMapViews
import Derived.JoinedTies
import Derived.KernelRfl
namespace Go.Proofs.Ytppkpleagnddeaa
/- THE CELL 'sum', in the pinned program and in every row, IS THE sha256 OF THE DUMP (.gsa) THAT YtppkpleagnddeaaProg.lean LOADS. Nothing in Lean hashes anything: it is a label: what it is worth is what the hold of that sum in a sandbox is worth. -/
noncomputable def Try.pinned : Pinned := { name := "ytppkpleagnddeaa", sum := "eea72f3c48dd0172ef629d2f9826d4e31fdb7ab4b4441734245cf89ad1d6bac9", checked := Try.checked }
namespace Rows
def none {H : Type} : Left H := { results := [], args := [] }

/-- 'staddlelaw11.BlockNames': WHATEVER THE INPUT: true; the input reads as it did. -/
def blockNamesSpec : ChangeSpec := { name := "blockNames", fn := fun _ => fun
  | [] => { results := [.lit (.bool true)], args := [] }
  | _ => none }
def blockNamesRow : OpenClaim := { program := "ytppkpleagnddeaa", sum := "eea72f3c48dd0172ef629d2f9826d4e31fdb7ab4b4441734245cf89ad1d6bac9", func := "staddle/staddlelaw11.BlockNames", spec := "blockNames", inPlace := ["internal/bytealg.abigen_runtime_cmpstring"], unfollowed := true, recurses := true, apart := false }
def BlockNamesSaid : Prop := blockNamesRow.holds Try.pinned (OpenSpec.ofChange blockNamesSpec)

/-- ITS FALSE NEIGHBOUR: 'it returns false'. Refute it at one input. -/
def blockNamesWrong : ChangeSpec := { name := "blockNames", fn := fun _ => fun
  | [] => { results := [.lit (.bool false)], args := [] }
  | _ => none }
def BlockNamesWrongFalsely : Prop := blockNamesRow.holds Try.pinned (OpenSpec.ofChange blockNamesWrong)

/-- 'staddlelaw11.BlockBuilds': WHATEVER THE INPUT: true; the input reads as it did. -/
def blockBuildsSpec : ChangeSpec := { name := "blockBuilds", fn := fun _ => fun
  | [d1, d2] => { results := [.lit (.bool true)], args := [d1, d2] }
  | _ => none }
def blockBuildsRow : OpenClaim := { program := "ytppkpleagnddeaa", sum := "eea72f3c48dd0172ef629d2f9826d4e31fdb7ab4b4441734245cf89ad1d6bac9", func := "staddle/staddlelaw11.BlockBuilds", spec := "blockBuilds", inPlace := ["internal/bytealg.abigen_runtime_cmpstring"], unfollowed := true, recurses := true, apart := false }
def BlockBuildsSaid : Prop := blockBuildsRow.holds Try.pinned (OpenSpec.ofChange blockBuildsSpec)

/-- ITS FALSE NEIGHBOUR: 'it returns false'. Refute it at one input. -/
def blockBuildsWrong : ChangeSpec := { name := "blockBuilds", fn := fun _ => fun
  | [d1, d2] => { results := [.lit (.bool false)], args := [d1, d2] }
  | _ => none }
def BlockBuildsWrongFalsely : Prop := blockBuildsRow.holds Try.pinned (OpenSpec.ofChange blockBuildsWrong)

/-- 'staddlelaw11.BlockReads': WHATEVER THE INPUT: true; the input reads as it did. -/
def blockReadsSpec : ChangeSpec := { name := "blockReads", fn := fun _ => fun
  | [d1, d2, d3] => { results := [.lit (.bool true)], args := [d1, d2, d3] }
  | _ => none }
def blockReadsRow : OpenClaim := { program := "ytppkpleagnddeaa", sum := "eea72f3c48dd0172ef629d2f9826d4e31fdb7ab4b4441734245cf89ad1d6bac9", func := "staddle/staddlelaw11.BlockReads", spec := "blockReads", inPlace := ["internal/bytealg.abigen_runtime_cmpstring"], unfollowed := true, recurses := true, apart := false }
def BlockReadsSaid : Prop := blockReadsRow.holds Try.pinned (OpenSpec.ofChange blockReadsSpec)

/-- ITS FALSE NEIGHBOUR: 'it returns false'. Refute it at one input. -/
def blockReadsWrong : ChangeSpec := { name := "blockReads", fn := fun _ => fun
  | [d1, d2, d3] => { results := [.lit (.bool false)], args := [d1, d2, d3] }
  | _ => none }
def BlockReadsWrongFalsely : Prop := blockReadsRow.holds Try.pinned (OpenSpec.ofChange blockReadsWrong)

/-- 'staddlelaw11.BlockBack': WHATEVER THE INPUT: true; the input reads as it did. -/
def blockBackSpec : ChangeSpec := { name := "blockBack", fn := fun _ => fun
  | [d1, d2, d3] => { results := [.lit (.bool true)], args := [d1, d2, d3] }
  | _ => none }
def blockBackRow : OpenClaim := { program := "ytppkpleagnddeaa", sum := "eea72f3c48dd0172ef629d2f9826d4e31fdb7ab4b4441734245cf89ad1d6bac9", func := "staddle/staddlelaw11.BlockBack", spec := "blockBack", inPlace := ["internal/bytealg.abigen_runtime_cmpstring"], unfollowed := true, recurses := true, apart := false }
def BlockBackSaid : Prop := blockBackRow.holds Try.pinned (OpenSpec.ofChange blockBackSpec)

/-- ITS FALSE NEIGHBOUR: 'it returns false'. Refute it at one input. -/
def blockBackWrong : ChangeSpec := { name := "blockBack", fn := fun _ => fun
  | [d1, d2, d3] => { results := [.lit (.bool false)], args := [d1, d2, d3] }
  | _ => none }
def BlockBackWrongFalsely : Prop := blockBackRow.holds Try.pinned (OpenSpec.ofChange blockBackWrong)

/-- 'staddlelaw11.BlockCuts': WHATEVER THE INPUT: true; the input reads as it did. -/
def blockCutsSpec : ChangeSpec := { name := "blockCuts", fn := fun _ => fun
  | [d1, d2, d3, d4] => { results := [.lit (.bool true)], args := [d1, d2, d3, d4] }
  | _ => none }
def blockCutsRow : OpenClaim := { program := "ytppkpleagnddeaa", sum := "eea72f3c48dd0172ef629d2f9826d4e31fdb7ab4b4441734245cf89ad1d6bac9", func := "staddle/staddlelaw11.BlockCuts", spec := "blockCuts", inPlace := ["internal/bytealg.abigen_runtime_cmpstring"], unfollowed := true, recurses := true, apart := false }
def BlockCutsSaid : Prop := blockCutsRow.holds Try.pinned (OpenSpec.ofChange blockCutsSpec)

/-- ITS FALSE NEIGHBOUR: 'it returns false'. Refute it at one input. -/
def blockCutsWrong : ChangeSpec := { name := "blockCuts", fn := fun _ => fun
  | [d1, d2, d3, d4] => { results := [.lit (.bool false)], args := [d1, d2, d3, d4] }
  | _ => none }
def BlockCutsWrongFalsely : Prop := blockCutsRow.holds Try.pinned (OpenSpec.ofChange blockCutsWrong)

/-- 'staddlelaw11.BlockNil': WHATEVER THE INPUT: true; the input reads as it did. -/
def blockNilSpec : ChangeSpec := { name := "blockNil", fn := fun _ => fun
  | [d1, d2] => { results := [.lit (.bool true)], args := [d1, d2] }
  | _ => none }
def blockNilRow : OpenClaim := { program := "ytppkpleagnddeaa", sum := "eea72f3c48dd0172ef629d2f9826d4e31fdb7ab4b4441734245cf89ad1d6bac9", func := "staddle/staddlelaw11.BlockNil", spec := "blockNil", inPlace := ["internal/bytealg.abigen_runtime_cmpstring"], unfollowed := true, recurses := true, apart := false }
def BlockNilSaid : Prop := blockNilRow.holds Try.pinned (OpenSpec.ofChange blockNilSpec)

/-- ITS FALSE NEIGHBOUR: 'it returns false'. Refute it at one input. -/
def blockNilWrong : ChangeSpec := { name := "blockNil", fn := fun _ => fun
  | [d1, d2] => { results := [.lit (.bool false)], args := [d1, d2] }
  | _ => none }
def BlockNilWrongFalsely : Prop := blockNilRow.holds Try.pinned (OpenSpec.ofChange blockNilWrong)

/-- 'staddlelaw11.BlockIntervals': WHATEVER THE INPUT: true; the input reads as it did. -/
def blockIntervalsSpec : ChangeSpec := { name := "blockIntervals", fn := fun _ => fun
  | [d1, d2, d3, d4] => { results := [.lit (.bool true)], args := [d1, d2, d3, d4] }
  | _ => none }
def blockIntervalsRow : OpenClaim := { program := "ytppkpleagnddeaa", sum := "eea72f3c48dd0172ef629d2f9826d4e31fdb7ab4b4441734245cf89ad1d6bac9", func := "staddle/staddlelaw11.BlockIntervals", spec := "blockIntervals", inPlace := ["internal/bytealg.abigen_runtime_cmpstring"], unfollowed := true, recurses := true, apart := false }
def BlockIntervalsSaid : Prop := blockIntervalsRow.holds Try.pinned (OpenSpec.ofChange blockIntervalsSpec)

/-- ITS FALSE NEIGHBOUR: 'it returns false'. Refute it at one input. -/
def blockIntervalsWrong : ChangeSpec := { name := "blockIntervals", fn := fun _ => fun
  | [d1, d2, d3, d4] => { results := [.lit (.bool false)], args := [d1, d2, d3, d4] }
  | _ => none }
def BlockIntervalsWrongFalsely : Prop := blockIntervalsRow.holds Try.pinned (OpenSpec.ofChange blockIntervalsWrong)

/- THE SECOND FORM. 'bulk': how many values and letters a reading holds, each counted each time it is reached (what is shared counts as often as it is met; a slice's spare places count too). A statement '..UptoSaid' is the law's where the arguments, and the package variables that the reading takes, are together of bulk at most 1048576: NARROWER than '..Said'. Prove '..Said' where nothing that the law and all that it calls make is longer than what came in: it says more and counts as full. Else prove '..UptoSaid'. A law counts once. -/
mutual
def uptoBulk {H : Type} : DataW H → Nat
  | .lit (.string bytes) => bytes.length + 1
  | .lit _ => 1
  | .nil => 1
  | .ptr d => uptoBulk d + 1
  | .slice elems spare => uptoBulkAll elems + uptoBulkAll spare + 1
  | .agg parts => uptoBulkAll parts + 1
  | .iface _ d => uptoBulk d + 1
  | .map entries => uptoBulkEntries entries + 1
  | .held _ => 1
def uptoBulkAll {H : Type} : List (DataW H) → Nat
  | [] => 0
  | d :: r => uptoBulk d + uptoBulkAll r
def uptoBulkEntries {H : Type} : List (Lit × DataW H) → Nat
  | [] => 0
  | x :: r => uptoBulkEntry x + uptoBulkEntries r
def uptoBulkEntry {H : Type} : Lit × DataW H → Nat
  | (.string bytes, d) => bytes.length + uptoBulk d + 1
  | (_, d) => uptoBulk d + 1
 end
def uptoSmall : (H : Type) → List (DataW H) → Bool := fun _ ds => decide (uptoBulkAll ds ≤ 1048576)
def OpenSpec.upto (s : _root_.Go.ChangeSpec) : _root_.Go.OpenSpec := { _root_.Go.OpenSpec.ofChange s with cond := some uptoSmall }

/-- 'staddlelaw11.BlockNames', WHERE WHAT IT READS IS OF BULK AT MOST 1048576: true; the input reads as it did. -/
def blockNamesUptoRow : OpenClaim := { program := "ytppkpleagnddeaa", sum := "eea72f3c48dd0172ef629d2f9826d4e31fdb7ab4b4441734245cf89ad1d6bac9", func := "staddle/staddlelaw11.BlockNames", spec := "blockNames", inPlace := ["internal/bytealg.abigen_runtime_cmpstring"], unfollowed := true, recurses := true, apart := false, narrowed := true }
def BlockNamesUptoSaid : Prop := blockNamesUptoRow.holds Try.pinned (OpenSpec.upto blockNamesSpec)

/-- 'staddlelaw11.BlockBuilds', WHERE WHAT IT READS IS OF BULK AT MOST 1048576: true; the input reads as it did. -/
def blockBuildsUptoRow : OpenClaim := { program := "ytppkpleagnddeaa", sum := "eea72f3c48dd0172ef629d2f9826d4e31fdb7ab4b4441734245cf89ad1d6bac9", func := "staddle/staddlelaw11.BlockBuilds", spec := "blockBuilds", inPlace := ["internal/bytealg.abigen_runtime_cmpstring"], unfollowed := true, recurses := true, apart := false, narrowed := true }
def BlockBuildsUptoSaid : Prop := blockBuildsUptoRow.holds Try.pinned (OpenSpec.upto blockBuildsSpec)

/-- 'staddlelaw11.BlockReads', WHERE WHAT IT READS IS OF BULK AT MOST 1048576: true; the input reads as it did. -/
def blockReadsUptoRow : OpenClaim := { program := "ytppkpleagnddeaa", sum := "eea72f3c48dd0172ef629d2f9826d4e31fdb7ab4b4441734245cf89ad1d6bac9", func := "staddle/staddlelaw11.BlockReads", spec := "blockReads", inPlace := ["internal/bytealg.abigen_runtime_cmpstring"], unfollowed := true, recurses := true, apart := false, narrowed := true }
def BlockReadsUptoSaid : Prop := blockReadsUptoRow.holds Try.pinned (OpenSpec.upto blockReadsSpec)

/-- 'staddlelaw11.BlockBack', WHERE WHAT IT READS IS OF BULK AT MOST 1048576: true; the input reads as it did. -/
def blockBackUptoRow : OpenClaim := { program := "ytppkpleagnddeaa", sum := "eea72f3c48dd0172ef629d2f9826d4e31fdb7ab4b4441734245cf89ad1d6bac9", func := "staddle/staddlelaw11.BlockBack", spec := "blockBack", inPlace := ["internal/bytealg.abigen_runtime_cmpstring"], unfollowed := true, recurses := true, apart := false, narrowed := true }
def BlockBackUptoSaid : Prop := blockBackUptoRow.holds Try.pinned (OpenSpec.upto blockBackSpec)

/-- 'staddlelaw11.BlockCuts', WHERE WHAT IT READS IS OF BULK AT MOST 1048576: true; the input reads as it did. -/
def blockCutsUptoRow : OpenClaim := { program := "ytppkpleagnddeaa", sum := "eea72f3c48dd0172ef629d2f9826d4e31fdb7ab4b4441734245cf89ad1d6bac9", func := "staddle/staddlelaw11.BlockCuts", spec := "blockCuts", inPlace := ["internal/bytealg.abigen_runtime_cmpstring"], unfollowed := true, recurses := true, apart := false, narrowed := true }
def BlockCutsUptoSaid : Prop := blockCutsUptoRow.holds Try.pinned (OpenSpec.upto blockCutsSpec)

/-- 'staddlelaw11.BlockNil', WHERE WHAT IT READS IS OF BULK AT MOST 1048576: true; the input reads as it did. -/
def blockNilUptoRow : OpenClaim := { program := "ytppkpleagnddeaa", sum := "eea72f3c48dd0172ef629d2f9826d4e31fdb7ab4b4441734245cf89ad1d6bac9", func := "staddle/staddlelaw11.BlockNil", spec := "blockNil", inPlace := ["internal/bytealg.abigen_runtime_cmpstring"], unfollowed := true, recurses := true, apart := false, narrowed := true }
def BlockNilUptoSaid : Prop := blockNilUptoRow.holds Try.pinned (OpenSpec.upto blockNilSpec)

/-- 'staddlelaw11.BlockIntervals', WHERE WHAT IT READS IS OF BULK AT MOST 1048576: true; the input reads as it did. -/
def blockIntervalsUptoRow : OpenClaim := { program := "ytppkpleagnddeaa", sum := "eea72f3c48dd0172ef629d2f9826d4e31fdb7ab4b4441734245cf89ad1d6bac9", func := "staddle/staddlelaw11.BlockIntervals", spec := "blockIntervals", inPlace := ["internal/bytealg.abigen_runtime_cmpstring"], unfollowed := true, recurses := true, apart := false, narrowed := true }
def BlockIntervalsUptoSaid : Prop := blockIntervalsUptoRow.holds Try.pinned (OpenSpec.upto blockIntervalsSpec)

end Rows
end Go.Proofs.Ytppkpleagnddeaa
