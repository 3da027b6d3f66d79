/-
  No cell of these rows narrows 'for every input' (looked for: loops, veiled, ifaces, maps, wideKeys, modest, calm, conditions, laid).
  DERIVED. THE GIVEN ROWS OF THIS SEAT. 6 by the template 'for every input the law returns true; each argument reads behind the call as it read before'; 0 by the template 'total and deterministic' (their statements: YtojnhecpjnoipaaTotals.lean).
  GIVEN WITH THE SEED: the statements are not yours to turn. If you find one false, say at which input.
  Laid BY PROGRAM, IN A SANDBOX (cutbox-rows.mjs): the forced cells as the released guide's own fill.sh prints them over the translation 9c31786980b678de… (all of the seat's roots in one cut). By AI agents, Wed Nov 11 2026. No macro, syntax, notation, axiom, sorry.
-/
import Derived.Test.YtojnhecpjnoipaaChecked
import GoSem.Claim
import GoSem.ClaimJoined
import GoSem.ClaimMapViews
import Derived.JoinedTies
import Derived.KernelRfl
namespace Go.Proofs.Ytojnhecpjnoipaa
/- THE CELL 'sum', in the pinned program and in every row, IS THE sha256 OF THE DUMP (.gsa) THAT YtojnhecpjnoipaaProg.lean LOADS. Nothing in Lean hashes anything: it is a label: what it is worth is what the hold of that sum in a sandbox is worth. -/
noncomputable def Try.pinned : Pinned := { name := "ytojnhecpjnoipaa", sum := "9c31786980b678dee51f7bc5838bf61df5fd52f03389b54e97dddc4753b6d2ca", checked := Try.checked }
namespace Rows
def none {H : Type} : Left H := { results := [], args := [] }

/-- 'staddlelaw03.BatchNames': WHATEVER THE INPUT: true; the input reads as it did. -/
def batchNamesSpec : ChangeSpec := { name := "batchNames", fn := fun _ => fun
  | [] => { results := [.lit (.bool true)], args := [] }
  | _ => none }
def batchNamesRow : OpenClaim := { program := "ytojnhecpjnoipaa", sum := "9c31786980b678dee51f7bc5838bf61df5fd52f03389b54e97dddc4753b6d2ca", func := "staddle/staddlelaw03.BatchNames", spec := "batchNames", unfollowed := true, recurses := true, apart := false }
def BatchNamesSaid : Prop := batchNamesRow.holds Try.pinned (OpenSpec.ofChange batchNamesSpec)

/-- ITS FALSE NEIGHBOUR: 'it returns false'. Refute it at one input. -/
def batchNamesWrong : ChangeSpec := { name := "batchNames", fn := fun _ => fun
  | [] => { results := [.lit (.bool false)], args := [] }
  | _ => none }
def BatchNamesWrongFalsely : Prop := batchNamesRow.holds Try.pinned (OpenSpec.ofChange batchNamesWrong)

/-- 'staddlelaw03.BatchLays': WHATEVER THE INPUT: true; the input reads as it did. -/
def batchLaysSpec : ChangeSpec := { name := "batchLays", fn := fun _ => fun
  | [d1, d2] => { results := [.lit (.bool true)], args := [d1, d2] }
  | _ => none }
def batchLaysRow : OpenClaim := { program := "ytojnhecpjnoipaa", sum := "9c31786980b678dee51f7bc5838bf61df5fd52f03389b54e97dddc4753b6d2ca", func := "staddle/staddlelaw03.BatchLays", spec := "batchLays", unfollowed := true, recurses := true, apart := false }
def BatchLaysSaid : Prop := batchLaysRow.holds Try.pinned (OpenSpec.ofChange batchLaysSpec)

/-- ITS FALSE NEIGHBOUR: 'it returns false'. Refute it at one input. -/
def batchLaysWrong : ChangeSpec := { name := "batchLays", fn := fun _ => fun
  | [d1, d2] => { results := [.lit (.bool false)], args := [d1, d2] }
  | _ => none }
def BatchLaysWrongFalsely : Prop := batchLaysRow.holds Try.pinned (OpenSpec.ofChange batchLaysWrong)

/-- 'staddlelaw03.BatchReads': WHATEVER THE INPUT: true; the input reads as it did. -/
def batchReadsSpec : ChangeSpec := { name := "batchReads", fn := fun _ => fun
  | [d] => { results := [.lit (.bool true)], args := [d] }
  | _ => none }
def batchReadsRow : OpenClaim := { program := "ytojnhecpjnoipaa", sum := "9c31786980b678dee51f7bc5838bf61df5fd52f03389b54e97dddc4753b6d2ca", func := "staddle/staddlelaw03.BatchReads", spec := "batchReads", unfollowed := true, recurses := true, apart := false }
def BatchReadsSaid : Prop := batchReadsRow.holds Try.pinned (OpenSpec.ofChange batchReadsSpec)

/-- ITS FALSE NEIGHBOUR: 'it returns false'. Refute it at one input. -/
def batchReadsWrong : ChangeSpec := { name := "batchReads", fn := fun _ => fun
  | [d] => { results := [.lit (.bool false)], args := [d] }
  | _ => none }
def BatchReadsWrongFalsely : Prop := batchReadsRow.holds Try.pinned (OpenSpec.ofChange batchReadsWrong)

/-- 'staddlelaw03.BatchBack': WHATEVER THE INPUT: true; the input reads as it did. -/
def batchBackSpec : ChangeSpec := { name := "batchBack", fn := fun _ => fun
  | [d1, d2, d3, d4] => { results := [.lit (.bool true)], args := [d1, d2, d3, d4] }
  | _ => none }
def batchBackRow : OpenClaim := { program := "ytojnhecpjnoipaa", sum := "9c31786980b678dee51f7bc5838bf61df5fd52f03389b54e97dddc4753b6d2ca", func := "staddle/staddlelaw03.BatchBack", spec := "batchBack", unfollowed := true, recurses := true, apart := false }
def BatchBackSaid : Prop := batchBackRow.holds Try.pinned (OpenSpec.ofChange batchBackSpec)

/-- ITS FALSE NEIGHBOUR: 'it returns false'. Refute it at one input. -/
def batchBackWrong : ChangeSpec := { name := "batchBack", fn := fun _ => fun
  | [d1, d2, d3, d4] => { results := [.lit (.bool false)], args := [d1, d2, d3, d4] }
  | _ => none }
def BatchBackWrongFalsely : Prop := batchBackRow.holds Try.pinned (OpenSpec.ofChange batchBackWrong)

/-- 'staddlelaw03.BatchJoins': WHATEVER THE INPUT: true; the input reads as it did. -/
def batchJoinsSpec : ChangeSpec := { name := "batchJoins", fn := fun _ => fun
  | [d1, d2, d3] => { results := [.lit (.bool true)], args := [d1, d2, d3] }
  | _ => none }
def batchJoinsRow : OpenClaim := { program := "ytojnhecpjnoipaa", sum := "9c31786980b678dee51f7bc5838bf61df5fd52f03389b54e97dddc4753b6d2ca", func := "staddle/staddlelaw03.BatchJoins", spec := "batchJoins", unfollowed := true, recurses := true, apart := false }
def BatchJoinsSaid : Prop := batchJoinsRow.holds Try.pinned (OpenSpec.ofChange batchJoinsSpec)

/-- ITS FALSE NEIGHBOUR: 'it returns false'. Refute it at one input. -/
def batchJoinsWrong : ChangeSpec := { name := "batchJoins", fn := fun _ => fun
  | [d1, d2, d3] => { results := [.lit (.bool false)], args := [d1, d2, d3] }
  | _ => none }
def BatchJoinsWrongFalsely : Prop := batchJoinsRow.holds Try.pinned (OpenSpec.ofChange batchJoinsWrong)

/-- 'staddlelaw03.BatchNumbers': WHATEVER THE INPUT: true; the input reads as it did. -/
def batchNumbersSpec : ChangeSpec := { name := "batchNumbers", fn := fun _ => fun
  | [d1, d2, d3] => { results := [.lit (.bool true)], args := [d1, d2, d3] }
  | _ => none }
def batchNumbersRow : OpenClaim := { program := "ytojnhecpjnoipaa", sum := "9c31786980b678dee51f7bc5838bf61df5fd52f03389b54e97dddc4753b6d2ca", func := "staddle/staddlelaw03.BatchNumbers", spec := "batchNumbers", unfollowed := true, recurses := true, apart := false }
def BatchNumbersSaid : Prop := batchNumbersRow.holds Try.pinned (OpenSpec.ofChange batchNumbersSpec)

/-- ITS FALSE NEIGHBOUR: 'it returns false'. Refute it at one input. -/
def batchNumbersWrong : ChangeSpec := { name := "batchNumbers", fn := fun _ => fun
  | [d1, d2, d3] => { results := [.lit (.bool false)], args := [d1, d2, d3] }
  | _ => none }
def BatchNumbersWrongFalsely : Prop := batchNumbersRow.holds Try.pinned (OpenSpec.ofChange batchNumbersWrong)

/- THE SECOND FORM. 'bulk': how many values and letters a reading holds, each counted each time it is reached (what is shared counts as often as it is met; a slice's spare places count too). A statement '..UptoSaid' is the law's where the arguments, and the package variables that the reading takes, are together of bulk at most 1048576: NARROWER than '..Said'. Prove '..Said' where nothing that the law and all that it calls make is longer than what came in: it says more and counts as full. Else prove '..UptoSaid'. A law counts once. -/
mutual
def uptoBulk {H : Type} : DataW H → Nat
  | .lit (.string bytes) => bytes.length + 1
  | .lit _ => 1
  | .nil => 1
  | .ptr d => uptoBulk d + 1
  | .slice elems spare => uptoBulkAll elems + uptoBulkAll spare + 1
  | .agg parts => uptoBulkAll parts + 1
  | .iface _ d => uptoBulk d + 1
  | .map entries => uptoBulkEntries entries + 1
  | .held _ => 1
def uptoBulkAll {H : Type} : List (DataW H) → Nat
  | [] => 0
  | d :: r => uptoBulk d + uptoBulkAll r
def uptoBulkEntries {H : Type} : List (Lit × DataW H) → Nat
  | [] => 0
  | x :: r => uptoBulkEntry x + uptoBulkEntries r
def uptoBulkEntry {H : Type} : Lit × DataW H → Nat
  | (.string bytes, d) => bytes.length + uptoBulk d + 1
  | (_, d) => uptoBulk d + 1
 end
def uptoSmall : (H : Type) → List (DataW H) → Bool := fun _ ds => decide (uptoBulkAll ds ≤ 1048576)
def OpenSpec.upto (s : _root_.Go.ChangeSpec) : _root_.Go.OpenSpec := { _root_.Go.OpenSpec.ofChange s with cond := some uptoSmall }

/-- 'staddlelaw03.BatchNames', WHERE WHAT IT READS IS OF BULK AT MOST 1048576: true; the input reads as it did. -/
def batchNamesUptoRow : OpenClaim := { program := "ytojnhecpjnoipaa", sum := "9c31786980b678dee51f7bc5838bf61df5fd52f03389b54e97dddc4753b6d2ca", func := "staddle/staddlelaw03.BatchNames", spec := "batchNames", unfollowed := true, recurses := true, apart := false, narrowed := true }
def BatchNamesUptoSaid : Prop := batchNamesUptoRow.holds Try.pinned (OpenSpec.upto batchNamesSpec)

/-- 'staddlelaw03.BatchLays', WHERE WHAT IT READS IS OF BULK AT MOST 1048576: true; the input reads as it did. -/
def batchLaysUptoRow : OpenClaim := { program := "ytojnhecpjnoipaa", sum := "9c31786980b678dee51f7bc5838bf61df5fd52f03389b54e97dddc4753b6d2ca", func := "staddle/staddlelaw03.BatchLays", spec := "batchLays", unfollowed := true, recurses := true, apart := false, narrowed := true }
def BatchLaysUptoSaid : Prop := batchLaysUptoRow.holds Try.pinned (OpenSpec.upto batchLaysSpec)

/-- 'staddlelaw03.BatchReads', WHERE WHAT IT READS IS OF BULK AT MOST 1048576: true; the input reads as it did. -/
def batchReadsUptoRow : OpenClaim := { program := "ytojnhecpjnoipaa", sum := "9c31786980b678dee51f7bc5838bf61df5fd52f03389b54e97dddc4753b6d2ca", func := "staddle/staddlelaw03.BatchReads", spec := "batchReads", unfollowed := true, recurses := true, apart := false, narrowed := true }
def BatchReadsUptoSaid : Prop := batchReadsUptoRow.holds Try.pinned (OpenSpec.upto batchReadsSpec)

/-- 'staddlelaw03.BatchBack', WHERE WHAT IT READS IS OF BULK AT MOST 1048576: true; the input reads as it did. -/
def batchBackUptoRow : OpenClaim := { program := "ytojnhecpjnoipaa", sum := "9c31786980b678dee51f7bc5838bf61df5fd52f03389b54e97dddc4753b6d2ca", func := "staddle/staddlelaw03.BatchBack", spec := "batchBack", unfollowed := true, recurses := true, apart := false, narrowed := true }
def BatchBackUptoSaid : Prop := batchBackUptoRow.holds Try.pinned (OpenSpec.upto batchBackSpec)

/-- 'staddlelaw03.BatchJoins', WHERE WHAT IT READS IS OF BULK AT MOST 1048576: true; the input reads as it did. -/
def batchJoinsUptoRow : OpenClaim := { program := "ytojnhecpjnoipaa", sum := "9c31786980b678dee51f7bc5838bf61df5fd52f03389b54e97dddc4753b6d2ca", func := "staddle/staddlelaw03.BatchJoins", spec := "batchJoins", unfollowed := true, recurses := true, apart := false, narrowed := true }
def BatchJoinsUptoSaid : Prop := batchJoinsUptoRow.holds Try.pinned (OpenSpec.upto batchJoinsSpec)

/-- 'staddlelaw03.BatchNumbers', WHERE WHAT IT READS IS OF BULK AT MOST 1048576: true; the input reads as it did. -/
def batchNumbersUptoRow : OpenClaim := { program := "ytojnhecpjnoipaa", sum := "9c31786980b678dee51f7bc5838bf61df5fd52f03389b54e97dddc4753b6d2ca", func := "staddle/staddlelaw03.BatchNumbers", spec := "batchNumbers", unfollowed := true, recurses := true, apart := false, narrowed := true }
def BatchNumbersUptoSaid : Prop := batchNumbersUptoRow.holds Try.pinned (OpenSpec.upto batchNumbersSpec)

end Rows
end Go.Proofs.Ytojnhecpjnoipaa
