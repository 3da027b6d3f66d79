/-
  No cell of these rows narrows 'for every input' (looked for: loops, veiled, ifaces, maps, wideKeys, modest, calm, conditions, laid).
  DERIVED. THE GIVEN ROWS OF THIS SEAT. 7 by the template 'for every input the law returns true; each argument reads behind the call as it read before'; 0 by the template 'total and deterministic' (their statements: YtlbnibkmjiapaaaTotals.lean).
  GIVEN WITH THE SEED: the statements are not yours to turn. If you find one false, say at which input.
  Laid BY PROGRAM, IN A SANDBOX (cutbox-rows.mjs): the forced cells as the released guide's own fill.sh prints them over the translation 6f85f7c3db77a60f… (all of the seat's roots in one cut). By AI agents, Wed Nov 11 2026. No macro, syntax, notation, axiom, sorry.
-/
import Derived.Test.YtlbnibkmjiapaaaChecked
import GoSem.Claim
import GoSem.ClaimJoined
import GoSem.ClaimMapViews
import Derived.JoinedTies
import Derived.KernelRfl
namespace Go.Proofs.Ytlbnibkmjiapaaa
/- THE CELL 'sum', in the pinned program and in every row, IS THE sha256 OF THE DUMP (.gsa) THAT YtlbnibkmjiapaaaProg.lean LOADS. Nothing in Lean hashes anything: it is a label: what it is worth is what the hold of that sum in a sandbox is worth. -/
noncomputable def Try.pinned : Pinned := { name := "ytlbnibkmjiapaaa", sum := "6f85f7c3db77a60fea3353327415047ac76e426ffa4ffb26c1464cc6e25489ab", checked := Try.checked }
namespace Rows
def none {H : Type} : Left H := { results := [], args := [] }

/-- 'staddlelaw02.IkeyNames': WHATEVER THE INPUT: true; the input reads as it did. -/
def ikeyNamesSpec : ChangeSpec := { name := "ikeyNames", fn := fun _ => fun
  | [] => { results := [.lit (.bool true)], args := [] }
  | _ => none }
def ikeyNamesRow : OpenClaim := { program := "ytlbnibkmjiapaaa", sum := "6f85f7c3db77a60fea3353327415047ac76e426ffa4ffb26c1464cc6e25489ab", func := "staddle/staddlelaw02.IkeyNames", spec := "ikeyNames", inPlace := ["internal/bytealg.abigen_runtime_cmpstring"], unfollowed := true, recurses := true, apart := false }
def IkeyNamesSaid : Prop := ikeyNamesRow.holds Try.pinned (OpenSpec.ofChange ikeyNamesSpec)

/-- ITS FALSE NEIGHBOUR: 'it returns false'. Refute it at one input. -/
def ikeyNamesWrong : ChangeSpec := { name := "ikeyNames", fn := fun _ => fun
  | [] => { results := [.lit (.bool false)], args := [] }
  | _ => none }
def IkeyNamesWrongFalsely : Prop := ikeyNamesRow.holds Try.pinned (OpenSpec.ofChange ikeyNamesWrong)

/-- 'staddlelaw02.IkeyLays': WHATEVER THE INPUT: true; the input reads as it did. -/
def ikeyLaysSpec : ChangeSpec := { name := "ikeyLays", fn := fun _ => fun
  | [d1, d2] => { results := [.lit (.bool true)], args := [d1, d2] }
  | _ => none }
def ikeyLaysRow : OpenClaim := { program := "ytlbnibkmjiapaaa", sum := "6f85f7c3db77a60fea3353327415047ac76e426ffa4ffb26c1464cc6e25489ab", func := "staddle/staddlelaw02.IkeyLays", spec := "ikeyLays", inPlace := ["internal/bytealg.abigen_runtime_cmpstring"], unfollowed := true, recurses := true, apart := false }
def IkeyLaysSaid : Prop := ikeyLaysRow.holds Try.pinned (OpenSpec.ofChange ikeyLaysSpec)

/-- ITS FALSE NEIGHBOUR: 'it returns false'. Refute it at one input. -/
def ikeyLaysWrong : ChangeSpec := { name := "ikeyLays", fn := fun _ => fun
  | [d1, d2] => { results := [.lit (.bool false)], args := [d1, d2] }
  | _ => none }
def IkeyLaysWrongFalsely : Prop := ikeyLaysRow.holds Try.pinned (OpenSpec.ofChange ikeyLaysWrong)

/-- 'staddlelaw02.IkeyOrders': WHATEVER THE INPUT: true; the input reads as it did. -/
def ikeyOrdersSpec : ChangeSpec := { name := "ikeyOrders", fn := fun _ => fun
  | [d1, d2] => { results := [.lit (.bool true)], args := [d1, d2] }
  | _ => none }
def ikeyOrdersRow : OpenClaim := { program := "ytlbnibkmjiapaaa", sum := "6f85f7c3db77a60fea3353327415047ac76e426ffa4ffb26c1464cc6e25489ab", func := "staddle/staddlelaw02.IkeyOrders", spec := "ikeyOrders", inPlace := ["internal/bytealg.abigen_runtime_cmpstring"], unfollowed := true, recurses := true, apart := false }
def IkeyOrdersSaid : Prop := ikeyOrdersRow.holds Try.pinned (OpenSpec.ofChange ikeyOrdersSpec)

/-- ITS FALSE NEIGHBOUR: 'it returns false'. Refute it at one input. -/
def ikeyOrdersWrong : ChangeSpec := { name := "ikeyOrders", fn := fun _ => fun
  | [d1, d2] => { results := [.lit (.bool false)], args := [d1, d2] }
  | _ => none }
def IkeyOrdersWrongFalsely : Prop := ikeyOrdersRow.holds Try.pinned (OpenSpec.ofChange ikeyOrdersWrong)

/-- 'staddlelaw02.IkeyBack': WHATEVER THE INPUT: true; the input reads as it did. -/
def ikeyBackSpec : ChangeSpec := { name := "ikeyBack", fn := fun _ => fun
  | [d1, d2] => { results := [.lit (.bool true)], args := [d1, d2] }
  | _ => none }
def ikeyBackRow : OpenClaim := { program := "ytlbnibkmjiapaaa", sum := "6f85f7c3db77a60fea3353327415047ac76e426ffa4ffb26c1464cc6e25489ab", func := "staddle/staddlelaw02.IkeyBack", spec := "ikeyBack", inPlace := ["internal/bytealg.abigen_runtime_cmpstring"], unfollowed := true, recurses := true, apart := false }
def IkeyBackSaid : Prop := ikeyBackRow.holds Try.pinned (OpenSpec.ofChange ikeyBackSpec)

/-- ITS FALSE NEIGHBOUR: 'it returns false'. Refute it at one input. -/
def ikeyBackWrong : ChangeSpec := { name := "ikeyBack", fn := fun _ => fun
  | [d1, d2] => { results := [.lit (.bool false)], args := [d1, d2] }
  | _ => none }
def IkeyBackWrongFalsely : Prop := ikeyBackRow.holds Try.pinned (OpenSpec.ofChange ikeyBackWrong)

/-- 'staddlelaw02.IkeyLines': WHATEVER THE INPUT: true; the input reads as it did. -/
def ikeyLinesSpec : ChangeSpec := { name := "ikeyLines", fn := fun _ => fun
  | [d1, d2, d3] => { results := [.lit (.bool true)], args := [d1, d2, d3] }
  | _ => none }
def ikeyLinesRow : OpenClaim := { program := "ytlbnibkmjiapaaa", sum := "6f85f7c3db77a60fea3353327415047ac76e426ffa4ffb26c1464cc6e25489ab", func := "staddle/staddlelaw02.IkeyLines", spec := "ikeyLines", inPlace := ["internal/bytealg.abigen_runtime_cmpstring"], unfollowed := true, recurses := true, apart := false }
def IkeyLinesSaid : Prop := ikeyLinesRow.holds Try.pinned (OpenSpec.ofChange ikeyLinesSpec)

/-- ITS FALSE NEIGHBOUR: 'it returns false'. Refute it at one input. -/
def ikeyLinesWrong : ChangeSpec := { name := "ikeyLines", fn := fun _ => fun
  | [d1, d2, d3] => { results := [.lit (.bool false)], args := [d1, d2, d3] }
  | _ => none }
def IkeyLinesWrongFalsely : Prop := ikeyLinesRow.holds Try.pinned (OpenSpec.ofChange ikeyLinesWrong)

/-- 'staddlelaw02.IkeyShort': WHATEVER THE INPUT: true; the input reads as it did. -/
def ikeyShortSpec : ChangeSpec := { name := "ikeyShort", fn := fun _ => fun
  | [d1, d2] => { results := [.lit (.bool true)], args := [d1, d2] }
  | _ => none }
def ikeyShortRow : OpenClaim := { program := "ytlbnibkmjiapaaa", sum := "6f85f7c3db77a60fea3353327415047ac76e426ffa4ffb26c1464cc6e25489ab", func := "staddle/staddlelaw02.IkeyShort", spec := "ikeyShort", inPlace := ["internal/bytealg.abigen_runtime_cmpstring"], unfollowed := true, recurses := true, apart := false }
def IkeyShortSaid : Prop := ikeyShortRow.holds Try.pinned (OpenSpec.ofChange ikeyShortSpec)

/-- ITS FALSE NEIGHBOUR: 'it returns false'. Refute it at one input. -/
def ikeyShortWrong : ChangeSpec := { name := "ikeyShort", fn := fun _ => fun
  | [d1, d2] => { results := [.lit (.bool false)], args := [d1, d2] }
  | _ => none }
def IkeyShortWrongFalsely : Prop := ikeyShortRow.holds Try.pinned (OpenSpec.ofChange ikeyShortWrong)

/-- 'staddlelaw02.IkeyApart': WHATEVER THE INPUT: true; the input reads as it did. -/
def ikeyApartSpec : ChangeSpec := { name := "ikeyApart", fn := fun _ => fun
  | [d1, d2] => { results := [.lit (.bool true)], args := [d1, d2] }
  | _ => none }
def ikeyApartRow : OpenClaim := { program := "ytlbnibkmjiapaaa", sum := "6f85f7c3db77a60fea3353327415047ac76e426ffa4ffb26c1464cc6e25489ab", func := "staddle/staddlelaw02.IkeyApart", spec := "ikeyApart", inPlace := ["internal/bytealg.abigen_runtime_cmpstring"], unfollowed := true, recurses := true, apart := false }
def IkeyApartSaid : Prop := ikeyApartRow.holds Try.pinned (OpenSpec.ofChange ikeyApartSpec)

/-- ITS FALSE NEIGHBOUR: 'it returns false'. Refute it at one input. -/
def ikeyApartWrong : ChangeSpec := { name := "ikeyApart", fn := fun _ => fun
  | [d1, d2] => { results := [.lit (.bool false)], args := [d1, d2] }
  | _ => none }
def IkeyApartWrongFalsely : Prop := ikeyApartRow.holds Try.pinned (OpenSpec.ofChange ikeyApartWrong)

/- THE SECOND FORM. 'bulk': how many values and letters a reading holds, each counted each time it is reached (what is shared counts as often as it is met; a slice's spare places count too). A statement '..UptoSaid' is the law's where the arguments, and the package variables that the reading takes, are together of bulk at most 1048576: NARROWER than '..Said'. Prove '..Said' where nothing that the law and all that it calls make is longer than what came in: it says more and counts as full. Else prove '..UptoSaid'. A law counts once. -/
mutual
def uptoBulk {H : Type} : DataW H → Nat
  | .lit (.string bytes) => bytes.length + 1
  | .lit _ => 1
  | .nil => 1
  | .ptr d => uptoBulk d + 1
  | .slice elems spare => uptoBulkAll elems + uptoBulkAll spare + 1
  | .agg parts => uptoBulkAll parts + 1
  | .iface _ d => uptoBulk d + 1
  | .map entries => uptoBulkEntries entries + 1
  | .held _ => 1
def uptoBulkAll {H : Type} : List (DataW H) → Nat
  | [] => 0
  | d :: r => uptoBulk d + uptoBulkAll r
def uptoBulkEntries {H : Type} : List (Lit × DataW H) → Nat
  | [] => 0
  | x :: r => uptoBulkEntry x + uptoBulkEntries r
def uptoBulkEntry {H : Type} : Lit × DataW H → Nat
  | (.string bytes, d) => bytes.length + uptoBulk d + 1
  | (_, d) => uptoBulk d + 1
 end
def uptoSmall : (H : Type) → List (DataW H) → Bool := fun _ ds => decide (uptoBulkAll ds ≤ 1048576)
def OpenSpec.upto (s : _root_.Go.ChangeSpec) : _root_.Go.OpenSpec := { _root_.Go.OpenSpec.ofChange s with cond := some uptoSmall }

/-- 'staddlelaw02.IkeyNames', WHERE WHAT IT READS IS OF BULK AT MOST 1048576: true; the input reads as it did. -/
def ikeyNamesUptoRow : OpenClaim := { program := "ytlbnibkmjiapaaa", sum := "6f85f7c3db77a60fea3353327415047ac76e426ffa4ffb26c1464cc6e25489ab", func := "staddle/staddlelaw02.IkeyNames", spec := "ikeyNames", inPlace := ["internal/bytealg.abigen_runtime_cmpstring"], unfollowed := true, recurses := true, apart := false, narrowed := true }
def IkeyNamesUptoSaid : Prop := ikeyNamesUptoRow.holds Try.pinned (OpenSpec.upto ikeyNamesSpec)

/-- 'staddlelaw02.IkeyLays', WHERE WHAT IT READS IS OF BULK AT MOST 1048576: true; the input reads as it did. -/
def ikeyLaysUptoRow : OpenClaim := { program := "ytlbnibkmjiapaaa", sum := "6f85f7c3db77a60fea3353327415047ac76e426ffa4ffb26c1464cc6e25489ab", func := "staddle/staddlelaw02.IkeyLays", spec := "ikeyLays", inPlace := ["internal/bytealg.abigen_runtime_cmpstring"], unfollowed := true, recurses := true, apart := false, narrowed := true }
def IkeyLaysUptoSaid : Prop := ikeyLaysUptoRow.holds Try.pinned (OpenSpec.upto ikeyLaysSpec)

/-- 'staddlelaw02.IkeyOrders', WHERE WHAT IT READS IS OF BULK AT MOST 1048576: true; the input reads as it did. -/
def ikeyOrdersUptoRow : OpenClaim := { program := "ytlbnibkmjiapaaa", sum := "6f85f7c3db77a60fea3353327415047ac76e426ffa4ffb26c1464cc6e25489ab", func := "staddle/staddlelaw02.IkeyOrders", spec := "ikeyOrders", inPlace := ["internal/bytealg.abigen_runtime_cmpstring"], unfollowed := true, recurses := true, apart := false, narrowed := true }
def IkeyOrdersUptoSaid : Prop := ikeyOrdersUptoRow.holds Try.pinned (OpenSpec.upto ikeyOrdersSpec)

/-- 'staddlelaw02.IkeyBack', WHERE WHAT IT READS IS OF BULK AT MOST 1048576: true; the input reads as it did. -/
def ikeyBackUptoRow : OpenClaim := { program := "ytlbnibkmjiapaaa", sum := "6f85f7c3db77a60fea3353327415047ac76e426ffa4ffb26c1464cc6e25489ab", func := "staddle/staddlelaw02.IkeyBack", spec := "ikeyBack", inPlace := ["internal/bytealg.abigen_runtime_cmpstring"], unfollowed := true, recurses := true, apart := false, narrowed := true }
def IkeyBackUptoSaid : Prop := ikeyBackUptoRow.holds Try.pinned (OpenSpec.upto ikeyBackSpec)

/-- 'staddlelaw02.IkeyLines', WHERE WHAT IT READS IS OF BULK AT MOST 1048576: true; the input reads as it did. -/
def ikeyLinesUptoRow : OpenClaim := { program := "ytlbnibkmjiapaaa", sum := "6f85f7c3db77a60fea3353327415047ac76e426ffa4ffb26c1464cc6e25489ab", func := "staddle/staddlelaw02.IkeyLines", spec := "ikeyLines", inPlace := ["internal/bytealg.abigen_runtime_cmpstring"], unfollowed := true, recurses := true, apart := false, narrowed := true }
def IkeyLinesUptoSaid : Prop := ikeyLinesUptoRow.holds Try.pinned (OpenSpec.upto ikeyLinesSpec)

/-- 'staddlelaw02.IkeyShort', WHERE WHAT IT READS IS OF BULK AT MOST 1048576: true; the input reads as it did. -/
def ikeyShortUptoRow : OpenClaim := { program := "ytlbnibkmjiapaaa", sum := "6f85f7c3db77a60fea3353327415047ac76e426ffa4ffb26c1464cc6e25489ab", func := "staddle/staddlelaw02.IkeyShort", spec := "ikeyShort", inPlace := ["internal/bytealg.abigen_runtime_cmpstring"], unfollowed := true, recurses := true, apart := false, narrowed := true }
def IkeyShortUptoSaid : Prop := ikeyShortUptoRow.holds Try.pinned (OpenSpec.upto ikeyShortSpec)

/-- 'staddlelaw02.IkeyApart', WHERE WHAT IT READS IS OF BULK AT MOST 1048576: true; the input reads as it did. -/
def ikeyApartUptoRow : OpenClaim := { program := "ytlbnibkmjiapaaa", sum := "6f85f7c3db77a60fea3353327415047ac76e426ffa4ffb26c1464cc6e25489ab", func := "staddle/staddlelaw02.IkeyApart", spec := "ikeyApart", inPlace := ["internal/bytealg.abigen_runtime_cmpstring"], unfollowed := true, recurses := true, apart := false, narrowed := true }
def IkeyApartUptoSaid : Prop := ikeyApartUptoRow.holds Try.pinned (OpenSpec.upto ikeyApartSpec)

end Rows
end Go.Proofs.Ytlbnibkmjiapaaa
