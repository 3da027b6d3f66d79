/- BlockNil has nothing to reckon: its walk answers true. -/
import Derived.Test.YtppkpleagnddeaaBL
namespace Go.Proofs.Ytppkpleagnddeaa.Pure
set_option linter.unusedVariables false
theorem BlockNilS {P Q R T : Prop} (a0 : ByteArray) (a1 a2 a3 : Int) (_ : P) (_ : Q) (_ : R) (_ : T) : true = true := rfl
end Go.Proofs.Ytppkpleagnddeaa.Pure
