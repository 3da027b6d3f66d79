/- The statements' head 'awake' of layer 9 answers true. -/
import Derived.Test.YtejhmfimfgjmhaaP9
import Derived.Test.YtejhmfimfgjmhaaMNum
namespace Go.Proofs.Ytejhmfimfgjmhaa.Q
open Go.RowKit Go.Proofs.YtejhmfimfgjmhaaW.PrintWords Go.Proofs.YtejhmfimfgjmhaaW.PrintLast Go.Proofs.YtejhmfimfgjmhaaW.PrintMore Go.Proofs.Ytejhmfimfgjmhaa.P Go.Proofs.Ytejhmfimfgjmhaa.M

set_option maxRecDepth 100000 in
theorem awake_ev : Ev (fun k => staddlelaw09_awake.f k) true := Ev.of (staddlelaw09_awake.mono) (k := 24) (by decide +kernel)
end Go.Proofs.Ytejhmfimfgjmhaa.Q
