/- The statements' head 'awake' of layer 1 answers true. -/
import Derived.Test.YtbmhcdledmolgaaP5
import Derived.Test.YtbmhcdledmolgaaQCrc
import Derived.Test.YtbmhcdledmolgaaQNum
import Derived.Laws.Strings
namespace Go.Proofs.Ytbmhcdledmolgaa.Q
open Go.RowKit Go.Proofs.YtbmhcdledmolgaaW.PrintWords Go.Proofs.YtbmhcdledmolgaaW.PrintLast Go.Proofs.YtbmhcdledmolgaaW.PrintMore Go.Proofs.Ytbmhcdledmolgaa.P Go.Proofs.Ytbmhcdledmolgaa.M

theorem awake_ev : Ev (fun k => staddlelaw01_awake.f k) true := Ev.of (staddlelaw01_awake.mono) (k := 12) (by decide +kernel)
end Go.Proofs.Ytbmhcdledmolgaa.Q
