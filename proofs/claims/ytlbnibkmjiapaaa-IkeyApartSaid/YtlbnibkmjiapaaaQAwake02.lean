/- The statements' head 'awake' of layer 2 answers true. -/
import Derived.Test.YtlbnibkmjiapaaaP7
import Derived.Test.YtlbnibkmjiapaaaMNum
namespace Go.Proofs.Ytlbnibkmjiapaaa.Q
open Go.RowKit Go.Proofs.YtlbnibkmjiapaaaW.PrintWords Go.Proofs.YtlbnibkmjiapaaaW.PrintLast Go.Proofs.YtlbnibkmjiapaaaW.PrintMore Go.Proofs.Ytlbnibkmjiapaaa.P Go.Proofs.Ytlbnibkmjiapaaa.M

theorem awake_ev : Ev (fun k => staddlelaw02_awake.f k) true := Ev.of (staddlelaw02_awake.mono) (k := 16) (by decide +kernel)
end Go.Proofs.Ytlbnibkmjiapaaa.Q
