/- The statements' head 'awake' of layer 3 answers true. -/
import Derived.Test.YtojnhecpjnoipaaP9
import Derived.Test.YtojnhecpjnoipaaMNum
namespace Go.Proofs.Ytojnhecpjnoipaa.Q
open Go.RowKit Go.Proofs.YtojnhecpjnoipaaW.PrintWords Go.Proofs.YtojnhecpjnoipaaW.PrintLast Go.Proofs.YtojnhecpjnoipaaW.PrintMore Go.Proofs.Ytojnhecpjnoipaa.P Go.Proofs.Ytojnhecpjnoipaa.M

theorem awake_ev : Ev (fun k => staddlelaw03_awake.f k) true := Ev.of (staddlelaw03_awake.mono) (k := 16) (by decide +kernel)
end Go.Proofs.Ytojnhecpjnoipaa.Q
