/- The live question of chapter 9. -/
import Derived.Test.YtlfjebbcmngihaaStreamMore
namespace Go.Proofs.Ytlfjebbcmngihaa.StreamBase
open Go Go.RowKit Go.Proofs.Ytlfjebbcmngihaa.PSt Go.Proofs.YtlfjebbcmngihaaW.PrintWords Go.Proofs.YtlfjebbcmngihaaW.PrintLast Go.Proofs.YtlfjebbcmngihaaW.PrintMore Go.Proofs.Ytlfjebbcmngihaa.U64
theorem head_ev : Ev (fun k => symbolonlaw09_head.f k) true := Ev.of (fun k => symbolonlaw09_head.mono k) (k := 12) (by decide +kernel)
end Go.Proofs.Ytlfjebbcmngihaa.StreamBase
