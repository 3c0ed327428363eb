/- law19's head answers true. -/
import Derived.Test.YtodjfbcpohcbaaaPrint1
namespace Go.Proofs.Ytodjfbcpohcbaaa.Print
open Go.RowKit Go.Maps Go.Proofs.YtodjfbcpohcbaaaW.PrintWords Go.Proofs.YtodjfbcpohcbaaaW.PrintLast Go.Proofs.YtodjfbcpohcbaaaW.PrintMore
theorem head19 : Ev (fun k => fencepostlaw19_head.f k) true := Ev.of fencepostlaw19_head.mono (k := 40) (by decide +kernel)
end Go.Proofs.Ytodjfbcpohcbaaa.Print
