/- The sanity check of the statements of chapter 9 is true; conditions: none. -/
import Derived.Test.YtoofabolcbbjnaaQrM4
namespace Go.Proofs.Ytoofabolcbbjnaa.P
open Go.RowKit Go.Proofs.YtoofabolcbbjnaaW.PrintWords Go.Proofs.YtoofabolcbbjnaaW.PrintLast Go.Proofs.YtoofabolcbbjnaaW.PrintMore
theorem awake_ev : Ev (fun k => zQ.f k) true := Ev.of zQ.mono (k := 100) (by decide +kernel)
end Go.Proofs.Ytoofabolcbbjnaa.P
