/- The sanity check of the statements of chapter 9 is true; conditions: none. -/
import Derived.Test.YtoofabolcbbjnaaGM4
namespace Go.Proofs.Ytoofabolcbbjnaa.P
open Go.RowKit Go.Proofs.YtoofabolcbbjnaaW.PrintWords Go.Proofs.YtoofabolcbbjnaaW.PrintLast Go.Proofs.YtoofabolcbbjnaaW.PrintMore
theorem awake_ev : Ev (fun k => trustquorumlaw09_awake.f k) true := Ev.of trustquorumlaw09_awake.mono (k := 100) (by decide +kernel)
end Go.Proofs.Ytoofabolcbbjnaa.P
