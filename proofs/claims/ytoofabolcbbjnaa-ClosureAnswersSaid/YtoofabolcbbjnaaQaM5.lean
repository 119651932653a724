/- The sanity check of the statements of chapter 9 is true; conditions: none. -/
import Derived.Test.YtoofabolcbbjnaaQaM4
import Derived.Test.YtoofabolcbbjnaaQaPx3
namespace Go.Proofs.Ytoofabolcbbjnaa.P
open Go.RowKit Go.Proofs.YtoofabolcbbjnaaW.PrintWords Go.Proofs.YtoofabolcbbjnaaW.PrintLast Go.Proofs.YtoofabolcbbjnaaW.PrintMore
theorem awake_ev : Ev (fun k => jV.f k) true := Ev.of jV.mono (k := 300) (by decide +kernel)
end Go.Proofs.Ytoofabolcbbjnaa.P
