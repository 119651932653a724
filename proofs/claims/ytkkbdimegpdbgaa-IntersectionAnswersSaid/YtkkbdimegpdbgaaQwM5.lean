/- The sanity check of the statements of chapter 9 is true; conditions: none. -/
import Derived.Test.YtkkbdimegpdbgaaQwM4
namespace Go.Proofs.Ytkkbdimegpdbgaa.P
open Go.RowKit Go.Proofs.YtkkbdimegpdbgaaW.PrintWords Go.Proofs.YtkkbdimegpdbgaaW.PrintLast Go.Proofs.YtkkbdimegpdbgaaW.PrintMore
theorem awake_ev:Ev (fun k=>zU.f k) true:=Ev.of zU.mono (k:=300) (by decide+kernel)
end Go.Proofs.Ytkkbdimegpdbgaa.P
