/- Lemmas on memory that the walks use, as the print of the kit wrote them, without those that this claim does not reach. -/
import Derived.Test.YtoofabolcbbjnaaQrWTab
namespace Go.Proofs.YtoofabolcbbjnaaW.PrintLast
end Go.Proofs.YtoofabolcbbjnaaW.PrintLast
