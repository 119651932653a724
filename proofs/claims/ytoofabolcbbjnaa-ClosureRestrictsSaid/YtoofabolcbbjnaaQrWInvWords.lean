/- Lemmas on memory that the walks use, as the print of the kit wrote them, without those that this claim does not reach. -/
import Derived.Test.YtoofabolcbbjnaaQrWInv
import Derived.Test.YtoofabolcbbjnaaQrWFootNe
namespace Go.Proofs.YtoofabolcbbjnaaW.PrintLast
end Go.Proofs.YtoofabolcbbjnaaW.PrintLast
