/- Lemmas on memory that the walks use, as the print of the kit wrote them, without those that this claim does not reach. -/
import Derived.Test.YtoofabolcbbjnaaQrWApart
import Derived.Test.YtoofabolcbbjnaaQrWArr
namespace Go.Proofs.YtoofabolcbbjnaaW.PrintWords
open Go.RowKit
end Go.Proofs.YtoofabolcbbjnaaW.PrintWords
