/- Lemmas on memory that the walks use, as the print of the kit wrote them, without those that this claim does not reach. -/
import Derived.Test.YtkkbdimegpdbgaaQdWTab
namespace Go.Proofs.YtkkbdimegpdbgaaW.PrintLast
end Go.Proofs.YtkkbdimegpdbgaaW.PrintLast
