/- Lemmas on memory that the walks use, as the print of the kit wrote them, without those that this claim does not reach. -/
import Derived.Test.YtkkbdimegpdbgaaQdWApart
import Derived.Test.YtkkbdimegpdbgaaQdWArr
namespace Go.Proofs.YtkkbdimegpdbgaaW.PrintWords
open Go.RowKit
end Go.Proofs.YtkkbdimegpdbgaaW.PrintWords
