/- The reference's check of a search tree comes to the same answers; conditions: as for the program's. -/
import Derived.Test.YtkkbdimegpdbgaaQsM12
import Derived.Test.YtkkbdimegpdbgaaQsM13
import Derived.Test.YtkkbdimegpdbgaaQsPx25
import Derived.Test.YtkkbdimegpdbgaaQsPx26
import Derived.Test.YtkkbdimegpdbgaaQsPx27
namespace Go.Proofs.Ytkkbdimegpdbgaa.P
open Go.RowKit Go.Proofs.YtkkbdimegpdbgaaW.PrintWords Go.Proofs.YtkkbdimegpdbgaaW.PrintLast Go.Proofs.YtkkbdimegpdbgaaW.PrintMore
set_option linter.unusedVariables false
set_option linter.unusedSimpArgs false
end Go.Proofs.Ytkkbdimegpdbgaa.P
