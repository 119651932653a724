/- What the tape gives, and the configurations that are made from it: from 1 to n members, each undeclared and blank, or declared with a trust that is right over the members; conditions: n from 1 to 10. -/
import Derived.Test.YtkkbdimegpdbgaaQuM3
import Derived.Test.YtkkbdimegpdbgaaQuPx16
namespace Go.Proofs.Ytkkbdimegpdbgaa.P
open Go.RowKit Go.Proofs.YtkkbdimegpdbgaaW.PrintWords Go.Proofs.YtkkbdimegpdbgaaW.PrintLast Go.Proofs.YtkkbdimegpdbgaaW.PrintMore
set_option linter.unusedVariables false
set_option linter.unusedSimpArgs false
end Go.Proofs.Ytkkbdimegpdbgaa.P
