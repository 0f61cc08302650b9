-- printed by this session's program (wip/print), out of the translation; Lean checks it
import Derived.Test.YthjlhoclmbnjgaaP31
namespace Go.Proofs.Ythjlhoclmbnjgaa.OpenGroupChecks
open Go.RowKit Go.Proofs.Ythjlhoclmbnjgaa.P Go.Proofs.YthjlhoclmbnjgaaX Go.Proofs.YthjlhoclmbnjgaaW.PrintWords Go.Proofs.YthjlhoclmbnjgaaW.PrintLast Go.Proofs.YthjlhoclmbnjgaaW.PrintMore
set_option linter.unusedVariables false
end Go.Proofs.Ythjlhoclmbnjgaa.OpenGroupChecks
