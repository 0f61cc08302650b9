-- printed by this session's program (wip/print), out of the translation; Lean checks it
import Derived.Test.YtojhnljjfmgjdaaP61
namespace Go.Proofs.Ytojhnljjfmgjdaa.OpenStrOnce
open Go.RowKit Go.Proofs.Ytojhnljjfmgjdaa.P Go.Proofs.YtojhnljjfmgjdaaX Go.Proofs.YtojhnljjfmgjdaaW.PrintWords Go.Proofs.YtojhnljjfmgjdaaW.PrintLast Go.Proofs.YtojhnljjfmgjdaaW.PrintMore
set_option linter.unusedVariables false
end Go.Proofs.Ytojhnljjfmgjdaa.OpenStrOnce
