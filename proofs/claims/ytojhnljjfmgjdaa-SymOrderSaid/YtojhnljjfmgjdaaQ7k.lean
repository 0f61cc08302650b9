/- Lemmas: layer 12's example. -/
import Derived.Test.YtojhnljjfmgjdaaQ7
import Derived.Test.YtojhnljjfmgjdaaP40
set_option linter.unusedVariables false
namespace Go.Proofs.Ytojhnljjfmgjdaa.Q
open Go.RowKit Go.Proofs.Ytojhnljjfmgjdaa.P Go.Proofs.YtojhnljjfmgjdaaX Go.Proofs.YtojhnljjfmgjdaaW.PrintWords Go.Proofs.YtojhnljjfmgjdaaW.PrintLast Go.Proofs.YtojhnljjfmgjdaaW.PrintMore
theorem known12_at : dovetaillaw12_known.f 60 = some true := by decide +kernel
theorem known12 (k : Nat) (hk : 60 ≤ k) : dovetaillaw12_known.f k = some true := up (fun k => dovetaillaw12_known.mono k) hk known12_at
end Go.Proofs.Ytojhnljjfmgjdaa.Q
