/- rela.Known and rela.Width know just the document's types and widths, of any number (RelaTypes: for every input the law returns true). -/
import Derived.Test.YthjlhoclmbnjgaaQ3
import Derived.Test.YthjlhoclmbnjgaaP50
set_option linter.unusedVariables false
namespace Go.Proofs.Ythjlhoclmbnjgaa.Pure
open Go.RowKit Go.Proofs.Ythjlhoclmbnjgaa.P Go.Proofs.YthjlhoclmbnjgaaX Go.Proofs.YthjlhoclmbnjgaaW.PrintWords Go.Proofs.YthjlhoclmbnjgaaW.PrintLast Go.Proofs.Ythjlhoclmbnjgaa.Q
theorem RelaTypes : dovetaillaw13_RelaTypes.Pure := by
  intro a h1
  refine ⟨40, ?_⟩
  obtain ⟨x, hx⟩ := refKnown_some a
  obtain ⟨y, hy⟩ := refKnown_some (Int.tmod a 64)
  unfold dovetaillaw13_RelaTypes.f
  rw [known13 40 (by omega)]
  simp only [Option.bind_some, if_true]
  rw [known_eq 40 a (by omega), hx, width_eq 40 a (by omega), refWidth_eq 40 a (by omega), known_eq 40 _ (by omega), hy, width_eq 40 _ (by omega), refWidth_eq 40 _ (by omega)]
  simp
end Go.Proofs.Ythjlhoclmbnjgaa.Pure
