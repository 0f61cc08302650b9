/- le.Set sets just so many bytes as the document says, of any bytes, at any place, any number, any count, and leaves what was handed in (LeSets: for every input the law returns true). -/
import Derived.Test.YthjlhoclmbnjgaaQ2
import Derived.Test.YthjlhoclmbnjgaaP13
set_option linter.unusedVariables false
namespace Go.Proofs.Ythjlhoclmbnjgaa.Pure
open Go.RowKit Go.Proofs.Ythjlhoclmbnjgaa.P Go.Proofs.YthjlhoclmbnjgaaX Go.Proofs.YthjlhoclmbnjgaaW.PrintWords Go.Proofs.YthjlhoclmbnjgaaW.PrintLast Go.Proofs.Ythjlhoclmbnjgaa.Q
theorem LeSets : dovetaillaw1_LeSets.Pure := by
  intro l a1 a2 a3 h1 h2 h3 h4 h5 h6
  have b1 := bounds_u64 h4
  refine ⟨20, ?_⟩
  unfold dovetaillaw1_LeSets.f
  rw [known1 20 (by omega)]
  simp only [Option.bind_some, if_true]
  by_cases hl : (l.length : Int) > 300
  · rw [if_pos hl]
  · rw [if_neg hl, Set_eq l a1 a2 a3 b1.1 (by omega), refSet_eq 20 l a1 a2 a3 b1.1 (by omega) (by omega)]
    simp
end Go.Proofs.Ythjlhoclmbnjgaa.Pure
