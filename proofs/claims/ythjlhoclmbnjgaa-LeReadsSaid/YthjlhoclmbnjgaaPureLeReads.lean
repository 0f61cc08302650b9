/- Of any bytes, at any place, the numbers of two, four and eight bytes and the parts are told as the document says, or not at all (LeReads: for every input the law returns true). -/
import Derived.Test.YthjlhoclmbnjgaaQ2
import Derived.Test.YthjlhoclmbnjgaaP18
set_option linter.unusedVariables false
namespace Go.Proofs.Ythjlhoclmbnjgaa.Pure
open Go.RowKit Go.Proofs.Ythjlhoclmbnjgaa.P Go.Proofs.YthjlhoclmbnjgaaX Go.Proofs.YthjlhoclmbnjgaaW.PrintWords Go.Proofs.YthjlhoclmbnjgaaW.PrintLast Go.Proofs.Ythjlhoclmbnjgaa.Q
theorem LeReads : dovetaillaw1_LeReads.Pure := by
  intro l a1 a2 h1 h2 h3 h4 h5
  have b1 := bounds_u64 h4
  have b2 := bounds_u64 h5
  have hb := Byt.of_wf h3
  refine ⟨20, ?_⟩
  unfold dovetaillaw1_LeReads.f
  rw [known1 20 (by omega)]
  simp only [Option.bind_some, if_true]
  by_cases hl : (l.length : Int) > 500
  · rw [if_pos hl]
  · have n2 := Num_eq 20 l a1 2 hb b1.1 (by omega) (by omega) (by omega)
    have n4 := Num_eq 20 l a1 4 hb b1.1 (by omega) (by omega) (by omega)
    have n8 := Num_eq 20 l a1 8 hb b1.1 (by omega) (by omega) (by omega)
    have d2 := num_bound hb a1 2
    have d4 := num_bound hb a1 4
    rw [show (((2 : Nat) : Int)) = 2 from rfl] at n2
    rw [show (((4 : Nat) : Int)) = 4 from rfl] at n4
    rw [show (((8 : Nat) : Int)) = 8 from rfl] at n8
    rw [if_neg hl, U16_eq 20 l a1 hb b1.1 (by omega) (by omega), U32_eq 20 l a1 hb b1.1 (by omega) (by omega), U64_eq 20 l a1 hb b1.1 (by omega) (by omega), Cut_eq l a1 a2 b1.1 b1.2 b2.1 b2.2 (by omega), n2, n4, n8, refCut_eq l a1 a2 b1.1 b1.2 b2.1 b2.2 (by omega)]
    simp only [Option.bind_some]
    rw [u64_in d2.1 (by have := d2.2; simp at this; omega), u64_in d4.1 (by have := d4.2; simp at this; omega)]
    simp
end Go.Proofs.Ythjlhoclmbnjgaa.Pure
