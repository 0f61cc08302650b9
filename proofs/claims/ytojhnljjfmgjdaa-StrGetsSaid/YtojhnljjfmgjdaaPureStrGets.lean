/- Of any bytes, at any place, just the document's name is told, or none (StrGets: for every input the law returns true). -/
import Derived.Test.YtojhnljjfmgjdaaQ9
import Derived.Test.YtojhnljjfmgjdaaP58
set_option linter.unusedVariables false
namespace Go.Proofs.Ytojhnljjfmgjdaa.Pure
open Go.RowKit Go.Proofs.Ytojhnljjfmgjdaa.P Go.Proofs.YtojhnljjfmgjdaaX Go.Proofs.YtojhnljjfmgjdaaW.PrintWords Go.Proofs.YtojhnljjfmgjdaaW.PrintLast Go.Proofs.Ytojhnljjfmgjdaa.Q
theorem StrGets : dovetaillaw9_StrGets.Pure := by
  intro l a1 h1 h2 h3 h4
  have b4 := bounds_u32 h4
  have hb := Byt.of_wf h3
  refine ⟨700, ?_⟩
  unfold dovetaillaw9_StrGets.f
  rw [known9]
  simp only [Option.bind_some, if_true]
  by_cases hl : (l.length : Int) > 600
  · rw [if_pos hl]
  · rw [if_neg hl]
    obtain ⟨a, rfl⟩ := Int.eq_ofNat_of_zero_le b4.1
    rw [name_eq 700 l a hb (by omega) (by omega) (by omega)]
    unfold strtab_Get.f
    rw [if_pos ⟨by omega, by omega, by omega⟩, Int.toNat_natCast]
    simp
end Go.Proofs.Ytojhnljjfmgjdaa.Pure
