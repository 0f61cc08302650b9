/- The last place at which a relocation may stand is the one whose bytes just lie within, whatever numbers stand there (RelaEdges: for every input the law returns true). -/
import Derived.Test.YthjlhoclmbnjgaaQ3
import Derived.Test.YthjlhoclmbnjgaaP51
set_option linter.unusedVariables false
namespace Go.Proofs.Ythjlhoclmbnjgaa.Pure
open Go.RowKit Go.Proofs.Ythjlhoclmbnjgaa.P Go.Proofs.YthjlhoclmbnjgaaX Go.Proofs.YthjlhoclmbnjgaaW.PrintWords Go.Proofs.YthjlhoclmbnjgaaW.PrintLast Go.Proofs.Ythjlhoclmbnjgaa.Q
theorem RelaEdges : dovetaillaw13_RelaEdges.Pure := by
  intro a n less h1 h2 h3
  have b1 := bounds_u32 h1
  have b2 := bounds_u64 h2
  have b3 := bounds_u64 h3
  have hoff : 0 ≤ IntKind.u64.wrap (n - less) ∧ IntKind.u64.wrap (n - less) ≤ 18446744073709551615 := by rw [u64_eq]; omega
  have htm : Int.tmod a 64 = a % 64 := Int.tmod_eq_emod_of_nonneg b1.1
  have hw := wid_bound (a % 64)
  refine ⟨2100, ?_⟩
  unfold dovetaillaw13_RelaEdges.f
  rw [known13 2100 (by omega)]
  simp only [Option.bind_some, if_true]
  rw [htm, width_eq 2100 _ (by omega)]
  simp only [Option.bind_some]
  generalize hr : (⟨IntKind.u64.wrap (n - less), a % 64, 0, 0⟩ : S74) = r
  have hb : Byt (encR r) := encR_byt r
  rw [rela_Bytes_eq 2100 [r] (by simp) (by simp)]
  simp only [Option.bind_some, List.flatMap_cons, List.flatMap_nil, List.append_nil]
  rw [parse_eq 2100 (encR r) n 1 hb (by rw [encR_length]; omega) (by omega) (by omega) (by omega)]
  have hrec : recR (encR r) 0 = r := by
    have := recR_enc r [] [] (by rw [← hr]; exact hoff) (by rw [← hr]; show 0 ≤ a % 64 ∧ a % 64 ≤ _; omega) (by rw [← hr]; show (0 : Int) ≤ 0 ∧ (0 : Int) ≤ _; omega) (by rw [← hr]; show _ ≤ (0 : Int) ∧ (0 : Int) ≤ _; omega)
    simpa using this
  have hread : readR (encR r) n 1 = if IntKind.u64.wrap (n - less) + wid (a % 64) ≤ n then ([r], 0) else ([], 33) := by
    unfold readR
    rw [encR_length, if_pos (by omega)]
    show scanR (encR r) n 1 1 0 [] = _
    simp only [scanR, Nat.mul_zero, hrec]
    by_cases hin : IntKind.u64.wrap (n - less) + wid (a % 64) ≤ n
    · rw [if_pos hin, if_neg]
      · rfl
      · rintro (h | h)
        · rw [← hr] at h
          exact absurd (show (1 : Int) ≤ 0 from h) (by decide)
        · rw [← hr] at h
          exact h hin
    · rw [if_neg hin, if_pos]
      exact .inr (by rw [← hr]; exact hin)
  rw [hread, u64_in (x := wid (a % 64)) hw.1 (by omega)]
  simp only [Option.bind_some]
  by_cases hle : less ≤ n
  · rw [if_pos hle, u64_in (x := n - less) (by omega) (by omega)]
    by_cases hin : less ≥ wid (a % 64)
    · rw [if_pos (show n - less + wid (a % 64) ≤ n by omega), decide_eq_true hin]
      rfl
    · rw [if_neg (show ¬ (n - less + wid (a % 64) ≤ n) by omega), decide_eq_false hin]
      rfl
  · rw [if_neg hle]
    have hbig : IntKind.u64.wrap (n - less) = n - less + 18446744073709551616 := by rw [u64_eq]; omega
    rw [if_neg (by rw [hbig]; omega)]
    rfl
end Go.Proofs.Ythjlhoclmbnjgaa.Pure
