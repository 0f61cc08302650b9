/- Numbers that stand in two groups are found, in any groups (GroupChecks: for every input the law returns true). -/
import Derived.Test.YthjlhoclmbnjgaaQ5
import Derived.Test.YthjlhoclmbnjgaaOpenGroupChecks
import Derived.Test.YthjlhoclmbnjgaaP31
set_option linter.unusedVariables false
namespace Go.Proofs.Ythjlhoclmbnjgaa.Pure
open Go.RowKit Go.Proofs.Ythjlhoclmbnjgaa.P Go.Proofs.YthjlhoclmbnjgaaX Go.Proofs.YthjlhoclmbnjgaaW.PrintWords Go.Proofs.YthjlhoclmbnjgaaW.PrintLast Go.Proofs.Ythjlhoclmbnjgaa.Q
theorem checks_loop (l : List (List Int)) (hl : l.length ≤ 8) (h2 : ∀ r ∈ l, ∀ x ∈ r, (Lit.int .i64 x).wf = true) (d : Nat) : ∀ i, i + d = l.length → (∀ j, ∀ h : j < l.length, j < i → l[j].length ≤ 10) → ∃ k, dovetaillaw14_GroupChecks.l0 k l i = some true := by
  induction d with
  | zero =>
    intro i hi hs
    have hs' : ∀ r ∈ l, r.length ≤ 10 := fun r hr => by
      obtain ⟨j, hj, rfl⟩ := List.getElem_of_mem hr
      exact hs j hj (by omega)
    have htot : total l ≤ 10 * l.length := by
      have : ∀ m : List (List Int), (∀ r ∈ m, r.length ≤ 10) → total m ≤ 10 * m.length := by
        intro m
        induction m with
        | nil => intro _; simp [total]
        | cons r m ih =>
          intro h
          have h1 := ih (fun r hr => h r (by simp [hr]))
          have h2 := h r (by simp)
          simp only [total, List.map_cons, List.sum_cons, List.length_cons] at h1 ⊢
          omega
      exact this l hs'
    obtain ⟨n, v, h3, h4⟩ := checks_agree l (by omega) (fun r hr => by have := hs' r hr; omega) (by omega) h2
    refine ⟨n + 1, ?_⟩
    simp only [dovetaillaw14_GroupChecks.l0]
    rw [if_neg (by omega), h3, h4]
    simp
  | succ d ih =>
    intro i hi hs
    have hil : i < l.length := by omega
    have hstep : ∀ n, dovetaillaw14_GroupChecks.l0 (n + 1) l i = if (l[i].length : Int) > 10 then some true else dovetaillaw14_GroupChecks.l0 n l (i + 1 : Nat) := by
      intro n
      simp only [dovetaillaw14_GroupChecks.l0]
      rw [if_pos (by omega), if_pos (by omega), rdL_at l i hil, w64_in (by omega) (by omega)]
      rfl
    by_cases hbig : (l[i].length : Int) > 10
    · exact ⟨1, by rw [hstep, if_pos hbig]⟩
    · obtain ⟨k, hk⟩ := ih (i + 1) (by omega) (fun j hj hlt => by
        rcases Nat.lt_or_ge j i with h | h
        · exact hs j hj h
        · obtain rfl : j = i := by omega
          omega)
      exact ⟨k + 1, by rw [hstep, if_neg hbig]; exact hk⟩
theorem GroupChecks (l : List (List Int)) (h1 : l.length ≤ 9223372036854775807) (h2 : ∀ y ∈ l, ∀ z ∈ y, (Lit.int .i64 z).wf = true) : ∃ k, dovetaillaw14_GroupChecks.f k l = some true := by
  by_cases hl : (l.length : Int) > 8
  · refine ⟨60, ?_⟩
    unfold dovetaillaw14_GroupChecks.f
    rw [known14 60 (by omega)]
    simp only [Option.bind_some, if_true]
    rw [if_pos hl]
  · obtain ⟨k, hk⟩ := checks_loop l (by omega) h2 l.length 0 (by omega) (fun j _ h => by omega)
    have hm : ∀ k, LeO (dovetaillaw14_GroupChecks.l0 k l 0) (dovetaillaw14_GroupChecks.l0 (k + 1) l 0) := fun k => dovetaillaw14_GroupChecks.mono_l k l 0
    have hk' := up (f := fun k => dovetaillaw14_GroupChecks.l0 k l 0) hm (show k ≤ k + 60 by omega) hk
    refine ⟨k + 60, ?_⟩
    unfold dovetaillaw14_GroupChecks.f
    rw [known14 (k + 60) (by omega)]
    simp only [Option.bind_some, if_true]
    rw [if_neg hl]
    exact hk'
end Go.Proofs.Ythjlhoclmbnjgaa.Pure
