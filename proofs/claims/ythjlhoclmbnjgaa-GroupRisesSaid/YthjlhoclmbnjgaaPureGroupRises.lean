/- Members that rise, each a section's number, are a group, and others aren't (GroupRises: for every input the law returns true). -/
import Derived.Test.YthjlhoclmbnjgaaQ4
import Derived.Test.YthjlhoclmbnjgaaP33
set_option linter.unusedVariables false
namespace Go.Proofs.Ythjlhoclmbnjgaa.Pure
open Go.RowKit Go.Proofs.Ythjlhoclmbnjgaa.P Go.Proofs.YthjlhoclmbnjgaaX Go.Proofs.YthjlhoclmbnjgaaW.PrintWords Go.Proofs.YthjlhoclmbnjgaaW.PrintLast Go.Proofs.Ythjlhoclmbnjgaa.Q
/-- What the loop holds: the members so far, the last one, whether they rise. -/
structure RisesSt (m : List Int) (at_ : Int) (ok : Bool) (i : Nat) : Prop where
  len : m.length = i
  last : lastOf 0 m = at_
  lo : 0 ≤ at_
  hi : at_ ≤ 3 * i
  all : ∀ x ∈ m, 0 ≤ x ∧ x ≤ 3 * i
  inc : ok = true ↔ Inc 0 m
theorem rises_step {m : List Int} {at_ g : Int} {ok : Bool} {i : Nat} (h : RisesSt m at_ ok i) (g0 : 0 ≤ g) (g3 : g ≤ 3) : RisesSt (m ++ [at_ + g]) (at_ + g) (if ok = true then decide (g > 0) else false) (i + 1) := by
  obtain ⟨h1, h2, h3, h4, h5, h6⟩ := h
  refine ⟨by simp [h1], lastOf_snoc _ _ _, by omega, by omega, fun x hx => ?_, ?_⟩
  · rcases List.mem_append.1 hx with hx | hx
    · have := h5 x hx; omega
    · rw [List.mem_singleton.1 hx]; omega
  · rw [Inc_snoc, h2, ← h6]
    cases ok with
    | true => simp; omega
    | false => simp
theorem rises_end (k : Nat) (l : List Int) (s at_ : Int) (m : List Int) (ok : Bool) (i : Nat) (hs0 : 0 ≤ s) (hs1 : s ≤ 255) (hk : 60 ≤ k) (hi : i ≤ 15) (h : RisesSt m at_ ok i) (hl : l.length = i) :
    dovetaillaw14_GroupRises.l0 (k + 1) l s m at_ ok i = some true := by
  have hm : ∀ x ∈ m, 0 ≤ x ∧ x < 4294967296 := fun x hx => by have := h.all x hx; omega
  have hlen := h.len
  simp only [dovetaillaw14_GroupRises.l0]
  rw [if_neg (by omega), GroupBytes_eq k m (by omega) (by omega)]
  simp only [Option.bind_some]
  rw [w64_in (x := s) (by omega) (by omega), parseG_eq k (gb m) s (gb_byt m) (by rw [gb_length]; omega) (by rw [gb_length]; omega), readG_gb s m hm]
  simp only [Option.bind_some]
  have hr : dovetailhelp_Ints.f k m m = some true := by
    unfold dovetailhelp_Ints.f
    rw [if_pos rfl]
    exact Ints_refl m m.length k 0 (by omega) (by omega) (by omega)
  cases ok with
  | true =>
    have hinc := h.inc.1 rfl
    rw [if_pos rfl]
    by_cases h0 : (m.length : Int) = 0
    · have hnil : m = [] := List.eq_nil_of_length_eq_zero (by omega)
      rw [if_pos h0, scanM_yes s m 0 [] hinc (.inl hnil)]
      simp only [List.nil_append, if_true, hr, Option.bind_some]
    · rw [if_neg h0]
      by_cases hat : at_ < s
      · rw [if_pos hat, scanM_yes s m 0 [] hinc (.inr (by rw [h.last]; exact hat))]
        simp only [List.nil_append, if_true, hr, Option.bind_some]
      · rw [if_neg hat, scanM_no s m 0 [] (by
          rintro ⟨_, hz | hz⟩
          · subst hz; exact h0 rfl
          · rw [h.last] at hz; exact hat hz)]
        simp
  | false =>
    have hinc : ¬ Inc 0 m := fun hi => by have := h.inc.2 hi; cases this
    rw [if_neg (by decide), scanM_no s m 0 [] (fun hz => hinc hz.1)]
    simp
theorem rises_loop (d : Nat) : ∀ (k : Nat) (l : List Int) (s at_ : Int) (m : List Int) (ok : Bool) (i : Nat), Byt l → 0 ≤ s → s ≤ 255 → d + 70 ≤ k → i + d = l.length → l.length ≤ 15 → RisesSt m at_ ok i →
    dovetaillaw14_GroupRises.l0 k l s m at_ ok i = some true := by
  induction d with
  | zero =>
    intro k l s at_ m ok i hb h0 h1 hk hi hl h
    obtain ⟨k, rfl⟩ : ∃ m, k = m + 1 := ⟨k - 1, by omega⟩
    exact rises_end k l s at_ m ok i h0 h1 (by omega) (by omega) h (by omega)
  | succ d ih =>
    intro k l s at_ m ok i hb h0 h1 hk hi hl h
    obtain ⟨k, rfl⟩ : ∃ m, k = m + 1 := ⟨k - 1, by omega⟩
    have b := hb.at_ (i : Int)
    have e0 : Int.tmod (rd l i) 4 = rd l i % 4 := Int.tmod_eq_emod_of_nonneg b.1
    have hg : 0 ≤ rd l i % 4 ∧ rd l i % 4 ≤ 3 := by omega
    have hst := rises_step h hg.1 hg.2
    have h3 := h.lo
    have h4 := h.hi
    have hlen := h.len
    have hn := ih k l s _ _ _ (i + 1) hb h0 h1 (by omega) (by omega) hl hst
    simp only [dovetaillaw14_GroupRises.l0]
    rw [if_pos (by omega), if_pos (by omega), e0, w64_in (x := rd l i % 4) (by omega) (by omega), w64_in (x := at_ + rd l i % 4) (by omega) (by omega), w64_in (x := (i : Int) + 1) (by omega) (by omega)]
    cases ok with
    | true =>
      rw [if_pos rfl, if_pos (by omega)]
      exact hn
    | false =>
      rw [if_neg (by decide), if_pos (by omega)]
      exact hn
theorem GroupRises : dovetaillaw14_GroupRises.Pure := by
  intro l s h1 h2 h3 h4
  have hb := Byt.of_wf h3
  have b4 := bounds_u8 h4
  refine ⟨100, ?_⟩
  unfold dovetaillaw14_GroupRises.f
  rw [known14 100 (by omega)]
  simp only [Option.bind_some, if_true]
  by_cases hl : (l.length : Int) > 15
  · rw [if_pos hl]
  · rw [if_neg hl]
    exact rises_loop l.length 100 l s 0 [] true 0 hb b4.1 b4.2 (by omega) (by omega) (by omega) ⟨rfl, rfl, by omega, by omega, fun x hx => by simp at hx, by simp [Inc]⟩
end Go.Proofs.Ythjlhoclmbnjgaa.Pure
