/- The last number that lies within is told, and the next one isn't, of any bytes, and nothing wraps at the ends (LeEdges: for every input the law returns true). -/
import Derived.Test.YthjlhoclmbnjgaaQ2
import Derived.Test.YthjlhoclmbnjgaaP19
set_option linter.unusedVariables false
namespace Go.Proofs.Ythjlhoclmbnjgaa.Pure
open Go.RowKit Go.Proofs.Ythjlhoclmbnjgaa.P Go.Proofs.YthjlhoclmbnjgaaX Go.Proofs.YthjlhoclmbnjgaaW.PrintWords Go.Proofs.YthjlhoclmbnjgaaW.PrintLast Go.Proofs.Ythjlhoclmbnjgaa.Q
theorem num_snd (l : List Int) (o : Int) (n : Nat) : (num l o n).2 = decide (o + n ≤ l.length) := by
  unfold num
  by_cases h : o + (n : Int) ≤ l.length
  · rw [if_pos h, decide_eq_true h]
  · rw [if_neg h, decide_eq_false h]
theorem edges_step (k : Nat) (l : List Int) (a w o : Int) (x26 : List Int) (x27 x28 : Int) (x44 : List Int) (x45 x46 : Int) (r : Bool) (hb : Byt l) (hl : l.length ≤ 100) (hw : w = 2 ∨ w = 4 ∨ w = 8) (h0 : 0 ≤ o) (h1 : o ≤ 18446744073709551615) (hk : 10 ≤ k)
    (h : dovetaillaw1_LeEdges.l1 k l a l.length w x26 x27 x28 x44 x45 (wrap64 (x46 + 1)) = some r) :
    dovetaillaw1_LeEdges.j2 (k + 1) l a l.length w o (if o ≤ l.length then decide (IntKind.u64.wrap ((l.length : Int) - o) ≥ w) else false) x26 x27 x28 x44 x45 x46 = some r := by
  have hx : (if o ≤ (l.length : Int) then decide (IntKind.u64.wrap ((l.length : Int) - o) ≥ w) else false) = decide (o + w ≤ l.length) := by
    by_cases h2 : o ≤ l.length
    · rw [if_pos h2, u64_in (by omega) (by omega)]
      apply decide_eq_decide.2
      omega
    · rw [if_neg h2]
      symm
      apply decide_eq_false
      omega
  rw [hx]
  simp only [dovetaillaw1_LeEdges.j2]
  rcases hw with rfl | rfl | rfl
  · rw [if_pos rfl, U16_eq k l o hb h0 (by omega) (by omega)]
    simp only [Option.bind_some]
    rw [num_snd, show (((2 : Nat) : Int)) = 2 from rfl, if_neg (by simp)]
    exact h
  · rw [if_neg (by decide), if_pos rfl, U32_eq k l o hb h0 (by omega) (by omega)]
    simp only [Option.bind_some]
    rw [num_snd, show (((4 : Nat) : Int)) = 4 from rfl, if_neg (by simp)]
    exact h
  · rw [if_neg (by decide), if_neg (by decide), U64_eq k l o hb h0 (by omega) (by omega)]
    simp only [Option.bind_some]
    rw [num_snd, show (((8 : Nat) : Int)) = 8 from rfl, if_neg (by simp)]
    exact h
theorem edges_inner (l : List Int) (a w : Int) (x26 : List Int) (x27 x28 : Int) (x44 : List Int) (r : Bool) (hb : Byt l) (hl : l.length ≤ 100) (hw : w = 2 ∨ w = 4 ∨ w = 8) (hx : ∀ i : Int, 0 ≤ rd x44 i ∧ rd x44 i ≤ 18446744073709551615) (hx4 : x44.length ≤ 100) (h28 : 0 ≤ x28) (h28' : x28 < 100)
    (d : Nat) : ∀ (k i : Nat), i + d = x44.length → 10 ≤ k → dovetaillaw1_LeEdges.l0 k l a l.length x26 x27 (x28 + 1) = some r →
    dovetaillaw1_LeEdges.l1 (k + 2 * d + 1) l a l.length w x26 x27 x28 x44 x44.length i = some r := by
  induction d with
  | zero =>
    intro k i hi hk h
    simp only [dovetaillaw1_LeEdges.l1]
    rw [if_neg (by omega), w64_in (by omega) (by omega)]
    exact h
  | succ d ih =>
    intro k i hi hk h
    have h2 := ih k (i + 1) (by omega) hk h
    rw [show k + 2 * (d + 1) + 1 = (k + 2 * d + 1 + 1) + 1 by omega]
    simp only [dovetaillaw1_LeEdges.l1]
    rw [if_pos (by omega), if_pos (by omega), if_pos (by omega)]
    have hs := edges_step (k + 2 * d + 1) l a w (rd x44 i) x26 x27 x28 x44 x44.length i r hb hl hw (hx _).1 (hx _).2 (by omega) (by rw [w64_in (by omega) (by omega)]; exact h2)
    by_cases h3 : rd x44 (i : Int) ≤ l.length
    · rw [if_pos h3] at hs ⊢
      exact hs
    · rw [if_neg h3] at hs ⊢
      exact hs
theorem u64_range (x : Int) : 0 ≤ IntKind.u64.wrap x ∧ IntKind.u64.wrap x ≤ 18446744073709551615 := by
  rw [u64_eq]
  omega
theorem edges_outer (l : List Int) (a x28 : Int) (w : Int) (r : Bool) (hb : Byt l) (hl : l.length ≤ 100) (h28 : 0 ≤ x28) (h28' : x28 < 3) (hw : rd [2, 4, 8] x28 = w) (hw' : w = 2 ∨ w = 4 ∨ w = 8) (ha : 0 ≤ a) (ha' : a ≤ 255) (k : Nat) (hk : 10 ≤ k)
    (h : dovetaillaw1_LeEdges.l0 k l a l.length [2, 4, 8] 3 (x28 + 1) = some r) : dovetaillaw1_LeEdges.l0 (k + 14) l a l.length [2, 4, 8] 3 x28 = some r := by
  have key : ∀ x44 : List Int, x44.length = 6 → (∀ i : Int, 0 ≤ rd x44 i ∧ rd x44 i ≤ 18446744073709551615) → dovetaillaw1_LeEdges.l1 (k + 13) l a l.length w [2, 4, 8] 3 x28 x44 x44.length 0 = some r := by
    intro x44 h6 hx
    have := edges_inner l a w [2, 4, 8] 3 x28 x44 r hb hl hw' hx (by omega) h28 (by omega) 6 k 0 (by omega) hk h
    simpa using this
  simp only [dovetaillaw1_LeEdges.l0]
  rw [if_pos (by omega), if_pos (by omega), if_pos (by simpa using h28'), hw]
  simp only [Option.bind_some]
  refine key _ rfl ?_
  intro i
  unfold rd
  rw [List.getD_eq_getElem?_getD]
  have hall : ∀ y ∈ [IntKind.u64.wrap ((l.length : Int) - w), IntKind.u64.wrap (IntKind.u64.wrap ((l.length : Int) - w) + 1), (l.length : Int), IntKind.u64.wrap (-w), 18446744073709551615, IntKind.u64.wrap a], 0 ≤ y ∧ y ≤ 18446744073709551615 := by
    intro y hy
    simp only [List.mem_cons, List.not_mem_nil, or_false] at hy
    rcases hy with rfl | rfl | rfl | rfl | rfl | rfl
    · exact u64_range _
    · exact u64_range _
    · omega
    · exact u64_range _
    · omega
    · exact u64_range _
  cases hg : [IntKind.u64.wrap ((l.length : Int) - w), IntKind.u64.wrap (IntKind.u64.wrap ((l.length : Int) - w) + 1), (l.length : Int), IntKind.u64.wrap (-w), 18446744073709551615, IntKind.u64.wrap a][i.toNat]? with
  | none => simp
  | some y => exact hall y (List.mem_of_getElem? hg)
theorem LeEdges : dovetaillaw1_LeEdges.Pure := by
  intro l a h1 h2 h3 h4
  have hb := Byt.of_wf h3
  have b4 := bounds_u8 h4
  refine ⟨53, ?_⟩
  unfold dovetaillaw1_LeEdges.f
  rw [known1 53 (by omega)]
  simp only [Option.bind_some, if_true]
  by_cases hl : (l.length : Int) > 100
  · rw [if_pos hl]
  · rw [if_neg hl, u64_in (by omega) (by omega)]
    refine edges_outer l a 0 2 true hb (by omega) (by omega) (by omega) rfl (.inl rfl) b4.1 b4.2 39 (by omega) ?_
    refine edges_outer l a 1 4 true hb (by omega) (by omega) (by omega) rfl (.inr (.inl rfl)) b4.1 b4.2 25 (by omega) ?_
    refine edges_outer l a 2 8 true hb (by omega) (by omega) (by omega) rfl (.inr (.inr rfl)) b4.1 b4.2 11 (by omega) ?_
    have c1 : le_Cut.f l 0 l.length = some (l, true) := by
      rw [Cut_eq l 0 l.length (by omega) (by omega) (by omega) (by omega) (by omega), if_pos (by omega)]
      simp
    have c2 : le_Cut.f l l.length 0 = some ([], true) := by
      rw [Cut_eq l l.length 0 (by omega) (by omega) (by omega) (by omega) (by omega), if_pos (by omega)]
      simp
    have c3 : le_Cut.f l l.length 18446744073709551615 = some ([], false) := by
      rw [Cut_eq l l.length 18446744073709551615 (by omega) (by omega) (by omega) (by omega) (by omega), if_neg (by omega)]
    simp only [dovetaillaw1_LeEdges.l0]
    rw [if_neg (by decide), c1, c2, c3]
    simp
end Go.Proofs.Ythjlhoclmbnjgaa.Pure
