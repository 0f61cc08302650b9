/- Lemmas: le.Set and the reference's Set in closed form; layer 1's example; LeSets and LeReads over numbers and lists. -/
import Derived.Test.YthjlhoclmbnjgaaQ1
import Derived.Test.YthjlhoclmbnjgaaP12
import Derived.Test.YthjlhoclmbnjgaaP11
import Derived.KernelRfl
set_option linter.unusedVariables false
namespace Go.Proofs.Ythjlhoclmbnjgaa.Q
open Go.RowKit Go.Proofs.Ythjlhoclmbnjgaa.P Go.Proofs.YthjlhoclmbnjgaaX Go.Proofs.YthjlhoclmbnjgaaW.PrintWords Go.Proofs.YthjlhoclmbnjgaaW.PrintLast Go.Proofs.YthjlhoclmbnjgaaW.PrintMore

theorem up {α : Type} {f : Nat → Option α} (h : ∀ k, LeO (f k) (f (k + 1))) {k m : Nat} (hk : k ≤ m) {r : α} (e : f k = some r) : f m = some r := by
  obtain ⟨d, rfl⟩ : ∃ d, m = k + d := ⟨m - k, by omega⟩
  clear hk
  induction d with
  | zero => exact e
  | succ d ih => exact h _ _ ih
theorem known1 (k : Nat) (hk : 20 ≤ k) : dovetaillaw1_known.f k = some true :=
  up (f := fun k => dovetaillaw1_known.f k) dovetaillaw1_known.mono hk (by kernel_rfl)

/-- n bytes of v from o on. -/
def setb (l : List Int) (o v n : Int) : List Int × Bool :=
  if n < 1 then ([], false) else if n > 8 then ([], false) else if o + n ≤ l.length then (l.take o.toNat ++ leb n.toNat v ++ l.drop (o.toNat + n.toNat), true) else ([], false)
theorem Set_eq (l : List Int) (o v n : Int) (ho : 0 ≤ o) (hl : l.length < 140737488355328) : le_Set.f l o v n = some (setb l o v n) := by
  unfold le_Set.f setb
  by_cases h1 : n < 1
  · rw [if_pos h1, if_pos h1]
  rw [if_neg h1, if_neg h1]
  by_cases h2 : n > 8
  · rw [if_pos h2, if_pos h2]
  rw [if_neg h2, if_neg h2, u64_in (x := n) (by omega) (by omega), le_within_eq o n l.length ho (by omega) (by omega)]
  simp only [Option.bind_some]
  by_cases h : o + n ≤ l.length
  · rw [if_pos (decide_eq_true h), if_pos ho, if_pos hl, if_pos h]
  · rw [if_neg (by simpa using h), if_neg h]
theorem leb_snoc (i : Nat) : ∀ v, leb (i + 1) v = leb i v ++ [v / 2 ^ (8 * i) % 256] := by
  induction i with
  | zero => intro v; simp [leb]
  | succ i ih =>
    intro v
    rw [show leb (i + 1 + 1) v = v % 256 :: leb (i + 1) (v / 256) from rfl, ih (v / 256)]
    rw [show leb (i + 1) v = v % 256 :: leb i (v / 256) from rfl, List.cons_append]
    congr 3
    rw [show 8 * (i + 1) = 8 + 8 * i by omega, Int.pow_add, ← Int.ediv_ediv_of_nonneg (by exact Int.pow_nonneg (by omega))]
    rfl
theorem refSet_l0 (d : Nat) : ∀ (k : Nat) (l : List Int) (o i n : Nat) (v : Int), i + d = n → n ≤ 8 → o + n ≤ l.length → l.length ≤ 140737488355328 → d < k →
    dovetailref1_Set.l0 k o v n (l.take o ++ leb i v ++ l.drop (o + i)) i = some (l.take o ++ leb n v ++ l.drop (o + n), true) := by
  induction d with
  | zero =>
    intro k l o i n v hi h8 hl hll hk
    obtain ⟨k, rfl⟩ : ∃ m, k = m + 1 := ⟨k - 1, by omega⟩
    simp only [dovetailref1_Set.l0]
    rw [if_neg (by omega), show i = n by omega]
  | succ d ih =>
    intro k l o i n v hi h8 hl hll hk
    obtain ⟨k, rfl⟩ : ∃ m, k = m + 1 := ⟨k - 1, by omega⟩
    have e1 : IntKind.u64.wrap (i : Int) = i := u64_in (by omega) (by omega)
    have e2 : IntKind.u64.wrap ((o : Int) + i) = o + i := u64_in (by omega) (by omega)
    have e3 : shr .u64 v (8 * (i : Int)) = v / 2 ^ (8 * i) := by rw [shr64 (by omega) (by omega), show (8 * (i : Int)).toNat = 8 * i by omega]
    have hlen : (l.take o ++ leb i v ++ l.drop (o + i)).length = l.length := by simp [leb_length]; omega
    simp only [dovetailref1_Set.l0]
    rw [if_pos (by omega), w64_in (x := 8 * (i : Int)) (by omega) (by omega), if_pos (by omega), e1, e2, if_pos (by omega), hlen, if_pos (by omega), e3, w64_in (x := (i : Int) + 1) (by omega) (by omega), show ((o : Int) + i).toNat = o + i by omega]
    have e4 : (l.take o ++ leb i v ++ l.drop (o + i)).set (o + i) (v / 2 ^ (8 * i) % 256) = l.take o ++ leb (i + 1) v ++ l.drop (o + (i + 1)) := by
      have hpre : (l.take o ++ leb i v).length = o + i := by simp [leb_length]; omega
      rw [List.set_append_right _ _ (by omega), hpre, Nat.sub_self, List.drop_eq_getElem_cons (show o + i < l.length by omega), List.set_cons_zero, leb_snoc]
      simp [Nat.add_assoc]
    rw [e4]
    exact ih k l o (i + 1) n v (by omega) h8 hl hll (by omega)
theorem refSet_eq (k : Nat) (l : List Int) (o v n : Int) (ho : 0 ≤ o) (hl : l.length < 140737488355328) (hk : 10 < k) : dovetailref1_Set.f k l o v n = some (setb l o v n) := by
  obtain ⟨k, rfl⟩ : ∃ m, k = m + 1 := ⟨k - 1, by omega⟩
  have no : ∀ m, dovetailref1_Set.j0 (k + 1) l o v m true = some ([], false) := fun m => by simp only [dovetailref1_Set.j0, if_true]
  unfold dovetailref1_Set.f setb
  by_cases h1 : n < 1
  · rw [if_pos h1, if_pos h1, no]
  rw [if_neg h1, if_neg h1]
  by_cases h2 : n > 8
  · rw [if_pos h2, if_pos h2, no]
  rw [if_neg h2, if_neg h2, u64_in (x := (l.length : Int)) (by omega) (by omega)]
  by_cases h3 : o > l.length
  · rw [if_pos h3, no, if_neg (by omega)]
  rw [if_neg h3, u64_in (x := (l.length : Int) - o) (by omega) (by omega), u64_in (x := n) (by omega) (by omega)]
  by_cases h4 : (l.length : Int) - o < n
  · rw [decide_eq_true h4, no, if_neg (by omega)]
  · rw [decide_eq_false h4, if_pos (by omega)]
    simp only [dovetailref1_Set.j0]
    rw [if_neg (by decide), if_pos (by simpa using hl)]
    obtain ⟨o, rfl⟩ := Int.eq_ofNat_of_zero_le ho
    obtain ⟨n, rfl⟩ : ∃ m : Nat, n = m := ⟨n.toNat, by omega⟩
    have := refSet_l0 n k l o 0 n v (by omega) (by omega) (by omega) (by omega) (by omega)
    simpa [leb] using this
theorem leb_mod (n : Nat) : ∀ (v : Int) (j : Nat), leb n (v % 2 ^ (8 * (n + j))) = leb n v := by
  induction n with
  | zero => intro v j; rfl
  | succ n ih =>
    intro v j
    simp only [leb]
    have hp : (2 : Int) ^ (8 * (n + 1 + j)) = 256 * 2 ^ (8 * (n + j)) := by
      rw [show 8 * (n + 1 + j) = 8 + 8 * (n + j) by omega, Int.pow_add]
      rfl
    have h1 : v % 2 ^ (8 * (n + 1 + j)) % 256 = v % 256 := by
      rw [hp]
      exact Int.emod_emod_of_dvd v (Int.dvd_mul_right _ _)
    have h2 : v % 2 ^ (8 * (n + 1 + j)) / 256 = v / 256 % 2 ^ (8 * (n + j)) := by
      rw [hp]
      have hpos : (0 : Int) < 2 ^ (8 * (n + j)) := Int.pow_pos (by omega)
      generalize (2 : Int) ^ (8 * (n + j)) = B at *
      rw [Int.emod_def v (256 * B), Int.emod_def (v / 256) B, Int.mul_assoc, Int.sub_mul_ediv_left v _ (by omega : (256 : Int) ≠ 0), Int.ediv_ediv_of_nonneg (by omega)]
    rw [h1, h2, ih (v / 256) j]
theorem leb_wrap (n : Nat) (hn : n ≤ 8) (v : Int) : leb n (IntKind.u64.wrap v) = leb n v := by
  obtain ⟨j, hj⟩ : ∃ j, n + j = 8 := ⟨8 - n, by omega⟩
  have := leb_mod n v j
  rw [hj] at this
  exact this
end Go.Proofs.Ythjlhoclmbnjgaa.Q
