/- Lemmas for groups: the reference's Put and GroupBytes, group.Parse in closed form, Ints. -/
import Derived.Test.YthjlhoclmbnjgaaQ2
import Derived.Test.YthjlhoclmbnjgaaP22
import Derived.Test.YthjlhoclmbnjgaaP32
import Derived.Test.YthjlhoclmbnjgaaP26
import Derived.Test.YthjlhoclmbnjgaaP27
import Derived.Test.YthjlhoclmbnjgaaP29
set_option linter.unusedVariables false
namespace Go.Proofs.Ythjlhoclmbnjgaa.Q
open Go.RowKit Go.Proofs.Ythjlhoclmbnjgaa.P Go.Proofs.YthjlhoclmbnjgaaX Go.Proofs.YthjlhoclmbnjgaaW.PrintWords Go.Proofs.YthjlhoclmbnjgaaW.PrintLast Go.Proofs.YthjlhoclmbnjgaaW.PrintMore

theorem known14 (k : Nat) (hk : 60 ≤ k) : dovetaillaw14_known.f k = some true :=
  up (f := fun k => dovetaillaw14_known.f k) dovetaillaw14_known.mono hk (by kernel_rfl)
theorem refPut_l0 (d : Nat) : ∀ (k : Nat) (x0 : List Int) (v n i : Int), 0 ≤ i → n ≤ 8 → n - i = d → d < k → x0.length + d ≤ 140737488355328 →
    dovetailref1_Put.l0 k x0 v n i = some (x0 ++ leb d (v / 2 ^ (8 * i).toNat)) := by
  induction d with
  | zero =>
    intro k x0 v n i h0 h8 hd hk hl
    obtain ⟨k, rfl⟩ : ∃ m, k = m + 1 := ⟨k - 1, by omega⟩
    simp only [dovetailref1_Put.l0, leb]
    rw [if_neg (by omega), List.append_nil]
  | succ d ih =>
    intro k x0 v n i h0 h8 hd hk hl
    obtain ⟨k, rfl⟩ : ∃ m, k = m + 1 := ⟨k - 1, by omega⟩
    have e1 : wrap64 (8 * i) = 8 * i := w64_in (by omega) (by omega)
    have e2 : wrap64 (i + 1) = i + 1 := w64_in (by omega) (by omega)
    have e3 : shr .u64 v (8 * i) = v / 2 ^ (8 * i).toNat := shr64 (by omega) (by omega)
    have e4 : v / 2 ^ (8 * (i + 1)).toNat = v / 2 ^ (8 * i).toNat / 256 := by
      rw [show (8 * (i + 1)).toNat = (8 * i).toNat + 8 by omega, Int.pow_add, ← Int.ediv_ediv_of_nonneg (by exact Int.pow_nonneg (by omega))]
      rfl
    simp only [dovetailref1_Put.l0]
    rw [if_pos (by omega), e1, if_pos (by omega), if_pos (by omega), e2, e3, ih k _ v n (i + 1) (by omega) h8 (by omega) (by omega) (by simp; omega), e4]
    simp [leb]
theorem refPut_eq (k : Nat) (x0 : List Int) (v : Int) (n : Nat) (hn : n ≤ 8) (hk : n < k) (hl : x0.length + n ≤ 140737488355328) : dovetailref1_Put.f k x0 v n = some (x0 ++ leb n v) := by
  unfold dovetailref1_Put.f
  rw [refPut_l0 n k x0 v n 0 (by omega) (by omega) (by omega) hk hl]
  simp
theorem rd_at (l : List Int) (i : Nat) (h : i < l.length) : rd l i = l[i] := by
  unfold rd
  rw [Int.toNat_natCast, List.getD_eq_getElem?_getD, List.getElem?_eq_getElem h]
  rfl
theorem flatMap_leb_length (n : Nat) (l : List Int) : (l.flatMap (leb n)).length = n * l.length := by
  have := flat_len n (fun x => x) l
  simpa using this
theorem flatMap_leb_byt (n : Nat) (l : List Int) : Byt (l.flatMap (leb n)) := by
  intro x hx
  obtain ⟨a, _, ha⟩ := List.mem_flatMap.1 hx
  exact leb_byt n a x ha
theorem GroupBytes_l0 (d : Nat) : ∀ (k : Nat) (l acc : List Int) (i : Nat), i + d = l.length → d + 5 < k → acc.length + 4 * d < 140737488355328 → l.length ≤ 140737488355328 →
    dovetailref9_GroupBytes.l0 k l acc i = some (acc ++ (l.drop i).flatMap (leb 4)) := by
  induction d with
  | zero =>
    intro k l acc i hi hk hl hll
    obtain ⟨k, rfl⟩ : ∃ m, k = m + 1 := ⟨k - 1, by omega⟩
    simp only [dovetailref9_GroupBytes.l0]
    rw [if_neg (by omega), List.drop_eq_nil_of_le (by omega)]
    simp
  | succ d ih =>
    intro k l acc i hi hk hl hll
    obtain ⟨k, rfl⟩ : ∃ m, k = m + 1 := ⟨k - 1, by omega⟩
    have hlt : i < l.length := by omega
    simp only [dovetailref9_GroupBytes.l0]
    have hp := refPut_eq k acc (IntKind.u64.wrap (rd l i)) 4 (by omega) (by omega) (by omega)
    rw [show (((4 : Nat) : Int)) = 4 from rfl, leb_wrap 4 (by omega)] at hp
    rw [if_pos (by omega), if_pos (by omega), hp]
    simp only [Option.bind_some]
    rw [w64_in (by omega) (by omega), show ((i : Int) + 1) = ((i + 1 : Nat) : Int) by omega, ih k l _ (i + 1) (by omega) (by omega) (by rw [List.length_append, leb_length]; omega) hll, List.drop_eq_getElem_cons hlt, List.flatMap_cons, rd_at l i hlt]
    simp only [List.append_assoc]
/-- A group's bytes. -/
def gb (m : List Int) : List Int := leb 4 1 ++ m.flatMap (leb 4)
theorem gb_byt (m : List Int) : Byt (gb m) := (leb_byt 4 1).append (flatMap_leb_byt 4 m)
theorem gb_length (m : List Int) : (gb m).length = 4 + 4 * m.length := by unfold gb; rw [List.length_append, leb_length, flatMap_leb_length]
theorem GroupBytes_eq (k : Nat) (m : List Int) (hk : m.length + 6 < k) (hl : 4 + 4 * m.length < 140737488355328) : dovetailref9_GroupBytes.f k m = some (gb m) := by
  unfold dovetailref9_GroupBytes.f
  have hp := refPut_eq k [] 1 4 (by omega) (by omega) (by simp)
  rw [show (((4 : Nat) : Int)) = 4 from rfl] at hp
  rw [hp]
  simp only [Option.bind_some, List.nil_append]
  have := GroupBytes_l0 m.length k m (leb 4 1) 0 (by omega) (by omega) (by rw [leb_length]; omega) (by omega)
  simpa [gb] using this

/-! ### reading -/
def word (l : List Int) (i : Nat) : Int := lev ((l.drop (4 * i)).take 4)
theorem word_bound {l : List Int} (hb : Byt l) (i : Nat) : 0 ≤ word l i ∧ word l i < 4294967296 := by
  have h := lev_bound ((hb.drop (4 * i)).take 4)
  have := pow256_mono (show ((l.drop (4 * i)).take 4).length ≤ 4 by rw [List.length_take]; omega)
  unfold word
  have e : (256 : Int) ^ 4 = 4294967296 := rfl
  omega
def scanG (l : List Int) (s : Int) : Nat → Nat → Int → List Int → List Int × Int
  | 0, _, _, acc => (acc, 0)
  | d + 1, i, last, acc => if word l i ≤ last ∨ s ≤ word l i then ([], 34) else scanG l s d (i + 1) (word l i) (acc ++ [word l i])
def readG (l : List Int) (s : Int) : List Int × Int := if 4 ≤ l.length ∧ word l 0 = 1 ∧ l.length % 4 = 0 then scanG l s (l.length / 4 - 1) 1 0 [] else ([], 34)
theorem U32_word (k : Nat) (l : List Int) (i : Nat) (o : Int) (ho : o = ((4 * i : Nat) : Int)) (hb : Byt l) (hl : l.length ≤ 140737488355328) (hk : 4 < k) (h : 4 * i + 4 ≤ l.length) : le_U32.f k l o = some (word l i, true) := by
  subst ho
  rw [U32_eq k l _ hb (by omega) hl hk]
  unfold num
  rw [if_pos (by omega), Int.toNat_natCast]
  rfl
theorem parseG_l0 (d : Nat) : ∀ (k : Nat) (l : List Int) (s : Int) (acc : List Int) (last : Int) (i : Nat), Byt l → l.length = 4 * (i + d) → l.length ≤ 140737488355328 → acc.length ≤ i → i + d < 17592186044416 → d + 10 < k →
    group_Parse.l0 k l s acc last ((4 * i : Nat) : Int) = some (scanG l s d i last acc) := by
  induction d with
  | zero =>
    intro k l s acc last i hb hl hll ha hi hk
    obtain ⟨k, rfl⟩ : ∃ m, k = m + 1 := ⟨k - 1, by omega⟩
    simp only [group_Parse.l0]
    rw [u64_in (x := (l.length : Int)) (by omega) (by omega), if_neg (by omega)]
    rfl
  | succ d ih =>
    intro k l s acc last i hb hl hll ha hi hk
    obtain ⟨k, rfl⟩ : ∃ m, k = m + 1 := ⟨k - 1, by omega⟩
    have b := word_bound hb i
    simp only [group_Parse.l0]
    rw [u64_in (x := (l.length : Int)) (by omega) (by omega), if_pos (by omega), U32_word k l i _ rfl hb hll (by omega) (by omega)]
    simp only [Option.bind_some, scanG]
    rw [w64_in (x := word l i) (by omega) (by omega)]
    by_cases h1 : word l i ≤ last
    · rw [if_pos h1, if_pos (.inl h1)]
    · rw [if_neg h1]
      by_cases h2 : word l i ≥ s
      · rw [if_pos h2, if_pos (.inr h2)]
      · rw [if_neg h2, if_pos (by omega), if_neg (by rintro (h | h) <;> omega), u64_in (by omega) (by omega), show ((4 * i : Nat) : Int) + 4 = ((4 * (i + 1) : Nat) : Int) by omega]
        exact ih k l s _ _ (i + 1) hb (by omega) hll (by rw [List.length_append, List.length_singleton]; omega) (by omega) (by omega)
theorem parseG_eq (k : Nat) (l : List Int) (s : Int) (hb : Byt l) (hl : l.length < 70368744177664) (hk : l.length / 4 + 20 < k) : group_Parse.f k l s = some (readG l s) := by
  obtain ⟨k, rfl⟩ : ∃ m, k = m + 1 := ⟨k - 1, by omega⟩
  unfold group_Parse.f readG
  by_cases h4 : 4 ≤ l.length
  · rw [U32_word (k + 1) l 0 0 rfl hb (by omega) (by omega) (by omega)]
    simp only [Option.bind_some, if_true]
    by_cases h1 : word l 0 = 1
    · rw [if_pos h1]
      simp only [group_Parse.j0]
      by_cases hm : l.length % 4 = 0
      · have e : (((l.length : Int) % 4) != 0) = false := by rw [bne_eq_false_iff_eq]; omega
        rw [e, if_neg (by decide), if_pos ⟨h4, h1, hm⟩]
        exact parseG_l0 (l.length / 4 - 1) k l s [] 0 1 hb (by omega) (by omega) (by simp) (by omega) (by omega)
      · have e : (((l.length : Int) % 4) != 0) = true := by rw [bne_iff_ne]; omega
        rw [e, if_pos rfl, if_neg (by rintro ⟨_, _, h⟩; exact hm h)]
    · rw [if_neg h1, if_neg (by rintro ⟨_, h, _⟩; exact h1 h)]
      simp only [group_Parse.j0, if_true]
  · rw [U32_eq (k + 1) l 0 hb (by omega) (by omega) (by omega)]
    unfold num
    rw [if_neg (by omega), if_neg (by rintro ⟨h, _⟩; exact h4 h)]
    simp only [Option.bind_some, group_Parse.j0]
    simp
/-! ### what was written is read -/
def lastOf (a : Int) : List Int → Int
  | [] => a
  | x :: xs => lastOf x xs
def Inc (a : Int) : List Int → Prop
  | [] => True
  | x :: xs => a < x ∧ Inc x xs
theorem lastOf_snoc (m : List Int) : ∀ (a y : Int), lastOf a (m ++ [y]) = y := by
  induction m with
  | nil => intro a y; rfl
  | cons x m ih => intro a y; exact ih x y
theorem Inc_snoc (m : List Int) : ∀ (a y : Int), Inc a (m ++ [y]) ↔ Inc a m ∧ lastOf a m < y := by
  induction m with
  | nil => intro a y; simp [Inc, lastOf]
  | cons x m ih =>
    intro a y
    simp only [List.cons_append, Inc, lastOf, ih x y, and_assoc]
theorem Inc_last (m : List Int) : ∀ a, Inc a m → a ≤ lastOf a m := by
  induction m with
  | nil => intro a _; exact Int.le_refl _
  | cons x m ih =>
    intro a h
    have := ih x h.2
    have := h.1
    show a ≤ lastOf x m
    omega
def scanM (s : Int) : List Int → Int → List Int → List Int × Int
  | [], _, acc => (acc, 0)
  | x :: xs, last, acc => if x ≤ last ∨ s ≤ x then ([], 34) else scanM s xs x (acc ++ [x])
theorem scanM_yes (s : Int) (m : List Int) : ∀ (last : Int) (acc : List Int), Inc last m → (m = [] ∨ lastOf last m < s) → scanM s m last acc = (acc ++ m, 0) := by
  induction m with
  | nil => intro last acc _ _; simp [scanM]
  | cons x m ih =>
    intro last acc h1 h2
    have hl : lastOf x m < s := by
      rcases h2 with h | h
      · cases h
      · exact h
    have := Inc_last m x h1.2
    simp only [scanM]
    have h3 := h1.1
    rw [if_neg (by rintro (h | h) <;> omega), ih x _ h1.2 (.inr hl)]
    simp
theorem scanM_no (s : Int) (m : List Int) : ∀ (last : Int) (acc : List Int), ¬ (Inc last m ∧ (m = [] ∨ lastOf last m < s)) → scanM s m last acc = ([], 34) := by
  induction m with
  | nil => intro last acc h; exact absurd ⟨trivial, .inl rfl⟩ h
  | cons x m ih =>
    intro last acc h
    simp only [scanM]
    by_cases h1 : x ≤ last ∨ s ≤ x
    · rw [if_pos h1]
    · rw [if_neg h1]
      refine ih x _ fun h2 => h ⟨⟨by omega, h2.1⟩, .inr ?_⟩
      rcases h2.2 with h3 | h3
      · subst h3
        show x < s
        omega
      · exact h3
theorem word_gb (m : List Int) (hm : ∀ x ∈ m, 0 ≤ x ∧ x < 4294967296) (i : Nat) (h : i < m.length) : word (gb m) (i + 1) = m[i] := by
  have hpre : gb m = (leb 4 1 ++ (m.take i).flatMap (leb 4)) ++ (leb 4 m[i] ++ (m.drop (i + 1)).flatMap (leb 4)) := by
    unfold gb
    conv => lhs; rw [← List.take_append_drop i m, List.flatMap_append, List.drop_eq_getElem_cons h, List.flatMap_cons]
    simp only [List.append_assoc]
  have hlen : (leb 4 1 ++ (m.take i).flatMap (leb 4)).length = 4 * (i + 1) := by
    rw [List.length_append, leb_length, flatMap_leb_length, List.length_take]
    omega
  unfold word
  rw [hpre, ← hlen, List.drop_left, List.take_append_of_le_length (by rw [leb_length]; omega), List.take_of_length_le (by rw [leb_length]; omega)]
  have := hm _ (List.getElem_mem h)
  exact lev_leb 4 _ this.1 this.2
theorem scanG_gb (s : Int) (m : List Int) (hm : ∀ x ∈ m, 0 ≤ x ∧ x < 4294967296) (d : Nat) : ∀ (i : Nat) (last : Int) (acc : List Int), i + d = m.length → scanG (gb m) s d (i + 1) last acc = scanM s (m.drop i) last acc := by
  induction d with
  | zero => intro i last acc h; rw [List.drop_eq_nil_of_le (by omega)]; rfl
  | succ d ih =>
    intro i last acc h
    rw [List.drop_eq_getElem_cons (by omega)]
    simp only [scanG, scanM]
    rw [word_gb m hm i (by omega), ih (i + 1) _ _ (by omega)]
theorem readG_gb (s : Int) (m : List Int) (hm : ∀ x ∈ m, 0 ≤ x ∧ x < 4294967296) : readG (gb m) s = scanM s m 0 [] := by
  have hl := gb_length m
  have h0 : word (gb m) 0 = 1 := by
    unfold word gb
    rw [Nat.mul_zero, List.drop_zero, List.take_append_of_le_length (by rw [leb_length]; omega), List.take_of_length_le (by rw [leb_length]; omega)]
    rfl
  unfold readG
  rw [if_pos ⟨by omega, h0, by omega⟩, show (gb m).length / 4 - 1 = m.length by omega]
  have := scanG_gb s m hm m.length 0 0 [] (by omega)
  simpa using this
theorem Ints_refl (m : List Int) (d : Nat) : ∀ (k i : Nat), i + d = m.length → d < k → m.length < 4611686018427387904 → dovetailhelp_Ints.l0 k m m i = some true := by
  induction d with
  | zero =>
    intro k i hi hk hl
    obtain ⟨k, rfl⟩ : ∃ m, k = m + 1 := ⟨k - 1, by omega⟩
    simp only [dovetailhelp_Ints.l0]
    rw [if_neg (by omega)]
  | succ d ih =>
    intro k i hi hk hl
    obtain ⟨k, rfl⟩ : ∃ m, k = m + 1 := ⟨k - 1, by omega⟩
    simp only [dovetailhelp_Ints.l0, if_true]
    rw [if_pos (by omega), if_pos (by omega), if_pos (by omega), w64_in (by omega) (by omega)]
    exact ih k (i + 1) (by omega) (by omega) hl
end Go.Proofs.Ythjlhoclmbnjgaa.Q
