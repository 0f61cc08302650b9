/- Lemmas for relocations: the reference's RelaBytes and Relas, and help's Relas, in closed form. -/
import Derived.Test.YthjlhoclmbnjgaaQ3
import Derived.Test.YthjlhoclmbnjgaaP42
import Derived.Test.YthjlhoclmbnjgaaP46
import Derived.Test.YthjlhoclmbnjgaaP47
set_option linter.unusedVariables false
namespace Go.Proofs.Ythjlhoclmbnjgaa.Q
open Go.RowKit Go.Proofs.Ythjlhoclmbnjgaa.P Go.Proofs.YthjlhoclmbnjgaaX Go.Proofs.YthjlhoclmbnjgaaW.PrintWords Go.Proofs.YthjlhoclmbnjgaaW.PrintLast Go.Proofs.YthjlhoclmbnjgaaW.PrintMore

theorem RelaBytes_l0 (d : Nat) : ∀ (k : Nat) (l : List S74) (acc : List Int) (i : Nat), i + d = l.length → d + 9 < k → acc.length + 24 * d < 140737488355328 → l.length ≤ 140737488355328 →
    dovetailref9_RelaBytes.l0 k l acc i = some (acc ++ (l.drop i).flatMap encR) := by
  induction d with
  | zero =>
    intro k l acc i hi hk hl hll
    obtain ⟨k, rfl⟩ : ∃ m, k = m + 1 := ⟨k - 1, by omega⟩
    simp only [dovetailref9_RelaBytes.l0]
    rw [if_neg (by omega), List.drop_eq_nil_of_le (by omega)]
    simp
  | succ d ih =>
    intro k l acc i hi hk hl hll
    obtain ⟨k, rfl⟩ : ∃ m, k = m + 1 := ⟨k - 1, by omega⟩
    have hlt : i < l.length := by omega
    simp only [dovetailref9_RelaBytes.l0]
    rw [if_pos (by omega), if_pos (by omega), rd_S l i hlt]
    have p1 := refPut_eq k acc l[i].f0 8 (by omega) (by omega) (by omega)
    rw [show (((8 : Nat) : Int)) = 8 from rfl] at p1
    rw [p1]
    simp only [Option.bind_some]
    have p2 := refPut_eq k (acc ++ leb 8 l[i].f0) (IntKind.u64.wrap l[i].f1) 4 (by omega) (by omega) (by simp only [List.length_append, leb_length]; omega)
    rw [show (((4 : Nat) : Int)) = 4 from rfl, leb_wrap 4 (by omega)] at p2
    rw [p2]
    simp only [Option.bind_some]
    have p3 := refPut_eq k (acc ++ leb 8 l[i].f0 ++ leb 4 l[i].f1) (IntKind.u64.wrap l[i].f2) 4 (by omega) (by omega) (by simp only [List.length_append, leb_length]; omega)
    rw [show (((4 : Nat) : Int)) = 4 from rfl, leb_wrap 4 (by omega)] at p3
    rw [p3]
    simp only [Option.bind_some]
    have p4 := refPut_eq k (acc ++ leb 8 l[i].f0 ++ leb 4 l[i].f1 ++ leb 4 l[i].f2) (IntKind.u64.wrap l[i].f3) 8 (by omega) (by omega) (by simp only [List.length_append, leb_length]; omega)
    rw [show (((8 : Nat) : Int)) = 8 from rfl, leb_wrap 8 (by omega)] at p4
    rw [p4]
    simp only [Option.bind_some]
    rw [w64_in (x := (i : Int) + 1) (by omega) (by omega), show ((i : Int) + 1) = ((i + 1 : Nat) : Int) by omega, ih k l _ (i + 1) (by omega) (by omega) (by simp only [List.length_append, leb_length]; omega) hll, List.drop_eq_getElem_cons hlt, List.flatMap_cons]
    simp only [encR, List.append_assoc]
theorem RelaBytes_eq (k : Nat) (l : List S74) (hk : l.length + 9 < k) (hl : 24 * l.length < 140737488355328) : dovetailref9_RelaBytes.f k l = some (l.flatMap encR) := by
  unfold dovetailref9_RelaBytes.f
  have := RelaBytes_l0 l.length k l [] 0 (by omega) hk (by simpa using hl) (by omega)
  simpa using this
theorem flatMap_encR_byt (l : List S74) : Byt (l.flatMap encR) := by
  intro x hx
  obtain ⟨a, _, ha⟩ := List.mem_flatMap.1 hx
  exact encR_byt a x ha
theorem refnum_at (k : Nat) (l : List Int) (o n : Nat) (hb : Byt l) (hn : n ≤ 8) (hl : l.length ≤ 140737488355328) (hk : 10 ≤ k) (h : o + n ≤ l.length) : dovetailref9_num.f k l o n = some (lev ((l.drop o).take n)) := by
  unfold dovetailref9_num.f
  rw [Num_eq k l o n hb (by omega) hn hl (by omega), num_in l o n h]
  rfl
theorem refWithin_eq (a b c : Int) (hc : c < 18446744073709551616) (ha : 0 ≤ a) (hb : 0 ≤ b) : dovetailref1_Within.f a b c = some (decide (a + b ≤ c)) := by
  unfold dovetailref1_Within.f
  by_cases h : a ≤ c
  · rw [if_pos h, u64_in (by omega) (by omega)]
    congr 1
    apply decide_eq_decide.2
    omega
  · rw [if_neg h]
    congr 1
    symm
    apply decide_eq_false
    omega
theorem Relas_l0 (d : Nat) : ∀ (k : Nat) (l : List Int) (n syms m : Int) (acc : List S74) (i : Nat), Byt l → l.length = 24 * (i + d) → i + d ≤ 2000 → m = i + d → n < 18446744073709551616 → acc.length ≤ i → d + 20 < k →
    dovetailref9_Relas.l0 k l n syms m acc i = some (scanR l n syms d i acc) := by
  induction d with
  | zero =>
    intro k l n syms m acc i hb hl h2 hm hn ha hk
    obtain ⟨k, rfl⟩ : ∃ m, k = m + 1 := ⟨k - 1, by omega⟩
    simp only [dovetailref9_Relas.l0]
    rw [if_neg (by omega)]
    rfl
  | succ d ih =>
    intro k l n syms m acc i hb hl h2 hm hn ha hk
    obtain ⟨k, rfl⟩ : ∃ m, k = m + 1 := ⟨k - 1, by omega⟩
    have e0 : IntKind.u64.wrap (wrap64 (24 * (i : Int))) = ((24 * i : Nat) : Int) := by rw [w64_in (by omega) (by omega), u64_in (by omega) (by omega)]; omega
    have e8 : IntKind.u64.wrap (((24 * i : Nat) : Int) + 8) = ((24 * i + 8 : Nat) : Int) := by rw [u64_in (by omega) (by omega)]; omega
    have e12 : IntKind.u64.wrap (((24 * i : Nat) : Int) + 12) = ((24 * i + 12 : Nat) : Int) := by rw [u64_in (by omega) (by omega)]; omega
    have e16 : IntKind.u64.wrap (((24 * i : Nat) : Int) + 16) = ((24 * i + 16 : Nat) : Int) := by rw [u64_in (by omega) (by omega)]; omega
    have b0 := part_bound hb (24 * i) 8
    have b1 := part_bound hb (24 * i + 8) 4
    have b2 := part_bound hb (24 * i + 12) 4
    have hp4 : (256 : Int) ^ 4 = 4294967296 := rfl
    have hw := wid_bound (recR l (24 * i)).f1
    simp only [dovetailref9_Relas.l0]
    rw [if_pos (by omega), e0, e8, e12, e16]
    have r0 := refnum_at k l (24 * i) 8 hb (by omega) (by omega) (by omega) (by omega)
    have r1 := refnum_at k l (24 * i + 8) 4 hb (by omega) (by omega) (by omega) (by omega)
    have r2 := refnum_at k l (24 * i + 12) 4 hb (by omega) (by omega) (by omega) (by omega)
    have r3 := refnum_at k l (24 * i + 16) 8 hb (by omega) (by omega) (by omega) (by omega)
    rw [show (((8 : Nat) : Int)) = 8 from rfl] at r0 r3
    rw [show (((4 : Nat) : Int)) = 4 from rfl] at r1 r2
    rw [r0]
    simp only [Option.bind_some]
    rw [r1]
    simp only [Option.bind_some]
    rw [r2]
    simp only [Option.bind_some]
    rw [r3]
    simp only [Option.bind_some]
    rw [Int.emod_eq_of_lt b1.1 (by omega), Int.emod_eq_of_lt b2.1 (by omega), refWidth_eq k _ (by omega)]
    simp only [Option.bind_some, scanR]
    have hf2 : (recR l (24 * i)).f2 = lev ((l.drop (24 * i + 12)).take 4) := rfl
    rw [← hf2]
    by_cases hs1 : syms ≤ (recR l (24 * i)).f2
    · rw [if_pos (by omega), if_pos (.inl hs1)]
    · rw [if_neg (by omega)]
      have hf1 : (recR l (24 * i)).f1 = lev ((l.drop (24 * i + 8)).take 4) := rfl
      have hf0 : (recR l (24 * i)).f0 = lev ((l.drop (24 * i)).take 8) := rfl
      rw [← hf1, ← hf0, u64_in (x := wid (recR l (24 * i)).f1) hw.1 (by omega), refWithin_eq _ _ _ hn (by rw [hf0]; exact b0.1) hw.1]
      simp only [Option.bind_some]
      by_cases hin : (recR l (24 * i)).f0 + wid (recR l (24 * i)).f1 ≤ n
      · rw [if_pos (decide_eq_true hin), if_pos (by omega), if_neg (by rintro (h | h) <;> contradiction), w64_in (x := (i : Int) + 1) (by omega) (by omega), show ((i : Int) + 1) = ((i + 1 : Nat) : Int) by omega]
        exact ih k l n syms m _ (i + 1) hb (by omega) (by omega) (by omega) hn (by rw [List.length_append, List.length_singleton]; omega) (by omega)
      · rw [if_neg (by simpa using hin), if_pos (.inr hin)]
theorem Relas_eq (k : Nat) (l : List Int) (n syms : Int) (hb : Byt l) (hl : l.length ≤ 140737488355328) (hn : n < 18446744073709551616) (hk : 2100 ≤ k) : dovetailref9_Relas.f k l n syms = some (readR l n syms) := by
  obtain ⟨k, rfl⟩ : ∃ m, k = m + 1 := ⟨k - 1, by omega⟩
  unfold dovetailref9_Relas.f readR
  rw [w64_in (x := (l.length : Int) / 24) (by omega) (by omega)]
  by_cases h : (l.length : Int) % 24 = 0
  · rw [if_pos h]
    simp only [dovetailref9_Relas.j0]
    by_cases h2 : (l.length : Int) / 24 > 2000
    · rw [decide_eq_true h2, if_pos rfl, if_neg (by omega)]
    · rw [decide_eq_false h2, if_neg (by decide), if_pos (by omega)]
      exact Relas_l0 (l.length / 24) k l n syms _ [] 0 hb (by omega) (by omega) (by omega) hn (by simp) (by omega)
  · rw [if_neg h, if_neg (by omega)]
    simp only [dovetailref9_Relas.j0, if_true]
theorem hRelas_refl_l0 (d : Nat) : ∀ (k : Nat) (l : List S74) (i : Nat), i + d = l.length → l.length < 140737488355328 → d < k → dovetailhelp_Relas.l0 k l l i = some true := by
  induction d with
  | zero =>
    intro k l i hi hl hk
    obtain ⟨k, rfl⟩ : ∃ m, k = m + 1 := ⟨k - 1, by omega⟩
    simp only [dovetailhelp_Relas.l0]
    rw [if_neg (by omega)]
  | succ d ih =>
    intro k l i hi hl hk
    obtain ⟨k, rfl⟩ : ∃ m, k = m + 1 := ⟨k - 1, by omega⟩
    simp only [dovetailhelp_Relas.l0]
    rw [if_pos (by omega), if_pos (by omega), if_pos (by omega), if_neg (by simp), w64_in (x := (i : Int) + 1) (by omega) (by omega), show ((i : Int) + 1) = ((i + 1 : Nat) : Int) by omega]
    exact ih k l (i + 1) (by omega) hl (by omega)
theorem hRelas_refl (k : Nat) (l : List S74) (hl : l.length < 140737488355328) (hk : l.length < k) : dovetailhelp_Relas.f k l l = some true := by
  unfold dovetailhelp_Relas.f
  rw [if_pos rfl]
  exact hRelas_refl_l0 l.length k l 0 (by omega) hl hk
theorem scanR_length (l : List Int) (n syms : Int) (d : Nat) : ∀ (i : Nat) (acc : List S74), (scanR l n syms d i acc).1.length ≤ acc.length + d := by
  induction d with
  | zero => intro i acc; simp [scanR]
  | succ d ih =>
    intro i acc
    simp only [scanR]
    split
    · simp
    · have := ih (i + 1) (acc ++ [recR l (24 * i)])
      rw [List.length_append, List.length_singleton] at this
      omega
theorem readR_length (l : List Int) (n syms : Int) : (readR l n syms).1.length ≤ 2000 := by
  unfold readR
  split
  · have := scanR_length l n syms (l.length / 24) 0 []
    simp at this
    omega
  · simp
end Go.Proofs.Ythjlhoclmbnjgaa.Q
