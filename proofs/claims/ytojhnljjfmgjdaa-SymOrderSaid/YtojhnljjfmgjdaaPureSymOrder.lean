/- Locals must stand ahead of all others, just up to the number that is told, and what is right is read back (SymOrder: for every input the law returns true). -/
import Derived.Test.YtojhnljjfmgjdaaQ8
import Derived.Test.YtojhnljjfmgjdaaQ7k
import Derived.Test.YtojhnljjfmgjdaaP43
set_option linter.unusedVariables false
namespace Go.Proofs.Ytojhnljjfmgjdaa.Pure
open Go.RowKit Go.Proofs.Ytojhnljjfmgjdaa.P Go.Proofs.YtojhnljjfmgjdaaX Go.Proofs.YtojhnljjfmgjdaaW.PrintWords Go.Proofs.YtojhnljjfmgjdaaW.PrintLast Go.Proofs.Ytojhnljjfmgjdaa.Q
def zs : S45 := ⟨0, 0, 0, 0, 0, 0, 0⟩
def mkS (l : List Int) (i : Nat) : S45 := ⟨1, rd l i % 3, rd l i / 3 % 3, 0, 1, i, 0⟩
def rawsS (l : List Int) (n : Nat) : List S45 := zs :: (List.range n).map (mkS l)
theorem rawsS_succ (l : List Int) (n : Nat) : rawsS l n ++ [mkS l n] = rawsS l (n + 1) := by
  unfold rawsS
  rw [List.range_succ, List.map_append, List.cons_append]
  rfl
theorem rawsS_length (l : List Int) (n : Nat) : (rawsS l n).length = n + 1 := by simp [rawsS]
theorem rawsS_at (l : List Int) (n j : Nat) (h : j + 1 < (rawsS l n).length) : (rawsS l n)[j + 1] = mkS l j := by
  have h2 : (rawsS l n)[j + 1]? = some (mkS l j) := by
    rw [rawsS_length] at h
    have h3 : j < n := by omega
    simp [rawsS, h3]
  exact (List.getElem?_eq_some_iff.1 h2).2
theorem room_zs : Room zs := ⟨by decide, by decide, by decide, by decide, by decide, by decide, by decide⟩
theorem room_mk (l : List Int) (hb : Byt l) (i : Nat) (h : i ≤ 1000) : Room (mkS l i) := by
  have := hb.at_ (i : Int)
  refine ⟨?_, ?_, ?_, ?_, ?_, ?_, ?_⟩ <;> simp only [mkS] <;> omega
theorem room_raws (l : List Int) (hb : Byt l) (n : Nat) (h : n ≤ 1000) : ∀ s ∈ rawsS l n, Room s := by
  intro s hs
  rcases List.mem_cons.1 hs with rfl | hs
  · exact room_zs
  · obtain ⟨i, hi, rfl⟩ := List.mem_map.1 hs
    rw [List.mem_range] at hi
    exact room_mk l hb i (by omega)
theorem enc_zs : encS zs = List.replicate 24 0 := by decide +kernel
theorem get_s : (getS [0, 115, 0] 1).2 = true ∧ (getS [0, 115, 0] 1).1.toList ≠ [] := by decide +kernel
theorem ok_mk (l : List Int) (hb : Byt l) (n j : Nat) (loc : Int) (h : j + 1 < (rawsS l n).length) : okAt (rawsS l n) [0, 115, 0] loc (j + 1) h ↔ ((j : Int) + 1 < loc ↔ rd l j % 3 = 0) := by
  have hx := hb.at_ (j : Int)
  unfold okAt
  rw [rawsS_at l n j h, show (mkS l j).f0.toNat = 1 from rfl]
  unfold rightB
  have hc : (((j + 1 : Nat) : Int) < loc) ↔ ((j : Int) + 1 < loc) := by omega
  by_cases h1 : (j : Int) + 1 < loc
  · rw [if_pos (hc.2 h1)]
    have ht : (mkS l j).f2 ≤ 4 ∧ (mkS l j).f3 ≤ 3 := by simp only [mkS]; omega
    simp only [decide_eq_true_eq, get_s.1, true_and, h1, true_iff]
    exact ⟨fun h => h.1, fun h => ⟨h, ht.1, ht.2⟩⟩
  · rw [if_neg (fun h => h1 (hc.1 h))]
    have ht : (mkS l j).f2 < 3 ∧ (mkS l j).f3 ≤ 3 := by simp only [mkS]; omega
    simp only [decide_eq_true_eq, get_s.1, true_and, h1, false_iff]
    constructor
    · rintro ⟨h2 | h2, _⟩ <;> simp only [mkS] at h2 <;> omega
    · intro h2
      refine ⟨?_, ht.1, ht.2, get_s.2⟩
      simp only [mkS]
      omega
def Good (l : List Int) (loc : Int) : Prop := 1 ≤ loc ∧ loc ≤ (l.length : Int) + 1 ∧ ∀ j : Nat, j < l.length → ((j : Int) + 1 < loc ↔ rd l j % 3 = 0)
theorem parse_good (l : List Int) (hb : Byt l) (hl : l.length ≤ 20) (loc : Int) (h : Good l loc) : (parseS ((rawsS l l.length).flatMap encS) [0, 115, 0] loc).1 = rawsS l l.length ∧ (parseS ((rawsS l l.length).flatMap encS) [0, 115, 0] loc).2.2 = 0 := by
  obtain ⟨h1, h2, h3⟩ := h
  have hlen := flat_length (rawsS l l.length)
  rw [rawsS_length] at hlen
  have htake : ((rawsS l l.length).flatMap encS).take 24 = List.replicate 24 0 := by
    show ((zs :: (List.range l.length).map (mkS l)).flatMap encS).take 24 = _
    rw [List.flatMap_cons, List.take_append_of_le_length (by rw [encS_length]; omega), List.take_of_length_le (by rw [encS_length]; omega), enc_zs]
  unfold parseS
  rw [if_pos ⟨by rw [hlen]; omega, by rw [hlen]; omega, by rw [hlen]; omega, h1, by rw [hlen]; omega, htake⟩, hlen, show 24 * (l.length + 1) / 24 - 1 = l.length by omega]
  have := scan_yes (rawsS l l.length) (room_raws l hb _ (by omega)) [0, 115, 0] loc l.length 1 [⟨0, 0, 0, 0, 0, 0, 0⟩] [⟨#[]⟩] (by rw [rawsS_length]; omega) (fun j hj hj1 => by
    obtain ⟨j, rfl⟩ : ∃ m, j = m + 1 := ⟨j - 1, by omega⟩
    rw [rawsS_length] at hj
    exact (ok_mk l hb l.length j loc _).2 (h3 j (by omega)))
  exact ⟨by rw [this.1]; rfl, this.2⟩
theorem parse_bad (l : List Int) (hb : Byt l) (hl : l.length ≤ 20) (loc : Int) (h : ¬ Good l loc) : parseS ((rawsS l l.length).flatMap encS) [0, 115, 0] loc = ([], [], 32) := by
  have hlen := flat_length (rawsS l l.length)
  rw [rawsS_length] at hlen
  unfold parseS
  split
  case isFalse => rfl
  rename_i hc
  obtain ⟨_, _, _, h1, h2, _⟩ := hc
  rw [hlen] at h2 ⊢
  rw [show 24 * (l.length + 1) / 24 - 1 = l.length by omega]
  refine scan_no (rawsS l l.length) (room_raws l hb _ (by omega)) [0, 115, 0] loc l.length 1 _ _ (by rw [rawsS_length]; omega) ?_
  have hex : ∃ j : Nat, j < l.length ∧ ¬ ((j : Int) + 1 < loc ↔ rd l j % 3 = 0) := by
    rcases Classical.em (∃ j : Nat, j < l.length ∧ ¬ ((j : Int) + 1 < loc ↔ rd l j % 3 = 0)) with he | he
    · exact he
    · exact absurd ⟨h1, by omega, fun j hj => Classical.byContradiction fun hn => he ⟨j, hj, hn⟩⟩ h
  obtain ⟨j, hj, hn⟩ := hex
  exact ⟨j + 1, by rw [rawsS_length]; omega, by omega, fun hok => hn ((ok_mk l hb l.length j loc _).1 hok)⟩
structure OrdInv (l : List Int) (i : Nat) (fg : Int) (so : Bool) : Prop where
  fgc : (fg = (l.length : Int) + 1 ∧ ∀ j : Nat, j < i → rd l j % 3 = 0) ∨ (∃ j0 : Nat, j0 < i ∧ fg = (j0 : Int) + 1 ∧ rd l j0 % 3 ≠ 0 ∧ ∀ j : Nat, j < j0 → rd l j % 3 = 0)
  soc : so = true ↔ ∀ j : Nat, j < i → fg ≤ j → rd l j % 3 ≠ 0
theorem inv_zero {l : List Int} {i : Nat} {fg : Int} {so : Bool} (h : OrdInv l i fg so) (hi : i < l.length) (hz : rd l i % 3 = 0) : OrdInv l (i + 1) fg (if so = true then decide (fg > (l.length : Int)) else false) := by
  obtain ⟨h1, h2⟩ := h
  refine ⟨?_, ?_⟩
  · rcases h1 with ⟨e, ha⟩ | ⟨j0, hj, e, hn, ha⟩
    · exact .inl ⟨e, fun j hj => by
        by_cases ej : j = i
        · subst ej; exact hz
        · exact ha j (by omega)⟩
    · exact .inr ⟨j0, by omega, e, hn, ha⟩
  · constructor
    · intro hs j hj hle
      by_cases hso : so = true
      · rw [if_pos hso] at hs
        have := of_decide_eq_true hs
        omega
      · rw [if_neg hso] at hs; cases hs
    · intro ha
      have hso : so = true := h2.2 (fun j hj hle => ha j (by omega) hle)
      rw [if_pos hso]
      apply decide_eq_true
      rcases h1 with ⟨e, _⟩ | ⟨j0, hj, e, _, _⟩
      · omega
      · exact absurd hz (ha i (by omega) (by omega))
theorem inv_first {l : List Int} {i : Nat} {fg : Int} {so : Bool} (h : OrdInv l i fg so) (hi : i < l.length) (hz : rd l i % 3 ≠ 0) (hf : fg > (l.length : Int)) : OrdInv l (i + 1) ((i : Int) + 1) so := by
  obtain ⟨h1, h2⟩ := h
  rcases h1 with ⟨e, ha⟩ | ⟨j0, hj, e, hn, ha⟩
  · refine ⟨.inr ⟨i, by omega, rfl, hz, ha⟩, ?_⟩
    have : so = true := h2.2 (fun j hj hle => by omega)
    rw [this]
    exact ⟨fun _ j hj hle => by omega, fun _ => rfl⟩
  · omega
theorem inv_more {l : List Int} {i : Nat} {fg : Int} {so : Bool} (h : OrdInv l i fg so) (hi : i < l.length) (hz : rd l i % 3 ≠ 0) (hf : ¬ fg > (l.length : Int)) : OrdInv l (i + 1) fg so := by
  obtain ⟨h1, h2⟩ := h
  refine ⟨?_, ?_⟩
  · rcases h1 with ⟨e, ha⟩ | ⟨j0, hj, e, hn, ha⟩
    · omega
    · exact .inr ⟨j0, by omega, e, hn, ha⟩
  · rw [h2]
    constructor
    · intro ha j hj hle
      by_cases ej : j = i
      · subst ej; exact hz
      · exact ha j (by omega) hle
    · intro ha j hj hle
      exact ha j (by omega) hle
theorem inv_end {l : List Int} {fg : Int} {so : Bool} (h : OrdInv l l.length fg so) (loc : Int) : (so = true ∧ loc = fg) ↔ Good l loc := by
  obtain ⟨h1, h2⟩ := h
  constructor
  · rintro ⟨hs, rfl⟩
    have ha2 := h2.1 hs
    rcases h1 with ⟨e, ha⟩ | ⟨j0, hj, e, hn, ha⟩
    · exact ⟨by omega, by omega, fun j hj => ⟨fun _ => ha j hj, fun _ => by omega⟩⟩
    · refine ⟨by omega, by omega, fun j hj2 => ⟨fun hlt => ha j (by omega), fun hz => ?_⟩⟩
      rcases Nat.lt_trichotomy j j0 with hh | hh | hh
      · omega
      · subst hh; exact absurd hz hn
      · exact absurd hz (ha2 j hj2 (by omega))
  · rintro ⟨g1, g2, g3⟩
    have hloc : loc = fg := by
      rcases h1 with ⟨e, ha⟩ | ⟨j0, hj, e, hn, ha⟩
      · rcases Nat.eq_zero_or_pos l.length with h0 | h0
        · omega
        · have := (g3 (l.length - 1) (by omega)).2 (ha _ (by omega))
          omega
      · have a1 : ¬ ((j0 : Int) + 1 < loc) := fun hh => hn ((g3 j0 hj).1 hh)
        rcases Nat.eq_zero_or_pos j0 with h0 | h0
        · omega
        · have := (g3 (j0 - 1) (by omega)).2 (ha _ (by omega))
          omega
    refine ⟨h2.2 (fun j hj hle hz => ?_), hloc⟩
    have := (g3 j hj).2 hz
    omega
theorem same_refl (m : List S45) (d : Nat) : ∀ (k i : Nat), i + d = m.length → d < k → m.length < 4611686018427387904 → dovetaillaw12_same.l0 k m m i = some true := by
  induction d with
  | zero =>
    intro k i hi hk hl
    obtain ⟨k, rfl⟩ : ∃ m, k = m + 1 := ⟨k - 1, by omega⟩
    rw [dovetaillaw12_same.l0, if_neg (by omega)]
  | succ d ih =>
    intro k i hi hk hl
    obtain ⟨k, rfl⟩ : ∃ m, k = m + 1 := ⟨k - 1, by omega⟩
    rw [dovetaillaw12_same.l0, if_pos (by omega), if_pos (by omega), if_pos (by omega), if_neg (by simp), w64_in (by omega) (by omega)]
    exact ih k (i + 1) (by omega) (by omega) hl
theorem order_end (k : Nat) (l : List Int) (a1 fg : Int) (so : Bool) (hb : Byt l) (hl : l.length ≤ 20) (h0 : 0 ≤ a1) (h1 : a1 ≤ 255) (hk : 600 ≤ k) (h : OrdInv l l.length fg so) : dovetaillaw12_SymOrder.l0 (k + 1) l a1 (rawsS l l.length) fg so l.length = some true := by
  rw [dovetaillaw12_SymOrder.l0, if_neg (by omega), symBytes_eq (rawsS l l.length) (room_raws l hb _ (by omega)) (by rw [rawsS_length]; omega) k (by rw [rawsS_length]; omega)]
  simp only [Option.bind_some]
  rw [Int.emod_eq_of_lt h0 (by omega), parseS_eq k _ [0, 115, 0] a1 (flat_byt _ (room_raws l hb _ (by omega))) (by rw [flat_length, rawsS_length]; omega) (by decide) h0 (by omega) (by omega)]
  simp only [Option.bind_some]
  by_cases hg : Good l a1
  · obtain ⟨hs, hf⟩ := (inv_end h a1).2 hg
    obtain ⟨p1, p2⟩ := parse_good l hb hl a1 hg
    rw [if_pos hs, if_pos hf, p2, if_pos rfl, p1]
    unfold dovetaillaw12_same.f
    have hr := same_refl (rawsS l l.length) (rawsS l l.length).length k 0 (by omega) (by rw [rawsS_length]; omega) (by rw [rawsS_length]; omega)
    rw [show ((0 : Nat) : Int) = 0 from rfl] at hr
    rw [if_pos rfl, hr]
    rfl
  · have hn : ¬ (so = true ∧ a1 = fg) := fun hh => hg ((inv_end h a1).1 hh)
    rw [parse_bad l hb hl a1 hg]
    by_cases hs : so = true
    · rw [if_pos hs, if_neg (fun hf => hn ⟨hs, hf⟩)]
      rfl
    · rw [if_neg hs]
      rfl
theorem order_loop (d : Nat) : ∀ (k i : Nat) (l : List Int) (a1 fg : Int) (so : Bool), Byt l → l.length ≤ 20 → 0 ≤ a1 → a1 ≤ 255 → i + d = l.length → 601 + d ≤ k → OrdInv l i fg so → dovetaillaw12_SymOrder.l0 k l a1 (rawsS l i) fg so i = some true := by
  induction d with
  | zero =>
    intro k i l a1 fg so hb hl h0 h1 hi hk h
    obtain ⟨k, rfl⟩ : ∃ m, k = m + 1 := ⟨k - 1, by omega⟩
    obtain rfl : i = l.length := by omega
    exact order_end k l a1 fg so hb hl h0 h1 (by omega) h
  | succ d ih =>
    intro k i l a1 fg so hb hl h0 h1 hi hk h
    obtain ⟨k, rfl⟩ : ∃ m, k = m + 1 := ⟨k - 1, by omega⟩
    have hlt : i < l.length := by omega
    have hx := hb.at_ (i : Int)
    have E : Aside0 (wrap64 ((i : Int) + 1) = ((i + 1 : Nat) : Int)) := ⟨by clear ih; unfold wrap64; omega⟩
    have E1 : Aside0 (wrap64 (Int.tmod (rd l i) 3) = rd l i % 3) := ⟨by clear ih; rw [Int.tmod_eq_emod_of_nonneg hx.1]; unfold wrap64; omega⟩
    have E2 : Aside0 (((Int.tdiv (rd l i) 3) % 256) % 3 = rd l i / 3 % 3) := ⟨by clear ih; rw [Int.tdiv_eq_ediv_of_nonneg hx.1]; omega⟩
    have E3 : Aside0 (IntKind.u64.wrap (i : Int) = i) := ⟨u64_in (by omega) (by omega)⟩
    rw [dovetaillaw12_SymOrder.l0, if_pos (by omega), if_pos (by omega), if_pos (by rw [rawsS_length]; omega), E1.out, E2.out, E3.out, E.out]
    have hm : rawsS l i ++ [(⟨1, rd l i % 3, rd l i / 3 % 3, 0, 1, (i : Int), 0⟩ : S45)] = rawsS l (i + 1) := rawsS_succ l i
    rw [hm]
    simp only [Option.bind_some]
    by_cases hz : rd l i % 3 = 0
    · rw [if_pos hz]
      have hI := inv_zero h hlt hz
      cases so with
      | true => rw [if_pos rfl] at hI ⊢; exact ih k (i + 1) l a1 fg _ hb hl h0 h1 (by omega) (by omega) hI
      | false => rw [if_neg (by decide)] at hI ⊢; exact ih k (i + 1) l a1 fg _ hb hl h0 h1 (by omega) (by omega) hI
    · rw [if_neg hz]
      by_cases hf : fg > (l.length : Int)
      · rw [if_pos hf]
        have hI := inv_first h hlt hz hf
        cases so with
        | true => rw [if_pos rfl]; exact ih k (i + 1) l a1 _ _ hb hl h0 h1 (by omega) (by omega) hI
        | false => rw [if_neg (by decide)]; exact ih k (i + 1) l a1 _ _ hb hl h0 h1 (by omega) (by omega) hI
      · rw [if_neg hf]
        have hI := inv_more h hlt hz hf
        cases so with
        | true => rw [if_pos rfl]; exact ih k (i + 1) l a1 _ _ hb hl h0 h1 (by omega) (by omega) hI
        | false => rw [if_neg (by decide)]; exact ih k (i + 1) l a1 _ _ hb hl h0 h1 (by omega) (by omega) hI
theorem SymOrder : dovetaillaw12_SymOrder.Pure := by
  intro l a1 h1 h2 h3 h4
  have hb := Byt.of_wf h3
  have b4 := bounds_u8 h4
  refine ⟨700, ?_⟩
  unfold dovetaillaw12_SymOrder.f
  rw [known12 700 (by omega)]
  simp only [Option.bind_some, if_true]
  by_cases hl : (l.length : Int) > 20
  · rw [if_pos hl]
  · rw [if_neg hl, w64_in (by omega) (by omega)]
    exact order_loop l.length 700 0 l a1 _ true hb (by omega) b4.1 b4.2 (by omega) (by omega) ⟨.inl ⟨rfl, fun j hj => by omega⟩, ⟨fun _ j hj => by omega, fun _ => rfl⟩⟩
end Go.Proofs.Ytojhnljjfmgjdaa.Pure
