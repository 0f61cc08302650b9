/- Any names have just the document's table, and are got back, as far as they may be (StrBuilds: for every input the law returns true). -/
import Derived.Test.YtojhnljjfmgjdaaQ9n
import Derived.Test.YtojhnljjfmgjdaaP60
import Derived.Test.YtojhnljjfmgjdaaP38
set_option linter.unusedVariables false
namespace Go.Proofs.Ytojhnljjfmgjdaa.Pure
open Go.RowKit Go.Proofs.Ytojhnljjfmgjdaa.P Go.Proofs.YtojhnljjfmgjdaaX Go.Proofs.YtojhnljjfmgjdaaW.PrintWords Go.Proofs.YtojhnljjfmgjdaaW.PrintLast Go.Proofs.Ytojhnljjfmgjdaa.Q
def numsOf (l : List UInt8) : List Int := l.map fun b => (b.toNat : Int)
/-- What the table holds: behind each place its name and a nought. -/
structure TabOk (l : List ByteArray) (i : Nat) (tab : List Int) (M : List (List UInt8 × Int)) (out : List Int) : Prop where
  ent : ∀ p ∈ M, ∃ o : Nat, p.2 = o ∧ (∃ rest, tab.drop o = numsOf p.1 ++ 0 :: rest) ∧ (∀ b ∈ p.1, b ≠ 0)
  len : out.length = i
  outs : ∀ (j : Nat) (h : j < out.length) (h2 : j < l.length), (cutL l[j], out[j]) ∈ M
theorem drop_app {tab : List Int} {o : Nat} {a rest more : List Int} (h : tab.drop o = a ++ 0 :: rest) : (tab ++ more).drop o = a ++ 0 :: (rest ++ more) := by
  have hl : o ≤ tab.length := by
    rcases Nat.lt_or_ge tab.length o with hh | hh
    · rw [List.drop_of_length_le (by omega)] at h
      simp at h
    · exact hh
  rw [List.drop_append_of_le_length hl, h]
  simp
theorem lookup_mem {M : List (List UInt8 × Int)} {c : List UInt8} {o : Int} (h : M.lookup c = some o) : (c, o) ∈ M := by
  induction M with
  | nil => simp at h
  | cons p M ih =>
    obtain ⟨a, b⟩ := p
    rw [List.lookup_cons] at h
    by_cases e : c = a
    · subst e
      simp at h
      subst h
      simp
    · rw [beq_eq_false_iff_ne.2 e] at h
      exact List.mem_cons_of_mem _ (ih h)
theorem tab_step (l : List ByteArray) (i : Nat) (tab : List Int) (M : List (List UInt8 × Int)) (out : List Int) (hT : TabOk l i tab M out) (hi : i < l.length) (s : ByteArray) (hs : s = l[i]) : TabOk l (i + 1) (bldStep (tab, M, out) s).1 (bldStep (tab, M, out) s).2.1 (bldStep (tab, M, out) s).2.2 := by
  obtain ⟨h1, h2, h3⟩ := hT
  unfold bldStep
  simp only
  cases hk : M.lookup (cutL s) with
  | some o =>
    refine ⟨h1, by simp [h2], ?_⟩
    intro j hj hj2
    simp only at hj ⊢
    by_cases e : j = i
    · subst e
      rw [List.getElem_append_right (by omega), ← hs]
      simp only [h2, Nat.sub_self, List.getElem_cons_zero]
      exact lookup_mem hk
    · rw [List.getElem_append_left (by simp at hj; omega)]
      exact h3 j (by simp at hj; omega) hj2
  | none =>
    refine ⟨?_, by simp [h2], ?_⟩
    · intro p hp
      simp only at hp ⊢
      rcases List.mem_cons.1 hp with rfl | hp
      · refine ⟨tab.length, rfl, ⟨[], ?_⟩, cutL_nz s⟩
        rw [List.append_assoc, List.drop_append_of_le_length (Nat.le_refl _), List.drop_length, List.nil_append]
        rfl
      · obtain ⟨o, ho, ⟨rest, hr⟩, hz⟩ := h1 p hp
        refine ⟨o, ho, ⟨rest ++ (bytesOf (cut0 s).1 ++ [0]), ?_⟩, hz⟩
        rw [List.append_assoc]
        exact drop_app hr
    · intro j hj hj2
      simp only at hj ⊢
      by_cases e : j = i
      · subst e
        rw [List.getElem_append_right (by omega), ← hs]
        simp only [h2, Nat.sub_self, List.getElem_cons_zero]
        exact List.mem_cons_self
      · rw [List.getElem_append_left (by simp at hj; omega)]
        exact List.mem_cons_of_mem _ (h3 j (by simp at hj; omega) hj2)
theorem tab_ok (l : List ByteArray) (i : Nat) : i ≤ l.length → TabOk l i (bldAll (l.take i)).1 (bldAll (l.take i)).2.1 (bldAll (l.take i)).2.2 := by
  induction i with
  | zero =>
    intro _
    refine ⟨?_, rfl, ?_⟩
    · intro p hp
      have : p = ([], 0) := by simpa [bldAll] using hp
      subst this
      exact ⟨0, rfl, ⟨[], rfl⟩, fun b hb => by simp at hb⟩
    · intro j h
      simp [bldAll] at h
  | succ i ih =>
    intro hi
    rw [bldAll_take l i (by omega)]
    exact tab_step l i _ _ _ (ih (by omega)) (by omega) _ rfl
theorem index_nums (c : List UInt8) (rest : List Int) (hz : ∀ b ∈ c, b ≠ 0) : Lib.indexByte (Lib.bytesOf (numsOf c ++ 0 :: rest)) 0 = c.length := by
  have e : Lib.bytesOf (numsOf c ++ 0 :: rest) = c ++ 0 :: Lib.bytesOf rest := by
    show (numsOf c ++ 0 :: rest).map _ = _
    rw [List.map_append]
    congr 1
    unfold numsOf
    rw [List.map_map]
    conv => rhs; rw [← List.map_id c]
    apply List.map_congr_left
    intro b _
    simp
  rw [e]
  refine ib_at _ _ (by simp) (fun j hj => ?_)
  rw [List.getElem?_append_left hj, List.getElem?_eq_getElem hj]
  intro h
  exact hz _ (List.getElem_mem hj) (Option.some.inj h)
theorem get_tab {tab : List Int} {o : Nat} {c : List UInt8} {rest : List Int} (h : tab.drop o = numsOf c ++ 0 :: rest) (hz : ∀ b ∈ c, b ≠ 0) : getS tab o = if c.length ≤ 200 then (⟨c.toArray⟩, true) else (⟨#[]⟩, false) := by
  have hl : ¬ tab.length ≤ o := fun hh => by rw [List.drop_of_length_le hh] at h; simp at h
  unfold getS
  rw [if_neg hl, h, index_nums c rest hz, if_neg (by omega)]
  by_cases hc : c.length ≤ 200
  · rw [if_neg (by omega), if_pos hc, Int.toNat_natCast]
    have : (numsOf c ++ 0 :: rest).take c.length = numsOf c := by
      rw [List.take_append_of_le_length (by simp [numsOf]), List.take_of_length_le (by simp [numsOf])]
    rw [this]
    congr 1
    apply ByteArray.ext
    apply Array.toList_inj.1
    rw [str_list]
    unfold numsOf
    rw [List.map_map]
    show _ = c
    conv => rhs; rw [← List.map_id c]
    apply List.map_congr_left
    intro b _
    simp
  · rw [if_pos (by omega), if_neg hc]
theorem builds_l2 (d : Nat) : ∀ (k : Nat) (x0 : List ByteArray) (x4 x5 x7 : List Int) (x8 : Int) (s : ByteArray) (i : Nat), i + d = s.size → s.size ≤ 1000 → d < k → (∀ j, j < i → bt s j ≠ 0) →
    ∃ k' j : Nat, k ≤ k' + d + 1 ∧ (cut0 s).1.size ≤ j ∧ dovetaillaw9_StrBuilds.l2 k x0 x4 x5 x7 x8 s i = dovetaillaw9_StrBuilds.l2 k' x0 x4 x5 x7 x8 (cut0 s).1 j := by
  induction d with
  | zero =>
    intro k x0 x4 x5 x7 x8 s i hi hs hk hz
    have hn : Lib.indexByte s.data.toList 0 = -1 := ib_none _ (fun b hb => by
      obtain ⟨j, hj, rfl⟩ := List.getElem_of_mem hb
      rw [Array.length_toList] at hj
      intro e
      have hjs : j < s.size := hj
      exact hz j (by omega) ((bt_zero s j hjs).2 (by rw [List.getElem?_eq_getElem (by rw [Array.length_toList]; exact hj), e])))
    have hc : (cut0 s).1 = s := by unfold cut0; rw [hn, if_pos (by decide)]
    exact ⟨k, i, by omega, by rw [hc]; omega, by rw [hc]⟩
  | succ d ih =>
    intro k x0 x4 x5 x7 x8 s i hi hs hk hz
    obtain ⟨k, rfl⟩ : ∃ m, k = m + 1 := ⟨k - 1, by omega⟩
    have hlt : i < s.size := by omega
    have E : Aside0 (wrap64 ((i : Int) + 1) = ((i + 1 : Nat) : Int)) := ⟨by unfold wrap64; omega⟩
    by_cases h0 : bt s i = 0
    · have hx : Lib.indexByte s.data.toList 0 = i := ib_at _ i ((bt_zero s i hlt).1 h0) (fun j hj e => hz j hj ((bt_zero s j (by omega)).2 e))
      have hc : (cut0 s).1 = s.extract 0 i := by unfold cut0; rw [hx, if_neg (by omega)]; simp
      refine ⟨k, i + 1, by omega, by rw [hc]; simp [ByteArray.size_extract]; omega, ?_⟩
      rw [hc]
      conv => lhs; rw [dovetaillaw9_StrBuilds.l2]
      rw [if_pos (by omega), if_pos (by omega), if_pos h0, if_pos (by omega), E.out, Int.toNat_natCast]
    · obtain ⟨k', j, h1, h2, h3⟩ := ih k x0 x4 x5 x7 x8 s (i + 1) (by omega) hs (by omega) (fun j hj => by
        by_cases e : j = i
        · subst e; exact h0
        · exact hz j (by omega))
      refine ⟨k', j, by omega, h2, ?_⟩
      rw [← h3]
      conv => lhs; rw [dovetaillaw9_StrBuilds.l2]
      rw [if_pos (by omega), if_pos (by omega), if_neg h0, E.out]
theorem strings_refl (m : List ByteArray) (d : Nat) : ∀ (k i : Nat), i + d = m.length → d < k → m.length < 4611686018427387904 → dovetailhelp_Strings.l0 k m m i = some true := by
  induction d with
  | zero =>
    intro k i hi hk hl
    obtain ⟨k, rfl⟩ : ∃ m, k = m + 1 := ⟨k - 1, by omega⟩
    simp only [dovetailhelp_Strings.l0]
    rw [if_neg (by omega)]
  | succ d ih =>
    intro k i hi hk hl
    obtain ⟨k, rfl⟩ : ∃ m, k = m + 1 := ⟨k - 1, by omega⟩
    simp only [dovetailhelp_Strings.l0, if_true]
    rw [if_pos (by omega), if_pos (by omega), if_pos (by omega), w64_in (by omega) (by omega)]
    exact ih k (i + 1) (by omega) (by omega) hl
theorem builds_l1 (l : List ByteArray) (tab out : List Int) (M : List (List UInt8 × Int)) (hT : TabOk l l.length tab M out) (hsz : ∀ s ∈ l, s.size ≤ 250) (hl : l.length ≤ 20) (htab : tab.length ≤ 140737488355328) (hpos : ∀ p ∈ M, p.2 < 4294967296) (d : Nat) : ∀ (k i : Nat), i + d = l.length → 400 * (d + 1) ≤ k →
    dovetaillaw9_StrBuilds.l1 k l tab out out i = some true := by
  induction d with
  | zero =>
    intro k i hi hk
    obtain ⟨k, rfl⟩ : ∃ m, k = m + 1 := ⟨k - 1, by omega⟩
    rw [dovetaillaw9_StrBuilds.l1, if_neg (by have := hT.len; omega)]
    unfold dovetailhelp_Strings.f
    rw [if_pos rfl]
    have := strings_refl l l.length k 0 (by omega) (by omega) (by omega)
    rw [show ((0 : Nat) : Int) = 0 from rfl] at this
    rw [this]
    rfl
  | succ d ih =>
    intro k i hi hk
    obtain ⟨k, rfl⟩ : ∃ m, k = m + 1 := ⟨k - 1, by omega⟩
    have hlt : i < l.length := by omega
    have hol : i < out.length := by have := hT.len; omega
    have hs := hsz l[i] (List.getElem_mem _)
    have E : Aside0 (wrap64 ((i : Int) + 1) = ((i + 1 : Nat) : Int)) := ⟨by unfold wrap64; omega⟩
    have er : rdOf ByteArray.empty l (i : Int) = l[i] := by unfold rdOf; simp [hlt]
    have eo : rd out (i : Int) = out[i] := rd_at out i hol
    have hmem := hT.outs i hol hlt
    obtain ⟨o, ho, ⟨rest, hr⟩, hz⟩ := hT.ent _ hmem
    have hlo := hpos _ hmem
    simp only at ho hr hz hlo
    have hg := get_tab hr hz
    generalize l[i] = s at *
    obtain ⟨k1, j, h1, h2, h3⟩ := builds_l2 s.size k l tab out out i s 0 (by omega) (by omega) (by omega) (fun j hj => by omega)
    have hcs := cut0_size s
    rw [dovetaillaw9_StrBuilds.l1, if_pos (by omega), if_pos (by omega), if_pos (by omega), if_pos rfl, if_pos (by omega), er]
    rw [show ((0 : Nat) : Int) = 0 from rfl] at h3
    rw [h3]
    obtain ⟨k1, rfl⟩ : ∃ m, k1 = m + 1 := ⟨k1 - 1, by omega⟩
    rw [dovetaillaw9_StrBuilds.l2, if_neg (by omega), if_pos (by omega), if_pos (by omega), eo, ho]
    unfold strtab_Get.f
    rw [if_pos ⟨by omega, by omega, htab⟩, Int.toNat_natCast, hg]
    simp only [Option.bind_some]
    have hsize : (cut0 s).1.size = (cutL s).length := by unfold cutL; rw [Array.length_toList]; rfl
    rw [E.out]
    have hn := ih k1 (i + 1) (by omega) (by omega)
    by_cases hc : (cutL s).length ≤ 200
    · rw [if_pos hc]
      simp only
      rw [decide_eq_true (by omega), if_neg (by decide), if_pos trivial, if_pos (by rw [toList_data, toList_data]; rfl)]
      exact hn
    · rw [if_neg hc]
      simp only
      rw [decide_eq_false (by omega), if_neg (by decide), if_neg (by simp)]
      exact hn
theorem builds_l0 (l : List ByteArray) (hl : l.length ≤ 20) (d : Nat) : ∀ (k i : Nat), i + d = l.length → 20000 + d ≤ k → (∀ j (h : j < l.length), j < i → l[j].size ≤ 250) → dovetaillaw9_StrBuilds.l0 k l i = some true := by
  induction d with
  | zero =>
    intro k i hi hk hz
    obtain ⟨k, rfl⟩ : ∃ m, k = m + 1 := ⟨k - 1, by omega⟩
    have hsz : ∀ s ∈ l, s.size ≤ 250 := fun s hs => by
      obtain ⟨j, hj, rfl⟩ := List.getElem_of_mem hs
      exact hz j hj (by omega)
    rw [dovetaillaw9_StrBuilds.l0, if_neg (by omega), build_eq l hsz (by omega), names_eq l hsz (by omega) k (by omega)]
    simp only [Option.bind_some, if_true, bne_self_eq_false]
    obtain ⟨k, rfl⟩ : ∃ m, k = m + 1 := ⟨k - 1, by omega⟩
    rw [dovetaillaw9_StrBuilds.j1, if_neg (by decide)]
    have hT := tab_ok l l.length (Nat.le_refl _)
    rw [List.take_length] at hT
    have hlen : ∀ i, i ≤ l.length → (bldAll (l.take i)).1.length ≤ 1 + 251 * i ∧ ∀ p ∈ (bldAll (l.take i)).2.1, p.2 < 4294967296 := by
      intro i
      induction i with
      | zero => intro _; simp [bldAll]
      | succ i ih =>
        intro hi
        have h := ih (by omega)
        rw [bldAll_take l i (by omega)]
        have hs := hsz l[i] (List.getElem_mem _)
        generalize l[i] = s at *
        clear ih
        generalize bldAll (l.take i) = st at *
        obtain ⟨tab, M, out⟩ := st
        have hc := cut0_size s
        unfold bldStep
        simp only at h ⊢
        cases hk : M.lookup (cutL s) with
        | some o => exact ⟨by simp only; omega, h.2⟩
        | none =>
          refine ⟨by simp [bytesOf_length]; omega, fun p hp => ?_⟩
          simp only at hp
          rcases List.mem_cons.1 hp with rfl | hp
          · simp only; omega
          · exact h.2 p hp
    have h2 := hlen l.length (Nat.le_refl _)
    rw [List.take_length] at h2
    exact builds_l1 l _ _ _ hT hsz hl (by have := h2.1; omega) h2.2 l.length k 0 (by omega) (by omega)
  | succ d ih =>
    intro k i hi hk hz
    obtain ⟨k, rfl⟩ : ∃ m, k = m + 1 := ⟨k - 1, by omega⟩
    have hlt : i < l.length := by omega
    have E : Aside0 (wrap64 ((i : Int) + 1) = ((i + 1 : Nat) : Int)) := ⟨by unfold wrap64; omega⟩
    have er : rdOf ByteArray.empty l (i : Int) = l[i] := by unfold rdOf; simp [hlt]
    rw [dovetaillaw9_StrBuilds.l0, if_pos (by omega), if_pos (by omega), er, E.out]
    by_cases hs : (l[i].size : Int) > 250
    · rw [if_pos hs]
    · rw [if_neg hs]
      exact ih k (i + 1) (by omega) (by omega) (fun j h hj => by
        by_cases e : j = i
        · subst e; omega
        · exact hz j h (by omega))
theorem StrBuilds (l0 : List ByteArray) (h1 : l0.length ≤ maxLen) (h2 : ∀ y1 ∈ l0, y1.size ≤ maxLen) : ∃ k, dovetaillaw9_StrBuilds.f k l0 = some true := by
  refine ⟨30000, ?_⟩
  unfold dovetaillaw9_StrBuilds.f
  rw [known9]
  simp only [Option.bind_some, if_true]
  by_cases hl : (l0.length : Int) > 20
  · rw [if_pos hl]
  · rw [if_neg hl]
    exact builds_l0 l0 (by omega) l0.length 30000 0 (by omega) (by omega) (fun j h hj => by omega)
end Go.Proofs.Ytojhnljjfmgjdaa.Pure
