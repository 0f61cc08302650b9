/- A name stands once in a table, however often it is named, and tables of more names begin with those of fewer (StrOnce: for every input the law returns true). -/
import Derived.Test.YtojhnljjfmgjdaaQ9n
import Derived.Test.YtojhnljjfmgjdaaP61
set_option linter.unusedVariables false
namespace Go.Proofs.Ytojhnljjfmgjdaa.Pure
open Go.RowKit Go.Proofs.Ytojhnljjfmgjdaa.P Go.Proofs.YtojhnljjfmgjdaaX Go.Proofs.YtojhnljjfmgjdaaW.PrintWords Go.Proofs.YtojhnljjfmgjdaaW.PrintLast Go.Proofs.Ytojhnljjfmgjdaa.Q
theorem rd_left (a b : List Int) (j : Nat) (h : j < a.length) : rd (a ++ b) (j : Int) = rd a j := by
  unfold rd
  rw [Int.toNat_natCast, List.getD_eq_getElem?_getD, List.getD_eq_getElem?_getD, List.getElem?_append_left h]
theorem rd_right (a b : List Int) (j : Nat) (h : a.length ≤ j) : rd (a ++ b) (j : Int) = rd b ((j - a.length : Nat) : Int) := by
  unfold rd
  rw [Int.toNat_natCast, Int.toNat_natCast, List.getD_eq_getElem?_getD, List.getD_eq_getElem?_getD, List.getElem?_append_right h]
/-- Each name's place is found again. -/
structure LkOk (l : List ByteArray) (i : Nat) (M : List (List UInt8 × Int)) (out : List Int) : Prop where
  len : out.length = i
  lk : ∀ (j : Nat) (h : j < l.length), j < i → M.lookup (cutL l[j]) = some (rd out j)
theorem lk_step (l : List ByteArray) (i : Nat) (tab : List Int) (M : List (List UInt8 × Int)) (out : List Int) (hL : LkOk l i M out) (hi : i < l.length) (s : ByteArray) (hs : s = l[i]) : LkOk l (i + 1) (bldStep (tab, M, out) s).2.1 (bldStep (tab, M, out) s).2.2 := by
  obtain ⟨h1, h2⟩ := hL
  have hlast : ∀ x : Int, rd (out ++ [x]) (i : Int) = x := fun x => by rw [rd_right _ _ _ (by omega), h1, Nat.sub_self]; rfl
  unfold bldStep
  simp only
  cases hk : M.lookup (cutL s) with
  | some o =>
    refine ⟨by simp [h1], fun j hj hj2 => ?_⟩
    simp only
    by_cases e : j = i
    · subst e
      rw [← hs, hk, hlast]
    · rw [rd_left _ _ _ (by omega)]
      exact h2 j hj (by omega)
  | none =>
    refine ⟨by simp [h1], fun j hj hj2 => ?_⟩
    simp only
    rw [List.lookup_cons]
    by_cases e : j = i
    · subst e
      rw [← hs, beq_self_eq_true, hlast]
    · have hj3 := h2 j hj (by omega)
      rw [rd_left _ _ _ (by omega)]
      by_cases ec : cutL l[j] = cutL s
      · rw [ec, hk] at hj3
        cases hj3
      · rw [beq_eq_false_iff_ne.2 ec]
        exact hj3
theorem lk_ok (l : List ByteArray) (i : Nat) : i ≤ l.length → LkOk l i (bldAll (l.take i)).2.1 (bldAll (l.take i)).2.2 := by
  induction i with
  | zero => intro _; exact ⟨rfl, fun j _ h => by omega⟩
  | succ i ih =>
    intro hi
    rw [bldAll_take l i (by omega)]
    exact lk_step l i _ _ _ (ih (by omega)) (by omega) _ rfl
theorem bld_app (a b : List ByteArray) : bldAll (a ++ b) = b.foldl bldStep (bldAll a) := by
  unfold bldAll
  rw [List.foldl_append]
def pick (names : List ByteArray) (a : Int) : ByteArray := rdOf ByteArray.empty names (a % names.length)
theorem pick_at (names : List ByteArray) (a : Int) (h0 : 0 ≤ a) (hn : 0 < names.length) : ∃ (j : Nat) (h : j < names.length), a % names.length = j ∧ pick names a = names[j] := by
  have h1 := Int.emod_nonneg a (show (names.length : Int) ≠ 0 by omega)
  have h2 := Int.emod_lt_of_pos a (show (0 : Int) < names.length by omega)
  refine ⟨(a % names.length).toNat, by omega, by omega, ?_⟩
  unfold pick rdOf
  rw [List.getD_eq_getElem?_getD, List.getElem?_eq_getElem (by omega)]
  rfl
theorem fold_old (M : List (List UInt8 × Int)) (tab : List Int) (f : Int → Int) (g : Int → ByteArray) (ag : List Int) : ∀ out : List Int, (∀ a ∈ ag, M.lookup (cutL (g a)) = some (f a)) → (ag.map g).foldl bldStep (tab, M, out) = (tab, M, out ++ ag.map f) := by
  induction ag with
  | nil => intro out _; simp
  | cons a ag ih =>
    intro out h
    rw [List.map_cons, List.foldl_cons]
    have : bldStep (tab, M, out) (g a) = (tab, M, out ++ [f a]) := by
      unfold bldStep
      simp only
      rw [h a (by simp)]
    rw [this, ih _ (fun b hb => h b (by simp [hb]))]
    simp
theorem once_bld (names : List ByteArray) (ag : List Int) (hn : 0 < names.length) (hb : Byt ag) : bldAll (names ++ ag.map (pick names)) = ((bldAll names).1, (bldAll names).2.1, (bldAll names).2.2 ++ ag.map fun a => rd (bldAll names).2.2 (a % names.length)) := by
  rw [bld_app]
  have hL := lk_ok names names.length (Nat.le_refl _)
  rw [List.take_length] at hL
  exact fold_old _ _ _ _ ag _ (fun a ha => by
    obtain ⟨j, hj, e1, e2⟩ := pick_at names a (hb a ha).1 hn
    rw [e1, e2]
    exact hL.lk j hj hj)
theorem step_tab (st : List Int × List (List UInt8 × Int) × List Int) (s : ByteArray) : (bldStep st s).1.take st.1.length = st.1 ∧ st.1.length ≤ (bldStep st s).1.length := by
  unfold bldStep
  cases st.2.1.lookup (cutL s) with
  | some o => exact ⟨by simp, Nat.le_refl _⟩
  | none => exact ⟨by simp [List.append_assoc], by simp⟩
def zz : ByteArray := ⟨#[97, 110, 100, 32, 111, 110, 101, 32, 109, 111, 114, 101]⟩
theorem once_l2 (names : List ByteArray) (ag : List Int) (hb : Byt ag) (hn : names.length ≤ 10) (ha : ag.length ≤ 10) (hp : 0 < names.length) (hsz : ∀ s ∈ names ++ ag.map (pick names), s.size ≤ 250) (d : Nat) : ∀ (k i : Nat), i + d = names.length + ag.length → d < k →
    dovetaillaw9_StrOnce.l2 k names ag (names ++ ag.map (pick names)) (bldAll names).2.2 (bldAll names).1 ((bldAll names).2.2 ++ ag.map fun a => rd (bldAll names).2.2 (a % names.length)) i = some true := by
  have hL := lk_ok names names.length (Nat.le_refl _)
  rw [List.take_length] at hL
  have hbl := once_bld names ag hp hb
  induction d with
  | zero =>
    intro k i hi hk
    obtain ⟨k, rfl⟩ : ∃ m, k = m + 1 := ⟨k - 1, by omega⟩
    rw [dovetaillaw9_StrOnce.l2, if_neg (by rw [List.length_append, List.length_map, hL.len]; omega), if_pos (by rw [List.length_append, List.length_map]; omega)]
    have hB := build_eq (names ++ ag.map (pick names) ++ [zz]) (fun s hs => by
      rcases List.mem_append.1 hs with hs | hs
      · exact hsz s hs
      · rw [List.mem_singleton.1 hs]; decide) (by simp; omega)
    have e : bldAll (names ++ ag.map (pick names) ++ [zz]) = bldStep (bldAll (names ++ ag.map (pick names))) zz := by rw [bld_app]; rfl
    have hs := step_tab (bldAll (names ++ ag.map (pick names))) zz
    rw [← e, hbl] at hs
    simp only at hs
    rw [show ((names ++ ag.map (pick names)) ++ [(⟨#[97, 110, 100, 32, 111, 110, 101, 32, 109, 111, 114, 101]⟩ : ByteArray)]) = names ++ ag.map (pick names) ++ [zz] from rfl, hB]
    simp only [Option.bind_some]
    rw [if_pos (by omega), if_pos (by omega), Int.toNat_natCast, hs.1, beq_self_eq_true]
  | succ d ih =>
    intro k i hi hk
    obtain ⟨k, rfl⟩ : ∃ m, k = m + 1 := ⟨k - 1, by omega⟩
    have E : Aside0 (wrap64 ((i : Int) + 1) = ((i + 1 : Nat) : Int)) := ⟨by clear ih hbl; unfold wrap64; omega⟩
    have hnx := ih k (i + 1) (by omega) (by omega)
    rw [dovetaillaw9_StrOnce.l2, if_pos (by rw [List.length_append, List.length_map, hL.len]; omega)]
    by_cases hin : (i : Int) ≥ names.length
    · have E2 : Aside0 (wrap64 ((i : Int) - (names.length : Int)) = ((i - names.length : Nat) : Int)) := ⟨by clear ih hbl hnx; unfold wrap64; omega⟩
      have hia : i - names.length < ag.length := by omega
      have hx := hb.at_ ((i - names.length : Nat) : Int)
      have E3 : Aside0 (wrap64 (rd ag ((i - names.length : Nat) : Int)) = rd ag ((i - names.length : Nat) : Int)) := ⟨w64_in (by omega) (by omega)⟩
      rw [if_pos hin, E2.out, if_pos (by omega), if_pos (by omega), if_neg (by omega), if_pos (by omega), E3.out, Int.tmod_eq_emod_of_nonneg hx.1]
      have h1 := Int.emod_nonneg (rd ag ((i - names.length : Nat) : Int)) (show (names.length : Int) ≠ 0 by omega)
      have h2 := Int.emod_lt_of_pos (rd ag ((i - names.length : Nat) : Int)) (show (0 : Int) < names.length by omega)
      have hrd : rd ((bldAll names).2.2 ++ ag.map fun a => rd (bldAll names).2.2 (a % names.length)) (i : Int) = rd (bldAll names).2.2 (rd ag ((i - names.length : Nat) : Int) % names.length) := by
        rw [rd_right _ _ _ (by rw [hL.len]; omega), hL.len, rd_at _ _ (by rw [List.length_map]; omega), rd_at ag _ hia, List.getElem_map]
      rw [if_pos h1, if_pos (by rw [hL.len]; exact h2), if_pos hrd, E.out]
      exact hnx
    · rw [if_neg hin, if_pos (by omega), if_pos (by rw [hL.len]; omega), if_pos (rd_left _ _ _ (by rw [hL.len]; omega)), E.out]
      exact hnx
theorem once_j3 (names : List ByteArray) (ag : List Int) (hb : Byt ag) (hn : names.length ≤ 10) (ha : ag.length ≤ 10) (hp : 0 < names.length) (hsz : ∀ s ∈ names, s.size ≤ 60) (k : Nat) (hk : 30 ≤ k) : dovetaillaw9_StrOnce.j3 k names ag (names ++ ag.map (pick names)) = some true := by
  obtain ⟨k, rfl⟩ : ∃ m, k = m + 1 := ⟨k - 1, by omega⟩
  have hall : ∀ s ∈ names ++ ag.map (pick names), s.size ≤ 250 := fun s hs => by
    rcases List.mem_append.1 hs with hs | hs
    · have := hsz s hs; omega
    · obtain ⟨a, ha, rfl⟩ := List.mem_map.1 hs
      obtain ⟨j, hj, _, e2⟩ := pick_at names a (hb a ha).1 hp
      rw [e2]
      have := hsz _ (List.getElem_mem hj)
      omega
  rw [dovetaillaw9_StrOnce.j3, build_eq names (fun s hs => by have := hsz s hs; omega) (by omega), build_eq _ hall (by rw [List.length_append, List.length_map]; omega), once_bld names ag hp hb]
  simp only [Option.bind_some, if_true]
  exact once_l2 names ag hb hn ha hp hall (names.length + ag.length) k 0 (by omega) (by omega)
theorem once_none (ag : List Int) (k : Nat) (hk : 30 ≤ k) : dovetaillaw9_StrOnce.j3 k [] ag [] = some true := by
  obtain ⟨k, rfl⟩ : ∃ m, k = m + 2 := ⟨k - 2, by omega⟩
  rw [dovetaillaw9_StrOnce.j3, build_eq [] (fun s hs => by simp at hs) (by simp)]
  simp only [Option.bind_some, if_true]
  rw [dovetaillaw9_StrOnce.l2, if_neg (by decide), if_pos (by decide)]
  decide +kernel
theorem once_l1 (names : List ByteArray) (ag : List Int) (hb : Byt ag) (hn : names.length ≤ 10) (ha : ag.length ≤ 10) (hsz : ∀ s ∈ names, s.size ≤ 60) (d : Nat) : ∀ (k i : Nat), i + d = ag.length → d + 40 ≤ k → (names.length = 0 → i = 0) →
    dovetaillaw9_StrOnce.l1 k names ag (names ++ (ag.take i).map (pick names)) i = some true := by
  induction d with
  | zero =>
    intro k i hi hk h0
    obtain ⟨k, rfl⟩ : ∃ m, k = m + 1 := ⟨k - 1, by omega⟩
    rw [dovetaillaw9_StrOnce.l1, if_neg (by omega), List.take_of_length_le (by omega)]
    by_cases hp : 0 < names.length
    · exact once_j3 names ag hb hn ha hp hsz k (by omega)
    · obtain rfl : names = [] := List.eq_nil_of_length_eq_zero (by omega)
      obtain rfl : ag = [] := List.eq_nil_of_length_eq_zero (by have := h0 rfl; omega)
      exact once_none [] k (by omega)
  | succ d ih =>
    intro k i hi hk h0
    obtain ⟨k, rfl⟩ : ∃ m, k = m + 1 := ⟨k - 1, by omega⟩
    rw [dovetaillaw9_StrOnce.l1, if_pos (by omega)]
    by_cases hp : (names.length : Int) > 0
    · have E : Aside0 (wrap64 ((i : Int) + 1) = ((i + 1 : Nat) : Int)) := ⟨by clear ih; unfold wrap64; omega⟩
      have hx := hb.at_ (i : Int)
      have E3 : Aside0 (wrap64 (rd ag (i : Int)) = rd ag (i : Int)) := ⟨w64_in (by omega) (by omega)⟩
      have h1 := Int.emod_nonneg (rd ag (i : Int)) (show (names.length : Int) ≠ 0 by omega)
      have h2 := Int.emod_lt_of_pos (rd ag (i : Int)) (show (0 : Int) < names.length by omega)
      rw [if_pos hp, if_pos (by omega), if_neg (by omega), E3.out, Int.tmod_eq_emod_of_nonneg hx.1, if_pos h1, if_pos h2, if_pos (by simp; omega), E.out]
      have e : names ++ (ag.take i).map (pick names) ++ [rdOf ByteArray.empty names (rd ag (i : Int) % names.length)] = names ++ (ag.take (i + 1)).map (pick names) := by
        rw [List.take_succ_eq_append_getElem (by omega), List.map_append, List.append_assoc, rd_at ag i (by omega)]
        rfl
      rw [e]
      exact ih k (i + 1) (by omega) (by omega) (fun h => by omega)
    · rw [if_neg hp]
      obtain rfl : names = [] := List.eq_nil_of_length_eq_zero (by omega)
      obtain rfl : i = 0 := h0 rfl
      exact once_none ag k (by omega)
theorem once_l0 (names : List ByteArray) (ag : List Int) (hb : Byt ag) (hn : names.length ≤ 10) (ha : ag.length ≤ 10) (d : Nat) : ∀ (k i : Nat), i + d = names.length → 100 + d ≤ k → (∀ j (h : j < names.length), j < i → names[j].size ≤ 60) → dovetaillaw9_StrOnce.l0 k names ag i = some true := by
  induction d with
  | zero =>
    intro k i hi hk hz
    obtain ⟨k, rfl⟩ : ∃ m, k = m + 1 := ⟨k - 1, by omega⟩
    rw [dovetaillaw9_StrOnce.l0, if_neg (by omega), if_pos (by simp; omega)]
    have := once_l1 names ag hb hn ha (fun s hs => by
      obtain ⟨j, hj, rfl⟩ := List.getElem_of_mem hs
      exact hz j hj (by omega)) ag.length k 0 (by omega) (by omega) (fun _ => rfl)
    simpa using this
  | succ d ih =>
    intro k i hi hk hz
    obtain ⟨k, rfl⟩ : ∃ m, k = m + 1 := ⟨k - 1, by omega⟩
    have hlt : i < names.length := by omega
    have E : Aside0 (wrap64 ((i : Int) + 1) = ((i + 1 : Nat) : Int)) := ⟨by clear ih; unfold wrap64; omega⟩
    have er : rdOf ByteArray.empty names (i : Int) = names[i] := by unfold rdOf; simp [hlt]
    rw [dovetaillaw9_StrOnce.l0, if_pos (by omega), if_pos (by omega), er, E.out]
    by_cases hs : (names[i].size : Int) > 60
    · rw [if_pos hs]
    · rw [if_neg hs]
      exact ih k (i + 1) (by omega) (by omega) (fun j h hj => by
        by_cases e : j = i
        · subst e; omega
        · exact hz j h (by omega))
theorem StrOnce (l0 : List ByteArray) (l1 : List Int) (h1 : l0.length ≤ maxLen) (h2 : ∀ y1 ∈ l0, y1.size ≤ maxLen) (h3 : l1.length ≤ maxLen) (h4 : l1.length * 1 ≤ 140737488351232) (h5 : ∀ y1 ∈ l1, (Lit.int .u8 y1).wf = true) : ∃ k, dovetaillaw9_StrOnce.f k l0 l1 = some true := by
  have hb := Byt.of_wf h5
  refine ⟨300, ?_⟩
  unfold dovetaillaw9_StrOnce.f
  rw [known9]
  simp only [Option.bind_some, if_true]
  by_cases hl : (l0.length : Int) > 10
  · rw [if_pos hl]
    rw [dovetaillaw9_StrOnce.j0, if_pos rfl]
  · rw [if_neg hl]
    by_cases ha : (l1.length : Int) > 10
    · rw [decide_eq_true ha, dovetaillaw9_StrOnce.j0, if_pos rfl]
    · rw [decide_eq_false ha, dovetaillaw9_StrOnce.j0, if_neg (by decide)]
      exact once_l0 l0 l1 hb (by omega) (by omega) l0.length 299 0 (by omega) (by omega) (fun j h hj => by omega)
end Go.Proofs.Ytojhnljjfmgjdaa.Pure
