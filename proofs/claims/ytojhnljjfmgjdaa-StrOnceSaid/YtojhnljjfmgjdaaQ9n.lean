/- Lemmas: tables of names: what the reference's Names tells is what strtab.Build tells (bldAll). -/
import Derived.Test.YtojhnljjfmgjdaaQ9
import Derived.Test.YtojhnljjfmgjdaaP55
import Derived.Test.YtojhnljjfmgjdaaP59
set_option linter.unusedVariables false
namespace Go.Proofs.Ytojhnljjfmgjdaa.Q
open Go.RowKit Go.Proofs.Ytojhnljjfmgjdaa.P Go.Proofs.YtojhnljjfmgjdaaX Go.Proofs.YtojhnljjfmgjdaaW.PrintWords Go.Proofs.YtojhnljjfmgjdaaW.PrintLast Go.Proofs.YtojhnljjfmgjdaaW.PrintMore
theorem ib_at (l : List UInt8) : ∀ i : Nat, l[i]? = some 0 → (∀ j, j < i → l[j]? ≠ some 0) → Lib.indexByte l 0 = i := by
  induction l with
  | nil => intro i h; simp at h
  | cons b l ih =>
    intro i h hn
    conv => lhs; rw [Lib.indexByte]
    cases i with
    | zero =>
      simp at h
      subst h
      rfl
    | succ i =>
      have hb : b ≠ 0 := by have := hn 0 (by omega); simpa using this
      have hr := ih i (by simpa using h) (fun j hj => by have := hn (j + 1) (by omega); simpa using this)
      rw [if_neg (by simpa using hb), hr, if_neg (by simp)]
      omega
theorem ib_none (l : List UInt8) : (∀ b ∈ l, b ≠ 0) → Lib.indexByte l 0 = -1 := by
  induction l with
  | nil => intro _; rfl
  | cons b l ih =>
    intro h
    conv => lhs; rw [Lib.indexByte]
    rw [if_neg (by simpa using h b (by simp)), ih (fun c hc => h c (by simp [hc]))]
    rfl
theorem bt_zero (s : ByteArray) (i : Nat) (h : i < s.size) : bt s i = 0 ↔ s.data.toList[i]? = some 0 := by
  have hb := bt_at s (i : Int) (by simpa using h)
  rw [← hb]
  have hl : i < s.data.toList.length := by rw [Array.length_toList]; exact h
  rw [List.getElem?_eq_getElem hl]
  have e : s[((i : Int)).toNat]'(by simpa using h) = s.data.toList[i] := by simp [ByteArray.getElem_eq_getElem_data]
  rw [e, Option.some_inj]
  generalize s.data.toList[i] = c
  constructor
  · intro hc
    apply UInt8.toNat.inj
    show c.toNat = 0
    omega
  · rintro rfl; rfl
/-- What stands ahead of the first nought has none. -/
theorem cutL_eq (s : ByteArray) : (Lib.indexByte s.data.toList 0 < 0 → cutL s = s.data.toList) ∧ (∀ i : Nat, Lib.indexByte s.data.toList 0 = i → cutL s = s.data.toList.take i) := by
  unfold cutL cut0
  constructor
  · intro h; rw [if_pos h]
  · intro i h
    rw [h, if_neg (by omega)]
    simp [ByteArray.data_extract, Array.toList_extract]
theorem cutL_nz (s : ByteArray) : ∀ b ∈ cutL s, b ≠ 0 := by
  intro b hb
  by_cases h : Lib.indexByte s.data.toList 0 < 0
  · rw [(cutL_eq s).1 h] at hb
    have hge := Lib.indexByte_ge s.data.toList 0
    have := Lib.indexByte_none (show Lib.indexByte s.data.toList 0 = -1 by omega)
    obtain ⟨i, hi, rfl⟩ := List.getElem_of_mem hb
    intro e
    exact this i (by rw [List.getElem?_eq_getElem hi, e])
  · obtain ⟨i, hi⟩ := Int.eq_ofNat_of_zero_le (show 0 ≤ Lib.indexByte s.data.toList 0 by omega)
    rw [(cutL_eq s).2 i hi] at hb
    obtain ⟨j, hj, rfl⟩ := List.getElem_of_mem hb
    rw [List.length_take] at hj
    have := (Lib.indexByte_some hi).2 j (by omega)
    intro e
    rw [List.getElem_take] at e
    exact this (by rw [List.getElem?_eq_getElem (by omega), e])
/-- The loop that shortens a name: the reference's. -/
theorem names_l1 (d : Nat) : ∀ (k : Nat) (x0 : List ByteArray) (x4 x5 : List Int) (x6 : List ByteArray) (x7 : List Int) (x8 : Int) (s : ByteArray) (i : Nat), i + d = s.size → s.size ≤ 1000 → d < k → (∀ j, j < i → bt s j ≠ 0) →
    ∃ k' j : Nat, k ≤ k' + d + 1 ∧ (cut0 s).1.size ≤ j ∧ dovetailref9_Names.l1 k x0 x4 x5 x6 x7 x8 s i = dovetailref9_Names.l1 k' x0 x4 x5 x6 x7 x8 (cut0 s).1 j := by
  induction d with
  | zero =>
    intro k x0 x4 x5 x6 x7 x8 s i hi hs hk hz
    have hn : Lib.indexByte s.data.toList 0 = -1 := ib_none _ (fun b hb => by
      obtain ⟨j, hj, rfl⟩ := List.getElem_of_mem hb
      rw [Array.length_toList] at hj
      intro e
      have hjs : j < s.size := hj
      exact hz j (by omega) ((bt_zero s j hjs).2 (by rw [List.getElem?_eq_getElem (by rw [Array.length_toList]; exact hj), e])))
    have hc : (cut0 s).1 = s := by unfold cut0; rw [hn, if_pos (by decide)]
    exact ⟨k, i, by omega, by rw [hc]; omega, by rw [hc]⟩
  | succ d ih =>
    intro k x0 x4 x5 x6 x7 x8 s i hi hs hk hz
    obtain ⟨k, rfl⟩ : ∃ m, k = m + 1 := ⟨k - 1, by omega⟩
    have hlt : i < s.size := by omega
    have E : Aside0 (wrap64 ((i : Int) + 1) = ((i + 1 : Nat) : Int)) := ⟨by unfold wrap64; omega⟩
    by_cases h0 : bt s i = 0
    · have hx : Lib.indexByte s.data.toList 0 = i := ib_at _ i ((bt_zero s i hlt).1 h0) (fun j hj e => hz j hj ((bt_zero s j (by omega)).2 e))
      have hc : (cut0 s).1 = s.extract 0 i := by unfold cut0; rw [hx, if_neg (by omega)]; simp
      refine ⟨k, i + 1, by omega, by rw [hc]; simp [ByteArray.size_extract]; omega, ?_⟩
      rw [hc]
      conv => lhs; rw [dovetailref9_Names.l1]
      rw [if_pos (by omega), if_pos (by omega), if_pos h0, if_pos (by omega), E.out, Int.toNat_natCast]
    · obtain ⟨k', j, h1, h2, h3⟩ := ih k x0 x4 x5 x6 x7 x8 s (i + 1) (by omega) hs (by omega) (fun j hj => by
        by_cases e : j = i
        · subst e; exact h0
        · exact hz j (by omega))
      refine ⟨k', j, by omega, h2, ?_⟩
      rw [← h3]
      conv => lhs; rw [dovetailref9_Names.l1]
      rw [if_pos (by omega), if_pos (by omega), if_neg h0, E.out]
/-- The last place among those that were named. -/
def srch (s : ByteArray) (Z : List (ByteArray × Int)) (r : Int × Bool) : Int × Bool := Z.foldl (fun r p => if p.1.toList = s.toList then (p.2, true) else r) r
theorem names_l2 (d : Nat) : ∀ (k : Nat) (x0 : List ByteArray) (x4 x5 : List Int) (Z : List (ByteArray × Int)) (x8 : Int) (s : ByteArray) (o : Int) (th : Bool) (j : Nat), j + d = Z.length → Z.length ≤ 1000 → d < k →
    ∃ k', k ≤ k' + d ∧ dovetailref9_Names.l2 k x0 x4 x5 (Z.map Prod.fst) (Z.map Prod.snd) x8 s o th j = dovetailref9_Names.l2 k' x0 x4 x5 (Z.map Prod.fst) (Z.map Prod.snd) x8 s (srch s (Z.drop j) (o, th)).1 (srch s (Z.drop j) (o, th)).2 (Z.length : Nat) := by
  induction d with
  | zero =>
    intro k x0 x4 x5 Z x8 s o th j hj hz hk
    obtain rfl : j = Z.length := by omega
    exact ⟨k, by omega, by rw [List.drop_length]; rfl⟩
  | succ d ih =>
    intro k x0 x4 x5 Z x8 s o th j hj hz hk
    obtain ⟨k, rfl⟩ : ∃ m, k = m + 1 := ⟨k - 1, by omega⟩
    have hlt : j < Z.length := by omega
    have E : Aside0 (wrap64 ((j : Int) + 1) = ((j + 1 : Nat) : Int)) := ⟨by unfold wrap64; omega⟩
    have e1 : rdOf ByteArray.empty (Z.map Prod.fst) (j : Int) = Z[j].1 := by unfold rdOf; simp [hlt]
    have e2 : rd (Z.map Prod.snd) (j : Int) = Z[j].2 := by unfold rd; simp [hlt]
    have hd : Z.drop j = Z[j] :: Z.drop (j + 1) := List.drop_eq_getElem_cons hlt
    by_cases h : Z[j].1.toList = s.toList
    · obtain ⟨k', h1, h2⟩ := ih k x0 x4 x5 Z x8 s Z[j].2 true (j + 1) (by omega) hz (by omega)
      refine ⟨k', by omega, ?_⟩
      have hs : srch s (Z.drop j) (o, th) = srch s (Z.drop (j + 1)) (Z[j].2, true) := by rw [hd]; unfold srch; rw [List.foldl_cons, if_pos h]
      rw [hs, ← h2]
      conv => lhs; rw [dovetailref9_Names.l2]
      rw [if_pos (by rw [List.length_map]; omega), if_pos (by omega), e1, if_pos h, if_pos (by rw [List.length_map]; omega), e2, E.out]
    · obtain ⟨k', h1, h2⟩ := ih k x0 x4 x5 Z x8 s o th (j + 1) (by omega) hz (by omega)
      refine ⟨k', by omega, ?_⟩
      have hs : srch s (Z.drop j) (o, th) = srch s (Z.drop (j + 1)) (o, th) := by rw [hd]; unfold srch; rw [List.foldl_cons, if_neg h]
      rw [hs, ← h2]
      conv => lhs; rw [dovetailref9_Names.l2]
      rw [if_pos (by rw [List.length_map]; omega), if_pos (by omega), e1, if_neg h, E.out]
def keyed (R : List (ByteArray × Int)) : List (List UInt8 × Int) := R.map (fun p => (p.1.data.toList, p.2)) ++ [([], 0)]
theorem srch_keyed (s : ByteArray) (hs : s.data.toList ≠ []) (R : List (ByteArray × Int)) : (keyed R).lookup s.data.toList = if (srch s R.reverse (0, false)).2 = true then some (srch s R.reverse (0, false)).1 else none := by
  unfold srch
  rw [List.foldl_reverse]
  induction R with
  | nil =>
    show List.lookup s.data.toList [([], 0)] = _
    rw [List.lookup_cons, beq_eq_false_iff_ne.2 hs]
    rfl
  | cons p R ih =>
    show List.lookup s.data.toList ((p.1.data.toList, p.2) :: keyed R) = _
    rw [List.lookup_cons, List.foldr_cons]
    by_cases h : p.1.toList = s.toList
    · rw [if_pos h]
      rw [toList_data, toList_data] at h
      rw [h, beq_self_eq_true]
      rfl
    · rw [if_neg h, ← ih]
      rw [toList_data, toList_data] at h
      rw [beq_eq_false_iff_ne.2 (fun e => h e.symm)]
theorem keyed_nil (R : List (ByteArray × Int)) (h : ∀ p ∈ R, p.1.data.toList ≠ []) : (keyed R).lookup [] = some 0 := by
  induction R with
  | nil => rfl
  | cons p R ih =>
    show List.lookup [] ((p.1.data.toList, p.2) :: keyed R) = _
    rw [List.lookup_cons, beq_eq_false_iff_ne.2 (fun e => h p (by simp) e.symm)]
    exact ih (fun q hq => h q (by simp [hq]))
theorem names_l0 (l : List ByteArray) (hsz : ∀ s ∈ l, s.size ≤ 250) (hl : l.length ≤ 30) (d : Nat) : ∀ (k i : Nat) (R : List (ByteArray × Int)) (tab out : List Int), i + d = l.length → 400 * (d + 1) ≤ k → bldAll (l.take i) = (tab, keyed R, out) → R.length ≤ i → out.length ≤ i → tab.length ≤ 1 + 251 * i → (∀ p ∈ R, p.1.data.toList ≠ []) →
    dovetailref9_Names.l0 k l tab out (R.reverse.map Prod.fst) (R.reverse.map Prod.snd) i = some ((bldAll l).1, (bldAll l).2.2) := by
  induction d with
  | zero =>
    intro k i R tab out hi hk hb hR ho ht hn
    obtain ⟨k, rfl⟩ : ∃ m, k = m + 1 := ⟨k - 1, by omega⟩
    obtain rfl : i = l.length := by omega
    rw [List.take_length] at hb
    rw [dovetailref9_Names.l0, if_neg (by omega), hb]
  | succ d ih =>
    intro k i R tab out hi hk hb hR ho ht hn
    obtain ⟨k, rfl⟩ : ∃ m, k = m + 1 := ⟨k - 1, by omega⟩
    have hlt : i < l.length := by omega
    have hs := hsz l[i] (List.getElem_mem _)
    have hst := bldAll_take l i hlt
    rw [hb] at hst
    have E : Aside0 (wrap64 ((i : Int) + 1) = ((i + 1 : Nat) : Int)) := ⟨by unfold wrap64; omega⟩
    have er : rdOf ByteArray.empty l (i : Int) = l[i] := by unfold rdOf; simp [hlt]
    generalize l[i] = s at *
    obtain ⟨k1, j, h1, h2, h3⟩ := names_l1 s.size k l tab out (R.reverse.map Prod.fst) (R.reverse.map Prod.snd) i s 0 (by omega) (by omega) (by omega) (fun j hj => by omega)
    have hcs := cut0_size s
    rw [dovetailref9_Names.l0, if_pos (by omega), if_pos (by omega), er]
    rw [show ((0 : Nat) : Int) = 0 from rfl] at h3
    rw [h3]
    obtain ⟨k1, rfl⟩ : ∃ m, k1 = m + 1 := ⟨k1 - 1, by omega⟩
    rw [dovetailref9_Names.l1, if_neg (by omega)]
    by_cases he : (cut0 s).1.toList = []
    · have hL : cutL s = [] := by unfold cutL; rw [← toList_data]; exact he
      rw [if_pos he, if_pos (by omega), E.out]
      refine ih k1 (i + 1) R tab (out ++ [0]) (by omega) (by omega) ?_ (by omega) (by simp; omega) (by omega) hn
      rw [hst]
      unfold bldStep
      simp only
      rw [hL, keyed_nil R hn]
    · have hL : cutL s ≠ [] := by unfold cutL; rw [← toList_data]; exact he
      have hk := srch_keyed (cut0 s).1 hL R
      obtain ⟨k2, h4, h5⟩ := names_l2 R.length k1 l tab out R.reverse i (cut0 s).1 0 false 0 (by simp) (by simp; omega) (by omega)
      rw [if_neg he]
      rw [show ((0 : Nat) : Int) = 0 from rfl, List.drop_zero] at h5
      rw [h5]
      obtain ⟨k2, rfl⟩ : ∃ m, k2 = m + 1 := ⟨k2 - 1, by omega⟩
      rw [dovetailref9_Names.l2, if_neg (by simp)]
      generalize srch (cut0 s).1 R.reverse (0, false) = r at *
      obtain ⟨o, th⟩ := r
      cases th with
      | true =>
        simp only [if_true] at hk ⊢
        rw [if_pos (by omega), E.out]
        refine ih k2 (i + 1) R tab (out ++ [o]) (by omega) (by omega) ?_ (by omega) (by simp; omega) (by omega) hn
        rw [hst]
        unfold bldStep
        simp only
        rw [show cutL s = (cut0 s).1.data.toList from rfl, hk]
      | false =>
        rw [if_neg (by simp)] at hk
        rw [if_neg (by simp), if_pos (by simp; omega), if_pos (by simp; omega), if_pos (by omega)]
        simp only [Option.bind_some]
        rw [if_pos (by rw [List.length_append, bytesOf_length]; omega), if_pos (by omega), E.out, Int.emod_eq_of_lt (by omega) (by omega)]
        have := ih k2 (i + 1) (((cut0 s).1, (tab.length : Int)) :: R) (tab ++ bytesOf (cut0 s).1 ++ [0]) (out ++ [(tab.length : Int)]) (by omega) (by omega) (by
          rw [hst]
          unfold bldStep
          simp only
          rw [show cutL s = (cut0 s).1.data.toList from rfl, hk]
          rfl) (by simp; omega) (by simp; omega) (by simp [bytesOf_length]; omega) (fun p hp => by
            rcases List.mem_cons.1 hp with rfl | hp
            · exact hL
            · exact hn p hp)
        simpa using this
theorem names_eq (l : List ByteArray) (hsz : ∀ s ∈ l, s.size ≤ 250) (hl : l.length ≤ 30) (k : Nat) (hk : 400 * 31 ≤ k) : dovetailref9_Names.f k l = some ((bldAll l).1, (bldAll l).2.2) := by
  unfold dovetailref9_Names.f
  exact names_l0 l hsz hl l.length k 0 [] [0] [] (by omega) (by omega) rfl (by simp) (by simp) (by simp) (fun p hp => by simp at hp)
theorem build_eq (l : List ByteArray) (hsz : ∀ s ∈ l, s.size ≤ 250) (hl : l.length ≤ 30) : strtab_Build.f l = some ((bldAll l).1, (bldAll l).2.2) := by
  unfold strtab_Build.f
  have : ∀ l : List ByteArray, (∀ s ∈ l, s.size ≤ 250) → bldSize l ≤ 251 * l.length := by
    intro l
    induction l with
    | nil => intro _; simp [bldSize]
    | cons s l ih =>
      intro h
      have h1 := h s (by simp)
      have h2 := ih (fun t ht => h t (by simp [ht]))
      unfold bldSize at *
      simp only [List.map_cons, List.sum_cons, List.length_cons]
      omega
  have h := this l hsz
  rw [if_pos (by omega)]
end Go.Proofs.Ytojhnljjfmgjdaa.Q
