/- Lemmas: what group.Check and the reference's GroupCheck tell of any lists: 34 if a number stands in two of them, else 0. -/
import Derived.Test.YthjlhoclmbnjgaaQ4
import Derived.Test.YthjlhoclmbnjgaaP25
import Derived.Test.YthjlhoclmbnjgaaP30
set_option linter.unusedVariables false
namespace Go.Proofs.Ythjlhoclmbnjgaa.Q
open Go.RowKit Go.Proofs.Ythjlhoclmbnjgaa.P Go.Proofs.YthjlhoclmbnjgaaX Go.Proofs.YthjlhoclmbnjgaaW.PrintWords Go.Proofs.YthjlhoclmbnjgaaW.PrintLast Go.Proofs.YthjlhoclmbnjgaaW.PrintMore

/-- A number of the rest stands in two lists. -/
def Conf (pre : List (List Int)) : List (List Int) → Prop
  | [] => False
  | r :: rs => (∃ x ∈ r, ∃ p ∈ pre, x ∈ p) ∨ Conf (pre ++ [r]) rs
structure ChkInv (i : Nat) (pre : List (List Int)) (done : List Int) (M : List (Int × Int)) : Prop where
  here : ∀ x, x ∈ done → M.lookup x = some (i : Int)
  elder : ∀ x, x ∉ done → (∃ p ∈ pre, x ∈ p) → ∃ j : Int, M.lookup x = some j ∧ j < i
  none_ : ∀ x, x ∉ done → (∀ p ∈ pre, x ∉ p) → M.lookup x = none
  apart : ∀ x, x ∈ done → ∀ p ∈ pre, x ∉ p
theorem chk_cons {i : Nat} {pre : List (List Int)} {done : List Int} {M : List (Int × Int)} (h : ChkInv i pre done M) (x : Int) (hx : ∀ p ∈ pre, x ∉ p) : ChkInv i pre (done ++ [x]) ((x, (i : Int)) :: M) := by
  have hl : ∀ y, List.lookup y ((x, (i : Int)) :: M) = if y = x then some (i : Int) else M.lookup y := by
    intro y
    rw [List.lookup_cons]
    by_cases e : y = x
    · rw [if_pos e, beq_iff_eq.2 e]
    · rw [if_neg e, beq_eq_false_iff_ne.2 e]
  refine ⟨fun y hy => ?_, fun y hy he => ?_, fun y hy hn => ?_, fun y hy => ?_⟩
  · rw [hl]
    by_cases e : y = x
    · rw [if_pos e]
    · rw [if_neg e]
      refine h.here y ?_
      rcases List.mem_append.1 hy with h1 | h1
      · exact h1
      · exact absurd (List.mem_singleton.1 h1) e
  · have e : y ≠ x := fun e => hy (by rw [e]; simp)
    rw [hl, if_neg e]
    exact h.elder y (fun h1 => hy (List.mem_append_left _ h1)) he
  · have e : y ≠ x := fun e => hy (by rw [e]; simp)
    rw [hl, if_neg e]
    exact h.none_ y (fun h1 => hy (List.mem_append_left _ h1)) hn
  · rcases List.mem_append.1 hy with h1 | h1
    · exact h.apart y h1
    · rw [List.mem_singleton.1 h1]
      exact hx
theorem chkRow_no (i : Nat) (pre : List (List Int)) (ms : List Int) : ∀ (done : List Int) (M : List (Int × Int)), ChkInv i pre done M → (∃ x ∈ ms, ∃ p ∈ pre, x ∈ p) → chkRow i ms M = none := by
  induction ms with
  | nil => intro done M h hx; obtain ⟨x, hx, _⟩ := hx; cases hx
  | cons m ms ih =>
    intro done M h hx
    simp only [chkRow]
    by_cases hm : ∃ p ∈ pre, m ∈ p
    · have hnd : m ∉ done := fun hd => by
        obtain ⟨p, hp, hmp⟩ := hm
        exact h.apart m hd p hp hmp
      obtain ⟨j, hj, hlt⟩ := h.elder m hnd hm
      rw [hj, if_pos]
      exact ⟨rfl, by simp; omega⟩
    · have hm' : ∀ p ∈ pre, m ∉ p := fun p hp hmp => hm ⟨p, hp, hmp⟩
      have hrest : ∃ x ∈ ms, ∃ p ∈ pre, x ∈ p := by
        obtain ⟨x, hx, hp⟩ := hx
        rcases List.mem_cons.1 hx with rfl | hx
        · exact absurd hp hm
        · exact ⟨x, hx, hp⟩
      rw [if_neg]
      · exact ih (done ++ [m]) _ (chk_cons h m hm') hrest
      · rintro ⟨h1, h2⟩
        by_cases hd : m ∈ done
        · rw [h.here m hd] at h2
          exact h2 rfl
        · rw [h.none_ m hd hm'] at h1
          cases h1
theorem chkRow_yes (i : Nat) (pre : List (List Int)) (ms : List Int) : ∀ (done : List Int) (M : List (Int × Int)), ChkInv i pre done M → (∀ x ∈ ms, ∀ p ∈ pre, x ∉ p) → ∃ M', chkRow i ms M = some M' ∧ ChkInv i pre (done ++ ms) M' := by
  induction ms with
  | nil => intro done M h _; exact ⟨M, rfl, by rw [List.append_nil]; exact h⟩
  | cons m ms ih =>
    intro done M h hx
    have hm' : ∀ p ∈ pre, m ∉ p := hx m (by simp)
    obtain ⟨M', h1, h2⟩ := ih (done ++ [m]) _ (chk_cons h m hm') (fun x hxm => hx x (by simp [hxm]))
    refine ⟨M', ?_, by rw [List.append_assoc] at h2; exact h2⟩
    simp only [chkRow]
    rw [if_neg]
    · exact h1
    · rintro ⟨h1, h2⟩
      by_cases hd : m ∈ done
      · rw [h.here m hd] at h2
        exact h2 rfl
      · rw [h.none_ m hd hm'] at h1
        cases h1
theorem chkAll_conf (rs : List (List Int)) : ∀ (i : Nat) (pre : List (List Int)) (M : List (Int × Int)), ChkInv i pre [] M → (Conf pre rs → chkAll i rs M = 34) ∧ (¬ Conf pre rs → chkAll i rs M = 0) := by
  induction rs with
  | nil => intro i pre M h; exact ⟨fun h => h.elim, fun _ => rfl⟩
  | cons r rs ih =>
    intro i pre M h
    by_cases hx : ∃ x ∈ r, ∃ p ∈ pre, x ∈ p
    · refine ⟨fun _ => ?_, fun hn => absurd (.inl hx) hn⟩
      simp only [chkAll, chkRow_no i pre r [] M h hx]
    · have hx' : ∀ x ∈ r, ∀ p ∈ pre, x ∉ p := fun x hxr p hp hxp => hx ⟨x, hxr, p, hp, hxp⟩
      obtain ⟨M', h1, h2⟩ := chkRow_yes i pre r [] M h hx'
      have h3 : ChkInv (i + 1) (pre ++ [r]) [] M' := by
        rw [List.nil_append] at h2
        refine ⟨(fun x hx => by cases hx), fun x _ he => ?_, fun x _ hn => ?_, (fun x hx => by cases hx)⟩
        · by_cases hr : x ∈ r
          · exact ⟨(i : Int), h2.here x hr, by omega⟩
          · obtain ⟨p, hp, hxp⟩ := he
            rcases List.mem_append.1 hp with hp | hp
            · obtain ⟨j, hj, hlt⟩ := h2.elder x hr ⟨p, hp, hxp⟩
              exact ⟨j, hj, by omega⟩
            · rw [List.mem_singleton.1 hp] at hxp
              exact absurd hxp hr
        · exact h2.none_ x (hn r (by simp)) (fun p hp => hn p (by simp [hp]))
      have := ih (i + 1) (pre ++ [r]) M' h3
      have e : chkAll i (r :: rs) M = chkAll (i + 1) rs M' := by simp only [chkAll, h1]
      rw [e]
      exact ⟨fun hc => this.1 (hc.elim (fun h => absurd h hx) id), fun hc => this.2 (fun h => hc (.inr h))⟩
theorem Check_conf (l : List (List Int)) (h1 : total l < 4611686018427387904) (h2 : ∀ r ∈ l, ∀ x ∈ r, (Lit.int .i64 x).wf = true) :
    (Conf [] l → group_Check.f l = some 34) ∧ (¬ Conf [] l → group_Check.f l = some 0) := by
  have h := chkAll_conf l 0 [] [] ⟨(fun x hx => by cases hx), fun x _ he => (by obtain ⟨p, hp, _⟩ := he; cases hp), fun x _ _ => rfl, (fun x hx => by cases hx)⟩
  unfold group_Check.f
  rw [if_pos h1, if_pos (List.all_eq_true.2 fun r hr => List.all_eq_true.2 fun x hx => h2 r hr x hx)]
  exact ⟨fun hc => by rw [h.1 hc], fun hc => by rw [h.2 hc]⟩

/-! ### the reference's loops -/
theorem rdL_at (l : List (List Int)) (i : Nat) (h : i < l.length) : rd_L10 l (i : Int) = l[i] := by
  unfold rd_L10
  rw [Int.toNat_natCast, List.getD_eq_getElem?_getD, List.getElem?_eq_getElem h]
  rfl
theorem ref_l3 (l : List (List Int)) (i k a : Nat) (hl : l.length < 4611686018427387904) (hi : i < l.length) (hk : k < l.length) (ha : a < l[i].length) (hk2 : l[k].length < 4611686018427387904) (r : Int) (d : Nat) : ∀ c, c + d = l[k].length →
    ((∃ c', ∃ h : c' < l[k].length, c ≤ c' ∧ l[i][a] = l[k][c']) → ∃ n, dovetailref9_GroupCheck.l3 n l i k a c = some 34) ∧
    ((∀ c', ∀ h : c' < l[k].length, c ≤ c' → l[i][a] ≠ l[k][c']) → (∃ n, dovetailref9_GroupCheck.l2 n l i k (wrap64 ((a : Int) + 1)) = some r) → ∃ n, dovetailref9_GroupCheck.l3 n l i k a c = some r) := by
  induction d with
  | zero =>
    intro c hc
    refine ⟨fun ⟨c', h1, h2, _⟩ => by omega, fun _ ⟨n, hn⟩ => ⟨n + 1, ?_⟩⟩
    simp only [dovetailref9_GroupCheck.l3]
    rw [if_pos (by omega), if_pos (by omega), rdL_at l k hk, if_neg (by omega)]
    exact hn
  | succ d ih =>
    intro c hc
    obtain ⟨y1, y2⟩ := ih (c + 1) (by omega)
    have hcl : c < l[k].length := by omega
    have step : ∀ n, dovetailref9_GroupCheck.l3 (n + 1) l i k a c = if l[i][a] = l[k][c] then some 34 else dovetailref9_GroupCheck.l3 n l i k a (c + 1 : Nat) := by
      intro n
      simp only [dovetailref9_GroupCheck.l3]
      rw [if_pos (by omega), if_pos (by omega), rdL_at l k hk, if_pos (by omega), if_pos (by omega), if_pos (by omega), rdL_at l i hi, if_pos (by omega), if_pos (by omega), if_pos (by omega), rd_at _ a ha, rd_at _ c hcl, w64_in (by omega) (by omega)]
      rfl
    refine ⟨fun ⟨c', h1, h2, h3⟩ => ?_, fun hne hn => ?_⟩
    · by_cases e : l[i][a] = l[k][c]
      · exact ⟨1, by rw [step, if_pos e]⟩
      · obtain ⟨n, hn⟩ := y1 ⟨c', h1, by rcases Nat.lt_or_ge c c' with h | h; exact h; (have : c = c' := by omega); subst this; exact absurd h3 e, h3⟩
        exact ⟨n + 1, by rw [step, if_neg e]; exact hn⟩
    · obtain ⟨n, hn'⟩ := y2 (fun c' h1 h2 => hne c' h1 (by omega)) hn
      exact ⟨n + 1, by rw [step, if_neg (hne c hcl (Nat.le_refl _))]; exact hn'⟩
theorem ref_l2 (l : List (List Int)) (i k : Nat) (hl : l.length < 4611686018427387904) (hs : ∀ r ∈ l, r.length < 4611686018427387904) (hi : i < l.length) (hk : k < l.length) (r : Int) (d : Nat) : ∀ a, a + d = l[i].length →
    ((∃ a', ∃ h : a' < l[i].length, a ≤ a' ∧ l[i][a'] ∈ l[k]) → ∃ n, dovetailref9_GroupCheck.l2 n l i k a = some 34) ∧
    ((∀ a', ∀ h : a' < l[i].length, a ≤ a' → l[i][a'] ∉ l[k]) → (∃ n, dovetailref9_GroupCheck.l1 n l i (wrap64 ((k : Int) + 1)) = some r) → ∃ n, dovetailref9_GroupCheck.l2 n l i k a = some r) := by
  have hsi := hs _ (List.getElem_mem hi)
  have hsk := hs _ (List.getElem_mem hk)
  induction d with
  | zero =>
    intro a ha
    refine ⟨fun ⟨c', h1, h2, _⟩ => by omega, fun _ ⟨n, hn⟩ => ⟨n + 1, ?_⟩⟩
    simp only [dovetailref9_GroupCheck.l2]
    rw [if_pos (by omega), if_pos (by omega), rdL_at l i hi, if_neg (by omega)]
    exact hn
  | succ d ih =>
    intro a ha
    obtain ⟨y1, y2⟩ := ih (a + 1) (by omega)
    have hal : a < l[i].length := by omega
    have step : ∀ n, dovetailref9_GroupCheck.l2 (n + 1) l i k a = dovetailref9_GroupCheck.l3 n l i k a (0 : Nat) := by
      intro n
      simp only [dovetailref9_GroupCheck.l2]
      rw [if_pos (by omega), if_pos (by omega), rdL_at l i hi, if_pos (by omega)]
      rfl
    have hw : wrap64 ((a : Int) + 1) = ((a + 1 : Nat) : Int) := by rw [w64_in (by omega) (by omega)]; omega
    refine ⟨fun ⟨a', h1, h2, h3⟩ => ?_, fun hne hn => ?_⟩
    · have z := ref_l3 l i k a hl hi hk hal hsk 34 l[k].length 0 (by omega)
      by_cases e : l[i][a] ∈ l[k]
      · obtain ⟨c', hc', he⟩ := List.getElem_of_mem e
        obtain ⟨n, hn⟩ := z.1 ⟨c', hc', by omega, he.symm⟩
        exact ⟨n + 1, by rw [step]; exact hn⟩
      · obtain ⟨n, hn⟩ := y1 ⟨a', h1, by rcases Nat.lt_or_ge a a' with h | h; exact h; (have : a = a' := by omega); subst this; exact absurd h3 e, h3⟩
        obtain ⟨n', hn'⟩ := z.2 (fun c' h1 _ he => e (by rw [he]; exact List.getElem_mem _)) ⟨n, by rw [hw]; exact hn⟩
        exact ⟨n' + 1, by rw [step]; exact hn'⟩
    · have z := ref_l3 l i k a hl hi hk hal hsk r l[k].length 0 (by omega)
      obtain ⟨n, hn1⟩ := y2 (fun c' h1 h2 => hne c' h1 (by omega)) hn
      obtain ⟨n', hn'⟩ := z.2 (fun c' h1 _ he => hne a hal (Nat.le_refl _) (by rw [he]; exact List.getElem_mem _)) ⟨n, by rw [hw]; exact hn1⟩
      exact ⟨n' + 1, by rw [step]; exact hn'⟩
/-- Two lists share a number. -/
def Shares (a b : List Int) : Prop := ∃ x ∈ a, x ∈ b
theorem ref_l1 (l : List (List Int)) (i : Nat) (hl : l.length < 4611686018427387904) (hs : ∀ r ∈ l, r.length < 4611686018427387904) (hi : i < l.length) (r : Int) (d : Nat) : ∀ k, k + d = i →
    ((∃ k', ∃ h : k' < i, k ≤ k' ∧ Shares l[i] l[k']) → ∃ n, dovetailref9_GroupCheck.l1 n l i k = some 34) ∧
    ((∀ k', ∀ h : k' < i, k ≤ k' → ¬ Shares l[i] l[k']) → (∃ n, dovetailref9_GroupCheck.l0 n l (wrap64 ((i : Int) + 1)) = some r) → ∃ n, dovetailref9_GroupCheck.l1 n l i k = some r) := by
  induction d with
  | zero =>
    intro k hk
    refine ⟨fun ⟨c', h1, h2, _⟩ => by omega, fun _ ⟨n, hn⟩ => ⟨n + 1, ?_⟩⟩
    simp only [dovetailref9_GroupCheck.l1]
    rw [if_neg (by omega)]
    exact hn
  | succ d ih =>
    intro k hk
    obtain ⟨y1, y2⟩ := ih (k + 1) (by omega)
    have hkl : k < l.length := by omega
    have step : ∀ n, dovetailref9_GroupCheck.l1 (n + 1) l i k = dovetailref9_GroupCheck.l2 n l i k (0 : Nat) := by
      intro n
      simp only [dovetailref9_GroupCheck.l1]
      rw [if_pos (by omega)]
      rfl
    have hw : wrap64 ((k : Int) + 1) = ((k + 1 : Nat) : Int) := by rw [w64_in (by omega) (by omega)]; omega
    have sh : Shares l[i] l[k] ↔ ∃ a', ∃ h : a' < l[i].length, 0 ≤ a' ∧ l[i][a'] ∈ l[k] := by
      constructor
      · rintro ⟨x, hx, hxk⟩
        obtain ⟨a', ha', rfl⟩ := List.getElem_of_mem hx
        exact ⟨a', ha', by omega, hxk⟩
      · rintro ⟨a', ha', _, hxk⟩
        exact ⟨_, List.getElem_mem _, hxk⟩
    refine ⟨fun ⟨k', h1, h2, h3⟩ => ?_, fun hne hn => ?_⟩
    · have z := ref_l2 l i k hl hs hi hkl 34 l[i].length 0 (by omega)
      by_cases e : Shares l[i] l[k]
      · obtain ⟨n, hn⟩ := z.1 (sh.1 e)
        exact ⟨n + 1, by rw [step]; exact hn⟩
      · obtain ⟨n, hn⟩ := y1 ⟨k', h1, by rcases Nat.lt_or_ge k k' with h | h; exact h; (have : k = k' := by omega); subst this; exact absurd h3 e, h3⟩
        obtain ⟨n', hn'⟩ := z.2 (fun a' h1 _ he => e (sh.2 ⟨a', h1, by omega, he⟩)) ⟨n, by rw [hw]; exact hn⟩
        exact ⟨n' + 1, by rw [step]; exact hn'⟩
    · have z := ref_l2 l i k hl hs hi hkl r l[i].length 0 (by omega)
      obtain ⟨n, hn1⟩ := y2 (fun c' h1 h2 => hne c' h1 (by omega)) hn
      obtain ⟨n', hn'⟩ := z.2 (fun a' h1 _ he => hne k (by omega) (Nat.le_refl _) (sh.2 ⟨a', h1, by omega, he⟩)) ⟨n, by rw [hw]; exact hn1⟩
      exact ⟨n' + 1, by rw [step]; exact hn'⟩
theorem ref_l0 (l : List (List Int)) (hl : l.length < 4611686018427387904) (hs : ∀ r ∈ l, r.length < 4611686018427387904) (d : Nat) : ∀ i, i + d = l.length →
    (Conf (l.take i) (l.drop i) → ∃ n, dovetailref9_GroupCheck.l0 n l i = some 34) ∧ (¬ Conf (l.take i) (l.drop i) → ∃ n, dovetailref9_GroupCheck.l0 n l i = some 0) := by
  induction d with
  | zero =>
    intro i hi
    rw [List.drop_eq_nil_of_le (by omega)]
    refine ⟨fun h => h.elim, fun _ => ⟨1, ?_⟩⟩
    simp only [dovetailref9_GroupCheck.l0]
    rw [if_neg (by omega)]
  | succ d ih =>
    intro i hi
    have hil : i < l.length := by omega
    obtain ⟨y1, y2⟩ := ih (i + 1) (by omega)
    have step : ∀ n, dovetailref9_GroupCheck.l0 (n + 1) l i = dovetailref9_GroupCheck.l1 n l i (0 : Nat) := by
      intro n
      simp only [dovetailref9_GroupCheck.l0]
      rw [if_pos (by omega)]
      rfl
    have hw : wrap64 ((i : Int) + 1) = ((i + 1 : Nat) : Int) := by rw [w64_in (by omega) (by omega)]; omega
    have hc : Conf (l.take i) (l.drop i) ↔ (∃ k', ∃ h : k' < i, 0 ≤ k' ∧ Shares l[i] l[k']) ∨ Conf (l.take (i + 1)) (l.drop (i + 1)) := by
      rw [List.drop_eq_getElem_cons hil, List.take_succ_eq_append_getElem hil]
      show (_ ∨ _) ↔ _
      constructor
      · rintro (⟨x, hx, p, hp, hxp⟩ | h)
        · left
          obtain ⟨k', hk', rfl⟩ := List.getElem_of_mem hp
          have hk'' : k' < i := by rw [List.length_take] at hk'; omega
          exact ⟨k', hk'', by omega, x, hx, by rw [List.getElem_take] at hxp; exact hxp⟩
        · exact .inr h
      · rintro (⟨k', hk', _, x, hx, hxp⟩ | h)
        · left
          refine ⟨x, hx, l[k'], ?_, hxp⟩
          rw [List.mem_take_iff_getElem]
          exact ⟨k', by omega, rfl⟩
        · exact .inr h
    rw [hc]
    by_cases e : ∃ k', ∃ h : k' < i, 0 ≤ k' ∧ Shares l[i] l[k']
    · refine ⟨fun _ => ?_, fun h => absurd (.inl e) h⟩
      obtain ⟨n, hn⟩ := (ref_l1 l i hl hs hil 34 i 0 (by omega)).1 e
      exact ⟨n + 1, by rw [step]; exact hn⟩
    · have e' : ∀ k', ∀ h : k' < i, 0 ≤ k' → ¬ Shares l[i] l[k'] := fun k' h h0 hsh => e ⟨k', h, h0, hsh⟩
      refine ⟨fun h => ?_, fun h => ?_⟩
      · obtain ⟨n, hn⟩ := y1 (h.elim (fun h => absurd h e) id)
        obtain ⟨n', hn'⟩ := (ref_l1 l i hl hs hil 34 i 0 (by omega)).2 e' ⟨n, by rw [hw]; exact hn⟩
        exact ⟨n' + 1, by rw [step]; exact hn'⟩
      · obtain ⟨n, hn⟩ := y2 (fun h1 => h (.inr h1))
        obtain ⟨n', hn'⟩ := (ref_l1 l i hl hs hil 0 i 0 (by omega)).2 e' ⟨n, by rw [hw]; exact hn⟩
        exact ⟨n' + 1, by rw [step]; exact hn'⟩
theorem refCheck_conf (l : List (List Int)) (hl : l.length < 4611686018427387904) (hs : ∀ r ∈ l, r.length < 4611686018427387904) :
    (Conf [] l → ∃ n, dovetailref9_GroupCheck.f n l = some 34) ∧ (¬ Conf [] l → ∃ n, dovetailref9_GroupCheck.f n l = some 0) := by
  have := ref_l0 l hl hs l.length 0 (by omega)
  simpa [dovetailref9_GroupCheck.f] using this
theorem checks_agree (l : List (List Int)) (hl : l.length < 4611686018427387904) (hs : ∀ r ∈ l, r.length < 4611686018427387904) (h1 : total l < 4611686018427387904) (h2 : ∀ r ∈ l, ∀ x ∈ r, (Lit.int .i64 x).wf = true) :
    ∃ (n : Nat) (v : Int), group_Check.f l = some v ∧ dovetailref9_GroupCheck.f n l = some v := by
  by_cases h : Conf [] l
  · obtain ⟨n, hn⟩ := (refCheck_conf l hl hs).1 h
    exact ⟨n, 34, (Check_conf l h1 h2).1 h, hn⟩
  · obtain ⟨n, hn⟩ := (refCheck_conf l hl hs).2 h
    exact ⟨n, 0, (Check_conf l h1 h2).2 h, hn⟩
end Go.Proofs.Ythjlhoclmbnjgaa.Q
