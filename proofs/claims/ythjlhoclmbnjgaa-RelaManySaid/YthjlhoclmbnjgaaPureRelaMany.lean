/- How many relocations there may be, and that what is right is read back (RelaMany: for every input the law returns true). -/
import Derived.Test.YthjlhoclmbnjgaaQ6
import Derived.Test.YthjlhoclmbnjgaaOpenRelaMany
import Derived.Test.YthjlhoclmbnjgaaP52
set_option linter.unusedVariables false
namespace Go.Proofs.Ythjlhoclmbnjgaa.Pure
open Go.RowKit Go.Proofs.Ythjlhoclmbnjgaa.P Go.Proofs.YthjlhoclmbnjgaaX Go.Proofs.YthjlhoclmbnjgaaW.PrintWords Go.Proofs.YthjlhoclmbnjgaaW.PrintLast Go.Proofs.Ythjlhoclmbnjgaa.Q
def zR : S74 := ⟨0, 0, 0, 0⟩
theorem zlev (n : Nat) : lev (List.replicate n 0) = 0 := by
  induction n with
  | zero => rfl
  | succ n ih => rw [List.replicate_succ]; simp [lev, ih]
theorem zcut (m o n : Nat) : lev (((List.replicate m (0 : Int)).drop o).take n) = 0 := by
  rw [List.drop_replicate, List.take_replicate]
  exact zlev _
theorem zrec (m o : Nat) : recR (List.replicate m 0) o = zR := by
  unfold recR
  rw [zcut, zcut, zcut, zcut, w64_in (x := 0) (by omega) (by omega)]
  rfl
theorem zscan (m : Nat) (d : Nat) : ∀ (i : Nat) (acc : List S74), ∃ p, scanR (List.replicate m 0) 4 1 d i acc = (p, 0) ∧ p.length = acc.length + d := by
  induction d with
  | zero => intro i acc; exact ⟨acc, rfl, rfl⟩
  | succ d ih =>
    intro i acc
    simp only [scanR]
    rw [zrec, if_neg (by decide)]
    obtain ⟨p, h1, h2⟩ := ih (i + 1) (acc ++ [zR])
    exact ⟨p, h1, by rw [h2, List.length_append, List.length_singleton]; omega⟩
theorem zread (m : Nat) : (m % 24 = 0 ∧ m / 24 ≤ 2000 ∧ ∃ p, readR (List.replicate m 0) 4 1 = (p, 0) ∧ p.length = m / 24) ∨ (¬ (m % 24 = 0 ∧ m / 24 ≤ 2000) ∧ readR (List.replicate m 0) 4 1 = ([], 33)) := by
  unfold readR
  rw [List.length_replicate]
  by_cases h : m % 24 = 0 ∧ m / 24 ≤ 2000
  · rw [if_pos h]
    obtain ⟨p, h1, h2⟩ := zscan m (m / 24) 0 []
    exact .inl ⟨h.1, h.2, p, h1, by simpa using h2⟩
  · rw [if_neg h]
    exact .inr ⟨h, rfl⟩
def goodR (r : S74) : S74 := ⟨Int.tmod r.f0 50, r.f1, Int.tmod r.f2 7, r.f3⟩
structure FitR (r : S74) : Prop where
  a : 0 ≤ r.f0 ∧ r.f0 < 50
  b : 0 ≤ r.f1 ∧ r.f1 ≤ 4294967295
  c : 0 ≤ r.f2 ∧ r.f2 < 7
  d : -9223372036854775808 ≤ r.f3 ∧ r.f3 ≤ 9223372036854775807
theorem fit_good (r : S74) (h : OpenRelaMany.ok_74 r) : FitR (goodR r) := by
  obtain ⟨h0, h1, h2, h3⟩ := h
  have b0 := bounds_u64 h0
  have b1 := bounds_u32 h1
  have b2 := bounds_u32 h2
  have b3 := bounds_i64 h3
  refine ⟨?_, b1, ?_, b3⟩
  · show 0 ≤ Int.tmod r.f0 50 ∧ Int.tmod r.f0 50 < 50
    rw [Int.tmod_eq_emod_of_nonneg b0.1]; omega
  · show 0 ≤ Int.tmod r.f2 7 ∧ Int.tmod r.f2 7 < 7
    rw [Int.tmod_eq_emod_of_nonneg b2.1]; omega
theorem gscan (g : List S74) (hg : ∀ r ∈ g, FitR r) (d : Nat) : ∀ (i : Nat), i + d = g.length → scanR (g.flatMap encR) 58 7 d i (g.take i) = (g, 0) := by
  induction d with
  | zero => intro i hi; simp only [scanR]; rw [List.take_of_length_le (by omega)]
  | succ d ih =>
    intro i hi
    have hlt : i < g.length := by omega
    have hf := hg g[i] (List.getElem_mem hlt)
    have hsplit : g.flatMap encR = (g.take i).flatMap encR ++ encR g[i] ++ (g.drop (i + 1)).flatMap encR := by
      have : g = g.take i ++ ([g[i]] ++ g.drop (i + 1)) := by simp
      have e := congrArg (List.flatMap encR) this
      rw [List.flatMap_append, List.flatMap_append, List.flatMap_cons, List.flatMap_nil, List.append_nil, ← List.append_assoc] at e
      exact e
    have hrec : recR (g.flatMap encR) (24 * i) = g[i] := by
      have hl : ((g.take i).flatMap encR).length = 24 * i := by rw [flatMap_encR_length, List.length_take]; omega
      rw [hsplit, ← hl]
      exact recR_enc _ _ _ ⟨hf.a.1, by have := hf.a.2; omega⟩ hf.b ⟨hf.c.1, by have := hf.c.2; omega⟩ hf.d
    simp only [scanR]
    have hw := wid_bound g[i].f1
    rw [hrec, if_neg (by
      rintro (h | h)
      · have := hf.c.2; omega
      · have := hf.a.2; omega)]
    have := ih (i + 1) (by omega)
    rw [List.take_add_one, List.getElem?_eq_getElem hlt, Option.toList_some] at this
    exact this
theorem gread (g : List S74) (hg : ∀ r ∈ g, FitR r) (hl : g.length ≤ 20) : readR (g.flatMap encR) 58 7 = (g, 0) := by
  unfold readR
  rw [flatMap_encR_length, if_pos ⟨by omega, by omega⟩, show 24 * g.length / 24 = g.length by omega]
  exact gscan g hg g.length 0 (by omega)
theorem many_loop (l : List S74) (hl : l.length ≤ 20) (hok : ∀ y ∈ l, OpenRelaMany.ok_74 y) (d : Nat) : ∀ (k i : Nat), i + d = l.length → 2201 + d ≤ k → dovetaillaw13_RelaMany.l0 k l ((l.take i).map goodR) i = some true := by
  induction d with
  | zero =>
    intro k i hi hk
    obtain ⟨k, rfl⟩ : ∃ m, k = m + 1 := ⟨k - 1, by omega⟩
    obtain rfl : i = l.length := by omega
    have hg : ∀ r ∈ l.map goodR, FitR r := by
      intro r hr
      obtain ⟨y, hy, rfl⟩ := List.mem_map.1 hr
      exact fit_good y (hok y hy)
    simp only [dovetaillaw13_RelaMany.l0]
    rw [if_neg (by omega), List.take_of_length_le (Nat.le_refl _)]
    have hgl : (l.map goodR).length ≤ 20 := by rw [List.length_map]; exact hl
    generalize l.map goodR = g at hg hgl
    rw [RelaBytes_eq k g (by omega) (by omega)]
    simp only [Option.bind_some]
    rw [parse_eq k _ 58 7 (flatMap_encR_byt g) (by rw [flatMap_encR_length]; omega) (by omega) (by omega) (by omega), gread g hg hgl]
    simp only [Option.bind_some, if_true]
    rw [hRelas_refl k g (by omega) (by omega)]
    rfl
  | succ d ih =>
    intro k i hi hk
    obtain ⟨k, rfl⟩ : ∃ m, k = m + 1 := ⟨k - 1, by omega⟩
    have hlt : i < l.length := by omega
    simp only [dovetaillaw13_RelaMany.l0]
    rw [if_pos (by omega), if_pos (by omega), if_pos (by rw [List.length_map, List.length_take]; omega), rd_S l i hlt, w64_in (by omega) (by omega)]
    have := ih k (i + 1) (by omega) (by omega)
    rw [List.take_add_one, List.getElem?_eq_getElem hlt, Option.toList_some, List.map_append] at this
    exact this
theorem RelaMany (a0 a1 : Int) (l : List S74) (h0 : (Lit.int .u8 a0).wf = true) (h1 : (Lit.int .u8 a1).wf = true) (h2 : l.length ≤ 9223372036854775807) (h3 : ∀ y ∈ l, OpenRelaMany.ok_74 y) :
    ∃ k, dovetaillaw13_RelaMany.f k a0 a1 l = some true := by
  have b0 := bounds_u8 h0
  have b1 := bounds_u8 h1
  refine ⟨2300, ?_⟩
  unfold dovetaillaw13_RelaMany.f
  rw [known13 2300 (by omega)]
  simp only [Option.bind_some, if_true]
  by_cases hl : (l.length : Int) > 20
  · rw [if_pos hl]
  rw [if_neg hl, Int.tmod_eq_emod_of_nonneg b0.1, Int.tmod_eq_emod_of_nonneg b1.1]
  have e1 : wrap64 (1998 + wrap64 (a0 % 5)) = 1998 + a0 % 5 := by rw [w64_in (x := a0 % 5) (by omega) (by omega), w64_in (by omega) (by omega)]
  have e2 : wrap64 (wrap64 (24 * (1998 + a0 % 5)) + wrap64 (a1 % 3)) = 24 * (1998 + a0 % 5) + a1 % 3 := by
    rw [w64_in (x := 24 * (1998 + a0 % 5)) (by omega) (by omega), w64_in (x := a1 % 3) (by omega) (by omega), w64_in (by omega) (by omega)]
  rw [e1, e2, if_pos (by omega), if_pos (by omega)]
  have hend : dovetaillaw13_RelaMany.j0 2300 l false = some true := by
    simp only [dovetaillaw13_RelaMany.j0]
    rw [if_neg (by decide)]
    exact many_loop l (by omega) h3 l.length 2299 0 (by omega) (by omega)
  obtain ⟨m, hm⟩ : ∃ m : Nat, m = (24 * (1998 + a0 % 5) + a1 % 3).toNat := ⟨_, rfl⟩
  rw [← hm, parse_eq 2300 (List.replicate m 0) 4 1 (fun x hx => by rw [List.eq_of_mem_replicate hx]; omega) (by rw [List.length_replicate]; omega) (by omega) (by omega) (by omega)]
  simp only [Option.bind_some]
  have hk : m / 24 = 1998 + (a0 % 5).toNat := by omega
  have ho : (m % 24 : Nat) = (a1 % 3).toNat := by omega
  rcases zread m with ⟨z1, z2, p, z3, z4⟩ | ⟨z1, z3⟩
  · rw [z3]
    have hz : a1 % 3 = 0 := by omega
    have hle : 1998 + a0 % 5 ≤ 2000 := by omega
    rw [if_pos hle, hz]
    have hp : ((p.length : Int) != 1998 + a0 % 5) = false := by rw [bne_eq_false_iff_eq, z4]; omega
    rw [hp]
    simpa using hend
  · rw [z3]
    by_cases hle : 1998 + a0 % 5 ≤ 2000
    · rw [if_pos hle]
      have hz : (a1 % 3 == 0) = false := by rw [beq_eq_false_iff_ne]; omega
      rw [hz]
      simpa using hend
    · rw [if_neg hle]
      simpa using hend
end Go.Proofs.Ythjlhoclmbnjgaa.Pure
