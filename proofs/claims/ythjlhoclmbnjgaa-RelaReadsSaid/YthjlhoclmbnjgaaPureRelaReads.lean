/- Any relocations, raw, and any bytes, for a section of any size, are read as the document's, or refused (RelaReads: for every input the law returns true). -/
import Derived.Test.YthjlhoclmbnjgaaQ6
import Derived.Test.YthjlhoclmbnjgaaOpenRelaReads
import Derived.Test.YthjlhoclmbnjgaaP48
set_option linter.unusedVariables false
namespace Go.Proofs.Ythjlhoclmbnjgaa.Pure
open Go.RowKit Go.Proofs.Ythjlhoclmbnjgaa.P Go.Proofs.YthjlhoclmbnjgaaX Go.Proofs.YthjlhoclmbnjgaaW.PrintWords Go.Proofs.YthjlhoclmbnjgaaW.PrintLast Go.Proofs.Ythjlhoclmbnjgaa.Q
theorem rdL1_at (a b : List Int) : rd_L1 [a, b] 0 = a ∧ rd_L1 [a, b] 1 = b := ⟨rfl, rfl⟩
theorem RR_step (k : Nat) (n syms : Int) (a b y : List Int) (i : Int) (h0 : 0 ≤ i) (h2 : i < 2) (hy : rd_L1 [a, b] i = y)
    (s : rela_Parse.f k y n syms = some (readR y n syms) ∧ dovetailref9_Relas.f k y n syms = some (readR y n syms) ∧ dovetailhelp_Relas.f k (readR y n syms).1 (readR y n syms).1 = some true) :
    dovetaillaw13_RelaReads.l0 (k + 1) n syms [a, b] 2 i = dovetaillaw13_RelaReads.l0 k n syms [a, b] 2 (i + 1) := by
  simp only [dovetaillaw13_RelaReads.l0]
  rw [if_pos h2, if_pos h0, if_pos (by simpa using h2), hy, s.1]
  simp only [Option.bind_some]
  rw [s.2.1]
  simp only [Option.bind_some, if_true]
  rw [s.2.2]
  simp only [Option.bind_some, if_true]
  rw [w64_in (by omega) (by omega)]
theorem RelaReads (l : List S74) (b : List Int) (n syms : Int) (h1 : l.length ≤ 9223372036854775807) (h2 : ∀ y ∈ l, OpenRelaReads.ok_74 y) (h3 : b.length ≤ 9223372036854775807) (h4 : b.length * 1 ≤ 140737488351232) (h5 : ∀ y ∈ b, (Lit.int .u8 y).wf = true) (h6 : (Lit.int .u64 n).wf = true) (h7 : (Lit.int .i64 syms).wf = true) :
    ∃ k, dovetaillaw13_RelaReads.f k l b n syms = some true := by
  have b6 := bounds_u64 h6
  have b7 := bounds_i64 h7
  refine ⟨2105, ?_⟩
  unfold dovetaillaw13_RelaReads.f
  rw [known13 2105 (by omega)]
  simp only [Option.bind_some, if_true]
  by_cases hl : (l.length : Int) > 20
  · rw [if_pos hl]
    simp only [dovetaillaw13_RelaReads.j0, if_true]
  rw [if_neg hl]
  simp only [dovetaillaw13_RelaReads.j0]
  by_cases hb : (b.length : Int) > 500
  · rw [decide_eq_true hb, if_pos rfl]
  rw [decide_eq_false hb, if_neg (by decide), rela_Bytes_eq 2104 l (by omega) (by omega)]
  simp only [Option.bind_some]
  rw [RelaBytes_eq 2104 l (by omega) (by omega)]
  simp only [Option.bind_some, if_true]
  have hbyt : Byt b := Byt.of_wf h5
  have step : ∀ (y : List Int) (k : Nat), 2100 ≤ k → Byt y → y.length ≤ 500 → rela_Parse.f k y n syms = some (readR y n syms) ∧ dovetailref9_Relas.f k y n syms = some (readR y n syms) ∧ dovetailhelp_Relas.f k (readR y n syms).1 (readR y n syms).1 = some true := by
    intro y k hk hy hlen
    have := readR_length y n syms
    exact ⟨parse_eq k y n syms hy (by omega) (by omega) (by omega) hk, Relas_eq k y n syms hy (by omega) (by omega) hk, hRelas_refl k _ (by omega) (by omega)⟩
  have hlf : (l.flatMap encR).length ≤ 500 := by rw [flatMap_encR_length]; omega
  have s1 := step (l.flatMap encR) 2103 (by omega) (flatMap_encR_byt l) hlf
  have s2 := step b 2102 (by omega) hbyt (by omega)
  show dovetaillaw13_RelaReads.l0 (2103 + 1) n syms [l.flatMap encR, b] 2 0 = some true
  rw [RR_step 2103 n syms _ _ _ 0 (by omega) (by omega) (rdL1_at _ _).1 s1]
  show dovetaillaw13_RelaReads.l0 (2102 + 1) n syms [l.flatMap encR, b] 2 1 = some true
  rw [RR_step 2102 n syms _ _ _ 1 (by omega) (by omega) (rdL1_at _ _).2 s2]
  show dovetaillaw13_RelaReads.l0 (2101 + 1) n syms [l.flatMap encR, b] 2 2 = some true
  generalize 2101 = k
  simp only [dovetaillaw13_RelaReads.l0]
  rw [if_neg (by omega)]
end Go.Proofs.Ythjlhoclmbnjgaa.Pure
