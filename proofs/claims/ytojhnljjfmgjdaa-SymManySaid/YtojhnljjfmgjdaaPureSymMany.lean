/- Just how many symbols there may be (SymMany: for every input the law returns true). -/
import Derived.Test.YtojhnljjfmgjdaaQ7k
import Derived.Test.YtojhnljjfmgjdaaP44
set_option linter.unusedVariables false
namespace Go.Proofs.Ytojhnljjfmgjdaa.Pure
open Go.RowKit Go.Proofs.Ytojhnljjfmgjdaa.P Go.Proofs.YtojhnljjfmgjdaaX Go.Proofs.YtojhnljjfmgjdaaW.PrintWords Go.Proofs.YtojhnljjfmgjdaaW.PrintLast Go.Proofs.Ytojhnljjfmgjdaa.Q
theorem chunk_rep (m i : Nat) (h : 24 * (i + 1) ≤ m) : chunkS (List.replicate m 0) i = List.replicate 24 0 := by
  unfold chunkS
  rw [List.take_replicate, List.drop_replicate]
  congr 1
  omega
theorem sym_zero : symOf (List.replicate 24 0) = ⟨0, 0, 0, 0, 0, 0, 0⟩ := by
  unfold symOf
  rw [S45.mk.injEq]
  decide +kernel
theorem get_zero : (getS [0] 0).2 = true := by decide +kernel
theorem step_zero (i loc : Int) (h : i < loc) : ∃ nm, stepS (List.replicate 24 0) [0] i loc = some (⟨0, 0, 0, 0, 0, 0, 0⟩, nm) := by
  unfold stepS
  rw [sym_zero]
  have hr : ∀ nm : ByteArray, rightB ⟨0, 0, 0, 0, 0, 0, 0⟩ nm i loc = true := fun nm => by unfold rightB; rw [if_pos h]; decide
  exact ⟨_, if_pos ⟨get_zero, hr _⟩⟩
theorem scan_zero (m : Nat) (loc : Int) (d : Nat) : ∀ (i : Nat) (acc : List S45) (nms : List ByteArray), 24 * (i + d) ≤ m → ((i + d : Nat) : Int) = loc → (scanS (List.replicate m 0) [0] loc d i acc nms).2.2 = 0 := by
  induction d with
  | zero => intro i acc nms h1 h2; rfl
  | succ d ih =>
    intro i acc nms h1 h2
    simp only [scanS]
    rw [chunk_rep m i (by omega)]
    obtain ⟨nm, hs⟩ := step_zero i loc (by omega)
    rw [hs]
    exact ih (i + 1) _ _ (by omega) (by omega)
theorem parse_zero (m n : Nat) (o : Nat) (ho : o ≤ 1) (hm : m = 24 * n + o) (hn : 1 ≤ n) : (parseS (List.replicate m 0) [0] n).2.2 = if n ≤ 500 ∧ o = 0 then 0 else 32 := by
  unfold parseS
  rw [List.length_replicate]
  by_cases h : n ≤ 500 ∧ o = 0
  · rw [if_pos h, if_pos ⟨by omega, by omega, by omega, by omega, by omega, by rw [List.take_replicate]; congr 1; omega⟩]
    exact scan_zero m n _ 1 _ _ (by omega) (by omega)
  · rw [if_neg h, if_neg (by omega)]
theorem many_l0 (d : Nat) : ∀ (k : Nat) (x1 : Int) (n m o i : Nat), o ≤ 1 → m = 24 * n + o → 1 ≤ n → n ≤ 502 → i + d = n → d + 600 < k → Int.tmod x1 2 = o →
    dovetaillaw12_SymMany.l0 k x1 n (List.replicate m 0) i = some true := by
  induction d with
  | zero =>
    intro k x1 n m o i ho hm h1 hn hi hk hx
    obtain ⟨k, rfl⟩ : ∃ m, k = m + 1 := ⟨k - 1, by omega⟩
    simp only [dovetaillaw12_SymMany.l0]
    rw [if_neg (by omega), Int.emod_eq_of_lt (by omega) (by omega), parseS_eq k _ [0] n (Byt.rep m) (by rw [List.length_replicate]; omega) (by decide) (by omega) (by omega) (by omega)]
    simp only [Option.bind_some]
    rw [parse_zero m n o ho hm h1, hx]
    by_cases h5 : n ≤ 500
    · rw [if_pos (by omega)]
      by_cases h0 : o = 0
      · rw [if_pos ⟨h5, h0⟩, h0]; rfl
      · rw [if_neg (fun h => h0 h.2), show o = 1 by omega]; rfl
    · rw [if_neg (by omega), if_neg (fun h => h5 h.1)]; rfl
  | succ d ih =>
    intro k x1 n m o i ho hm h1 hn hi hk hx
    obtain ⟨k, rfl⟩ : ∃ m, k = m + 1 := ⟨k - 1, by omega⟩
    have E : Aside0 (wrap64 (24 * (i : Int)) = ((24 * i : Nat) : Int) ∧ wrap64 ((i : Int) + 1) = ((i + 1 : Nat) : Int)) := ⟨⟨by rw [Int.mul_comm]; exact w24 i (by omega), w1 i (by omega)⟩⟩
    simp only [dovetaillaw12_SymMany.l0]
    rw [if_pos (by omega), E.out.1, E.out.2, if_pos (by omega), if_pos (by rw [List.length_replicate]; omega), List.set_replicate_self]
    exact ih k x1 n m o (i + 1) ho hm h1 hn (by omega) (by omega) hx
theorem nums (a0 a1 : Int) (h0 : 0 ≤ a0) (h1 : a0 ≤ 255) (g0 : 0 ≤ a1) (g1 : a1 ≤ 255) : ∃ n m o : Nat, o ≤ 1 ∧ m = 24 * n + o ∧ 1 ≤ n ∧ n ≤ 502 ∧ Int.tmod a1 2 = o ∧ wrap64 (498 + wrap64 (Int.tmod a0 5)) = (n : Int) ∧ wrap64 (wrap64 (24 * (n : Int)) + wrap64 (Int.tmod a1 2)) = (m : Int) := by
  refine ⟨498 + (a0 % 5).toNat, 24 * (498 + (a0 % 5).toNat) + (a1 % 2).toNat, (a1 % 2).toNat, by omega, rfl, by omega, by omega, ?_, ?_, ?_⟩
  · rw [Int.tmod_eq_emod_of_nonneg g0]; omega
  · rw [Int.tmod_eq_emod_of_nonneg h0]; unfold wrap64; omega
  · rw [Int.tmod_eq_emod_of_nonneg g0]; unfold wrap64; omega
theorem SymMany : dovetaillaw12_SymMany.Pure := by
  intro a0 a1 h0 h1
  have b0 := bounds_u8 h0
  have b1 := bounds_u8 h1
  obtain ⟨n, m, o, ho, hm, h1n, hn, hx, e1, e2⟩ := nums a0 a1 b0.1 b0.2 b1.1 b1.2
  refine ⟨1300, ?_⟩
  unfold dovetaillaw12_SymMany.f
  rw [known12 1300 (by omega)]
  simp only [Option.bind_some, if_true]
  rw [e1, e2]
  clear e1 e2
  rw [if_pos (by omega), if_pos (by omega), Int.toNat_natCast]
  exact many_l0 (n - 1) 1300 a1 n m o 1 ho hm h1n hn (by omega) (by omega) hx
end Go.Proofs.Ytojhnljjfmgjdaa.Pure
