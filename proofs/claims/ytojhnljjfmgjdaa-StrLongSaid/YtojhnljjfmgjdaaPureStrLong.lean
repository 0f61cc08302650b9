/- Just how long a name may be (StrLong: for every input the law returns true). -/
import Derived.Test.YtojhnljjfmgjdaaQ9
import Derived.Test.YtojhnljjfmgjdaaP62
set_option linter.unusedVariables false
namespace Go.Proofs.Ytojhnljjfmgjdaa.Pure
open Go.RowKit Go.Proofs.Ytojhnljjfmgjdaa.P Go.Proofs.YtojhnljjfmgjdaaX Go.Proofs.YtojhnljjfmgjdaaW.PrintWords Go.Proofs.YtojhnljjfmgjdaaW.PrintLast Go.Proofs.Ytojhnljjfmgjdaa.Q
theorem long_all : ∀ (p : Fin 7) (q : Fin 4), dovetaillaw9_StrLong.f 300 (p.val : Int) (q.val : Int) = some true := by decide +kernel
theorem long_l0 (x y : Int) (h : Int.tmod x 4 = Int.tmod y 4) : ∀ (k : Nat) (a : Int) (l : List Int) (i : Int), dovetaillaw9_StrLong.l0 k x a l i = dovetaillaw9_StrLong.l0 k y a l i := by
  intro k
  induction k with
  | zero => intro a l i; rfl
  | succ k ih =>
    intro a l i
    simp only [dovetaillaw9_StrLong.l0]
    rw [h, ih]
theorem long_f (k : Nat) (x x' y y' : Int) (hx : Int.tmod x 7 = Int.tmod x' 7) (hy : Int.tmod y 4 = Int.tmod y' 4) : dovetaillaw9_StrLong.f k x y = dovetaillaw9_StrLong.f k x' y' := by
  unfold dovetaillaw9_StrLong.f
  rw [hx, hy]
  simp only [long_l0 y y' hy]
theorem StrLong : dovetaillaw9_StrLong.Pure := by
  intro a0 a1 h0 h1
  have b0 := bounds_u8 h0
  have b1 := bounds_u8 h1
  refine ⟨300, ?_⟩
  rw [long_f 300 a0 (a0 % 7) a1 (a1 % 4) (by rw [Int.tmod_eq_emod_of_nonneg b0.1, Int.tmod_eq_emod_of_nonneg (by omega)]; omega) (by rw [Int.tmod_eq_emod_of_nonneg b1.1, Int.tmod_eq_emod_of_nonneg (by omega)]; omega)]
  have := long_all ⟨(a0 % 7).toNat, by omega⟩ ⟨(a1 % 4).toNat, by omega⟩
  simp only at this
  rw [show (((a0 % 7).toNat : Nat) : Int) = a0 % 7 by omega, show (((a1 % 4).toNat : Nat) : Int) = a1 % 4 by omega] at this
  exact this
end Go.Proofs.Ytojhnljjfmgjdaa.Pure
