-- printed by this session's program (wip/print), out of the translation; Lean checks it
import Derived.Test.YtojhnljjfmgjdaaP0
namespace Go.Proofs.Ytojhnljjfmgjdaa.P
open Go.RowKit Go.Proofs.YtojhnljjfmgjdaaW.PrintWords Go.Proofs.YtojhnljjfmgjdaaW.PrintLast Go.Proofs.YtojhnljjfmgjdaaW.PrintMore
attribute [local go_sem] max2_int min2_int max_two min_two max_three min_three max_four min_four   -- for this text's walks alone
set_option linter.unusedVariables false
set_option linter.unusedSimpArgs false
open Go.Proofs.YtojhnljjfmgjdaaX

/-! ### dovetailref9_Name: function 28 -/
def dovetailref9_Name.l0 : Nat → List Int → Int → Int → Option (ByteArray × Bool)
  | 0, _, _, _ => none
  | k + 1, x0, x1, x6 => if x6 < (IntKind.u64.wrap ((x0.length : Int))) then (if 0 ≤ x6 then (if x6 < (x0.length : Int) then (if (rd x0 x6) = 0 then (if (IntKind.u64.wrap (x6 - (IntKind.u64.wrap (x1)))) > 200 then (some ((⟨#[]⟩ : ByteArray), false)) else (if 0 ≤ x1 then (if x1 ≤ x6 then (if x6 ≤ (x0.length : Int) then (some (strOfNums ((x0.take (x6 : Int).toNat).drop (x1 : Int).toNat), true)) else (none)) else (none)) else (none))) else (dovetailref9_Name.l0 k x0 x1 (IntKind.u64.wrap (x6 + 1)))) else (none)) else (none)) else (some ((⟨#[]⟩ : ByteArray), false))
def dovetailref9_Name.f (k : Nat) (l0 : List Int) (a1 : Int) : Option (ByteArray × Bool) := dovetailref9_Name.l0 k l0 a1 (IntKind.u64.wrap (a1))
theorem dovetailref9_Name.mono_l : ∀ k, (∀ y0 y1 y2, LeO (dovetailref9_Name.l0 k y0 y1 y2) (dovetailref9_Name.l0 (k + 1) y0 y1 y2))
  | 0 => fun _ _ _ r h => by simp [dovetailref9_Name.l0] at h
  | k + 1 => by
    have ih0 := dovetailref9_Name.mono_l k
    · intro y0 y1 y2
      unfold dovetailref9_Name.l0
      repeat' first
      | (with_reducible exact ih0 _ _ _)
      | (with_reducible exact LeO.refl _)
      | (with_reducible exact LeO.none _)
      | (with_reducible refine LeO.ite ?_ ?_)
      | (with_reducible refine LeO.bind ?_ (fun _ => ?_))
      | exact ih0 _ _ _
      | exact LeO.none _
      | refine LeO.ite ?_ ?_
      | refine LeO.bind ?_ (fun _ => ?_)
theorem dovetailref9_Name.mono : ∀ a0 a1 k, LeO (dovetailref9_Name.f k a0 a1) (dovetailref9_Name.f (k + 1) a0 a1) := by
  intro a0 a1 k
  have ih0 := dovetailref9_Name.mono_l k
  unfold dovetailref9_Name.f
  repeat' first
      | (with_reducible exact ih0 _ _ _)
      | (with_reducible exact LeO.refl _)
      | (with_reducible exact LeO.none _)
      | (with_reducible refine LeO.ite ?_ ?_)
      | (with_reducible refine LeO.bind ?_ (fun _ => ?_))
      | exact ih0 _ _ _
      | exact LeO.none _
      | refine LeO.ite ?_ ?_
      | refine LeO.bind ?_ (fun _ => ?_)
set_option maxHeartbeats 8000000 in
set_option maxRecDepth 100000 in
theorem dovetailref9_Name.calls (k : Nat) (A0 : Option Addr) (c0 : Nat) (l0 : List Int) (a1 : Int) (r1 : ByteArray) (r2 : Bool) (w : World) (hr0 : Kd.C (Kd.int .u8) w A0 l0.length l0) (hc0 : l0.length ≤ c0) (h : dovetailref9_Name.f k l0 a1 = some (r1, r2)) :
    Calls Try.prog 28 #[.slice A0 l0.length c0, .int .u32 a1] w fun e w' => e = .returned (.tuple #[.string r1, .bool r2]) ∧ Drawn0 w w' := by
  have HR0 := Aside0.mk hr0
  have HC0 := Aside0.mk hc0
  clear hr0 hc0
  have H : (dovetailref9_Name.l0 k l0 a1 (IntKind.u64.wrap (a1))) = some (r1, r2) := h
  clear h
  have H' := Aside0.mk H
  clear H
  go_enter Try.func28, Try.ntmps28
  go_wp2
  go_loopg [6] k (fun kq v6 w' => ∃ (x6_1 : Int), v6 = .int .u64 x6_1 ∧ Aside0 (dovetailref9_Name.l0 kq l0 a1 x6_1 = some (r1, r2)) ∧ Aside0 (kq ≤ k) ∧ Drawn0 w w')
  case atStart => exact ⟨(IntKind.u64.wrap (a1)), (by first | rfl | (simp; done) | (simp [*]; done)), H', ⟨Nat.le_refl _⟩, by repeat (first | exact Drawn0.refl _ | apply Drawn0.step)⟩
  case round =>
    clear H'
    try clear c2
    try clear p2
    obtain ⟨x6_1, rfl, HA, HK1, ⟨m1, rfl⟩⟩ := hrel
    cases gk with
    | zero => exact absurd HA.out (by simp [dovetailref9_Name.l0])
    | succ k1 =>
      have H := HA.out
      clear HA
      simp only [dovetailref9_Name.l0] at H
      by_cases c3 : x6_1 < (IntKind.u64.wrap ((l0.length : Int)))
      · rw [if_pos c3] at H
        have c3b0 : decide (x6_1 < (IntKind.u64.wrap ((l0.length : Int)))) = true := decide_eq_true c3
        clear c3
        by_cases c4 : 0 ≤ x6_1
        · rw [if_pos c4] at H
          have c4b0 : decide (0 ≤ x6_1) = true := decide_eq_true c4
          clear c4
          by_cases c5 : x6_1 < (l0.length : Int)
          · rw [if_pos c5] at H
            have c5b0 : decide (x6_1 < (l0.length : Int)) = true := decide_eq_true c5
            clear c5
            by_cases c6 : (rd l0 x6_1) = 0
            · rw [if_pos c6] at H
              have c6b0 : ((rd l0 x6_1) == 0) = true := beq_iff_eq.mpr c6
              have c6b1 : ((rd l0 x6_1) != 0) = false := bne_eq_false_iff_eq.mpr c6
              clear c6
              by_cases c7 : (IntKind.u64.wrap (x6_1 - (IntKind.u64.wrap (a1)))) > 200
              · rw [if_pos c7] at H
                have c7b0 : decide (200 < (IntKind.u64.wrap (x6_1 - (IntKind.u64.wrap (a1))))) = true := decide_eq_true c7
                clear c7
                simp only [Option.some.injEq, Prod.mk.injEq] at H
                obtain ⟨rfl, rfl⟩ := H
                have p464 : 0 ≤ (x6_1 : Int) := of_decide_eq_true (by first | (with_reducible assumption) | assumption)
                have q464 : x6_1 < (l0.length : Int) := of_decide_eq_true (by first | (with_reducible assumption) | assumption)
                obtain ⟨ad464, e464, hx464_0⟩ := Kd.at_int HR0.out x6_1 p464 q464
                cases e464
                replace p464 := eq_true p464
                replace q464 := eq_true q464
                go_wp2
                go_ret2
                exact ⟨by first | rfl | (simp; done) | (simp [*]; done), by repeat (first | exact Drawn0.refl _ | apply Drawn0.step)⟩
              · rw [if_neg c7] at H
                have c7b0 : decide (200 < (IntKind.u64.wrap (x6_1 - (IntKind.u64.wrap (a1))))) = false := decide_eq_false c7
                clear c7
                by_cases c8 : 0 ≤ a1
                · rw [if_pos c8] at H
                  have c8b0 := eq_true c8
                  have c8b1 : decide (0 ≤ a1) = true := decide_eq_true c8
                  clear c8
                  by_cases c9 : a1 ≤ x6_1
                  · rw [if_pos c9] at H
                    have c9b0 := eq_true c9
                    have c9b1 : decide (a1 ≤ x6_1) = true := decide_eq_true c9
                    clear c9
                    by_cases c10 : x6_1 ≤ (l0.length : Int)
                    · rw [if_pos c10] at H
                      have c10b0 := eq_true c10
                      have c10b1 : decide (x6_1 ≤ (l0.length : Int)) = true := decide_eq_true c10
                      clear c10
                      simp only [Option.some.injEq, Prod.mk.injEq] at H
                      obtain ⟨rfl, rfl⟩ := H
                      have p464 : 0 ≤ (x6_1 : Int) := of_decide_eq_true (by first | (with_reducible assumption) | assumption)
                      have q464 : x6_1 < (l0.length : Int) := of_decide_eq_true (by first | (with_reducible assumption) | assumption)
                      obtain ⟨ad464, e464, hx464_0⟩ := Kd.at_int HR0.out x6_1 p464 q464
                      cases e464
                      replace p464 := eq_true p464
                      replace q464 := eq_true q464
                      obtain ⟨i011, hi011, _, hsz11, _⟩ := info_parts info5
                      obtain ⟨A11, hcut11, hA11, hC11⟩ := print_mid_of (P := Try.prog) (Value.int .u8) 0 22 5 .u32 .u64 Try.underlying22 hi011 hsz11 (some ad464) c0 l0 a1 x6_1 (of_decide_eq_true (by first | (with_reducible assumption) | assumption)) (by first | omega | exact of_decide_eq_true (by first | (with_reducible assumption) | assumption)) (of_decide_eq_true (by first | (with_reducible assumption) | assumption)) HC0.out
                      have HR465 := Aside0.mk (Kd.C_of_reads (h1 := fun _ => rfl) (hA11 _ (Kd.reads_of_C HR0.out)))
                      have HC465 := Aside0.mk hC11
                      clear hA11 hC11 hi011 hsz11
                      have hcv12 := fun m_ => Kd.C_string (P := Try.prog) (A := A11) (c := (c0 - a1.toNat)) Try.underlying22 Try.underlying5 Try.underlying9 (Kd.C_drewN HR465.out m_)
                      have hz_ : x6_1.toNat ≤ l0.length := by have := of_eq_true q464; have := of_eq_true p464; omega
                      rw [show ((l0.take (x6_1 : Int).toNat).drop (a1 : Int).toNat).length = x6_1.toNat - a1.toNat from by rw [List.length_drop, List.length_take, Nat.min_eq_left hz_]] at hcv12
                      clear hz_
                      go_wp2
                      go_ret2
                      exact ⟨by first | rfl | (simp; done) | (simp [*]; done), by repeat (first | exact Drawn0.refl _ | apply Drawn0.step)⟩
                    · rw [if_neg c10] at H
                      exact absurd H (by simp)
                  · rw [if_neg c9] at H
                    exact absurd H (by simp)
                · rw [if_neg c8] at H
                  exact absurd H (by simp)
            · rw [if_neg c6] at H
              have c6b0 : ((rd l0 x6_1) == 0) = false := beq_eq_false_iff_ne.mpr c6
              have c6b1 : ((rd l0 x6_1) != 0) = true := bne_iff_ne.mpr c6
              have H' := Aside0.mk H
              clear H
              have p464 : 0 ≤ (x6_1 : Int) := of_decide_eq_true (by first | (with_reducible assumption) | assumption)
              have q464 : x6_1 < (l0.length : Int) := of_decide_eq_true (by first | (with_reducible assumption) | assumption)
              obtain ⟨ad464, e464, hx464_0⟩ := Kd.at_int HR0.out x6_1 p464 q464
              cases e464
              replace p464 := eq_true p464
              replace q464 := eq_true q464
              go_wp2
              go_roundg k1
              case measure => have := HK1.out; omega
              case rel => exact ⟨(IntKind.u64.wrap (x6_1 + 1)), (by first | rfl | (simp; done) | (simp [*]; done)), H', ⟨by have := HK1.out; omega⟩, by repeat (first | exact Drawn0.refl _ | apply Drawn0.step)⟩
          · rw [if_neg c5] at H
            exact absurd H (by simp)
        · rw [if_neg c4] at H
          exact absurd H (by simp)
      · rw [if_neg c3] at H
        have c3b0 : decide (x6_1 < (IntKind.u64.wrap ((l0.length : Int)))) = false := decide_eq_false c3
        clear c3
        simp only [Option.some.injEq, Prod.mk.injEq] at H
        obtain ⟨rfl, rfl⟩ := H
        go_wp2
        go_ret2
        exact ⟨by first | rfl | (simp; done) | (simp [*]; done), by repeat (first | exact Drawn0.refl _ | apply Drawn0.step)⟩

end Go.Proofs.Ytojhnljjfmgjdaa.P
