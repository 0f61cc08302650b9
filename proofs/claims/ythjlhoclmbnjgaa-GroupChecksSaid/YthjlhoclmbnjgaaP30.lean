-- printed by this session's program (wip/print), out of the translation; Lean checks it
import Derived.Test.YthjlhoclmbnjgaaP0
namespace Go.Proofs.Ythjlhoclmbnjgaa.P
open Go.RowKit Go.Proofs.YthjlhoclmbnjgaaW.PrintWords Go.Proofs.YthjlhoclmbnjgaaW.PrintLast Go.Proofs.YthjlhoclmbnjgaaW.PrintMore
attribute [local go_sem] max2_int min2_int max_two min_two max_three min_three max_four min_four   -- for this text's walks alone
set_option linter.unusedVariables false
set_option linter.unusedSimpArgs false
open Go.Proofs.YthjlhoclmbnjgaaX

/-! ### dovetailref9_GroupCheck: function 30 -/
mutual
def dovetailref9_GroupCheck.l0 : Nat → List (List Int) → Int → Option (Int)
  | 0, _, _ => none
  | k + 1, x0, x3 => if x3 < (x0.length : Int) then (dovetailref9_GroupCheck.l1 k x0 x3 0) else (some 0)
def dovetailref9_GroupCheck.l1 : Nat → List (List Int) → Int → Int → Option (Int)
  | 0, _, _, _ => none
  | k + 1, x0, x3, x4 => if x4 < x3 then (dovetailref9_GroupCheck.l2 k x0 x3 x4 0) else (dovetailref9_GroupCheck.l0 k x0 (wrap64 (x3 + 1)))
def dovetailref9_GroupCheck.l2 : Nat → List (List Int) → Int → Int → Int → Option (Int)
  | 0, _, _, _, _ => none
  | k + 1, x0, x3, x4, x5 => if 0 ≤ x3 then (if x3 < (x0.length : Int) then (if x5 < ((rd_L10 x0 x3).length : Int) then (dovetailref9_GroupCheck.l3 k x0 x3 x4 x5 0) else (dovetailref9_GroupCheck.l1 k x0 x3 (wrap64 (x4 + 1)))) else (none)) else (none)
def dovetailref9_GroupCheck.l3 : Nat → List (List Int) → Int → Int → Int → Int → Option (Int)
  | 0, _, _, _, _, _ => none
  | k + 1, x0, x3, x4, x5, x6 => if 0 ≤ x4 then (if x4 < (x0.length : Int) then (if x6 < ((rd_L10 x0 x4).length : Int) then (if 0 ≤ x3 then (if x3 < (x0.length : Int) then (if 0 ≤ x5 then (if x5 < ((rd_L10 x0 x3).length : Int) then (if 0 ≤ x6 then (if (rd (rd_L10 x0 x3) x5) = (rd (rd_L10 x0 x4) x6) then (some 34) else (dovetailref9_GroupCheck.l3 k x0 x3 x4 x5 (wrap64 (x6 + 1)))) else (none)) else (none)) else (none)) else (none)) else (none)) else (dovetailref9_GroupCheck.l2 k x0 x3 x4 (wrap64 (x5 + 1)))) else (none)) else (none)
end
def dovetailref9_GroupCheck.f (k : Nat) (l0 : List (List Int)) : Option (Int) := dovetailref9_GroupCheck.l0 k l0 0
theorem dovetailref9_GroupCheck.mono_l : ∀ k, (∀ y0 y1, LeO (dovetailref9_GroupCheck.l0 k y0 y1) (dovetailref9_GroupCheck.l0 (k + 1) y0 y1)) ∧ (∀ y0 y1 y2, LeO (dovetailref9_GroupCheck.l1 k y0 y1 y2) (dovetailref9_GroupCheck.l1 (k + 1) y0 y1 y2)) ∧ (∀ y0 y1 y2 y3, LeO (dovetailref9_GroupCheck.l2 k y0 y1 y2 y3) (dovetailref9_GroupCheck.l2 (k + 1) y0 y1 y2 y3)) ∧ (∀ y0 y1 y2 y3 y4, LeO (dovetailref9_GroupCheck.l3 k y0 y1 y2 y3 y4) (dovetailref9_GroupCheck.l3 (k + 1) y0 y1 y2 y3 y4))
  | 0 => ⟨fun _ _ r h => by simp [dovetailref9_GroupCheck.l0] at h, fun _ _ _ r h => by simp [dovetailref9_GroupCheck.l1] at h, fun _ _ _ _ r h => by simp [dovetailref9_GroupCheck.l2] at h, fun _ _ _ _ _ r h => by simp [dovetailref9_GroupCheck.l3] at h⟩
  | k + 1 => by
    obtain ⟨ih0, ih1, ih2, ih3⟩ := dovetailref9_GroupCheck.mono_l k
    refine ⟨?_, ?_, ?_, ?_⟩
    · intro y0 y1
      unfold dovetailref9_GroupCheck.l0
      repeat' first
      | (with_reducible exact ih0 _ _)
      | (with_reducible exact ih1 _ _ _)
      | (with_reducible exact ih2 _ _ _ _)
      | (with_reducible exact ih3 _ _ _ _ _)
      | (with_reducible exact LeO.refl _)
      | (with_reducible exact LeO.none _)
      | (with_reducible refine LeO.ite ?_ ?_)
      | (with_reducible refine LeO.bind ?_ (fun _ => ?_))
      | exact ih0 _ _
      | exact ih1 _ _ _
      | exact ih2 _ _ _ _
      | exact ih3 _ _ _ _ _
      | exact LeO.none _
      | refine LeO.ite ?_ ?_
      | refine LeO.bind ?_ (fun _ => ?_)
    · intro y0 y1 y2
      unfold dovetailref9_GroupCheck.l1
      repeat' first
      | (with_reducible exact ih0 _ _)
      | (with_reducible exact ih1 _ _ _)
      | (with_reducible exact ih2 _ _ _ _)
      | (with_reducible exact ih3 _ _ _ _ _)
      | (with_reducible exact LeO.refl _)
      | (with_reducible exact LeO.none _)
      | (with_reducible refine LeO.ite ?_ ?_)
      | (with_reducible refine LeO.bind ?_ (fun _ => ?_))
      | exact ih0 _ _
      | exact ih1 _ _ _
      | exact ih2 _ _ _ _
      | exact ih3 _ _ _ _ _
      | exact LeO.none _
      | refine LeO.ite ?_ ?_
      | refine LeO.bind ?_ (fun _ => ?_)
    · intro y0 y1 y2 y3
      unfold dovetailref9_GroupCheck.l2
      repeat' first
      | (with_reducible exact ih0 _ _)
      | (with_reducible exact ih1 _ _ _)
      | (with_reducible exact ih2 _ _ _ _)
      | (with_reducible exact ih3 _ _ _ _ _)
      | (with_reducible exact LeO.refl _)
      | (with_reducible exact LeO.none _)
      | (with_reducible refine LeO.ite ?_ ?_)
      | (with_reducible refine LeO.bind ?_ (fun _ => ?_))
      | exact ih0 _ _
      | exact ih1 _ _ _
      | exact ih2 _ _ _ _
      | exact ih3 _ _ _ _ _
      | exact LeO.none _
      | refine LeO.ite ?_ ?_
      | refine LeO.bind ?_ (fun _ => ?_)
    · intro y0 y1 y2 y3 y4
      unfold dovetailref9_GroupCheck.l3
      repeat' first
      | (with_reducible exact ih0 _ _)
      | (with_reducible exact ih1 _ _ _)
      | (with_reducible exact ih2 _ _ _ _)
      | (with_reducible exact ih3 _ _ _ _ _)
      | (with_reducible exact LeO.refl _)
      | (with_reducible exact LeO.none _)
      | (with_reducible refine LeO.ite ?_ ?_)
      | (with_reducible refine LeO.bind ?_ (fun _ => ?_))
      | exact ih0 _ _
      | exact ih1 _ _ _
      | exact ih2 _ _ _ _
      | exact ih3 _ _ _ _ _
      | exact LeO.none _
      | refine LeO.ite ?_ ?_
      | refine LeO.bind ?_ (fun _ => ?_)
theorem dovetailref9_GroupCheck.mono : ∀ a0 k, LeO (dovetailref9_GroupCheck.f k a0) (dovetailref9_GroupCheck.f (k + 1) a0) := by
  intro a0 k
  obtain ⟨ih0, ih1, ih2, ih3⟩ := dovetailref9_GroupCheck.mono_l k
  unfold dovetailref9_GroupCheck.f
  repeat' first
      | (with_reducible exact ih0 _ _)
      | (with_reducible exact ih1 _ _ _)
      | (with_reducible exact ih2 _ _ _ _)
      | (with_reducible exact ih3 _ _ _ _ _)
      | (with_reducible exact LeO.refl _)
      | (with_reducible exact LeO.none _)
      | (with_reducible refine LeO.ite ?_ ?_)
      | (with_reducible refine LeO.bind ?_ (fun _ => ?_))
      | exact ih0 _ _
      | exact ih1 _ _ _
      | exact ih2 _ _ _ _
      | exact ih3 _ _ _ _ _
      | exact LeO.none _
      | refine LeO.ite ?_ ?_
      | refine LeO.bind ?_ (fun _ => ?_)
set_option maxHeartbeats 8000000 in
set_option maxRecDepth 100000 in
theorem dovetailref9_GroupCheck.calls (k : Nat) (A0 : Option Addr) (c0 : Nat) (l0 : List (List Int)) (r : Int) (w : World) (hr0 : Kd.C (Kd.slice 3 (Kd.int .i64)) w A0 l0.length l0) (hc0 : l0.length ≤ c0) (h : dovetailref9_GroupCheck.f k l0 = some r) :
    Calls Try.prog 30 #[.slice A0 l0.length c0] w fun e w' => e = .returned (.int .i64 r) ∧ Drawn0 w w' := by
  have HR0 := Aside0.mk hr0
  have HC0 := Aside0.mk hc0
  clear hr0 hc0
  have H : (dovetailref9_GroupCheck.l0 k l0 0) = some r := h
  clear h
  have H' := Aside0.mk H
  clear H
  go_enter Try.func30, Try.ntmps30
  go_wp2
  repeat (go_quiet (fail); try go_wp2)
  go_loopg [3] k (fun kq v3 w' => ∃ (x3_1 : Int), v3 = .int .i64 x3_1 ∧ Aside0 (dovetailref9_GroupCheck.l0 kq l0 x3_1 = some r) ∧ Aside0 (kq ≤ k) ∧ Drawn0 w w')
  case atStart => exact ⟨(0), (by first | rfl | (simp; done) | (simp [*]; done)), H', ⟨Nat.le_refl _⟩, by repeat (first | exact Drawn0.refl _ | apply Drawn0.step)⟩
  case round =>
    clear H'
    obtain ⟨x3_1, rfl, HA, HK1, ⟨m1, rfl⟩⟩ := hrel
    cases gk with
    | zero => exact absurd HA.out (by simp [dovetailref9_GroupCheck.l0])
    | succ k1 =>
      have H := HA.out
      clear HA
      simp only [dovetailref9_GroupCheck.l0] at H
      by_cases c2 : x3_1 < (l0.length : Int)
      · rw [if_pos c2] at H
        have c2b0 : decide (x3_1 < (l0.length : Int)) = true := decide_eq_true c2
        clear c2
        have H' := Aside0.mk H
        clear H
        go_wp2
        repeat (go_quiet (fail); try go_wp2)
        go_loopg [4] k1 (fun kq v4 w' => ∃ (x4_2 : Int), v4 = .int .i64 x4_2 ∧ Aside0 (dovetailref9_GroupCheck.l1 kq l0 x3_1 x4_2 = some r) ∧ Aside0 (kq ≤ k1) ∧ Drawn0 w w')
        case atStart => exact ⟨(0), (by first | rfl | (simp; done) | (simp [*]; done)), H', ⟨Nat.le_refl _⟩, by repeat (first | exact Drawn0.refl _ | apply Drawn0.step)⟩
        case round =>
          clear H'
          try clear c2
          try clear c2b0
          try clear p2
          obtain ⟨x4_2, rfl, HA, HK2, ⟨m2, rfl⟩⟩ := hrel
          cases gk with
          | zero => exact absurd HA.out (by simp [dovetailref9_GroupCheck.l1])
          | succ k2 =>
            have H := HA.out
            clear HA
            simp only [dovetailref9_GroupCheck.l1] at H
            by_cases c3 : x4_2 < x3_1
            · rw [if_pos c3] at H
              have c3b0 : decide (x4_2 < x3_1) = true := decide_eq_true c3
              clear c3
              have H' := Aside0.mk H
              clear H
              go_wp2
              repeat (go_quiet (fail); try go_wp2)
              go_loopg [5] k2 (fun kq v5 w' => ∃ (x5_3 : Int), v5 = .int .i64 x5_3 ∧ Aside0 (dovetailref9_GroupCheck.l2 kq l0 x3_1 x4_2 x5_3 = some r) ∧ Aside0 (kq ≤ k2) ∧ Drawn0 w w')
              case atStart => exact ⟨(0), (by first | rfl | (simp; done) | (simp [*]; done)), H', ⟨Nat.le_refl _⟩, by repeat (first | exact Drawn0.refl _ | apply Drawn0.step)⟩
              case round =>
                clear H'
                try clear c2
                try clear c2b0
                try clear p2
                try clear c3
                try clear c3b0
                try clear p2
                obtain ⟨x5_3, rfl, HA, HK3, ⟨m3, rfl⟩⟩ := hrel
                cases gk with
                | zero => exact absurd HA.out (by simp [dovetailref9_GroupCheck.l2])
                | succ k3 =>
                  have H := HA.out
                  clear HA
                  simp only [dovetailref9_GroupCheck.l2] at H
                  by_cases c4 : 0 ≤ x3_1
                  · rw [if_pos c4] at H
                    have c4b0 : decide (0 ≤ x3_1) = true := decide_eq_true c4
                    clear c4
                    by_cases c5 : x3_1 < (l0.length : Int)
                    · rw [if_pos c5] at H
                      have c5b0 : decide (x3_1 < (l0.length : Int)) = true := decide_eq_true c5
                      clear c5
                      by_cases c6 : x5_3 < ((rd_L10 l0 x3_1).length : Int)
                      · rw [if_pos c6] at H
                        have c6b0 : decide (x5_3 < ((rd_L10 l0 x3_1).length : Int)) = true := decide_eq_true c6
                        clear c6
                        have H' := Aside0.mk H
                        clear H
                        have p276 : 0 ≤ (x3_1 : Int) := of_decide_eq_true (by first | (with_reducible assumption) | assumption)
                        have q276 : x3_1 < (l0.length : Int) := of_decide_eq_true (by first | (with_reducible assumption) | assumption)
                        obtain ⟨ad276, A276_0, c276_0, e276, hx276_0, hl276_0, hi276_0⟩ := at_L10 HR0.out x3_1 p276 q276
                        cases e276
                        have HR276_0 := Aside0.mk hi276_0
                        have HC276_0 := Aside0.mk hl276_0
                        clear hi276_0 hl276_0
                        replace p276 := eq_true p276
                        replace q276 := eq_true q276
                        go_wp2
                        repeat (go_quiet (fail); try go_wp2)
                        go_loopg [6] k3 (fun kq v6 w' => ∃ (x6_4 : Int), v6 = .int .i64 x6_4 ∧ Aside0 (dovetailref9_GroupCheck.l3 kq l0 x3_1 x4_2 x5_3 x6_4 = some r) ∧ Aside0 (kq ≤ k3) ∧ Drawn0 w w')
                        case atStart => exact ⟨(0), (by first | rfl | (simp; done) | (simp [*]; done)), H', ⟨Nat.le_refl _⟩, by repeat (first | exact Drawn0.refl _ | apply Drawn0.step)⟩
                        case round =>
                          clear H'
                          try clear c2
                          try clear c2b0
                          try clear p2
                          try clear q2
                          try clear hx2
                          try clear c3
                          try clear c3b0
                          try clear c4
                          try clear c4b0
                          try clear c5
                          try clear c5b0
                          try clear c6
                          try clear c6b0
                          try clear hx276_0
                          try clear p2
                          try clear p276
                          try clear q276
                          obtain ⟨x6_4, rfl, HA, HK4, ⟨m4, rfl⟩⟩ := hrel
                          cases gk with
                          | zero => exact absurd HA.out (by simp [dovetailref9_GroupCheck.l3])
                          | succ k4 =>
                            have H := HA.out
                            clear HA
                            simp only [dovetailref9_GroupCheck.l3] at H
                            by_cases c7 : 0 ≤ x4_2
                            · rw [if_pos c7] at H
                              have c7b0 : decide (0 ≤ x4_2) = true := decide_eq_true c7
                              clear c7
                              by_cases c8 : x4_2 < (l0.length : Int)
                              · rw [if_pos c8] at H
                                have c8b0 : decide (x4_2 < (l0.length : Int)) = true := decide_eq_true c8
                                clear c8
                                by_cases c9 : x6_4 < ((rd_L10 l0 x4_2).length : Int)
                                · rw [if_pos c9] at H
                                  have c9b0 : decide (x6_4 < ((rd_L10 l0 x4_2).length : Int)) = true := decide_eq_true c9
                                  clear c9
                                  by_cases c10 : 0 ≤ x3_1
                                  · rw [if_pos c10] at H
                                    have c10b0 : decide (0 ≤ x3_1) = true := decide_eq_true c10
                                    clear c10
                                    by_cases c11 : x3_1 < (l0.length : Int)
                                    · rw [if_pos c11] at H
                                      have c11b0 : decide (x3_1 < (l0.length : Int)) = true := decide_eq_true c11
                                      clear c11
                                      by_cases c12 : 0 ≤ x5_3
                                      · rw [if_pos c12] at H
                                        have c12b0 : decide (0 ≤ x5_3) = true := decide_eq_true c12
                                        clear c12
                                        by_cases c13 : x5_3 < ((rd_L10 l0 x3_1).length : Int)
                                        · rw [if_pos c13] at H
                                          have c13b0 : decide (x5_3 < ((rd_L10 l0 x3_1).length : Int)) = true := decide_eq_true c13
                                          clear c13
                                          by_cases c14 : 0 ≤ x6_4
                                          · rw [if_pos c14] at H
                                            have c14b0 : decide (0 ≤ x6_4) = true := decide_eq_true c14
                                            clear c14
                                            by_cases c15 : (rd (rd_L10 l0 x3_1) x5_3) = (rd (rd_L10 l0 x4_2) x6_4)
                                            · rw [if_pos c15] at H
                                              have c15b0 : ((rd (rd_L10 l0 x3_1) x5_3) == (rd (rd_L10 l0 x4_2) x6_4)) = true := beq_iff_eq.mpr c15
                                              have c15b1 : ((rd (rd_L10 l0 x3_1) x5_3) != (rd (rd_L10 l0 x4_2) x6_4)) = false := bne_eq_false_iff_eq.mpr c15
                                              clear c15
                                              obtain rfl := Option.some.inj H
                                              have p277 : 0 ≤ (x4_2 : Int) := of_decide_eq_true (by first | (with_reducible assumption) | assumption)
                                              have q277 : x4_2 < (l0.length : Int) := of_decide_eq_true (by first | (with_reducible assumption) | assumption)
                                              obtain ⟨ad277, A277_0, c277_0, e277, hx277_0, hl277_0, hi277_0⟩ := at_L10 HR0.out x4_2 p277 q277
                                              obtain rfl : ad276 = ad277 := (by injection e277)
                                              have HR277_0 := Aside0.mk hi277_0
                                              have HC277_0 := Aside0.mk hl277_0
                                              clear hi277_0 hl277_0
                                              replace p277 := eq_true p277
                                              replace q277 := eq_true q277
                                              have p278 : 0 ≤ (x3_1 : Int) := of_decide_eq_true (by first | (with_reducible assumption) | assumption)
                                              have q278 : x3_1 < (l0.length : Int) := of_decide_eq_true (by first | (with_reducible assumption) | assumption)
                                              obtain ⟨ad278, A278_0, c278_0, e278, hx278_0, hl278_0, hi278_0⟩ := at_L10 HR0.out x3_1 p278 q278
                                              obtain rfl : ad276 = ad278 := (by injection e278)
                                              have HR278_0 := Aside0.mk hi278_0
                                              have HC278_0 := Aside0.mk hl278_0
                                              clear hi278_0 hl278_0
                                              replace p278 := eq_true p278
                                              replace q278 := eq_true q278
                                              have p279 : 0 ≤ (x5_3 : Int) := of_decide_eq_true (by first | (with_reducible assumption) | assumption)
                                              have q279 : x5_3 < ((rd_L10 l0 x3_1).length : Int) := of_decide_eq_true (by first | (with_reducible assumption) | assumption)
                                              obtain ⟨ad279, e279, hx279_0⟩ := Kd.at_int HR278_0.out x5_3 p279 q279
                                              cases e279
                                              replace p279 := eq_true p279
                                              replace q279 := eq_true q279
                                              have p280 : 0 ≤ (x4_2 : Int) := of_decide_eq_true (by first | (with_reducible assumption) | assumption)
                                              have q280 : x4_2 < (l0.length : Int) := of_decide_eq_true (by first | (with_reducible assumption) | assumption)
                                              obtain ⟨ad280, A280_0, c280_0, e280, hx280_0, hl280_0, hi280_0⟩ := at_L10 HR0.out x4_2 p280 q280
                                              obtain rfl : ad276 = ad280 := (by injection e280)
                                              have HR280_0 := Aside0.mk hi280_0
                                              have HC280_0 := Aside0.mk hl280_0
                                              clear hi280_0 hl280_0
                                              replace p280 := eq_true p280
                                              replace q280 := eq_true q280
                                              have ea_ := Option.some.inj (hx277_0.symm.trans hx280_0)
                                              injection ea_ with ea_ en_ ec_
                                              subst ea_
                                              subst ec_
                                              clear en_
                                              have p281 : 0 ≤ (x6_4 : Int) := of_decide_eq_true (by first | (with_reducible assumption) | assumption)
                                              have q281 : x6_4 < ((rd_L10 l0 x4_2).length : Int) := of_decide_eq_true (by first | (with_reducible assumption) | assumption)
                                              obtain ⟨ad281, e281, hx281_0⟩ := Kd.at_int HR280_0.out x6_4 p281 q281
                                              cases e281
                                              replace p281 := eq_true p281
                                              replace q281 := eq_true q281
                                              go_wp2
                                              repeat (go_quiet (fail); try go_wp2)
                                              go_ret
                                              exact ⟨by first | rfl | (simp; done) | (simp [*]; done), by repeat (first | exact Drawn0.refl _ | apply Drawn0.step)⟩
                                            · rw [if_neg c15] at H
                                              have c15b0 : ((rd (rd_L10 l0 x3_1) x5_3) == (rd (rd_L10 l0 x4_2) x6_4)) = false := beq_eq_false_iff_ne.mpr c15
                                              have c15b1 : ((rd (rd_L10 l0 x3_1) x5_3) != (rd (rd_L10 l0 x4_2) x6_4)) = true := bne_iff_ne.mpr c15
                                              have H' := Aside0.mk H
                                              clear H
                                              have p277 : 0 ≤ (x4_2 : Int) := of_decide_eq_true (by first | (with_reducible assumption) | assumption)
                                              have q277 : x4_2 < (l0.length : Int) := of_decide_eq_true (by first | (with_reducible assumption) | assumption)
                                              obtain ⟨ad277, A277_0, c277_0, e277, hx277_0, hl277_0, hi277_0⟩ := at_L10 HR0.out x4_2 p277 q277
                                              obtain rfl : ad276 = ad277 := (by injection e277)
                                              have HR277_0 := Aside0.mk hi277_0
                                              have HC277_0 := Aside0.mk hl277_0
                                              clear hi277_0 hl277_0
                                              replace p277 := eq_true p277
                                              replace q277 := eq_true q277
                                              have p278 : 0 ≤ (x3_1 : Int) := of_decide_eq_true (by first | (with_reducible assumption) | assumption)
                                              have q278 : x3_1 < (l0.length : Int) := of_decide_eq_true (by first | (with_reducible assumption) | assumption)
                                              obtain ⟨ad278, A278_0, c278_0, e278, hx278_0, hl278_0, hi278_0⟩ := at_L10 HR0.out x3_1 p278 q278
                                              obtain rfl : ad276 = ad278 := (by injection e278)
                                              have HR278_0 := Aside0.mk hi278_0
                                              have HC278_0 := Aside0.mk hl278_0
                                              clear hi278_0 hl278_0
                                              replace p278 := eq_true p278
                                              replace q278 := eq_true q278
                                              have p279 : 0 ≤ (x5_3 : Int) := of_decide_eq_true (by first | (with_reducible assumption) | assumption)
                                              have q279 : x5_3 < ((rd_L10 l0 x3_1).length : Int) := of_decide_eq_true (by first | (with_reducible assumption) | assumption)
                                              obtain ⟨ad279, e279, hx279_0⟩ := Kd.at_int HR278_0.out x5_3 p279 q279
                                              cases e279
                                              replace p279 := eq_true p279
                                              replace q279 := eq_true q279
                                              have p280 : 0 ≤ (x4_2 : Int) := of_decide_eq_true (by first | (with_reducible assumption) | assumption)
                                              have q280 : x4_2 < (l0.length : Int) := of_decide_eq_true (by first | (with_reducible assumption) | assumption)
                                              obtain ⟨ad280, A280_0, c280_0, e280, hx280_0, hl280_0, hi280_0⟩ := at_L10 HR0.out x4_2 p280 q280
                                              obtain rfl : ad276 = ad280 := (by injection e280)
                                              have HR280_0 := Aside0.mk hi280_0
                                              have HC280_0 := Aside0.mk hl280_0
                                              clear hi280_0 hl280_0
                                              replace p280 := eq_true p280
                                              replace q280 := eq_true q280
                                              have ea_ := Option.some.inj (hx277_0.symm.trans hx280_0)
                                              injection ea_ with ea_ en_ ec_
                                              subst ea_
                                              subst ec_
                                              clear en_
                                              have p281 : 0 ≤ (x6_4 : Int) := of_decide_eq_true (by first | (with_reducible assumption) | assumption)
                                              have q281 : x6_4 < ((rd_L10 l0 x4_2).length : Int) := of_decide_eq_true (by first | (with_reducible assumption) | assumption)
                                              obtain ⟨ad281, e281, hx281_0⟩ := Kd.at_int HR280_0.out x6_4 p281 q281
                                              cases e281
                                              replace p281 := eq_true p281
                                              replace q281 := eq_true q281
                                              go_wp2
                                              repeat (go_quiet (fail); try go_wp2)
                                              go_roundg k4
                                              case measure => have := HK1.out; have := HK2.out; have := HK3.out; have := HK4.out; omega
                                              case rel => exact ⟨(wrap64 (x6_4 + 1)), (by first | rfl | (simp; done) | (simp [*]; done)), H', ⟨by have := HK1.out; have := HK2.out; have := HK3.out; have := HK4.out; omega⟩, by repeat (first | exact Drawn0.refl _ | apply Drawn0.step)⟩
                                          · rw [if_neg c14] at H
                                            exact absurd H (by simp)
                                        · rw [if_neg c13] at H
                                          exact absurd H (by simp)
                                      · rw [if_neg c12] at H
                                        exact absurd H (by simp)
                                    · rw [if_neg c11] at H
                                      exact absurd H (by simp)
                                  · rw [if_neg c10] at H
                                    exact absurd H (by simp)
                                · rw [if_neg c9] at H
                                  have c9b0 : decide (x6_4 < ((rd_L10 l0 x4_2).length : Int)) = false := decide_eq_false c9
                                  clear c9
                                  have H' := Aside0.mk H
                                  clear H
                                  have p277 : 0 ≤ (x4_2 : Int) := of_decide_eq_true (by first | (with_reducible assumption) | assumption)
                                  have q277 : x4_2 < (l0.length : Int) := of_decide_eq_true (by first | (with_reducible assumption) | assumption)
                                  obtain ⟨ad277, A277_0, c277_0, e277, hx277_0, hl277_0, hi277_0⟩ := at_L10 HR0.out x4_2 p277 q277
                                  obtain rfl : ad276 = ad277 := (by injection e277)
                                  have HR277_0 := Aside0.mk hi277_0
                                  have HC277_0 := Aside0.mk hl277_0
                                  clear hi277_0 hl277_0
                                  replace p277 := eq_true p277
                                  replace q277 := eq_true q277
                                  go_wp2
                                  repeat (go_quiet (fail); try go_wp2)
                                  go_roundg k4
                                  case measure => have := HK1.out; have := HK2.out; have := HK3.out; have := HK4.out; omega
                                  case rel => exact ⟨(wrap64 (x5_3 + 1)), (by first | rfl | (simp; done) | (simp [*]; done)), H', ⟨by have := HK1.out; have := HK2.out; have := HK3.out; have := HK4.out; omega⟩, by repeat (first | exact Drawn0.refl _ | apply Drawn0.step)⟩
                              · rw [if_neg c8] at H
                                exact absurd H (by simp)
                            · rw [if_neg c7] at H
                              exact absurd H (by simp)
                      · rw [if_neg c6] at H
                        have c6b0 : decide (x5_3 < ((rd_L10 l0 x3_1).length : Int)) = false := decide_eq_false c6
                        clear c6
                        have H' := Aside0.mk H
                        clear H
                        have p276 : 0 ≤ (x3_1 : Int) := of_decide_eq_true (by first | (with_reducible assumption) | assumption)
                        have q276 : x3_1 < (l0.length : Int) := of_decide_eq_true (by first | (with_reducible assumption) | assumption)
                        obtain ⟨ad276, A276_0, c276_0, e276, hx276_0, hl276_0, hi276_0⟩ := at_L10 HR0.out x3_1 p276 q276
                        cases e276
                        have HR276_0 := Aside0.mk hi276_0
                        have HC276_0 := Aside0.mk hl276_0
                        clear hi276_0 hl276_0
                        replace p276 := eq_true p276
                        replace q276 := eq_true q276
                        go_wp2
                        repeat (go_quiet (fail); try go_wp2)
                        go_roundg k3
                        case measure => have := HK1.out; have := HK2.out; have := HK3.out; omega
                        case rel => exact ⟨(wrap64 (x4_2 + 1)), (by first | rfl | (simp; done) | (simp [*]; done)), H', ⟨by have := HK1.out; have := HK2.out; have := HK3.out; omega⟩, by repeat (first | exact Drawn0.refl _ | apply Drawn0.step)⟩
                    · rw [if_neg c5] at H
                      exact absurd H (by simp)
                  · rw [if_neg c4] at H
                    exact absurd H (by simp)
            · rw [if_neg c3] at H
              have c3b0 : decide (x4_2 < x3_1) = false := decide_eq_false c3
              clear c3
              have H' := Aside0.mk H
              clear H
              go_wp2
              repeat (go_quiet (fail); try go_wp2)
              go_roundg k2
              case measure => have := HK1.out; have := HK2.out; omega
              case rel => exact ⟨(wrap64 (x3_1 + 1)), (by first | rfl | (simp; done) | (simp [*]; done)), H', ⟨by have := HK1.out; have := HK2.out; omega⟩, by repeat (first | exact Drawn0.refl _ | apply Drawn0.step)⟩
      · rw [if_neg c2] at H
        have c2b0 : decide (x3_1 < (l0.length : Int)) = false := decide_eq_false c2
        clear c2
        obtain rfl := Option.some.inj H
        go_wp2
        repeat (go_quiet (fail); try go_wp2)
        go_ret
        exact ⟨by first | rfl | (simp; done) | (simp [*]; done), by repeat (first | exact Drawn0.refl _ | apply Drawn0.step)⟩

end Go.Proofs.Ythjlhoclmbnjgaa.P
