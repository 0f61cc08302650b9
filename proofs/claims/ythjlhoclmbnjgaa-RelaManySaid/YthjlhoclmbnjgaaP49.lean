-- printed by this session's program (wip/print), out of the translation; Lean checks it
import Derived.Test.YthjlhoclmbnjgaaP0
namespace Go.Proofs.Ythjlhoclmbnjgaa.P
open Go.RowKit Go.Proofs.YthjlhoclmbnjgaaW.PrintWords Go.Proofs.YthjlhoclmbnjgaaW.PrintLast Go.Proofs.YthjlhoclmbnjgaaW.PrintMore
attribute [local go_sem] max2_int min2_int max_two min_two max_three min_three max_four min_four   -- for this text's walks alone
set_option linter.unusedVariables false
set_option linter.unusedSimpArgs false
open Go.Proofs.YthjlhoclmbnjgaaX

/-! ### dovetailref9_Known: function 42 -/
def dovetailref9_Known.f (a0 : Int) : Option (Bool) := if a0 = 1 then (some true) else (if a0 = 2 then (some true) else (if a0 = 16 then (some true) else (if a0 = 17 then (some true) else (if a0 = 18 then (some true) else (if a0 = 19 then (some true) else (if a0 = 23 then (some true) else (if a0 = 24 then (some true) else (if a0 = 25 then (some true) else (if a0 = 26 then (some true) else (if a0 = 27 then (some true) else (if a0 = 28 then (some true) else (if a0 = 51 then (some true) else (some false)))))))))))))
set_option maxHeartbeats 8000000 in
set_option maxRecDepth 100000 in
theorem dovetailref9_Known.calls (a0 : Int) (r : Bool) (w : World) (h : dovetailref9_Known.f a0 = some r) :
    Calls Try.prog 42 #[.int .u32 a0] w fun e w' => e = .returned (.bool r) ∧ Drawn0 w w' := by
  have H : (if a0 = 1 then (some true) else (if a0 = 2 then (some true) else (if a0 = 16 then (some true) else (if a0 = 17 then (some true) else (if a0 = 18 then (some true) else (if a0 = 19 then (some true) else (if a0 = 23 then (some true) else (if a0 = 24 then (some true) else (if a0 = 25 then (some true) else (if a0 = 26 then (some true) else (if a0 = 27 then (some true) else (if a0 = 28 then (some true) else (if a0 = 51 then (some true) else (some false)))))))))))))) = some r := h
  clear h
  by_cases c2 : a0 = 1
  · rw [if_pos c2] at H
    have c2b0 : (a0 == 1) = true := beq_iff_eq.mpr c2
    have c2b1 : (a0 != 1) = false := bne_eq_false_iff_eq.mpr c2
    clear c2
    obtain rfl := Option.some.inj H
    go_enter Try.func42, Try.ntmps42
    go_wp2
    go_ret
    exact ⟨by first | rfl | (simp; done) | (simp [*]; done), by repeat (first | exact Drawn0.refl _ | apply Drawn0.step)⟩
  · rw [if_neg c2] at H
    have c2b0 : (a0 == 1) = false := beq_eq_false_iff_ne.mpr c2
    have c2b1 : (a0 != 1) = true := bne_iff_ne.mpr c2
    by_cases c3 : a0 = 2
    · rw [if_pos c3] at H
      have c3b0 : (a0 == 2) = true := beq_iff_eq.mpr c3
      have c3b1 : (a0 != 2) = false := bne_eq_false_iff_eq.mpr c3
      clear c3
      obtain rfl := Option.some.inj H
      go_enter Try.func42, Try.ntmps42
      go_wp2
      go_ret
      exact ⟨by first | rfl | (simp; done) | (simp [*]; done), by repeat (first | exact Drawn0.refl _ | apply Drawn0.step)⟩
    · rw [if_neg c3] at H
      have c3b0 : (a0 == 2) = false := beq_eq_false_iff_ne.mpr c3
      have c3b1 : (a0 != 2) = true := bne_iff_ne.mpr c3
      by_cases c4 : a0 = 16
      · rw [if_pos c4] at H
        have c4b0 : (a0 == 16) = true := beq_iff_eq.mpr c4
        have c4b1 : (a0 != 16) = false := bne_eq_false_iff_eq.mpr c4
        clear c4
        obtain rfl := Option.some.inj H
        go_enter Try.func42, Try.ntmps42
        go_wp2
        go_ret
        exact ⟨by first | rfl | (simp; done) | (simp [*]; done), by repeat (first | exact Drawn0.refl _ | apply Drawn0.step)⟩
      · rw [if_neg c4] at H
        have c4b0 : (a0 == 16) = false := beq_eq_false_iff_ne.mpr c4
        have c4b1 : (a0 != 16) = true := bne_iff_ne.mpr c4
        by_cases c5 : a0 = 17
        · rw [if_pos c5] at H
          have c5b0 : (a0 == 17) = true := beq_iff_eq.mpr c5
          have c5b1 : (a0 != 17) = false := bne_eq_false_iff_eq.mpr c5
          clear c5
          obtain rfl := Option.some.inj H
          go_enter Try.func42, Try.ntmps42
          go_wp2
          go_ret
          exact ⟨by first | rfl | (simp; done) | (simp [*]; done), by repeat (first | exact Drawn0.refl _ | apply Drawn0.step)⟩
        · rw [if_neg c5] at H
          have c5b0 : (a0 == 17) = false := beq_eq_false_iff_ne.mpr c5
          have c5b1 : (a0 != 17) = true := bne_iff_ne.mpr c5
          by_cases c6 : a0 = 18
          · rw [if_pos c6] at H
            have c6b0 : (a0 == 18) = true := beq_iff_eq.mpr c6
            have c6b1 : (a0 != 18) = false := bne_eq_false_iff_eq.mpr c6
            clear c6
            obtain rfl := Option.some.inj H
            go_enter Try.func42, Try.ntmps42
            go_wp2
            go_ret
            exact ⟨by first | rfl | (simp; done) | (simp [*]; done), by repeat (first | exact Drawn0.refl _ | apply Drawn0.step)⟩
          · rw [if_neg c6] at H
            have c6b0 : (a0 == 18) = false := beq_eq_false_iff_ne.mpr c6
            have c6b1 : (a0 != 18) = true := bne_iff_ne.mpr c6
            by_cases c7 : a0 = 19
            · rw [if_pos c7] at H
              have c7b0 : (a0 == 19) = true := beq_iff_eq.mpr c7
              have c7b1 : (a0 != 19) = false := bne_eq_false_iff_eq.mpr c7
              clear c7
              obtain rfl := Option.some.inj H
              go_enter Try.func42, Try.ntmps42
              go_wp2
              go_ret
              exact ⟨by first | rfl | (simp; done) | (simp [*]; done), by repeat (first | exact Drawn0.refl _ | apply Drawn0.step)⟩
            · rw [if_neg c7] at H
              have c7b0 : (a0 == 19) = false := beq_eq_false_iff_ne.mpr c7
              have c7b1 : (a0 != 19) = true := bne_iff_ne.mpr c7
              by_cases c8 : a0 = 23
              · rw [if_pos c8] at H
                have c8b0 : (a0 == 23) = true := beq_iff_eq.mpr c8
                have c8b1 : (a0 != 23) = false := bne_eq_false_iff_eq.mpr c8
                clear c8
                obtain rfl := Option.some.inj H
                go_enter Try.func42, Try.ntmps42
                go_wp2
                go_ret
                exact ⟨by first | rfl | (simp; done) | (simp [*]; done), by repeat (first | exact Drawn0.refl _ | apply Drawn0.step)⟩
              · rw [if_neg c8] at H
                have c8b0 : (a0 == 23) = false := beq_eq_false_iff_ne.mpr c8
                have c8b1 : (a0 != 23) = true := bne_iff_ne.mpr c8
                by_cases c9 : a0 = 24
                · rw [if_pos c9] at H
                  have c9b0 : (a0 == 24) = true := beq_iff_eq.mpr c9
                  have c9b1 : (a0 != 24) = false := bne_eq_false_iff_eq.mpr c9
                  clear c9
                  obtain rfl := Option.some.inj H
                  go_enter Try.func42, Try.ntmps42
                  go_wp2
                  go_ret
                  exact ⟨by first | rfl | (simp; done) | (simp [*]; done), by repeat (first | exact Drawn0.refl _ | apply Drawn0.step)⟩
                · rw [if_neg c9] at H
                  have c9b0 : (a0 == 24) = false := beq_eq_false_iff_ne.mpr c9
                  have c9b1 : (a0 != 24) = true := bne_iff_ne.mpr c9
                  by_cases c10 : a0 = 25
                  · rw [if_pos c10] at H
                    have c10b0 : (a0 == 25) = true := beq_iff_eq.mpr c10
                    have c10b1 : (a0 != 25) = false := bne_eq_false_iff_eq.mpr c10
                    clear c10
                    obtain rfl := Option.some.inj H
                    go_enter Try.func42, Try.ntmps42
                    go_wp2
                    go_ret
                    exact ⟨by first | rfl | (simp; done) | (simp [*]; done), by repeat (first | exact Drawn0.refl _ | apply Drawn0.step)⟩
                  · rw [if_neg c10] at H
                    have c10b0 : (a0 == 25) = false := beq_eq_false_iff_ne.mpr c10
                    have c10b1 : (a0 != 25) = true := bne_iff_ne.mpr c10
                    by_cases c11 : a0 = 26
                    · rw [if_pos c11] at H
                      have c11b0 : (a0 == 26) = true := beq_iff_eq.mpr c11
                      have c11b1 : (a0 != 26) = false := bne_eq_false_iff_eq.mpr c11
                      clear c11
                      obtain rfl := Option.some.inj H
                      go_enter Try.func42, Try.ntmps42
                      go_wp2
                      go_ret
                      exact ⟨by first | rfl | (simp; done) | (simp [*]; done), by repeat (first | exact Drawn0.refl _ | apply Drawn0.step)⟩
                    · rw [if_neg c11] at H
                      have c11b0 : (a0 == 26) = false := beq_eq_false_iff_ne.mpr c11
                      have c11b1 : (a0 != 26) = true := bne_iff_ne.mpr c11
                      by_cases c12 : a0 = 27
                      · rw [if_pos c12] at H
                        have c12b0 : (a0 == 27) = true := beq_iff_eq.mpr c12
                        have c12b1 : (a0 != 27) = false := bne_eq_false_iff_eq.mpr c12
                        clear c12
                        obtain rfl := Option.some.inj H
                        go_enter Try.func42, Try.ntmps42
                        go_wp2
                        go_ret
                        exact ⟨by first | rfl | (simp; done) | (simp [*]; done), by repeat (first | exact Drawn0.refl _ | apply Drawn0.step)⟩
                      · rw [if_neg c12] at H
                        have c12b0 : (a0 == 27) = false := beq_eq_false_iff_ne.mpr c12
                        have c12b1 : (a0 != 27) = true := bne_iff_ne.mpr c12
                        by_cases c13 : a0 = 28
                        · rw [if_pos c13] at H
                          have c13b0 : (a0 == 28) = true := beq_iff_eq.mpr c13
                          have c13b1 : (a0 != 28) = false := bne_eq_false_iff_eq.mpr c13
                          clear c13
                          obtain rfl := Option.some.inj H
                          go_enter Try.func42, Try.ntmps42
                          go_wp2
                          go_ret
                          exact ⟨by first | rfl | (simp; done) | (simp [*]; done), by repeat (first | exact Drawn0.refl _ | apply Drawn0.step)⟩
                        · rw [if_neg c13] at H
                          have c13b0 : (a0 == 28) = false := beq_eq_false_iff_ne.mpr c13
                          have c13b1 : (a0 != 28) = true := bne_iff_ne.mpr c13
                          by_cases c14 : a0 = 51
                          · rw [if_pos c14] at H
                            have c14b0 : (a0 == 51) = true := beq_iff_eq.mpr c14
                            have c14b1 : (a0 != 51) = false := bne_eq_false_iff_eq.mpr c14
                            clear c14
                            obtain rfl := Option.some.inj H
                            go_enter Try.func42, Try.ntmps42
                            go_wp2
                            go_ret
                            exact ⟨by first | rfl | (simp; done) | (simp [*]; done), by repeat (first | exact Drawn0.refl _ | apply Drawn0.step)⟩
                          · rw [if_neg c14] at H
                            have c14b0 : (a0 == 51) = false := beq_eq_false_iff_ne.mpr c14
                            have c14b1 : (a0 != 51) = true := bne_iff_ne.mpr c14
                            obtain rfl := Option.some.inj H
                            go_enter Try.func42, Try.ntmps42
                            go_wp2
                            go_ret
                            exact ⟨by first | rfl | (simp; done) | (simp [*]; done), by repeat (first | exact Drawn0.refl _ | apply Drawn0.step)⟩

end Go.Proofs.Ythjlhoclmbnjgaa.P
