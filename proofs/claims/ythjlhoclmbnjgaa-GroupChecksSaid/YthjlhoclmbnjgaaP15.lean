-- printed by this session's program (wip/print), out of the translation; Lean checks it
import Derived.Test.YthjlhoclmbnjgaaP0
import Derived.Test.YthjlhoclmbnjgaaP2
import Derived.Test.YthjlhoclmbnjgaaP3
namespace Go.Proofs.Ythjlhoclmbnjgaa.P
open Go.RowKit Go.Proofs.YthjlhoclmbnjgaaW.PrintWords Go.Proofs.YthjlhoclmbnjgaaW.PrintLast Go.Proofs.YthjlhoclmbnjgaaW.PrintMore
attribute [local go_sem] max2_int min2_int max_two min_two max_three min_three max_four min_four   -- for this text's walks alone
set_option linter.unusedVariables false
set_option linter.unusedSimpArgs false
open Go.Proofs.YthjlhoclmbnjgaaX

/-! ### le_Cut: function 21 -/
def le_Cut.f (l0 : List Int) (a1 : Int) (a2 : Int) : Option (List Int × Bool) := (le_within.f a1 a2 (l0.length : Int)).bind fun t148 => (if t148 = true then (if 0 ≤ a1 then (if a1 ≤ (IntKind.u64.wrap (a1 + a2)) then (if (IntKind.u64.wrap (a1 + a2)) ≤ (l0.length : Int) then ((slices_Clone_byte_byte.f ((l0.take ((IntKind.u64.wrap (a1 + a2)) : Int).toNat).drop (a1 : Int).toNat)).bind fun t150 => (some (t150, true))) else (none)) else (none)) else (none)) else (some (([] : List Int), false)))
set_option maxHeartbeats 8000000 in
set_option maxRecDepth 100000 in
theorem le_Cut.calls (A0 : Option Addr) (c0 : Nat) (l0 : List Int) (a1 : Int) (a2 : Int) (r1 : List Int) (r2 : Bool) (w : World) (hr0 : Kd.C (Kd.int .u8) w A0 l0.length l0) (hc0 : l0.length ≤ c0) (h : le_Cut.f l0 a1 a2 = some (r1, r2)) :
    Calls Try.prog 21 #[.slice A0 l0.length c0, .int .u64 a1, .int .u64 a2] w fun e w' => ∃ v0_ : Value, e = .returned (.tuple #[v0_, .bool r2]) ∧ Kd.R (Kd.int .u8) 5 w' w.heap.size (fun _ => True) v0_ r1 ∧ Below w.heap.size w w' := by
  have HR0 := Aside0.mk hr0
  have HC0 := Aside0.mk hc0
  clear hr0 hc0
  have HB := Aside0.mk (Below.refl w.heap.size w)
  have H : ((le_within.f a1 a2 (l0.length : Int)).bind fun t148 => (if t148 = true then (if 0 ≤ a1 then (if a1 ≤ (IntKind.u64.wrap (a1 + a2)) then (if (IntKind.u64.wrap (a1 + a2)) ≤ (l0.length : Int) then ((slices_Clone_byte_byte.f ((l0.take ((IntKind.u64.wrap (a1 + a2)) : Int).toNat).drop (a1 : Int).toNat)).bind fun t150 => (some (t150, true))) else (none)) else (none)) else (none)) else (some (([] : List Int), false)))) = some (r1, r2) := h
  clear h
  replace H := Option.bind_eq_some_iff.mp H
  obtain ⟨t148, A40, H⟩ := H
  replace H : (if t148 = true then (if 0 ≤ a1 then (if a1 ≤ (IntKind.u64.wrap (a1 + a2)) then (if (IntKind.u64.wrap (a1 + a2)) ≤ (l0.length : Int) then ((slices_Clone_byte_byte.f ((l0.take ((IntKind.u64.wrap (a1 + a2)) : Int).toNat).drop (a1 : Int).toNat)).bind fun t150 => (some (t150, true))) else (none)) else (none)) else (none)) else (some (([] : List Int), false))) = some (r1, r2) := H
  have A4 := Aside0.mk A40
  clear A40
  by_cases c5 : t148 = true
  · subst c5
    have H1 : (if 0 ≤ a1 then (if a1 ≤ (IntKind.u64.wrap (a1 + a2)) then (if (IntKind.u64.wrap (a1 + a2)) ≤ (l0.length : Int) then ((slices_Clone_byte_byte.f ((l0.take ((IntKind.u64.wrap (a1 + a2)) : Int).toNat).drop (a1 : Int).toNat)).bind fun t150 => (some (t150, true))) else (none)) else (none)) else (none)) = some (r1, r2) := by rw [if_pos rfl] at H; exact H
    clear H
    have H := H1
    clear H1
    by_cases c6 : 0 ≤ a1
    · rw [if_pos c6] at H
      have c6b0 := eq_true c6
      have c6b1 : decide (0 ≤ a1) = true := decide_eq_true c6
      clear c6
      by_cases c7 : a1 ≤ (IntKind.u64.wrap (a1 + a2))
      · rw [if_pos c7] at H
        have c7b0 := eq_true c7
        have c7b1 : decide (a1 ≤ (IntKind.u64.wrap (a1 + a2))) = true := decide_eq_true c7
        by_cases c8 : (IntKind.u64.wrap (a1 + a2)) ≤ (l0.length : Int)
        · rw [if_pos c8] at H
          have c8b0 := eq_true c8
          have c8b1 : decide ((IntKind.u64.wrap (a1 + a2)) ≤ (l0.length : Int)) = true := decide_eq_true c8
          replace H := Option.bind_eq_some_iff.mp H
          obtain ⟨t150, A90, H⟩ := H
          replace H : (some (t150, true)) = some (r1, r2) := H
          have A9 := Aside0.mk A90
          clear A90
          simp only [Option.some.injEq, Prod.mk.injEq] at H
          obtain ⟨rfl, rfl⟩ := H
          go_enter Try.func21, Try.ntmps21
          go_wp2_with (first | ((with_reducible refine gate_callee (f := 45) rfl ?_); refine goesL_ (some 12) rfl rfl Try.func45 (by kernel_rfl) rfl #[.int .u64 a1, .int .u64 a2, .int .i64 (l0.length : Int)] rfl (by (try simp only [List.map_toArray, List.map_cons, List.map_nil]); first | done | rfl | (simp only [List.length_drop, List.length_take]; rfl)) ?_; (with_reducible refine (le_within.calls a1 a2 (l0.length : Int) true _ A4.out).mono ?_); rintro e w' ⟨rfl, ⟨nd, rfl⟩⟩; refine ⟨_, rfl, ?_⟩; obtain ⟨i010, hi010, _, hsz10, _⟩ := info_parts info5; obtain ⟨A10, hcut10, hA10, hC10⟩ := print_mid_of (P := Try.prog) (Value.int .u8) 0 22 5 .u64 .u64 Try.underlying22 hi010 hsz10 A0 c0 l0 a1 (IntKind.u64.wrap (a1 + a2)) (of_decide_eq_true (by first | (with_reducible assumption) | assumption)) (by first | omega | exact of_decide_eq_true (by first | (with_reducible assumption) | assumption)) (of_decide_eq_true (by first | (with_reducible assumption) | assumption)) HC0.out; have HR149 := Aside0.mk (Kd.C_of_reads (h1 := fun _ => rfl) (hA10 _ (Kd.reads_of_C HR0.out))); have HC149 := Aside0.mk hC10; clear hA10 hC10 hi010 hsz10) | ((with_reducible refine gate_callee (f := 46) rfl ?_); refine goesL_ (some 20) rfl rfl Try.func46 (by kernel_rfl) rfl #[.slice A10 ((l0.take ((IntKind.u64.wrap (a1 + a2)) : Int).toNat).drop (a1 : Int).toNat).length (c0 - a1.toNat)] rfl (by (try simp only [List.map_toArray, List.map_cons, List.map_nil]); first | done | (rw [show ((l0.take ((IntKind.u64.wrap (a1 + a2)) : Int).toNat).drop (a1 : Int).toNat).length = ((IntKind.u64.wrap (a1 + a2)).toNat - a1.toNat) from (by rw [List.length_drop, List.length_take]; have h_ : ((IntKind.u64.wrap (a1 + a2)) : Int) ≤ (l0.length : Int) := of_decide_eq_true (by first | (with_reducible assumption) | assumption); omega)] <;> rfl) | rfl | (simp only [List.length_drop, List.length_take]; rfl)) ?_; (with_reducible refine (slices_Clone_byte_byte.calls _ _ ((l0.take ((IntKind.u64.wrap (a1 + a2)) : Int).toNat).drop (a1 : Int).toNat) t150 _ ?side1 ?side2 A9.out).mono ?_); (case side1 => repeat (first | exact HR149.out | (with_reducible refine Kd.C_alloc ?_ _) | (with_reducible refine Kd.C_drewN ?_ _) | (with_reducible refine Kd.C_drew ?_))); (case side2 => exact HC149.out); rintro e w11 ⟨v151, rfl, ho0, hb⟩; refine ⟨_, rfl, ?_⟩; have n0_ := Aside0.mk (Kd.R_lower ho0 (below_size (by repeat (first | (with_reducible first | exact HB.out | apply below_alloc | apply pw_below_drewN | apply below_drew1) | exact HB.out)))); have n1_ := Aside0.mk (below_step (by repeat (first | (with_reducible first | exact HB.out | apply below_alloc | apply pw_below_drewN | apply below_drew1) | exact HB.out)) hb); clear HB; have HO152 := n0_; have HB := n1_; clear n0_ n1_; (try clear hb); (try clear hb2); (try clear hk); (try clear hi); (try clear ho0)))
          go_ret2
          exact ⟨_, by first | rfl | (simp [errW_none, errW_some] <;> rfl) | (simp [*, errW_none, errW_some] <;> rfl), by (with_reducible repeat (first | apply Kd.R_alloc | apply Kd.R_drewN | apply Kd.R_drew)); exact HO152.out, by repeat (first | (with_reducible first | exact HB.out | apply below_alloc | apply pw_below_drewN | apply below_drew1) | exact HB.out)⟩
        · rw [if_neg c8] at H
          exact absurd H (by simp)
      · rw [if_neg c7] at H
        exact absurd H (by simp)
    · rw [if_neg c6] at H
      exact absurd H (by simp)
  · replace c5 := Bool.eq_false_iff.mpr c5
    subst c5
    have H1 : (some (([] : List Int), false)) = some (r1, r2) := by rw [if_neg (show ¬ (false = true) by decide)] at H; exact H
    clear H
    have H := H1
    clear H1
    simp only [Option.some.injEq, Prod.mk.injEq] at H
    obtain ⟨rfl, rfl⟩ := H
    go_enter Try.func21, Try.ntmps21
    go_wp2_with (first | ((with_reducible refine gate_callee (f := 45) rfl ?_); refine goesL_ (some 12) rfl rfl Try.func45 (by kernel_rfl) rfl #[.int .u64 a1, .int .u64 a2, .int .i64 (l0.length : Int)] rfl (by (try simp only [List.map_toArray, List.map_cons, List.map_nil]); first | done | rfl | (simp only [List.length_drop, List.length_take]; rfl)) ?_; (with_reducible refine (le_within.calls a1 a2 (l0.length : Int) false _ A4.out).mono ?_); rintro e w' ⟨rfl, ⟨nd, rfl⟩⟩; refine ⟨_, rfl, ?_⟩))
    go_ret2
    exact ⟨_, by first | rfl | (simp [errW_none, errW_some] <;> rfl) | (simp [*, errW_none, errW_some] <;> rfl), by first | exact Kd.R_nil _ _ _ _ _ | exact Kd.N_nil _ _ _ _ _ | exact Kd.V_nil _ _ _ _ _ | exact Kd.Q_nil _ _ _ _ _ | exact Kd.S_nil _ _ _ _ _, by repeat (first | (with_reducible first | exact HB.out | apply below_alloc | apply pw_below_drewN | apply below_drew1) | exact HB.out)⟩

end Go.Proofs.Ythjlhoclmbnjgaa.P
