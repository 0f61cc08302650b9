-- printed by this session's program (wip/print), out of the translation; Lean checks it
import Derived.Test.YthjlhoclmbnjgaaP0
import Derived.Test.YthjlhoclmbnjgaaP37
import Derived.Test.YthjlhoclmbnjgaaP40
import Derived.Test.YthjlhoclmbnjgaaP41
import Derived.Test.YthjlhoclmbnjgaaP43
import Derived.Test.YthjlhoclmbnjgaaP49
namespace Go.Proofs.Ythjlhoclmbnjgaa.P
open Go.RowKit Go.Proofs.YthjlhoclmbnjgaaW.PrintWords Go.Proofs.YthjlhoclmbnjgaaW.PrintLast Go.Proofs.YthjlhoclmbnjgaaW.PrintMore
attribute [local go_sem] max2_int min2_int max_two min_two max_three min_three max_four min_four   -- for this text's walks alone
set_option linter.unusedVariables false
set_option linter.unusedSimpArgs false
open Go.Proofs.YthjlhoclmbnjgaaX

/-! ### dovetaillaw13_RelaTypes: function 12 -/
def dovetaillaw13_RelaTypes.f (k : Nat) (a0 : Int) : Option (Bool) := (dovetaillaw13_known.f k).bind fun t366 => (if t366 = true then ((rela_Known.f k a0).bind fun t367 => ((dovetailref9_Known.f a0).bind fun t368 => (if (t367 == t368) = true then ((rela_Width.f k a0).bind fun t369 => ((dovetailref9_Width.f k a0).bind fun t370 => (if t369 = t370 then ((rela_Known.f k (Int.tmod a0 64)).bind fun t371 => ((dovetailref9_Known.f (Int.tmod a0 64)).bind fun t372 => (if (t371 == t372) = true then ((rela_Width.f k (Int.tmod a0 64)).bind fun t373 => ((dovetailref9_Width.f k (Int.tmod a0 64)).bind fun t374 => (some (t373 == t374)))) else (some false)))) else (some false)))) else (some false)))) else (some false))
theorem dovetaillaw13_RelaTypes.mono : ∀ a0 k, LeO (dovetaillaw13_RelaTypes.f k a0) (dovetaillaw13_RelaTypes.f (k + 1) a0) := by
  intro a0 k
  unfold dovetaillaw13_RelaTypes.f
  repeat' first
      | (with_reducible exact dovetaillaw13_known.mono _)
      | (with_reducible exact dovetailref9_Width.mono _ _)
      | (with_reducible exact rela_Known.mono _ _)
      | (with_reducible exact rela_Width.mono _ _)
      | (with_reducible exact LeO.refl _)
      | (with_reducible exact LeO.none _)
      | (with_reducible refine LeO.ite ?_ ?_)
      | (with_reducible refine LeO.bind ?_ (fun _ => ?_))
      | exact dovetaillaw13_known.mono _
      | exact dovetailref9_Width.mono _ _
      | exact rela_Known.mono _ _
      | exact rela_Width.mono _ _
      | exact LeO.none _
      | refine LeO.ite ?_ ?_
      | refine LeO.bind ?_ (fun _ => ?_)
set_option maxHeartbeats 8000000 in
set_option maxRecDepth 100000 in
theorem dovetaillaw13_RelaTypes.calls (k : Nat) (a0 : Int) (r : Bool) (w : World) (h : dovetaillaw13_RelaTypes.f k a0 = some r) :
    Calls Try.prog 12 #[.int .u32 a0] w fun e w' => e = .returned (.bool r) ∧ Below w.heap.size w w' := by
  have HB := Aside0.mk (Below.refl w.heap.size w)
  have H : ((dovetaillaw13_known.f k).bind fun t366 => (if t366 = true then ((rela_Known.f k a0).bind fun t367 => ((dovetailref9_Known.f a0).bind fun t368 => (if (t367 == t368) = true then ((rela_Width.f k a0).bind fun t369 => ((dovetailref9_Width.f k a0).bind fun t370 => (if t369 = t370 then ((rela_Known.f k (Int.tmod a0 64)).bind fun t371 => ((dovetailref9_Known.f (Int.tmod a0 64)).bind fun t372 => (if (t371 == t372) = true then ((rela_Width.f k (Int.tmod a0 64)).bind fun t373 => ((dovetailref9_Width.f k (Int.tmod a0 64)).bind fun t374 => (some (t373 == t374)))) else (some false)))) else (some false)))) else (some false)))) else (some false))) = some r := h
  clear h
  replace H := Option.bind_eq_some_iff.mp H
  obtain ⟨t366, A20, H⟩ := H
  replace H : (if t366 = true then ((rela_Known.f k a0).bind fun t367 => ((dovetailref9_Known.f a0).bind fun t368 => (if (t367 == t368) = true then ((rela_Width.f k a0).bind fun t369 => ((dovetailref9_Width.f k a0).bind fun t370 => (if t369 = t370 then ((rela_Known.f k (Int.tmod a0 64)).bind fun t371 => ((dovetailref9_Known.f (Int.tmod a0 64)).bind fun t372 => (if (t371 == t372) = true then ((rela_Width.f k (Int.tmod a0 64)).bind fun t373 => ((dovetailref9_Width.f k (Int.tmod a0 64)).bind fun t374 => (some (t373 == t374)))) else (some false)))) else (some false)))) else (some false)))) else (some false)) = some r := H
  have A2 := Aside0.mk A20
  clear A20
  by_cases c3 : t366 = true
  · subst c3
    have H1 : ((rela_Known.f k a0).bind fun t367 => ((dovetailref9_Known.f a0).bind fun t368 => (if (t367 == t368) = true then ((rela_Width.f k a0).bind fun t369 => ((dovetailref9_Width.f k a0).bind fun t370 => (if t369 = t370 then ((rela_Known.f k (Int.tmod a0 64)).bind fun t371 => ((dovetailref9_Known.f (Int.tmod a0 64)).bind fun t372 => (if (t371 == t372) = true then ((rela_Width.f k (Int.tmod a0 64)).bind fun t373 => ((dovetailref9_Width.f k (Int.tmod a0 64)).bind fun t374 => (some (t373 == t374)))) else (some false)))) else (some false)))) else (some false)))) = some r := by rw [if_pos rfl] at H; exact H
    clear H
    have H := H1
    clear H1
    replace H := Option.bind_eq_some_iff.mp H
    obtain ⟨t367, A40, H⟩ := H
    replace H : ((dovetailref9_Known.f a0).bind fun t368 => (if (t367 == t368) = true then ((rela_Width.f k a0).bind fun t369 => ((dovetailref9_Width.f k a0).bind fun t370 => (if t369 = t370 then ((rela_Known.f k (Int.tmod a0 64)).bind fun t371 => ((dovetailref9_Known.f (Int.tmod a0 64)).bind fun t372 => (if (t371 == t372) = true then ((rela_Width.f k (Int.tmod a0 64)).bind fun t373 => ((dovetailref9_Width.f k (Int.tmod a0 64)).bind fun t374 => (some (t373 == t374)))) else (some false)))) else (some false)))) else (some false))) = some r := H
    have A4 := Aside0.mk A40
    clear A40
    replace H := Option.bind_eq_some_iff.mp H
    obtain ⟨t368, A50, H⟩ := H
    replace H : (if (t367 == t368) = true then ((rela_Width.f k a0).bind fun t369 => ((dovetailref9_Width.f k a0).bind fun t370 => (if t369 = t370 then ((rela_Known.f k (Int.tmod a0 64)).bind fun t371 => ((dovetailref9_Known.f (Int.tmod a0 64)).bind fun t372 => (if (t371 == t372) = true then ((rela_Width.f k (Int.tmod a0 64)).bind fun t373 => ((dovetailref9_Width.f k (Int.tmod a0 64)).bind fun t374 => (some (t373 == t374)))) else (some false)))) else (some false)))) else (some false)) = some r := H
    have A5 := Aside0.mk A50
    clear A50
    by_cases c6 : (t367 == t368) = true
    · rw [if_pos c6] at H
      have c6b0 : (t367 == t368) = true := c6
      (try (have c6b1 : decide (t367 = t368) = true := by simpa using c6))
      (try (have c6b2 : (t367 == t368) = true := by simpa using c6))
      clear c6
      replace H := Option.bind_eq_some_iff.mp H
      obtain ⟨t369, A70, H⟩ := H
      replace H : ((dovetailref9_Width.f k a0).bind fun t370 => (if t369 = t370 then ((rela_Known.f k (Int.tmod a0 64)).bind fun t371 => ((dovetailref9_Known.f (Int.tmod a0 64)).bind fun t372 => (if (t371 == t372) = true then ((rela_Width.f k (Int.tmod a0 64)).bind fun t373 => ((dovetailref9_Width.f k (Int.tmod a0 64)).bind fun t374 => (some (t373 == t374)))) else (some false)))) else (some false))) = some r := H
      have A7 := Aside0.mk A70
      clear A70
      replace H := Option.bind_eq_some_iff.mp H
      obtain ⟨t370, A80, H⟩ := H
      replace H : (if t369 = t370 then ((rela_Known.f k (Int.tmod a0 64)).bind fun t371 => ((dovetailref9_Known.f (Int.tmod a0 64)).bind fun t372 => (if (t371 == t372) = true then ((rela_Width.f k (Int.tmod a0 64)).bind fun t373 => ((dovetailref9_Width.f k (Int.tmod a0 64)).bind fun t374 => (some (t373 == t374)))) else (some false)))) else (some false)) = some r := H
      have A8 := Aside0.mk A80
      clear A80
      by_cases c9 : t369 = t370
      · rw [if_pos c9] at H
        have c9b0 : (t369 == t370) = true := beq_iff_eq.mpr c9
        have c9b1 : (t369 != t370) = false := bne_eq_false_iff_eq.mpr c9
        clear c9
        replace H := Option.bind_eq_some_iff.mp H
        obtain ⟨t371, A100, H⟩ := H
        replace H : ((dovetailref9_Known.f (Int.tmod a0 64)).bind fun t372 => (if (t371 == t372) = true then ((rela_Width.f k (Int.tmod a0 64)).bind fun t373 => ((dovetailref9_Width.f k (Int.tmod a0 64)).bind fun t374 => (some (t373 == t374)))) else (some false))) = some r := H
        have A10 := Aside0.mk A100
        clear A100
        replace H := Option.bind_eq_some_iff.mp H
        obtain ⟨t372, A110, H⟩ := H
        replace H : (if (t371 == t372) = true then ((rela_Width.f k (Int.tmod a0 64)).bind fun t373 => ((dovetailref9_Width.f k (Int.tmod a0 64)).bind fun t374 => (some (t373 == t374)))) else (some false)) = some r := H
        have A11 := Aside0.mk A110
        clear A110
        by_cases c12 : (t371 == t372) = true
        · rw [if_pos c12] at H
          have c12b0 : (t371 == t372) = true := c12
          (try (have c12b1 : decide (t371 = t372) = true := by simpa using c12))
          (try (have c12b2 : (t371 == t372) = true := by simpa using c12))
          clear c12
          replace H := Option.bind_eq_some_iff.mp H
          obtain ⟨t373, A130, H⟩ := H
          replace H : ((dovetailref9_Width.f k (Int.tmod a0 64)).bind fun t374 => (some (t373 == t374))) = some r := H
          have A13 := Aside0.mk A130
          clear A130
          replace H := Option.bind_eq_some_iff.mp H
          obtain ⟨t374, A140, H⟩ := H
          replace H : (some (t373 == t374)) = some r := H
          have A14 := Aside0.mk A140
          clear A140
          obtain rfl := Option.some.inj H
          go_enter Try.func12, Try.ntmps12
          go_wp2_with (first | ((with_reducible refine gate_callee (f := 35) rfl ?_); refine goesL_ (some 3) rfl rfl Try.func35 (by kernel_rfl) rfl #[] rfl (by (try simp only [List.map_toArray, List.map_cons, List.map_nil]); first | done | rfl | (simp only [List.length_drop, List.length_take]; rfl)) ?_; (with_reducible refine (dovetaillaw13_known.calls k  true _ A2.out).mono ?_); rintro e w15 ⟨rfl, hb⟩; refine ⟨_, rfl, ?_⟩; have n0_ := Aside0.mk (below_step (by repeat (first | (with_reducible first | exact HB.out | apply below_alloc | apply pw_below_drewN | apply below_drew1) | exact HB.out)) hb); clear HB; have HB := n0_; clear n0_; (try clear hb); (try clear hb2); (try clear hk); (try clear hi)) | ((with_reducible refine gate_callee (f := 41) rfl ?_); refine goesL_ (some 6) rfl rfl Try.func41 (by kernel_rfl) rfl #[.int .u32 a0] rfl (by (try simp only [List.map_toArray, List.map_cons, List.map_nil]); first | done | rfl | (simp only [List.length_drop, List.length_take]; rfl)) ?_; (with_reducible refine (rela_Known.calls k a0 t367 _ A4.out).mono ?_); rintro e w' ⟨rfl, ⟨nd, rfl⟩⟩; refine ⟨_, rfl, ?_⟩) | ((with_reducible refine gate_callee (f := 42) rfl ?_); refine goesL_ (some 8) rfl rfl Try.func42 (by kernel_rfl) rfl #[.int .u32 a0] rfl (by (try simp only [List.map_toArray, List.map_cons, List.map_nil]); first | done | rfl | (simp only [List.length_drop, List.length_take]; rfl)) ?_; (with_reducible refine (dovetailref9_Known.calls a0 t368 _ A5.out).mono ?_); rintro e w' ⟨rfl, ⟨nd, rfl⟩⟩; refine ⟨_, rfl, ?_⟩) | (go_at_call 43; (with_reducible refine (rela_Width.calls k a0 t369 _ A7.out).mono ?_); rintro e w' ⟨rfl, ⟨nd, rfl⟩⟩) | (go_at_call 44; (with_reducible refine (dovetailref9_Width.calls k a0 t370 _ A8.out).mono ?_); rintro e w' ⟨rfl, ⟨nd, rfl⟩⟩) | (go_at_call 41; (with_reducible refine (rela_Known.calls k (Int.tmod a0 64) t371 _ A10.out).mono ?_); rintro e w' ⟨rfl, ⟨nd, rfl⟩⟩) | (go_at_call 42; (with_reducible refine (dovetailref9_Known.calls (Int.tmod a0 64) t372 _ A11.out).mono ?_); rintro e w' ⟨rfl, ⟨nd, rfl⟩⟩) | (go_at_call 43; (with_reducible refine (rela_Width.calls k (Int.tmod a0 64) t373 _ A13.out).mono ?_); rintro e w' ⟨rfl, ⟨nd, rfl⟩⟩) | (go_at_call 44; (with_reducible refine (dovetailref9_Width.calls k (Int.tmod a0 64) t374 _ A14.out).mono ?_); rintro e w' ⟨rfl, ⟨nd, rfl⟩⟩))
          go_ret
          exact ⟨by first | rfl | (simp [errW_none, errW_some] <;> rfl) | (simp [*, errW_none, errW_some] <;> rfl), by repeat (first | (with_reducible first | exact HB.out | apply below_alloc | apply pw_below_drewN | apply below_drew1) | exact HB.out)⟩
        · rw [if_neg c12] at H
          have c12b0 : (t371 == t372) = false := by simpa using c12
          (try (have c12b1 : decide (t371 = t372) = false := by simpa using c12))
          (try (have c12b2 : (t371 == t372) = false := by simpa using c12))
          (try (have c12b3 : ¬ (t371 = t372) := by simpa using c12))
          clear c12
          obtain rfl := Option.some.inj H
          go_enter Try.func12, Try.ntmps12
          go_wp2_with (first | ((with_reducible refine gate_callee (f := 35) rfl ?_); refine goesL_ (some 3) rfl rfl Try.func35 (by kernel_rfl) rfl #[] rfl (by (try simp only [List.map_toArray, List.map_cons, List.map_nil]); first | done | rfl | (simp only [List.length_drop, List.length_take]; rfl)) ?_; (with_reducible refine (dovetaillaw13_known.calls k  true _ A2.out).mono ?_); rintro e w16 ⟨rfl, hb⟩; refine ⟨_, rfl, ?_⟩; have n0_ := Aside0.mk (below_step (by repeat (first | (with_reducible first | exact HB.out | apply below_alloc | apply pw_below_drewN | apply below_drew1) | exact HB.out)) hb); clear HB; have HB := n0_; clear n0_; (try clear hb); (try clear hb2); (try clear hk); (try clear hi)) | ((with_reducible refine gate_callee (f := 41) rfl ?_); refine goesL_ (some 6) rfl rfl Try.func41 (by kernel_rfl) rfl #[.int .u32 a0] rfl (by (try simp only [List.map_toArray, List.map_cons, List.map_nil]); first | done | rfl | (simp only [List.length_drop, List.length_take]; rfl)) ?_; (with_reducible refine (rela_Known.calls k a0 t367 _ A4.out).mono ?_); rintro e w' ⟨rfl, ⟨nd, rfl⟩⟩; refine ⟨_, rfl, ?_⟩) | ((with_reducible refine gate_callee (f := 42) rfl ?_); refine goesL_ (some 8) rfl rfl Try.func42 (by kernel_rfl) rfl #[.int .u32 a0] rfl (by (try simp only [List.map_toArray, List.map_cons, List.map_nil]); first | done | rfl | (simp only [List.length_drop, List.length_take]; rfl)) ?_; (with_reducible refine (dovetailref9_Known.calls a0 t368 _ A5.out).mono ?_); rintro e w' ⟨rfl, ⟨nd, rfl⟩⟩; refine ⟨_, rfl, ?_⟩) | (go_at_call 43; (with_reducible refine (rela_Width.calls k a0 t369 _ A7.out).mono ?_); rintro e w' ⟨rfl, ⟨nd, rfl⟩⟩) | (go_at_call 44; (with_reducible refine (dovetailref9_Width.calls k a0 t370 _ A8.out).mono ?_); rintro e w' ⟨rfl, ⟨nd, rfl⟩⟩) | (go_at_call 41; (with_reducible refine (rela_Known.calls k (Int.tmod a0 64) t371 _ A10.out).mono ?_); rintro e w' ⟨rfl, ⟨nd, rfl⟩⟩) | (go_at_call 42; (with_reducible refine (dovetailref9_Known.calls (Int.tmod a0 64) t372 _ A11.out).mono ?_); rintro e w' ⟨rfl, ⟨nd, rfl⟩⟩))
          go_ret
          exact ⟨by first | rfl | (simp [errW_none, errW_some] <;> rfl) | (simp [*, errW_none, errW_some] <;> rfl), by repeat (first | (with_reducible first | exact HB.out | apply below_alloc | apply pw_below_drewN | apply below_drew1) | exact HB.out)⟩
      · rw [if_neg c9] at H
        have c9b0 : (t369 == t370) = false := beq_eq_false_iff_ne.mpr c9
        have c9b1 : (t369 != t370) = true := bne_iff_ne.mpr c9
        obtain rfl := Option.some.inj H
        go_enter Try.func12, Try.ntmps12
        go_wp2_with (first | ((with_reducible refine gate_callee (f := 35) rfl ?_); refine goesL_ (some 3) rfl rfl Try.func35 (by kernel_rfl) rfl #[] rfl (by (try simp only [List.map_toArray, List.map_cons, List.map_nil]); first | done | rfl | (simp only [List.length_drop, List.length_take]; rfl)) ?_; (with_reducible refine (dovetaillaw13_known.calls k  true _ A2.out).mono ?_); rintro e w17 ⟨rfl, hb⟩; refine ⟨_, rfl, ?_⟩; have n0_ := Aside0.mk (below_step (by repeat (first | (with_reducible first | exact HB.out | apply below_alloc | apply pw_below_drewN | apply below_drew1) | exact HB.out)) hb); clear HB; have HB := n0_; clear n0_; (try clear hb); (try clear hb2); (try clear hk); (try clear hi)) | ((with_reducible refine gate_callee (f := 41) rfl ?_); refine goesL_ (some 6) rfl rfl Try.func41 (by kernel_rfl) rfl #[.int .u32 a0] rfl (by (try simp only [List.map_toArray, List.map_cons, List.map_nil]); first | done | rfl | (simp only [List.length_drop, List.length_take]; rfl)) ?_; (with_reducible refine (rela_Known.calls k a0 t367 _ A4.out).mono ?_); rintro e w' ⟨rfl, ⟨nd, rfl⟩⟩; refine ⟨_, rfl, ?_⟩) | ((with_reducible refine gate_callee (f := 42) rfl ?_); refine goesL_ (some 8) rfl rfl Try.func42 (by kernel_rfl) rfl #[.int .u32 a0] rfl (by (try simp only [List.map_toArray, List.map_cons, List.map_nil]); first | done | rfl | (simp only [List.length_drop, List.length_take]; rfl)) ?_; (with_reducible refine (dovetailref9_Known.calls a0 t368 _ A5.out).mono ?_); rintro e w' ⟨rfl, ⟨nd, rfl⟩⟩; refine ⟨_, rfl, ?_⟩) | (go_at_call 43; (with_reducible refine (rela_Width.calls k a0 t369 _ A7.out).mono ?_); rintro e w' ⟨rfl, ⟨nd, rfl⟩⟩) | (go_at_call 44; (with_reducible refine (dovetailref9_Width.calls k a0 t370 _ A8.out).mono ?_); rintro e w' ⟨rfl, ⟨nd, rfl⟩⟩))
        go_ret
        exact ⟨by first | rfl | (simp [errW_none, errW_some] <;> rfl) | (simp [*, errW_none, errW_some] <;> rfl), by repeat (first | (with_reducible first | exact HB.out | apply below_alloc | apply pw_below_drewN | apply below_drew1) | exact HB.out)⟩
    · rw [if_neg c6] at H
      have c6b0 : (t367 == t368) = false := by simpa using c6
      (try (have c6b1 : decide (t367 = t368) = false := by simpa using c6))
      (try (have c6b2 : (t367 == t368) = false := by simpa using c6))
      (try (have c6b3 : ¬ (t367 = t368) := by simpa using c6))
      clear c6
      obtain rfl := Option.some.inj H
      go_enter Try.func12, Try.ntmps12
      go_wp2_with (first | ((with_reducible refine gate_callee (f := 35) rfl ?_); refine goesL_ (some 3) rfl rfl Try.func35 (by kernel_rfl) rfl #[] rfl (by (try simp only [List.map_toArray, List.map_cons, List.map_nil]); first | done | rfl | (simp only [List.length_drop, List.length_take]; rfl)) ?_; (with_reducible refine (dovetaillaw13_known.calls k  true _ A2.out).mono ?_); rintro e w18 ⟨rfl, hb⟩; refine ⟨_, rfl, ?_⟩; have n0_ := Aside0.mk (below_step (by repeat (first | (with_reducible first | exact HB.out | apply below_alloc | apply pw_below_drewN | apply below_drew1) | exact HB.out)) hb); clear HB; have HB := n0_; clear n0_; (try clear hb); (try clear hb2); (try clear hk); (try clear hi)) | ((with_reducible refine gate_callee (f := 41) rfl ?_); refine goesL_ (some 6) rfl rfl Try.func41 (by kernel_rfl) rfl #[.int .u32 a0] rfl (by (try simp only [List.map_toArray, List.map_cons, List.map_nil]); first | done | rfl | (simp only [List.length_drop, List.length_take]; rfl)) ?_; (with_reducible refine (rela_Known.calls k a0 t367 _ A4.out).mono ?_); rintro e w' ⟨rfl, ⟨nd, rfl⟩⟩; refine ⟨_, rfl, ?_⟩) | ((with_reducible refine gate_callee (f := 42) rfl ?_); refine goesL_ (some 8) rfl rfl Try.func42 (by kernel_rfl) rfl #[.int .u32 a0] rfl (by (try simp only [List.map_toArray, List.map_cons, List.map_nil]); first | done | rfl | (simp only [List.length_drop, List.length_take]; rfl)) ?_; (with_reducible refine (dovetailref9_Known.calls a0 t368 _ A5.out).mono ?_); rintro e w' ⟨rfl, ⟨nd, rfl⟩⟩; refine ⟨_, rfl, ?_⟩))
      go_ret
      exact ⟨by first | rfl | (simp [errW_none, errW_some] <;> rfl) | (simp [*, errW_none, errW_some] <;> rfl), by repeat (first | (with_reducible first | exact HB.out | apply below_alloc | apply pw_below_drewN | apply below_drew1) | exact HB.out)⟩
  · replace c3 := Bool.eq_false_iff.mpr c3
    subst c3
    have H1 : (some false) = some r := by rw [if_neg (show ¬ (false = true) by decide)] at H; exact H
    clear H
    have H := H1
    clear H1
    obtain rfl := Option.some.inj H
    go_enter Try.func12, Try.ntmps12
    go_wp2_with (first | ((with_reducible refine gate_callee (f := 35) rfl ?_); refine goesL_ (some 3) rfl rfl Try.func35 (by kernel_rfl) rfl #[] rfl (by (try simp only [List.map_toArray, List.map_cons, List.map_nil]); first | done | rfl | (simp only [List.length_drop, List.length_take]; rfl)) ?_; (with_reducible refine (dovetaillaw13_known.calls k  false _ A2.out).mono ?_); rintro e w19 ⟨rfl, hb⟩; refine ⟨_, rfl, ?_⟩; have n0_ := Aside0.mk (below_step (by repeat (first | (with_reducible first | exact HB.out | apply below_alloc | apply pw_below_drewN | apply below_drew1) | exact HB.out)) hb); clear HB; have HB := n0_; clear n0_; (try clear hb); (try clear hb2); (try clear hk); (try clear hi)))
    go_ret
    exact ⟨by first | rfl | (simp [errW_none, errW_some] <;> rfl) | (simp [*, errW_none, errW_some] <;> rfl), by repeat (first | (with_reducible first | exact HB.out | apply below_alloc | apply pw_below_drewN | apply below_drew1) | exact HB.out)⟩

/-- THE ONE PURE STATEMENT of dovetaillaw13_RelaTypes: yours. -/
def dovetaillaw13_RelaTypes.Pure : Prop := ∀ (a0 : Int), (Lit.int .u32 a0).wf = true → ∃ k, dovetaillaw13_RelaTypes.f k a0 = some true
theorem dovetaillaw13_RelaTypes.walk (P : dovetaillaw13_RelaTypes.Pure) (a0 : Int) (w : World) (w0 : (Lit.int .u32 a0).wf = true) :
    Calls Try.prog 12 #[.int .u32 a0] w fun e w' => e = .returned (.bool true) ∧ Below w.heap.size w w' := by
  obtain ⟨k, h⟩ := P a0 w0
  refine (dovetaillaw13_RelaTypes.calls k a0 true w h).mono ?_
  rintro e w' ⟨rfl, hd⟩
  exact ⟨rfl, hd⟩

end Go.Proofs.Ythjlhoclmbnjgaa.P
