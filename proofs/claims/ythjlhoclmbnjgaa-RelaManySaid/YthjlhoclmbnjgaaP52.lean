-- printed by this session's program (wip/print), out of the translation; Lean checks it
import Derived.Test.YthjlhoclmbnjgaaP0
import Derived.Test.YthjlhoclmbnjgaaP39
import Derived.Test.YthjlhoclmbnjgaaP41
import Derived.Test.YthjlhoclmbnjgaaP42
import Derived.Test.YthjlhoclmbnjgaaP47
namespace Go.Proofs.Ythjlhoclmbnjgaa.P
open Go.RowKit Go.Proofs.YthjlhoclmbnjgaaW.PrintWords Go.Proofs.YthjlhoclmbnjgaaW.PrintLast Go.Proofs.YthjlhoclmbnjgaaW.PrintMore
attribute [local go_sem] max2_int min2_int max_two min_two max_three min_three max_four min_four   -- for this text's walks alone
set_option linter.unusedVariables false
set_option linter.unusedSimpArgs false
open Go.Proofs.YthjlhoclmbnjgaaX

/-! ### dovetaillaw13_RelaMany: function 14 -/
mutual
def dovetaillaw13_RelaMany.j0 : Nat → List (S74) → Bool → Option (Bool)
  | 0, _, _ => none
  | k + 1, x2, x54 => if x54 = true then (some false) else (dovetaillaw13_RelaMany.l0 k x2 ([] : List (S74)) 0)
def dovetaillaw13_RelaMany.l0 : Nat → List (S74) → List (S74) → Int → Option (Bool)
  | 0, _, _, _ => none
  | k + 1, x2, x10, x11 => if x11 < (x2.length : Int) then (if 0 ≤ x11 then (if x10.length < 5864062014805 then (dovetaillaw13_RelaMany.l0 k x2 (x10 ++ [(⟨Int.tmod ((rd_T74 x2 x11).f0) 50, (rd_T74 x2 x11).f1, Int.tmod ((rd_T74 x2 x11).f2) 7, (rd_T74 x2 x11).f3⟩ : S74)]) (wrap64 (x11 + 1))) else (none)) else (none)) else ((dovetailref9_RelaBytes.f k x10).bind fun t508 => ((rela_Parse.f k t508 58 7).bind fun bt511 => (if bt511.2 = 0 then ((dovetailhelp_Relas.f k bt511.1 x10).bind fun t515 => (some t515)) else (some false))))
end
def dovetaillaw13_RelaMany.f (k : Nat) (a0 : Int) (a1 : Int) (l2 : List (S74)) : Option (Bool) := (dovetaillaw13_known.f k).bind fun t495 => (if t495 = true then (if (l2.length : Int) > 20 then (some true) else (if 0 ≤ (wrap64 ((wrap64 (24 * (wrap64 (1998 + (wrap64 (Int.tmod a0 5)))))) + (wrap64 (Int.tmod a1 3)))) then (if (wrap64 ((wrap64 (24 * (wrap64 (1998 + (wrap64 (Int.tmod a0 5)))))) + (wrap64 (Int.tmod a1 3))) : Int).toNat ≤ 281474976710656 then ((rela_Parse.f k (List.replicate (wrap64 ((wrap64 (24 * (wrap64 (1998 + (wrap64 (Int.tmod a0 5)))))) + (wrap64 (Int.tmod a1 3))) : Int).toNat 0) 4 1).bind fun bt499 => (if (wrap64 (1998 + (wrap64 (Int.tmod a0 5)))) ≤ 2000 then (if ((bt499.2 == 0) != ((Int.tmod a1 3) == 0)) = true then (dovetaillaw13_RelaMany.j0 k l2 true) else (if bt499.2 = 0 then (dovetaillaw13_RelaMany.j0 k l2 ((bt499.1.length : Int) != (wrap64 (1998 + (wrap64 (Int.tmod a0 5)))))) else (dovetaillaw13_RelaMany.j0 k l2 false))) else (if ((bt499.2 == 0) != false) = true then (dovetaillaw13_RelaMany.j0 k l2 true) else (if bt499.2 = 0 then (dovetaillaw13_RelaMany.j0 k l2 ((bt499.1.length : Int) != (wrap64 (1998 + (wrap64 (Int.tmod a0 5)))))) else (dovetaillaw13_RelaMany.j0 k l2 false))))) else (none)) else (none))) else (some false))
theorem dovetaillaw13_RelaMany.mono_l : ∀ k, (∀ y0 y1, LeO (dovetaillaw13_RelaMany.j0 k y0 y1) (dovetaillaw13_RelaMany.j0 (k + 1) y0 y1)) ∧ (∀ y0 y1 y2, LeO (dovetaillaw13_RelaMany.l0 k y0 y1 y2) (dovetaillaw13_RelaMany.l0 (k + 1) y0 y1 y2))
  | 0 => ⟨fun _ _ r h => by simp [dovetaillaw13_RelaMany.j0] at h, fun _ _ _ r h => by simp [dovetaillaw13_RelaMany.l0] at h⟩
  | k + 1 => by
    obtain ⟨ih0, ih1⟩ := dovetaillaw13_RelaMany.mono_l k
    refine ⟨?_, ?_⟩
    · intro y0 y1
      unfold dovetaillaw13_RelaMany.j0
      repeat' first
      | (with_reducible exact ih0 _ _)
      | (with_reducible exact ih1 _ _ _)
      | (with_reducible exact dovetailhelp_Relas.mono _ _ _)
      | (with_reducible exact dovetaillaw13_known.mono _)
      | (with_reducible exact dovetailref9_RelaBytes.mono _ _)
      | (with_reducible exact rela_Parse.mono _ _ _ _)
      | (with_reducible exact LeO.refl _)
      | (with_reducible exact LeO.none _)
      | (with_reducible refine LeO.ite ?_ ?_)
      | (with_reducible refine LeO.bind ?_ (fun _ => ?_))
      | exact ih0 _ _
      | exact ih1 _ _ _
      | exact dovetailhelp_Relas.mono _ _ _
      | exact dovetaillaw13_known.mono _
      | exact dovetailref9_RelaBytes.mono _ _
      | exact rela_Parse.mono _ _ _ _
      | exact LeO.none _
      | refine LeO.ite ?_ ?_
      | refine LeO.bind ?_ (fun _ => ?_)
    · intro y0 y1 y2
      unfold dovetaillaw13_RelaMany.l0
      repeat' first
      | (with_reducible exact ih0 _ _)
      | (with_reducible exact ih1 _ _ _)
      | (with_reducible exact dovetailhelp_Relas.mono _ _ _)
      | (with_reducible exact dovetaillaw13_known.mono _)
      | (with_reducible exact dovetailref9_RelaBytes.mono _ _)
      | (with_reducible exact rela_Parse.mono _ _ _ _)
      | (with_reducible exact LeO.refl _)
      | (with_reducible exact LeO.none _)
      | (with_reducible refine LeO.ite ?_ ?_)
      | (with_reducible refine LeO.bind ?_ (fun _ => ?_))
      | exact ih0 _ _
      | exact ih1 _ _ _
      | exact dovetailhelp_Relas.mono _ _ _
      | exact dovetaillaw13_known.mono _
      | exact dovetailref9_RelaBytes.mono _ _
      | exact rela_Parse.mono _ _ _ _
      | exact LeO.none _
      | refine LeO.ite ?_ ?_
      | refine LeO.bind ?_ (fun _ => ?_)
theorem dovetaillaw13_RelaMany.mono : ∀ a0 a1 a2 k, LeO (dovetaillaw13_RelaMany.f k a0 a1 a2) (dovetaillaw13_RelaMany.f (k + 1) a0 a1 a2) := by
  intro a0 a1 a2 k
  obtain ⟨ih0, ih1⟩ := dovetaillaw13_RelaMany.mono_l k
  unfold dovetaillaw13_RelaMany.f
  repeat' first
      | (with_reducible exact ih0 _ _)
      | (with_reducible exact ih1 _ _ _)
      | (with_reducible exact dovetailhelp_Relas.mono _ _ _)
      | (with_reducible exact dovetaillaw13_known.mono _)
      | (with_reducible exact dovetailref9_RelaBytes.mono _ _)
      | (with_reducible exact rela_Parse.mono _ _ _ _)
      | (with_reducible exact LeO.refl _)
      | (with_reducible exact LeO.none _)
      | (with_reducible refine LeO.ite ?_ ?_)
      | (with_reducible refine LeO.bind ?_ (fun _ => ?_))
      | exact ih0 _ _
      | exact ih1 _ _ _
      | exact dovetailhelp_Relas.mono _ _ _
      | exact dovetaillaw13_known.mono _
      | exact dovetailref9_RelaBytes.mono _ _
      | exact rela_Parse.mono _ _ _ _
      | exact LeO.none _
      | refine LeO.ite ?_ ?_
      | refine LeO.bind ?_ (fun _ => ?_)
set_option maxHeartbeats 8000000 in
set_option maxRecDepth 100000 in
theorem dovetaillaw13_RelaMany.calls (k : Nat) (a0 : Int) (a1 : Int) (A2 : Option Addr) (c2 : Nat) (l2 : List (S74)) (r : Bool) (w : World) (hr2 : Kd.C k74 w A2 l2.length l2) (hc2 : l2.length ≤ c2) (h : dovetaillaw13_RelaMany.f k a0 a1 l2 = some r) :
    Calls Try.prog 14 #[.int .u8 a0, .int .u8 a1, .slice A2 l2.length c2] w fun e w' => e = .returned (.bool r) ∧ Below w.heap.size w w' := by
  have hu74 := Try.underlying74
  have HR2 := Aside0.mk hr2
  have HC2 := Aside0.mk hc2
  clear hr2 hc2
  have HB := Aside0.mk (Below.refl w.heap.size w)
  have H : ((dovetaillaw13_known.f k).bind fun t495 => (if t495 = true then (if (l2.length : Int) > 20 then (some true) else (if 0 ≤ (wrap64 ((wrap64 (24 * (wrap64 (1998 + (wrap64 (Int.tmod a0 5)))))) + (wrap64 (Int.tmod a1 3)))) then (if (wrap64 ((wrap64 (24 * (wrap64 (1998 + (wrap64 (Int.tmod a0 5)))))) + (wrap64 (Int.tmod a1 3))) : Int).toNat ≤ 281474976710656 then ((rela_Parse.f k (List.replicate (wrap64 ((wrap64 (24 * (wrap64 (1998 + (wrap64 (Int.tmod a0 5)))))) + (wrap64 (Int.tmod a1 3))) : Int).toNat 0) 4 1).bind fun bt499 => (if (wrap64 (1998 + (wrap64 (Int.tmod a0 5)))) ≤ 2000 then (if ((bt499.2 == 0) != ((Int.tmod a1 3) == 0)) = true then (dovetaillaw13_RelaMany.j0 k l2 true) else (if bt499.2 = 0 then (dovetaillaw13_RelaMany.j0 k l2 ((bt499.1.length : Int) != (wrap64 (1998 + (wrap64 (Int.tmod a0 5)))))) else (dovetaillaw13_RelaMany.j0 k l2 false))) else (if ((bt499.2 == 0) != false) = true then (dovetaillaw13_RelaMany.j0 k l2 true) else (if bt499.2 = 0 then (dovetaillaw13_RelaMany.j0 k l2 ((bt499.1.length : Int) != (wrap64 (1998 + (wrap64 (Int.tmod a0 5)))))) else (dovetaillaw13_RelaMany.j0 k l2 false))))) else (none)) else (none))) else (some false))) = some r := h
  clear h
  replace H := Option.bind_eq_some_iff.mp H
  obtain ⟨t495, A40, H⟩ := H
  replace H : (if t495 = true then (if (l2.length : Int) > 20 then (some true) else (if 0 ≤ (wrap64 ((wrap64 (24 * (wrap64 (1998 + (wrap64 (Int.tmod a0 5)))))) + (wrap64 (Int.tmod a1 3)))) then (if (wrap64 ((wrap64 (24 * (wrap64 (1998 + (wrap64 (Int.tmod a0 5)))))) + (wrap64 (Int.tmod a1 3))) : Int).toNat ≤ 281474976710656 then ((rela_Parse.f k (List.replicate (wrap64 ((wrap64 (24 * (wrap64 (1998 + (wrap64 (Int.tmod a0 5)))))) + (wrap64 (Int.tmod a1 3))) : Int).toNat 0) 4 1).bind fun bt499 => (if (wrap64 (1998 + (wrap64 (Int.tmod a0 5)))) ≤ 2000 then (if ((bt499.2 == 0) != ((Int.tmod a1 3) == 0)) = true then (dovetaillaw13_RelaMany.j0 k l2 true) else (if bt499.2 = 0 then (dovetaillaw13_RelaMany.j0 k l2 ((bt499.1.length : Int) != (wrap64 (1998 + (wrap64 (Int.tmod a0 5)))))) else (dovetaillaw13_RelaMany.j0 k l2 false))) else (if ((bt499.2 == 0) != false) = true then (dovetaillaw13_RelaMany.j0 k l2 true) else (if bt499.2 = 0 then (dovetaillaw13_RelaMany.j0 k l2 ((bt499.1.length : Int) != (wrap64 (1998 + (wrap64 (Int.tmod a0 5)))))) else (dovetaillaw13_RelaMany.j0 k l2 false))))) else (none)) else (none))) else (some false)) = some r := H
  have A4 := Aside0.mk A40
  clear A40
  by_cases c5 : t495 = true
  · subst c5
    have H1 : (if (l2.length : Int) > 20 then (some true) else (if 0 ≤ (wrap64 ((wrap64 (24 * (wrap64 (1998 + (wrap64 (Int.tmod a0 5)))))) + (wrap64 (Int.tmod a1 3)))) then (if (wrap64 ((wrap64 (24 * (wrap64 (1998 + (wrap64 (Int.tmod a0 5)))))) + (wrap64 (Int.tmod a1 3))) : Int).toNat ≤ 281474976710656 then ((rela_Parse.f k (List.replicate (wrap64 ((wrap64 (24 * (wrap64 (1998 + (wrap64 (Int.tmod a0 5)))))) + (wrap64 (Int.tmod a1 3))) : Int).toNat 0) 4 1).bind fun bt499 => (if (wrap64 (1998 + (wrap64 (Int.tmod a0 5)))) ≤ 2000 then (if ((bt499.2 == 0) != ((Int.tmod a1 3) == 0)) = true then (dovetaillaw13_RelaMany.j0 k l2 true) else (if bt499.2 = 0 then (dovetaillaw13_RelaMany.j0 k l2 ((bt499.1.length : Int) != (wrap64 (1998 + (wrap64 (Int.tmod a0 5)))))) else (dovetaillaw13_RelaMany.j0 k l2 false))) else (if ((bt499.2 == 0) != false) = true then (dovetaillaw13_RelaMany.j0 k l2 true) else (if bt499.2 = 0 then (dovetaillaw13_RelaMany.j0 k l2 ((bt499.1.length : Int) != (wrap64 (1998 + (wrap64 (Int.tmod a0 5)))))) else (dovetaillaw13_RelaMany.j0 k l2 false))))) else (none)) else (none))) = some r := by rw [if_pos rfl] at H; exact H
    clear H
    have H := H1
    clear H1
    by_cases c6 : (l2.length : Int) > 20
    · rw [if_pos c6] at H
      have c6b0 : decide (20 < (l2.length : Int)) = true := decide_eq_true c6
      have c6b1 : decide (20 < l2.length) = true := decide_eq_true (by omega)
      clear c6
      obtain rfl := Option.some.inj H
      go_enter Try.func14, Try.ntmps14
      go_wp2_with (first | ((with_reducible refine gate_callee (f := 35) rfl ?_); refine goesL_ (some 15) rfl rfl Try.func35 (by kernel_rfl) rfl #[] rfl (by (try simp only [List.map_toArray, List.map_cons, List.map_nil]); first | done | rfl | (simp only [List.length_drop, List.length_take]; rfl)) ?_; (with_reducible refine (dovetaillaw13_known.calls k  true _ A4.out).mono ?_); rintro e w7 ⟨rfl, hb⟩; refine ⟨_, rfl, ?_⟩; have n0_ := Aside0.mk (below_step (by repeat (first | (with_reducible first | exact HB.out | apply below_alloc | apply pw_below_drewN | apply below_drew1) | exact HB.out)) hb); clear HB; have HB := n0_; clear n0_; (try clear hb); (try clear hb2); (try clear hk); (try clear hi)))
      go_ret
      exact ⟨by first | rfl | (simp [errW_none, errW_some] <;> rfl) | (simp [*, errW_none, errW_some] <;> rfl), by repeat (first | (with_reducible first | exact HB.out | apply below_alloc | apply pw_below_drewN | apply below_drew1) | exact HB.out)⟩
    · rw [if_neg c6] at H
      have c6b0 : decide (20 < (l2.length : Int)) = false := decide_eq_false c6
      have c6b1 : decide (20 < l2.length) = false := decide_eq_false (by omega)
      clear c6
      obtain ⟨ji8, hji8⟩ : ∃ j_ : Int, (wrap64 ((wrap64 (24 * (wrap64 (1998 + (wrap64 (Int.tmod a0 5)))))) + (wrap64 (Int.tmod a1 3)))) = j_ := ⟨_, rfl⟩
      replace H : (if 0 ≤ (ji8) then (if (ji8 : Int).toNat ≤ 281474976710656 then ((rela_Parse.f k (List.replicate (ji8 : Int).toNat 0) 4 1).bind fun bt499 => (if (wrap64 (1998 + (wrap64 (Int.tmod a0 5)))) ≤ 2000 then (if ((bt499.2 == 0) != ((Int.tmod a1 3) == 0)) = true then (dovetaillaw13_RelaMany.j0 k l2 true) else (if bt499.2 = 0 then (dovetaillaw13_RelaMany.j0 k l2 ((bt499.1.length : Int) != (wrap64 (1998 + (wrap64 (Int.tmod a0 5)))))) else (dovetaillaw13_RelaMany.j0 k l2 false))) else (if ((bt499.2 == 0) != false) = true then (dovetaillaw13_RelaMany.j0 k l2 true) else (if bt499.2 = 0 then (dovetaillaw13_RelaMany.j0 k l2 ((bt499.1.length : Int) != (wrap64 (1998 + (wrap64 (Int.tmod a0 5)))))) else (dovetaillaw13_RelaMany.j0 k l2 false))))) else (none)) else (none)) = some r := by first | (rw [hji8] at H; exact H) | (simp only [hji8] at H ⊢; exact H)
      (try rw [hji8] at A4)
      have hji8w : (IntKind.i64.wrap ((wrap64 (24 * (wrap64 (1998 + (wrap64 (Int.tmod a0 5)))))) + (wrap64 (Int.tmod a1 3)))) = ji8 := (i64_w _).trans hji8
      by_cases c9 : 0 ≤ (ji8)
      · rw [if_pos c9] at H
        have c9b0 := eq_true c9
        have c9b1 : decide (0 ≤ (ji8)) = true := decide_eq_true c9
        clear c9
        by_cases c10 : (ji8 : Int).toNat ≤ 281474976710656
        · rw [if_pos c10] at H
          have c10b0 := eq_true c10
          have c10b1 : decide ((ji8 : Int).toNat ≤ 281474976710656) = true := decide_eq_true c10
          clear c10
          obtain ⟨y496, hy496⟩ : ∃ y_ : List Int, y_ = (List.replicate (ji8 : Int).toNat 0) := ⟨_, rfl⟩
          replace H : ((rela_Parse.f k y496 4 1).bind fun bt499 => (if (wrap64 (1998 + (wrap64 (Int.tmod a0 5)))) ≤ 2000 then (if ((bt499.2 == 0) != ((Int.tmod a1 3) == 0)) = true then (dovetaillaw13_RelaMany.j0 k l2 true) else (if bt499.2 = 0 then (dovetaillaw13_RelaMany.j0 k l2 ((bt499.1.length : Int) != (wrap64 (1998 + (wrap64 (Int.tmod a0 5)))))) else (dovetaillaw13_RelaMany.j0 k l2 false))) else (if ((bt499.2 == 0) != false) = true then (dovetaillaw13_RelaMany.j0 k l2 true) else (if bt499.2 = 0 then (dovetaillaw13_RelaMany.j0 k l2 ((bt499.1.length : Int) != (wrap64 (1998 + (wrap64 (Int.tmod a0 5)))))) else (dovetaillaw13_RelaMany.j0 k l2 false))))) = some r := by first | (rw [hy496]; with_reducible exact H) | (have H2_ := (Option.bind_some _ _).symm.trans H; rw [hy496]; with_reducible exact H2_) | (have H2_ := (Option.bind_some _ _).symm.trans H; with_reducible exact H2_) | with_reducible exact H | (rw [hy496]; exact H) | exact H
          have Ny496 := Aside0.mk hy496
          clear hy496
          replace H := Option.bind_eq_some_iff.mp H
          obtain ⟨⟨t499, t500⟩, A110, H⟩ := H
          replace H : (if (wrap64 (1998 + (wrap64 (Int.tmod a0 5)))) ≤ 2000 then (if ((t500 == 0) != ((Int.tmod a1 3) == 0)) = true then (dovetaillaw13_RelaMany.j0 k l2 true) else (if t500 = 0 then (dovetaillaw13_RelaMany.j0 k l2 ((t499.length : Int) != (wrap64 (1998 + (wrap64 (Int.tmod a0 5)))))) else (dovetaillaw13_RelaMany.j0 k l2 false))) else (if ((t500 == 0) != false) = true then (dovetaillaw13_RelaMany.j0 k l2 true) else (if t500 = 0 then (dovetaillaw13_RelaMany.j0 k l2 ((t499.length : Int) != (wrap64 (1998 + (wrap64 (Int.tmod a0 5)))))) else (dovetaillaw13_RelaMany.j0 k l2 false)))) = some r := H
          have A11 := Aside0.mk A110
          clear A110
          have HC12 := Aside0.mk H
          clear H
          go_enter Try.func14, Try.ntmps14
          go_upto_region 7 with (first | ((with_reducible refine gate_callee (f := 35) rfl ?_); refine goesL_ (some 15) rfl rfl Try.func35 (by kernel_rfl) rfl #[] rfl (by (try simp only [List.map_toArray, List.map_cons, List.map_nil]); first | done | rfl | (simp only [List.length_drop, List.length_take]; rfl)) ?_; (with_reducible refine (dovetaillaw13_known.calls k  true _ A4.out).mono ?_); rintro e w13 ⟨rfl, hb⟩; refine ⟨_, rfl, ?_⟩; have n0_ := Aside0.mk (below_step (by repeat (first | (with_reducible first | exact HB.out | apply below_alloc | apply pw_below_drewN | apply below_drew1) | exact HB.out)) hb); clear HB; have HB := n0_; clear n0_; (try clear hb); (try clear hb2); (try clear hk); (try clear hi)) | ((with_reducible refine gate_dst (N := 31) rfl ?_); (try (refine gate_guard (by rfl) ?_; dsimp only)); refine Kd.R_make (Kd.int .u8) _ 5 rfl (N := 31) rfl 22 _ _ rfl ji8 rfl rfl Try.underlying22 (.int .u8 0) 1 info5 rfl (by decide) (by omega) 0 (ok := fun _ => True) (okp := fun _ => True) rfl (fun _ hk => hk) trivial (of_decide_eq_true (by first | (with_reducible assumption) | assumption)) (Nat.le_trans (Nat.mul_le_mul_right _ (of_decide_eq_true (by first | (with_reducible assumption) | assumption) : ji8.toNat ≤ 281474976710656)) (by omega)) (Below.refl _ _) (Nat.le_refl _) ?_; intro v497 w14 ho15 hb hg_ hnew_; clear hg_ hnew_; (first | rw [← Ny496.out] at ho15 | (simp only [Int.reduceToNat] at ho15; rw [← Ny496.out] at ho15)); have n0_ := Aside0.mk (Kd.R_lower ho15 (below_size (by repeat (first | (with_reducible first | exact HB.out | apply below_alloc | apply pw_below_drewN | apply below_drew1) | exact HB.out)))); have n1_ := Aside0.mk (below_step (by repeat (first | (with_reducible first | exact HB.out | apply below_alloc | apply pw_below_drewN | apply below_drew1) | exact HB.out)) hb); clear HB; have HO498 := n0_; have HB := n1_; clear n0_ n1_; clear hb ho15; obtain ⟨Ao16, co16, eo16⟩ := Kd.R_slice HO498.out; subst eo16) | ((with_reducible refine gate_callee (f := 38) rfl ?_); refine goesL_ (some 32) rfl rfl Try.func38 (by kernel_rfl) rfl #[.slice Ao16 y496.length co16, .int .u64 4, .int .i64 1] rfl (by (try simp only [List.map_toArray, List.map_cons, List.map_nil]); first | done | rfl | (simp only [List.length_drop, List.length_take]; rfl)) ?_; (with_reducible refine (rela_Parse.calls k _ _ y496 4 1 t499 t500 _ ?side1 ?side2 A11.out).mono ?_); (case side1 => repeat (first | exact (Kd.R_reads' HO498.out).2.2 | (with_reducible refine Kd.C_alloc ?_ _) | (with_reducible refine Kd.C_drewN ?_ _) | (with_reducible refine Kd.C_drew ?_))); (case side2 => exact (Kd.R_reads' HO498.out).2.1); rintro e w17 ⟨v501, rfl, ho0, hb⟩; refine ⟨_, rfl, ?_⟩; have n0_ := Aside0.mk (Kd.R_below (by (with_reducible repeat (first | apply Kd.R_alloc | apply Kd.R_drewN | apply Kd.R_drew)); exact HO498.out) hb); have n1_ := Aside0.mk (Kd.R_lower ho0 (below_size (by repeat (first | (with_reducible first | exact HB.out | apply below_alloc | apply pw_below_drewN | apply below_drew1) | exact HB.out)))); have n2_ := Aside0.mk (below_step (by repeat (first | (with_reducible first | exact HB.out | apply below_alloc | apply pw_below_drewN | apply below_drew1) | exact HB.out)) hb); clear HO498; clear HB; have HO498 := n0_; have HO502 := n1_; have HB := n2_; clear n0_ n1_ n2_; (try clear hb); (try clear hb2); (try clear hk); (try clear hi); (try clear ho0)))
          (try simp only [Act.put, List.setIfInBounds_toArray, List.set_cons_zero, List.set_cons_succ])
          go_cut [54] (fun v54 wc => ∃ (kq : Nat) (x54_11 : Bool), v54 = .bool x54_11 ∧ Aside0 (dovetaillaw13_RelaMany.j0 kq l2 x54_11 = some r) ∧ Aside0 (kq ≤ k) ∧ Aside0 (Below w.heap.size w wc))
          case first =>
            have H := HC12.out
            clear HC12
            by_cases c18 : (wrap64 (1998 + (wrap64 (Int.tmod a0 5)))) ≤ 2000
            · rw [if_pos c18] at H
              have c18b0 : decide ((wrap64 (1998 + (wrap64 (Int.tmod a0 5)))) ≤ 2000) = true := decide_eq_true c18
              clear c18
              (first | rw [c18b0] | (simp only [i64_w, i32_w]; rw [c18b0]) | skip)
              by_cases c19 : ((t500 == 0) != ((Int.tmod a1 3) == 0)) = true
              · rw [if_pos c19] at H
                have c19b0 : ((t500 == 0) != ((Int.tmod a1 3) == 0)) = true := c19
                (try (have c19b1 : decide ((t500 == 0) = ((Int.tmod a1 3) == 0)) = false := by simpa using c19))
                (try (have c19b2 : ((t500 == 0) == ((Int.tmod a1 3) == 0)) = false := by simpa using c19))
                (try (have c19b3 : ¬ ((t500 == 0) = ((Int.tmod a1 3) == 0)) := by simpa using c19))
                clear c19
                have H' := Aside0.mk H
                clear H
                go_wp2
                go_meet
                case rel => exact ⟨_, (true), (by first | rfl | (simp; done) | (simp [*]; done)), H', ⟨by first | omega | exact Nat.le_refl _⟩, ⟨by repeat (first | (with_reducible first | exact HB.out | apply below_alloc | apply pw_below_drewN | apply below_drew1) | exact HB.out)⟩⟩
              · rw [if_neg c19] at H
                have c19b0 : ((t500 == 0) != ((Int.tmod a1 3) == 0)) = false := by simpa using c19
                (try (have c19b1 : decide ((t500 == 0) = ((Int.tmod a1 3) == 0)) = true := by simpa using c19))
                (try (have c19b2 : ((t500 == 0) == ((Int.tmod a1 3) == 0)) = true := by simpa using c19))
                clear c19
                by_cases c20 : t500 = 0
                · rw [if_pos c20] at H
                  have c20b0 : (t500 == 0) = true := beq_iff_eq.mpr c20
                  have c20b1 : (t500 != 0) = false := bne_eq_false_iff_eq.mpr c20
                  have c19c : (Int.tmod a1 3 == 0) = true := by rw [c20b0] at c19b0; simpa using c19b0
                  clear c20
                  have H' := Aside0.mk H
                  clear H
                  obtain ⟨Ao21, co21, eo21⟩ := Kd.R_slice HO502.out
                  subst eo21
                  go_wp2
                  go_meet
                  case rel => exact ⟨_, (((t499.length : Int) != (wrap64 (1998 + (wrap64 (Int.tmod a0 5)))))), (by first | rfl | (simp; done) | (simp [*]; done)), H', ⟨by first | omega | exact Nat.le_refl _⟩, ⟨by repeat (first | (with_reducible first | exact HB.out | apply below_alloc | apply pw_below_drewN | apply below_drew1) | exact HB.out)⟩⟩
                · rw [if_neg c20] at H
                  have c20b0 : (t500 == 0) = false := beq_eq_false_iff_ne.mpr c20
                  have c20b1 : (t500 != 0) = true := bne_iff_ne.mpr c20
                  have c19c : (Int.tmod a1 3 == 0) = false := by rw [c20b0] at c19b0; simpa using c19b0
                  have H' := Aside0.mk H
                  clear H
                  go_wp2
                  go_meet
                  case rel => exact ⟨_, (false), (by first | rfl | (simp; done) | (simp [*]; done)), H', ⟨by first | omega | exact Nat.le_refl _⟩, ⟨by repeat (first | (with_reducible first | exact HB.out | apply below_alloc | apply pw_below_drewN | apply below_drew1) | exact HB.out)⟩⟩
            · rw [if_neg c18] at H
              have c18b0 : decide ((wrap64 (1998 + (wrap64 (Int.tmod a0 5)))) ≤ 2000) = false := decide_eq_false c18
              clear c18
              (first | rw [c18b0] | (simp only [i64_w, i32_w]; rw [c18b0]) | skip)
              by_cases c22 : ((t500 == 0) != false) = true
              · rw [if_pos c22] at H
                have c22b0 : ((t500 == 0) != false) = true := c22
                (try (have c22b1 : decide ((t500 == 0) = false) = false := by simpa using c22))
                (try (have c22b2 : ((t500 == 0) == false) = false := by simpa using c22))
                (try (have c22b3 : ¬ ((t500 == 0) = false) := by simpa using c22))
                clear c22
                have H' := Aside0.mk H
                clear H
                go_wp2
                go_meet
                case rel => exact ⟨_, (true), (by first | rfl | (simp; done) | (simp [*]; done)), H', ⟨by first | omega | exact Nat.le_refl _⟩, ⟨by repeat (first | (with_reducible first | exact HB.out | apply below_alloc | apply pw_below_drewN | apply below_drew1) | exact HB.out)⟩⟩
              · rw [if_neg c22] at H
                have c22b0 : ((t500 == 0) != false) = false := by simpa using c22
                (try (have c22b1 : decide ((t500 == 0) = false) = true := by simpa using c22))
                (try (have c22b2 : ((t500 == 0) == false) = true := by simpa using c22))
                clear c22
                by_cases c23 : t500 = 0
                · rw [if_pos c23] at H
                  have c23b0 : (t500 == 0) = true := beq_iff_eq.mpr c23
                  have c23b1 : (t500 != 0) = false := bne_eq_false_iff_eq.mpr c23
                  exact absurd c22b0 (by rw [c23b0]; decide)
                · rw [if_neg c23] at H
                  have c23b0 : (t500 == 0) = false := beq_eq_false_iff_ne.mpr c23
                  have c23b1 : (t500 != 0) = true := bne_iff_ne.mpr c23
                  have H' := Aside0.mk H
                  clear H
                  go_wp2
                  go_meet
                  case rel => exact ⟨_, (false), (by first | rfl | (simp; done) | (simp [*]; done)), H', ⟨by first | omega | exact Nat.le_refl _⟩, ⟨by repeat (first | (with_reducible first | exact HB.out | apply below_alloc | apply pw_below_drewN | apply below_drew1) | exact HB.out)⟩⟩
          case rest =>
            clear HC12
            try clear c1
            try clear c2
            try clear p2
            try clear c3
            try clear c5
            try clear c6
            try clear c6b0
            try clear c6b1
            try clear p6
            try clear c9
            try clear c9b0
            try clear c9b1
            try clear c10
            try clear c10b0
            try clear c10b1
            try clear c14
            try clear c18
            try clear c18b0
            try clear c19
            try clear c19b0
            try clear c19b1
            try clear c19b2
            try clear c20
            try clear c20b0
            try clear c20b1
            try clear c22
            try clear c22b0
            try clear c22b1
            try clear c22b2
            try clear c23
            try clear c23b0
            try clear c23b1
            obtain ⟨kq, x54_11, rfl, HA, HJ11, HB⟩ := hcut
            cases kq with
            | zero => exact absurd HA.out (by simp [dovetaillaw13_RelaMany.j0])
            | succ kj11 =>
              have H := HA.out
              clear HA
              simp only [dovetaillaw13_RelaMany.j0] at H
              by_cases c25 : x54_11 = true
              · subst c25
                have H1 : (some false) = some r := by rw [if_pos rfl] at H; exact H
                clear H
                have H := H1
                clear H1
                obtain rfl := Option.some.inj H
                go_wp2
                go_ret
                exact ⟨by first | rfl | (simp [errW_none, errW_some] <;> rfl) | (simp only [← hji8]; first | rfl | (simp [errW_none, errW_some] <;> rfl)) | (simp [*, errW_none, errW_some] <;> rfl), by repeat (first | (with_reducible first | exact HB.out | apply below_alloc | apply pw_below_drewN | apply below_drew1) | exact HB.out)⟩
              · replace c25 := Bool.eq_false_iff.mpr c25
                subst c25
                have H1 : (dovetaillaw13_RelaMany.l0 kj11 l2 ([] : List (S74)) 0) = some r := by rw [if_neg (show ¬ (false = true) by decide)] at H; exact H
                clear H
                have H := H1
                clear H1
                have H' := Aside0.mk H
                clear H
                go_wp2
                go_loopg [10, 11] kj11 (fun kq v10 v11 w' => ∃ (x10_2 : List (S74)) (x11_2 : Int), v11 = .int .i64 x11_2 ∧ Aside0 (dovetaillaw13_RelaMany.l0 kq l2 x10_2 x11_2 = some r) ∧ Aside0 (kq ≤ kj11) ∧ Aside0 (Kd.R k74 74 w' w.heap.size (fun _ => True) v10 x10_2) ∧ Aside0 (Below w.heap.size w w'))
                case atStart => exact ⟨(([] : List (S74))), (0), (by first | rfl | (simp; done) | (simp [*]; done)), H', ⟨Nat.le_refl _⟩, ⟨by first | exact Kd.R_nil _ _ _ _ _ | exact Kd.N_nil _ _ _ _ _ | exact Kd.V_nil _ _ _ _ _ | exact Kd.Q_nil _ _ _ _ _ | exact Kd.S_nil _ _ _ _ _⟩, ⟨by repeat (first | (with_reducible first | exact HB.out | apply below_alloc | apply pw_below_drewN | apply below_drew1) | exact HB.out)⟩⟩
                case round =>
                  clear H'
                  try clear c1
                  try clear c2
                  try clear p2
                  try clear c3
                  try clear c5
                  try clear c6
                  try clear c6b0
                  try clear c6b1
                  try clear p6
                  try clear c9
                  try clear c9b0
                  try clear c9b1
                  try clear c10
                  try clear c10b0
                  try clear c10b1
                  try clear c14
                  try clear c18
                  try clear c18b0
                  try clear c19
                  try clear c19b0
                  try clear c19b1
                  try clear c19b2
                  try clear c20
                  try clear c20b0
                  try clear c20b1
                  try clear c22
                  try clear c22b0
                  try clear c22b1
                  try clear c22b2
                  try clear c23
                  try clear c23b0
                  try clear c23b1
                  try clear c25
                  try clear p2
                  try clear p6
                  obtain ⟨x10_2, x11_2, rfl, HA, HK2, HO_10, HB⟩ := hrel
                  cases gk with
                  | zero => exact absurd HA.out (by simp [dovetaillaw13_RelaMany.l0])
                  | succ k2 =>
                    have H := HA.out
                    clear HA
                    simp only [dovetaillaw13_RelaMany.l0] at H
                    by_cases c26 : x11_2 < (l2.length : Int)
                    · rw [if_pos c26] at H
                      have c26b0 : decide (x11_2 < (l2.length : Int)) = true := decide_eq_true c26
                      clear c26
                      by_cases c27 : 0 ≤ x11_2
                      · rw [if_pos c27] at H
                        have c27b0 : decide (0 ≤ x11_2) = true := decide_eq_true c27
                        clear c27
                        by_cases c28 : x10_2.length < 5864062014805
                        · rw [if_pos c28] at H
                          have LMc28 := Aside0.mk c28
                          clear c28
                          obtain ⟨y505, hy505⟩ : ∃ y_ : List (S74), y_ = (x10_2 ++ [(⟨Int.tmod ((rd_T74 l2 x11_2).f0) 50, (rd_T74 l2 x11_2).f1, Int.tmod ((rd_T74 l2 x11_2).f2) 7, (rd_T74 l2 x11_2).f3⟩ : S74)]) := ⟨_, rfl⟩
                          replace H : (dovetaillaw13_RelaMany.l0 k2 l2 y505 (wrap64 (x11_2 + 1))) = some r := by first | (rw [hy505]; with_reducible exact H) | (have H2_ := (Option.bind_some _ _).symm.trans H; rw [hy505]; with_reducible exact H2_) | (have H2_ := (Option.bind_some _ _).symm.trans H; with_reducible exact H2_) | with_reducible exact H | (rw [hy505]; exact H) | exact H
                          have Ny505 := Aside0.mk hy505
                          clear hy505
                          have H' := Aside0.mk H
                          clear H
                          have p503 : 0 ≤ (x11_2 : Int) := of_decide_eq_true (by first | (with_reducible assumption) | assumption)
                          have q503 : x11_2 < (l2.length : Int) := of_decide_eq_true (by first | (with_reducible assumption) | assumption)
                          obtain ⟨ad503, e503, hx503_0, hx503_1, hx503_2, hx503_3⟩ := at_T74 HR2.out x11_2 p503 q503
                          cases e503
                          replace hx503_0 := (HB.out.cell (World.block_lt_of_cell? w _ hx503_0)).trans hx503_0
                          replace hx503_1 := (HB.out.cell (World.block_lt_of_cell? w _ hx503_1)).trans hx503_1
                          replace hx503_2 := (HB.out.cell (World.block_lt_of_cell? w _ hx503_2)).trans hx503_2
                          replace hx503_3 := (HB.out.cell (World.block_lt_of_cell? w _ hx503_3)).trans hx503_3
                          replace p503 := eq_true p503
                          replace q503 := eq_true q503
                          go_wp2_with (first | ((with_reducible refine gate_dst (N := 12) rfl ?_); (try (refine gate_guard (by rfl) ?_; dsimp only)); refine box_event ?hg (N := 12) ?hd (cs := #[.int .u64 0, .int .u32 0, .int .u32 0, .int .i64 0]) (t := 74) ?hr ?_; (case hd => rfl); (case hg => rfl); (case hr => first | (go_simp; done) | (go_simp; rfl)); intro gb504 hg w29 hbox hb; have n0_ := Aside0.mk (Kd.R_below (Kd.R_elderB (by (with_reducible repeat (first | apply Kd.R_alloc | apply Kd.R_drewN | apply Kd.R_drew)); exact HO_10.out) gb504 (Nat.le_of_eq hg.symm)) hb); have n1_ := Aside0.mk (below_step (by repeat (first | (with_reducible first | exact HB.out | apply below_alloc | apply pw_below_drewN | apply below_drew1) | exact HB.out)) hb); have n2_ := Aside0.mk (hbox); have n3_ := Aside0.mk ((by rw [hg]; exact (below_size (by repeat (first | (with_reducible first | exact HB.out | apply below_alloc | apply pw_below_drewN | apply below_drew1) | exact HB.out))) : w.heap.size ≤ gb504)); have n4_ := Aside0.mk ((by rw [hg]; exact (below_size (by repeat (first | (with_reducible first | exact HB.out | apply below_alloc | apply pw_below_drewN | apply below_drew1) | exact HB.out))) : w.heap.size ≤ gb504)); clear HO_10; clear HB; have HO_10 := n0_; have HB := n1_; have BK504 := n2_; have GW504 := n3_; have GE504 := n4_; clear n0_ n1_ n2_ n3_ n4_; clear hb hbox hg; have hcz30_0 : w29.cell? ⟨gb504, 0, none⟩ = some (.int .u64 0) := (blk_cell BK504.out 0).trans rfl; have hcz30_1 : w29.cell? ⟨gb504, 1, none⟩ = some (.int .u32 0) := (blk_cell BK504.out 1).trans rfl; have hcz30_2 : w29.cell? ⟨gb504, 2, none⟩ = some (.int .u32 0) := (blk_cell BK504.out 2).trans rfl; have hcz30_3 : w29.cell? ⟨gb504, 3, none⟩ = some (.int .i64 0) := (blk_cell BK504.out 3).trans rfl; have hfz30_0 := blk_frozen BK504.out 0; have hfz30_1 := blk_frozen BK504.out 1; have hfz30_2 := blk_frozen BK504.out 2; have hfz30_3 := blk_frozen BK504.out 3) | ((with_reducible refine gate_dst (N := 74) rfl ?_); have m0_ := Aside0.mk (blk_put (blk_put (blk_put (blk_put (blk_put (blk_put BK504.out 0 (.int .u64 ((rd_T74 l2 x11_2).f0)) rfl) 1 (.int .u32 ((rd_T74 l2 x11_2).f1)) rfl) 2 (.int .u32 ((rd_T74 l2 x11_2).f2)) rfl) 3 (.int .i64 ((rd_T74 l2 x11_2).f3)) rfl) 0 (.int .u64 (Int.tmod ((rd_T74 l2 x11_2).f0) 50)) rfl) 2 (.int .u32 (Int.tmod ((rd_T74 l2 x11_2).f2) 7)) rfl); have m1_ := Aside0.mk (Kd.R_far (p := ⟨gb504, 2, none⟩) (Kd.R_far (p := ⟨gb504, 0, none⟩) (Kd.R_far (p := ⟨gb504, 3, none⟩) (Kd.R_far (p := ⟨gb504, 2, none⟩) (Kd.R_far (p := ⟨gb504, 1, none⟩) (Kd.R_far (p := ⟨gb504, 0, none⟩) (Kd.R_mono HO_10.out (fun k_ hk => (⟨hk, hk.2⟩ : _ ∧ k_ ≠ gb504))) (fun _ hk => hk.2) (.int .u64 ((rd_T74 l2 x11_2).f0))) (fun _ hk => hk.2) (.int .u32 ((rd_T74 l2 x11_2).f1))) (fun _ hk => hk.2) (.int .u32 ((rd_T74 l2 x11_2).f2))) (fun _ hk => hk.2) (.int .i64 ((rd_T74 l2 x11_2).f3))) (fun _ hk => hk.2) (.int .u64 (Int.tmod ((rd_T74 l2 x11_2).f0) 50))) (fun _ hk => hk.2) (.int .u32 (Int.tmod ((rd_T74 l2 x11_2).f2) 7))); have m2_ := Aside0.mk (below_set (j := 2) (v := .int .u32 (Int.tmod ((rd_T74 l2 x11_2).f2) 7)) (below_set (j := 0) (v := .int .u64 (Int.tmod ((rd_T74 l2 x11_2).f0) 50)) (below_set (j := 3) (v := .int .i64 ((rd_T74 l2 x11_2).f3)) (below_set (j := 2) (v := .int .u32 ((rd_T74 l2 x11_2).f2)) (below_set (j := 1) (v := .int .u32 ((rd_T74 l2 x11_2).f1)) (below_set (j := 0) (v := .int .u64 ((rd_T74 l2 x11_2).f0)) HB.out GE504.out) GE504.out) GE504.out) GE504.out) GE504.out) GE504.out); obtain ⟨w30, hw30⟩ : ∃ w_ : World, w_ = ((((((w29.setCell ⟨gb504, 0, none⟩ (.int .u64 ((rd_T74 l2 x11_2).f0))).setCell ⟨gb504, 1, none⟩ (.int .u32 ((rd_T74 l2 x11_2).f1))).setCell ⟨gb504, 2, none⟩ (.int .u32 ((rd_T74 l2 x11_2).f2))).setCell ⟨gb504, 3, none⟩ (.int .i64 ((rd_T74 l2 x11_2).f3))).setCell ⟨gb504, 0, none⟩ (.int .u64 (Int.tmod ((rd_T74 l2 x11_2).f0) 50))).setCell ⟨gb504, 2, none⟩ (.int .u32 (Int.tmod ((rd_T74 l2 x11_2).f2) 7))) := ⟨_, rfl⟩; rw [← hw30] at m0_ m1_ m2_; rw [← hw30]; clear hw30; clear BK504 HO_10 HB; have BK504 := Aside0.mk (show w30.heap[gb504]? = some (.cells #[.int .u64 (Int.tmod ((rd_T74 l2 x11_2).f0) 50), .int .u32 ((rd_T74 l2 x11_2).f1), .int .u32 (Int.tmod ((rd_T74 l2 x11_2).f2) 7), .int .i64 ((rd_T74 l2 x11_2).f3)] 74 (0, 0)) from m0_.out); have HO_10 := m1_; have HB := m2_; clear m0_ m1_ m2_; (repeat (first | clear hcz30_0 | clear hcz30_1 | clear hcz30_2 | clear hcz30_3 | clear hfz30_0 | clear hfz30_1 | clear hfz30_2 | clear hfz30_3)); have hcy_0 : w30.cell? ⟨gb504, 0, none⟩ = some (.int .u64 (Int.tmod ((rd_T74 l2 x11_2).f0) 50)) := (blk_cell BK504.out 0).trans rfl; have hcy_1 : w30.cell? ⟨gb504, 1, none⟩ = some (.int .u32 ((rd_T74 l2 x11_2).f1)) := (blk_cell BK504.out 1).trans rfl; have hcy_2 : w30.cell? ⟨gb504, 2, none⟩ = some (.int .u32 (Int.tmod ((rd_T74 l2 x11_2).f2) 7)) := (blk_cell BK504.out 2).trans rfl; have hcy_3 : w30.cell? ⟨gb504, 3, none⟩ = some (.int .i64 ((rd_T74 l2 x11_2).f3)) := (blk_cell BK504.out 3).trans rfl; try (refine gate_guard (by rfl) ?_; dsimp only)) | ((with_reducible refine gate_builtin (b := .append) (xs := #[.tmp 73, .tmp 75]) rfl ?_); (try (refine gate_guard (by rfl) ?_; dsimp only)); at_builtin; refine Kd.R_append k74 (w0 := w) w.heap.size rfl (.tmp 73) (.tmp 75) 61 74 (.agg #[(.int .u64 0), (.int .u32 0), (.int .u32 0), (.int .i64 0)]) 24 rfl Try.underlying61 info74 rfl (by decide) (by omega) u10 x10_2 (⟨Int.tmod ((rd_T74 l2 x11_2).f0) 50, (rd_T74 l2 x11_2).f1, Int.tmod ((rd_T74 l2 x11_2).f2) 7, (rd_T74 l2 x11_2).f3⟩ : S74) [.int .u64 (Int.tmod ((rd_T74 l2 x11_2).f0) 50), .int .u32 ((rd_T74 l2 x11_2).f1), .int .u32 (Int.tmod ((rd_T74 l2 x11_2).f2) 7), .int .i64 ((rd_T74 l2 x11_2).f3)] (fun k_ => k_ ≠ gb504) (fun _ => False) rfl (by first | (go_simp; done) | (go_simp; rfl)) ?aP (fun _ hk => hk.elim) ?aF ?aO ?aB ?aS ?aL ?_; (case aP => exact k74_mkM _ _ _ (⟨Int.tmod ((rd_T74 l2 x11_2).f0) 50, (rd_T74 l2 x11_2).f1, Int.tmod ((rd_T74 l2 x11_2).f2) 7, (rd_T74 l2 x11_2).f3⟩ : S74)); (case aB => exact (by repeat (first | (with_reducible first | exact HB.out | apply below_alloc | apply pw_below_drewN | apply below_drew1 | refine below_set ?_ GE504.out) | exact HB.out))); (case aF => exact (fun k_ hk => Kd.freshB (g := gb504) (o := .cells #[.int .u64 (Int.tmod ((rd_T74 l2 x11_2).f0) 50), .int .u32 ((rd_T74 l2 x11_2).f1), .int .u32 (Int.tmod ((rd_T74 l2 x11_2).f2) 7), .int .i64 ((rd_T74 l2 x11_2).f3)] 74 (0, 0)) (by (with_reducible repeat (first | refine blk_drewN ?_ _ | refine blk_drew ?_ | refine blk_alloc ?_ _)); exact BK504.out) k_ hk)); (case aO => exact (by (with_reducible repeat (first | apply Kd.R_alloc | apply Kd.R_drewN | apply Kd.R_drew)); exact Kd.R_mono HO_10.out (fun _ hk => hk.1.2))); (case aS => exact (below_size (by repeat (first | (with_reducible first | exact HB.out | apply below_alloc | apply pw_below_drewN | apply below_drew1 | refine below_set ?_ GE504.out) | exact HB.out)))); (case aL => have := LMc28.out; omega); intro v506 w31 ho hb hg hat; rw [← Ny505.out] at ho; have n0_ := Aside0.mk (blk_grown (g := gb504) (o := .cells #[.int .u64 (Int.tmod ((rd_T74 l2 x11_2).f0) 50), .int .u32 ((rd_T74 l2 x11_2).f1), .int .u32 (Int.tmod ((rd_T74 l2 x11_2).f2) 7), .int .i64 ((rd_T74 l2 x11_2).f3)] 74 (0, 0)) (by (with_reducible repeat (first | refine blk_drewN ?_ _ | refine blk_drew ?_ | refine blk_alloc ?_ _)); exact BK504.out) hg (Kd.R_away HO_10.out (fun _ hk => hk.2))); have n1_ := Aside0.mk (hb); have n2_ := Aside0.mk (ho); clear BK504; clear HB; clear HO_10; have BK504 := n0_; have HB := n1_; have HO507 := n2_; clear n0_ n1_ n2_; clear ho hb hg hat))
                          go_roundg k2
                          case measure => have := HJ11.out; have := HK2.out; omega
                          case rel => exact ⟨(y505), (wrap64 (x11_2 + 1)), (by first | rfl | (simp; done) | (simp [*]; done)), H', ⟨by have := HJ11.out; have := HK2.out; omega⟩, ⟨by (with_reducible repeat (first | apply Kd.R_alloc | apply Kd.R_drewN | apply Kd.R_drew)); exact Kd.R_mono HO507.out (fun _ hk => trivial)⟩, ⟨by repeat (first | (with_reducible first | exact HB.out | apply below_alloc | apply pw_below_drewN | apply below_drew1 | refine below_set ?_ GE504.out) | exact HB.out)⟩⟩
                        · rw [if_neg c28] at H
                          exact absurd H (by simp)
                      · rw [if_neg c27] at H
                        exact absurd H (by simp)
                    · rw [if_neg c26] at H
                      have c26b0 : decide (x11_2 < (l2.length : Int)) = false := decide_eq_false c26
                      clear c26
                      replace H := Option.bind_eq_some_iff.mp H
                      obtain ⟨t508, A320, H⟩ := H
                      replace H : ((rela_Parse.f k2 t508 58 7).bind fun bt511 => (if bt511.2 = 0 then ((dovetailhelp_Relas.f k2 bt511.1 x10_2).bind fun t515 => (some t515)) else (some false))) = some r := H
                      have A32 := Aside0.mk A320
                      clear A320
                      replace H := Option.bind_eq_some_iff.mp H
                      obtain ⟨⟨t511, t512⟩, A330, H⟩ := H
                      replace H : (if t512 = 0 then ((dovetailhelp_Relas.f k2 t511 x10_2).bind fun t515 => (some t515)) else (some false)) = some r := H
                      have A33 := Aside0.mk A330
                      clear A330
                      by_cases c34 : t512 = 0
                      · rw [if_pos c34] at H
                        have c34b0 : (t512 == 0) = true := beq_iff_eq.mpr c34
                        have c34b1 : (t512 != 0) = false := bne_eq_false_iff_eq.mpr c34
                        clear c34
                        replace H := Option.bind_eq_some_iff.mp H
                        obtain ⟨t515, A350, H⟩ := H
                        replace H : (some t515) = some r := H
                        have A35 := Aside0.mk A350
                        clear A350
                        obtain rfl := Option.some.inj H
                        obtain ⟨Ao36, co36, eo36⟩ := Kd.R_slice HO_10.out
                        subst eo36
                        go_wp2_with (first | ((with_reducible refine gate_callee (f := 37) rfl ?_); refine goesL_ (some 79) rfl rfl Try.func37 (by kernel_rfl) rfl #[.slice Ao36 x10_2.length co36] rfl (by (try simp only [List.map_toArray, List.map_cons, List.map_nil]); first | done | rfl | (simp only [List.length_drop, List.length_take]; rfl)) ?_; (with_reducible refine (dovetailref9_RelaBytes.calls k2 _ _ x10_2 t508 _ ?side1 ?side2 A32.out).mono ?_); (case side1 => repeat (first | exact (Kd.R_reads' HO_10.out).2.2 | (with_reducible refine Kd.C_alloc ?_ _) | (with_reducible refine Kd.C_drewN ?_ _) | (with_reducible refine Kd.C_drew ?_))); (case side2 => exact (Kd.R_reads' HO_10.out).2.1); rintro e w37 ⟨v509, rfl, ho0, hb⟩; refine ⟨_, rfl, ?_⟩; have n0_ := Aside0.mk (Kd.R_below (by (with_reducible repeat (first | apply Kd.R_alloc | apply Kd.R_drewN | apply Kd.R_drew)); exact HO_10.out) hb); have n1_ := Aside0.mk (Kd.R_lower ho0 (below_size (by repeat (first | (with_reducible first | exact HB.out | apply below_alloc | apply pw_below_drewN | apply below_drew1) | exact HB.out)))); have n2_ := Aside0.mk (below_step (by repeat (first | (with_reducible first | exact HB.out | apply below_alloc | apply pw_below_drewN | apply below_drew1) | exact HB.out)) hb); clear HO_10; clear HB; have HO_10 := n0_; have HO510 := n1_; have HB := n2_; clear n0_ n1_ n2_; (try clear hb); (try clear hb2); (try clear hk); (try clear hi); (try clear ho0); obtain ⟨Ao38, co38, eo38⟩ := Kd.R_slice HO510.out; subst eo38) | ((with_reducible refine gate_callee (f := 38) rfl ?_); refine goesL_ (some 80) rfl rfl Try.func38 (by kernel_rfl) rfl #[.slice Ao38 t508.length co38, .int .u64 58, .int .i64 7] rfl (by (try simp only [List.map_toArray, List.map_cons, List.map_nil]); first | done | rfl | (simp only [List.length_drop, List.length_take]; rfl)) ?_; (with_reducible refine (rela_Parse.calls k2 _ _ t508 58 7 t511 t512 _ ?side1 ?side2 A33.out).mono ?_); (case side1 => repeat (first | exact (Kd.R_reads' HO510.out).2.2 | (with_reducible refine Kd.C_alloc ?_ _) | (with_reducible refine Kd.C_drewN ?_ _) | (with_reducible refine Kd.C_drew ?_))); (case side2 => exact (Kd.R_reads' HO510.out).2.1); rintro e w39 ⟨v513, rfl, ho0, hb⟩; refine ⟨_, rfl, ?_⟩; have n0_ := Aside0.mk (Kd.R_elder' (by (with_reducible repeat (first | apply Kd.R_alloc | apply Kd.R_drewN | apply Kd.R_drew)); exact HO_10.out) (Kd.R_base ho0) hb); have n1_ := Aside0.mk (Kd.R_below (by (with_reducible repeat (first | apply Kd.R_alloc | apply Kd.R_drewN | apply Kd.R_drew)); exact HO510.out) hb); have n2_ := Aside0.mk (Kd.R_lower (Kd.R_new' ho0 (Kd.R_lt (by (with_reducible repeat (first | apply Kd.R_alloc | apply Kd.R_drewN | apply Kd.R_drew)); exact HO_10.out))) (below_size (by repeat (first | (with_reducible first | exact HB.out | apply below_alloc | apply pw_below_drewN | apply below_drew1) | exact HB.out)))); have n3_ := Aside0.mk (below_step (by repeat (first | (with_reducible first | exact HB.out | apply below_alloc | apply pw_below_drewN | apply below_drew1) | exact HB.out)) hb); clear HO_10; clear HO510; clear HB; have HO_10 := n0_; have HO510 := n1_; have HO514 := n2_; have HB := n3_; clear n0_ n1_ n2_ n3_; (try clear hb); (try clear hb2); (try clear hk); (try clear hi); (try clear ho0); obtain ⟨Ao40, co40, eo40⟩ := Kd.R_slice HO514.out; subst eo40) | (go_at_call 40; (with_reducible refine (dovetailhelp_Relas.calls k2 _ _ t511 _ _ x10_2 t515 _ ?side1 ?side2 ?side3 ?side4 A35.out).mono ?_); (case side1 => repeat (first | exact (Kd.R_reads' HO514.out).2.2 | (with_reducible refine Kd.C_alloc ?_ _) | (with_reducible refine Kd.C_drewN ?_ _) | (with_reducible refine Kd.C_drew ?_))); (case side2 => exact (Kd.R_reads' HO514.out).2.1); (case side3 => repeat (first | exact (Kd.R_reads' HO_10.out).2.2 | (with_reducible refine Kd.C_alloc ?_ _) | (with_reducible refine Kd.C_drewN ?_ _) | (with_reducible refine Kd.C_drew ?_))); (case side4 => exact (Kd.R_reads' HO_10.out).2.1); rintro e w' ⟨rfl, ⟨nd, rfl⟩⟩))
                        go_ret
                        exact ⟨by first | rfl | (simp [errW_none, errW_some] <;> rfl) | (simp only [← hji8]; first | rfl | (simp [errW_none, errW_some] <;> rfl)) | (simp [*, errW_none, errW_some] <;> rfl), by repeat (first | (with_reducible first | exact HB.out | apply below_alloc | apply pw_below_drewN | apply below_drew1) | exact HB.out)⟩
                      · rw [if_neg c34] at H
                        have c34b0 : (t512 == 0) = false := beq_eq_false_iff_ne.mpr c34
                        have c34b1 : (t512 != 0) = true := bne_iff_ne.mpr c34
                        obtain rfl := Option.some.inj H
                        obtain ⟨Ao41, co41, eo41⟩ := Kd.R_slice HO_10.out
                        subst eo41
                        go_wp2_with (first | ((with_reducible refine gate_callee (f := 37) rfl ?_); refine goesL_ (some 79) rfl rfl Try.func37 (by kernel_rfl) rfl #[.slice Ao41 x10_2.length co41] rfl (by (try simp only [List.map_toArray, List.map_cons, List.map_nil]); first | done | rfl | (simp only [List.length_drop, List.length_take]; rfl)) ?_; (with_reducible refine (dovetailref9_RelaBytes.calls k2 _ _ x10_2 t508 _ ?side1 ?side2 A32.out).mono ?_); (case side1 => repeat (first | exact (Kd.R_reads' HO_10.out).2.2 | (with_reducible refine Kd.C_alloc ?_ _) | (with_reducible refine Kd.C_drewN ?_ _) | (with_reducible refine Kd.C_drew ?_))); (case side2 => exact (Kd.R_reads' HO_10.out).2.1); rintro e w42 ⟨v509, rfl, ho0, hb⟩; refine ⟨_, rfl, ?_⟩; have n0_ := Aside0.mk (Kd.R_below (by (with_reducible repeat (first | apply Kd.R_alloc | apply Kd.R_drewN | apply Kd.R_drew)); exact HO_10.out) hb); have n1_ := Aside0.mk (Kd.R_lower ho0 (below_size (by repeat (first | (with_reducible first | exact HB.out | apply below_alloc | apply pw_below_drewN | apply below_drew1) | exact HB.out)))); have n2_ := Aside0.mk (below_step (by repeat (first | (with_reducible first | exact HB.out | apply below_alloc | apply pw_below_drewN | apply below_drew1) | exact HB.out)) hb); clear HO_10; clear HB; have HO_10 := n0_; have HO510 := n1_; have HB := n2_; clear n0_ n1_ n2_; (try clear hb); (try clear hb2); (try clear hk); (try clear hi); (try clear ho0); obtain ⟨Ao43, co43, eo43⟩ := Kd.R_slice HO510.out; subst eo43) | ((with_reducible refine gate_callee (f := 38) rfl ?_); refine goesL_ (some 80) rfl rfl Try.func38 (by kernel_rfl) rfl #[.slice Ao43 t508.length co43, .int .u64 58, .int .i64 7] rfl (by (try simp only [List.map_toArray, List.map_cons, List.map_nil]); first | done | rfl | (simp only [List.length_drop, List.length_take]; rfl)) ?_; (with_reducible refine (rela_Parse.calls k2 _ _ t508 58 7 t511 t512 _ ?side1 ?side2 A33.out).mono ?_); (case side1 => repeat (first | exact (Kd.R_reads' HO510.out).2.2 | (with_reducible refine Kd.C_alloc ?_ _) | (with_reducible refine Kd.C_drewN ?_ _) | (with_reducible refine Kd.C_drew ?_))); (case side2 => exact (Kd.R_reads' HO510.out).2.1); rintro e w44 ⟨v513, rfl, ho0, hb⟩; refine ⟨_, rfl, ?_⟩; have n0_ := Aside0.mk (Kd.R_elder' (by (with_reducible repeat (first | apply Kd.R_alloc | apply Kd.R_drewN | apply Kd.R_drew)); exact HO_10.out) (Kd.R_base ho0) hb); have n1_ := Aside0.mk (Kd.R_below (by (with_reducible repeat (first | apply Kd.R_alloc | apply Kd.R_drewN | apply Kd.R_drew)); exact HO510.out) hb); have n2_ := Aside0.mk (Kd.R_lower (Kd.R_new' ho0 (Kd.R_lt (by (with_reducible repeat (first | apply Kd.R_alloc | apply Kd.R_drewN | apply Kd.R_drew)); exact HO_10.out))) (below_size (by repeat (first | (with_reducible first | exact HB.out | apply below_alloc | apply pw_below_drewN | apply below_drew1) | exact HB.out)))); have n3_ := Aside0.mk (below_step (by repeat (first | (with_reducible first | exact HB.out | apply below_alloc | apply pw_below_drewN | apply below_drew1) | exact HB.out)) hb); clear HO_10; clear HO510; clear HB; have HO_10 := n0_; have HO510 := n1_; have HO514 := n2_; have HB := n3_; clear n0_ n1_ n2_ n3_; (try clear hb); (try clear hb2); (try clear hk); (try clear hi); (try clear ho0)))
                        go_ret
                        exact ⟨by first | rfl | (simp [errW_none, errW_some] <;> rfl) | (simp only [← hji8]; first | rfl | (simp [errW_none, errW_some] <;> rfl)) | (simp [*, errW_none, errW_some] <;> rfl), by repeat (first | (with_reducible first | exact HB.out | apply below_alloc | apply pw_below_drewN | apply below_drew1) | exact HB.out)⟩
        · rw [if_neg c10] at H
          exact absurd H (by simp)
      · rw [if_neg c9] at H
        exact absurd H (by simp)
  · replace c5 := Bool.eq_false_iff.mpr c5
    subst c5
    have H1 : (some false) = some r := by rw [if_neg (show ¬ (false = true) by decide)] at H; exact H
    clear H
    have H := H1
    clear H1
    obtain rfl := Option.some.inj H
    go_enter Try.func14, Try.ntmps14
    go_wp2_with (first | ((with_reducible refine gate_callee (f := 35) rfl ?_); refine goesL_ (some 15) rfl rfl Try.func35 (by kernel_rfl) rfl #[] rfl (by (try simp only [List.map_toArray, List.map_cons, List.map_nil]); first | done | rfl | (simp only [List.length_drop, List.length_take]; rfl)) ?_; (with_reducible refine (dovetaillaw13_known.calls k  false _ A4.out).mono ?_); rintro e w45 ⟨rfl, hb⟩; refine ⟨_, rfl, ?_⟩; have n0_ := Aside0.mk (below_step (by repeat (first | (with_reducible first | exact HB.out | apply below_alloc | apply pw_below_drewN | apply below_drew1) | exact HB.out)) hb); clear HB; have HB := n0_; clear n0_; (try clear hb); (try clear hb2); (try clear hk); (try clear hi)))
    go_ret
    exact ⟨by first | rfl | (simp [errW_none, errW_some] <;> rfl) | (simp [*, errW_none, errW_some] <;> rfl), by repeat (first | (with_reducible first | exact HB.out | apply below_alloc | apply pw_below_drewN | apply below_drew1) | exact HB.out)⟩

end Go.Proofs.Ythjlhoclmbnjgaa.P
