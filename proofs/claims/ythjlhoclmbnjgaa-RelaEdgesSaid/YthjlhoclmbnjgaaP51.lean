-- printed by this session's program (wip/print), out of the translation; Lean checks it
import Derived.Test.YthjlhoclmbnjgaaP0
import Derived.Test.YthjlhoclmbnjgaaP36
import Derived.Test.YthjlhoclmbnjgaaP37
import Derived.Test.YthjlhoclmbnjgaaP39
import Derived.Test.YthjlhoclmbnjgaaP41
namespace Go.Proofs.Ythjlhoclmbnjgaa.P
open Go.RowKit Go.Proofs.YthjlhoclmbnjgaaW.PrintWords Go.Proofs.YthjlhoclmbnjgaaW.PrintLast Go.Proofs.YthjlhoclmbnjgaaW.PrintMore
attribute [local go_sem] max2_int min2_int max_two min_two max_three min_three max_four min_four   -- for this text's walks alone
set_option linter.unusedVariables false
set_option linter.unusedSimpArgs false
open Go.Proofs.YthjlhoclmbnjgaaX

/-! ### dovetaillaw13_RelaEdges: function 13 -/
def dovetaillaw13_RelaEdges.f (k : Nat) (a0 : Int) (a1 : Int) (a2 : Int) : Option (Bool) := (dovetaillaw13_known.f k).bind fun t375 => (if t375 = true then ((rela_Width.f k (Int.tmod a0 64)).bind fun t376 => ((rela_Bytes.f k (([(⟨IntKind.u64.wrap (a1 - a2), Int.tmod a0 64, 0, 0⟩ : S74)] : List (S74)))).bind fun t380 => ((rela_Parse.f k t380 a1 1).bind fun bt383 => (if a2 ≤ a1 then (some ((bt383.2 == 0) == (decide (a2 ≥ (IntKind.u64.wrap (t376)))))) else (some ((bt383.2 == 0) == false)))))) else (some false))
theorem dovetaillaw13_RelaEdges.mono : ∀ a0 a1 a2 k, LeO (dovetaillaw13_RelaEdges.f k a0 a1 a2) (dovetaillaw13_RelaEdges.f (k + 1) a0 a1 a2) := by
  intro a0 a1 a2 k
  unfold dovetaillaw13_RelaEdges.f
  repeat' first
      | (with_reducible exact dovetaillaw13_known.mono _)
      | (with_reducible exact rela_Bytes.mono _ _)
      | (with_reducible exact rela_Parse.mono _ _ _ _)
      | (with_reducible exact rela_Width.mono _ _)
      | (with_reducible exact LeO.refl _)
      | (with_reducible exact LeO.none _)
      | (with_reducible refine LeO.ite ?_ ?_)
      | (with_reducible refine LeO.bind ?_ (fun _ => ?_))
      | exact dovetaillaw13_known.mono _
      | exact rela_Bytes.mono _ _
      | exact rela_Parse.mono _ _ _ _
      | exact rela_Width.mono _ _
      | exact LeO.none _
      | refine LeO.ite ?_ ?_
      | refine LeO.bind ?_ (fun _ => ?_)
set_option maxHeartbeats 8000000 in
set_option maxRecDepth 100000 in
theorem dovetaillaw13_RelaEdges.calls (k : Nat) (a0 : Int) (a1 : Int) (a2 : Int) (r : Bool) (w : World) (h : dovetaillaw13_RelaEdges.f k a0 a1 a2 = some r) :
    Calls Try.prog 13 #[.int .u32 a0, .int .u64 a1, .int .u64 a2] w fun e w' => e = .returned (.bool r) ∧ Below w.heap.size w w' := by
  have hu74 := Try.underlying74
  have HB := Aside0.mk (Below.refl w.heap.size w)
  have H : ((dovetaillaw13_known.f k).bind fun t375 => (if t375 = true then ((rela_Width.f k (Int.tmod a0 64)).bind fun t376 => ((rela_Bytes.f k (([(⟨IntKind.u64.wrap (a1 - a2), Int.tmod a0 64, 0, 0⟩ : S74)] : List (S74)))).bind fun t380 => ((rela_Parse.f k t380 a1 1).bind fun bt383 => (if a2 ≤ a1 then (some ((bt383.2 == 0) == (decide (a2 ≥ (IntKind.u64.wrap (t376)))))) else (some ((bt383.2 == 0) == false)))))) else (some false))) = some r := h
  clear h
  replace H := Option.bind_eq_some_iff.mp H
  obtain ⟨t375, A40, H⟩ := H
  replace H : (if t375 = true then ((rela_Width.f k (Int.tmod a0 64)).bind fun t376 => ((rela_Bytes.f k (([(⟨IntKind.u64.wrap (a1 - a2), Int.tmod a0 64, 0, 0⟩ : S74)] : List (S74)))).bind fun t380 => ((rela_Parse.f k t380 a1 1).bind fun bt383 => (if a2 ≤ a1 then (some ((bt383.2 == 0) == (decide (a2 ≥ (IntKind.u64.wrap (t376)))))) else (some ((bt383.2 == 0) == false)))))) else (some false)) = some r := H
  have A4 := Aside0.mk A40
  clear A40
  by_cases c5 : t375 = true
  · subst c5
    have H1 : ((rela_Width.f k (Int.tmod a0 64)).bind fun t376 => ((rela_Bytes.f k (([(⟨IntKind.u64.wrap (a1 - a2), Int.tmod a0 64, 0, 0⟩ : S74)] : List (S74)))).bind fun t380 => ((rela_Parse.f k t380 a1 1).bind fun bt383 => (if a2 ≤ a1 then (some ((bt383.2 == 0) == (decide (a2 ≥ (IntKind.u64.wrap (t376)))))) else (some ((bt383.2 == 0) == false)))))) = some r := by rw [if_pos rfl] at H; exact H
    clear H
    have H := H1
    clear H1
    replace H := Option.bind_eq_some_iff.mp H
    obtain ⟨t376, A60, H⟩ := H
    replace H : ((rela_Bytes.f k (([(⟨IntKind.u64.wrap (a1 - a2), Int.tmod a0 64, 0, 0⟩ : S74)] : List (S74)))).bind fun t380 => ((rela_Parse.f k t380 a1 1).bind fun bt383 => (if a2 ≤ a1 then (some ((bt383.2 == 0) == (decide (a2 ≥ (IntKind.u64.wrap (t376)))))) else (some ((bt383.2 == 0) == false))))) = some r := H
    have A6 := Aside0.mk A60
    clear A60
    obtain ⟨y377, hy377⟩ : ∃ y_ : List (S74), y_ = (([(⟨IntKind.u64.wrap (a1 - a2), Int.tmod a0 64, 0, 0⟩ : S74)] : List (S74))) := ⟨_, rfl⟩
    replace H : ((rela_Bytes.f k y377).bind fun t380 => ((rela_Parse.f k t380 a1 1).bind fun bt383 => (if a2 ≤ a1 then (some ((bt383.2 == 0) == (decide (a2 ≥ (IntKind.u64.wrap (t376)))))) else (some ((bt383.2 == 0) == false))))) = some r := by first | (rw [hy377]; with_reducible exact H) | (have H2_ := (Option.bind_some _ _).symm.trans H; rw [hy377]; with_reducible exact H2_) | (have H2_ := (Option.bind_some _ _).symm.trans H; with_reducible exact H2_) | with_reducible exact H | (rw [hy377]; exact H) | exact H
    have Ny377 := Aside0.mk hy377
    clear hy377
    replace H := Option.bind_eq_some_iff.mp H
    obtain ⟨t380, A70, H⟩ := H
    replace H : ((rela_Parse.f k t380 a1 1).bind fun bt383 => (if a2 ≤ a1 then (some ((bt383.2 == 0) == (decide (a2 ≥ (IntKind.u64.wrap (t376)))))) else (some ((bt383.2 == 0) == false)))) = some r := H
    have A7 := Aside0.mk A70
    clear A70
    replace H := Option.bind_eq_some_iff.mp H
    obtain ⟨⟨t383, t384⟩, A80, H⟩ := H
    replace H : (if a2 ≤ a1 then (some ((t384 == 0) == (decide (a2 ≥ (IntKind.u64.wrap (t376)))))) else (some ((t384 == 0) == false))) = some r := H
    have A8 := Aside0.mk A80
    clear A80
    by_cases c9 : a2 ≤ a1
    · rw [if_pos c9] at H
      have c9b0 : decide (a2 ≤ a1) = true := decide_eq_true c9
      clear c9
      obtain rfl := Option.some.inj H
      go_enter Try.func13, Try.ntmps13
      go_wp2_with (first | ((with_reducible refine gate_callee (f := 35) rfl ?_); refine goesL_ (some 11) rfl rfl Try.func35 (by kernel_rfl) rfl #[] rfl (by (try simp only [List.map_toArray, List.map_cons, List.map_nil]); first | done | rfl | (simp only [List.length_drop, List.length_take]; rfl)) ?_; (with_reducible refine (dovetaillaw13_known.calls k  true _ A4.out).mono ?_); rintro e w10 ⟨rfl, hb⟩; refine ⟨_, rfl, ?_⟩; have n0_ := Aside0.mk (below_step (by repeat (first | (with_reducible first | exact HB.out | apply below_alloc | apply pw_below_drewN | apply below_drew1) | exact HB.out)) hb); clear HB; have HB := n0_; clear n0_; (try clear hb); (try clear hb2); (try clear hk); (try clear hi)) | ((with_reducible refine gate_callee (f := 43) rfl ?_); refine goesL_ (some 16) rfl rfl Try.func43 (by kernel_rfl) rfl #[.int .u32 (Int.tmod a0 64)] rfl (by (try simp only [List.map_toArray, List.map_cons, List.map_nil]); first | done | rfl | (simp only [List.length_drop, List.length_take]; rfl)) ?_; (with_reducible refine (rela_Width.calls k (Int.tmod a0 64) t376 _ A6.out).mono ?_); rintro e w' ⟨rfl, ⟨nd, rfl⟩⟩; refine ⟨_, rfl, ?_⟩) | ((with_reducible refine gate_dst (N := 25) rfl ?_); refine Kd.R_lit k74 _ 74 ?hg (N := 25) ?hd (xs := ([(⟨IntKind.u64.wrap (a1 - a2), Int.tmod a0 64, 0, 0⟩ : S74)] : List (S74))) (inner := [.int .u64 (IntKind.u64.wrap (a1 - a2)), .int .u32 (Int.tmod a0 64), .int .u32 0, .int .i64 0]) (ok := fun _ => True) (okp := fun _ => True) ?hr ?hp (fun _ hk => hk) trivial (Below.refl _ _) (Nat.le_refl _) (by simp) ?_; (case hd => rfl); (case hg => rfl); (case hr => first | (go_simp; done) | (go_simp; rfl)); (case hp => exact (Reps.c4 (show Kd.M k74 _ _ _ (⟨IntKind.u64.wrap (a1 - a2), Int.tmod a0 64, 0, 0⟩ : S74) [.int .u64 (IntKind.u64.wrap (a1 - a2)), .int .u32 (Int.tmod a0 64), .int .u32 0, .int .i64 0] from (k74_mkM _ _ _ (⟨IntKind.u64.wrap (a1 - a2), Int.tmod a0 64, 0, 0⟩ : S74) )) (Reps.none _ _))); intro v378 w11 ho12 hb hg_ hnew_; clear hg_ hnew_; (first | rw [← Ny377.out] at ho12 | (simp only [Int.reduceToNat] at ho12; rw [← Ny377.out] at ho12)); have n0_ := Aside0.mk (Kd.R_lower ho12 (below_size (by repeat (first | (with_reducible first | exact HB.out | apply below_alloc | apply pw_below_drewN | apply below_drew1) | exact HB.out)))); have n1_ := Aside0.mk (below_step (by repeat (first | (with_reducible first | exact HB.out | apply below_alloc | apply pw_below_drewN | apply below_drew1) | exact HB.out)) hb); clear HB; have HO379 := n0_; have HB := n1_; clear n0_ n1_; clear hb ho12; obtain ⟨Ao13, co13, eo13⟩ := Kd.R_slice HO379.out; subst eo13) | ((with_reducible refine gate_callee (f := 36) rfl ?_); refine goesL_ (some 26) rfl rfl Try.func36 (by kernel_rfl) rfl #[.slice Ao13 y377.length co13] rfl (by (try simp only [List.map_toArray, List.map_cons, List.map_nil]); first | done | rfl | (simp only [List.length_drop, List.length_take]; rfl)) ?_; (with_reducible refine (rela_Bytes.calls k _ _ y377 t380 _ ?side1 ?side2 A7.out).mono ?_); (case side1 => repeat (first | exact (Kd.R_reads' HO379.out).2.2 | (with_reducible refine Kd.C_alloc ?_ _) | (with_reducible refine Kd.C_drewN ?_ _) | (with_reducible refine Kd.C_drew ?_))); (case side2 => exact (Kd.R_reads' HO379.out).2.1); rintro e w14 ⟨v381, rfl, ho0, hb⟩; refine ⟨_, rfl, ?_⟩; have n0_ := Aside0.mk (Kd.R_below (by (with_reducible repeat (first | apply Kd.R_alloc | apply Kd.R_drewN | apply Kd.R_drew)); exact HO379.out) hb); have n1_ := Aside0.mk (Kd.R_lower ho0 (below_size (by repeat (first | (with_reducible first | exact HB.out | apply below_alloc | apply pw_below_drewN | apply below_drew1) | exact HB.out)))); have n2_ := Aside0.mk (below_step (by repeat (first | (with_reducible first | exact HB.out | apply below_alloc | apply pw_below_drewN | apply below_drew1) | exact HB.out)) hb); clear HO379; clear HB; have HO379 := n0_; have HO382 := n1_; have HB := n2_; clear n0_ n1_ n2_; (try clear hb); (try clear hb2); (try clear hk); (try clear hi); (try clear ho0); obtain ⟨Ao15, co15, eo15⟩ := Kd.R_slice HO382.out; subst eo15) | ((with_reducible refine gate_callee (f := 38) rfl ?_); refine goesL_ (some 28) rfl rfl Try.func38 (by kernel_rfl) rfl #[.slice Ao15 t380.length co15, .int .u64 a1, .int .i64 1] rfl (by (try simp only [List.map_toArray, List.map_cons, List.map_nil]); first | done | rfl | (simp only [List.length_drop, List.length_take]; rfl)) ?_; (with_reducible refine (rela_Parse.calls k _ _ t380 a1 1 t383 t384 _ ?side1 ?side2 A8.out).mono ?_); (case side1 => repeat (first | exact (Kd.R_reads' HO382.out).2.2 | (with_reducible refine Kd.C_alloc ?_ _) | (with_reducible refine Kd.C_drewN ?_ _) | (with_reducible refine Kd.C_drew ?_))); (case side2 => exact (Kd.R_reads' HO382.out).2.1); rintro e w16 ⟨v385, rfl, ho0, hb⟩; refine ⟨_, rfl, ?_⟩; have n0_ := Aside0.mk (Kd.R_elder' (by (with_reducible repeat (first | apply Kd.R_alloc | apply Kd.R_drewN | apply Kd.R_drew)); exact HO379.out) (Kd.R_base ho0) hb); have n1_ := Aside0.mk (Kd.R_below (by (with_reducible repeat (first | apply Kd.R_alloc | apply Kd.R_drewN | apply Kd.R_drew)); exact HO382.out) hb); have n2_ := Aside0.mk (Kd.R_lower (Kd.R_new' ho0 (Kd.R_lt (by (with_reducible repeat (first | apply Kd.R_alloc | apply Kd.R_drewN | apply Kd.R_drew)); exact HO379.out))) (below_size (by repeat (first | (with_reducible first | exact HB.out | apply below_alloc | apply pw_below_drewN | apply below_drew1) | exact HB.out)))); have n3_ := Aside0.mk (below_step (by repeat (first | (with_reducible first | exact HB.out | apply below_alloc | apply pw_below_drewN | apply below_drew1) | exact HB.out)) hb); clear HO379; clear HO382; clear HB; have HO379 := n0_; have HO382 := n1_; have HO386 := n2_; have HB := n3_; clear n0_ n1_ n2_ n3_; (try clear hb); (try clear hb2); (try clear hk); (try clear hi); (try clear ho0)))
      go_ret
      exact ⟨by first | rfl | (simp [errW_none, errW_some] <;> rfl) | (simp [*, errW_none, errW_some] <;> rfl), by repeat (first | (with_reducible first | exact HB.out | apply below_alloc | apply pw_below_drewN | apply below_drew1) | exact HB.out)⟩
    · rw [if_neg c9] at H
      have c9b0 : decide (a2 ≤ a1) = false := decide_eq_false c9
      clear c9
      obtain rfl := Option.some.inj H
      go_enter Try.func13, Try.ntmps13
      go_wp2_with (first | ((with_reducible refine gate_callee (f := 35) rfl ?_); refine goesL_ (some 11) rfl rfl Try.func35 (by kernel_rfl) rfl #[] rfl (by (try simp only [List.map_toArray, List.map_cons, List.map_nil]); first | done | rfl | (simp only [List.length_drop, List.length_take]; rfl)) ?_; (with_reducible refine (dovetaillaw13_known.calls k  true _ A4.out).mono ?_); rintro e w17 ⟨rfl, hb⟩; refine ⟨_, rfl, ?_⟩; have n0_ := Aside0.mk (below_step (by repeat (first | (with_reducible first | exact HB.out | apply below_alloc | apply pw_below_drewN | apply below_drew1) | exact HB.out)) hb); clear HB; have HB := n0_; clear n0_; (try clear hb); (try clear hb2); (try clear hk); (try clear hi)) | ((with_reducible refine gate_callee (f := 43) rfl ?_); refine goesL_ (some 16) rfl rfl Try.func43 (by kernel_rfl) rfl #[.int .u32 (Int.tmod a0 64)] rfl (by (try simp only [List.map_toArray, List.map_cons, List.map_nil]); first | done | rfl | (simp only [List.length_drop, List.length_take]; rfl)) ?_; (with_reducible refine (rela_Width.calls k (Int.tmod a0 64) t376 _ A6.out).mono ?_); rintro e w' ⟨rfl, ⟨nd, rfl⟩⟩; refine ⟨_, rfl, ?_⟩) | ((with_reducible refine gate_dst (N := 25) rfl ?_); refine Kd.R_lit k74 _ 74 ?hg (N := 25) ?hd (xs := ([(⟨IntKind.u64.wrap (a1 - a2), Int.tmod a0 64, 0, 0⟩ : S74)] : List (S74))) (inner := [.int .u64 (IntKind.u64.wrap (a1 - a2)), .int .u32 (Int.tmod a0 64), .int .u32 0, .int .i64 0]) (ok := fun _ => True) (okp := fun _ => True) ?hr ?hp (fun _ hk => hk) trivial (Below.refl _ _) (Nat.le_refl _) (by simp) ?_; (case hd => rfl); (case hg => rfl); (case hr => first | (go_simp; done) | (go_simp; rfl)); (case hp => exact (Reps.c4 (show Kd.M k74 _ _ _ (⟨IntKind.u64.wrap (a1 - a2), Int.tmod a0 64, 0, 0⟩ : S74) [.int .u64 (IntKind.u64.wrap (a1 - a2)), .int .u32 (Int.tmod a0 64), .int .u32 0, .int .i64 0] from (k74_mkM _ _ _ (⟨IntKind.u64.wrap (a1 - a2), Int.tmod a0 64, 0, 0⟩ : S74) )) (Reps.none _ _))); intro v378 w18 ho19 hb hg_ hnew_; clear hg_ hnew_; (first | rw [← Ny377.out] at ho19 | (simp only [Int.reduceToNat] at ho19; rw [← Ny377.out] at ho19)); have n0_ := Aside0.mk (Kd.R_lower ho19 (below_size (by repeat (first | (with_reducible first | exact HB.out | apply below_alloc | apply pw_below_drewN | apply below_drew1) | exact HB.out)))); have n1_ := Aside0.mk (below_step (by repeat (first | (with_reducible first | exact HB.out | apply below_alloc | apply pw_below_drewN | apply below_drew1) | exact HB.out)) hb); clear HB; have HO379 := n0_; have HB := n1_; clear n0_ n1_; clear hb ho19; obtain ⟨Ao20, co20, eo20⟩ := Kd.R_slice HO379.out; subst eo20) | ((with_reducible refine gate_callee (f := 36) rfl ?_); refine goesL_ (some 26) rfl rfl Try.func36 (by kernel_rfl) rfl #[.slice Ao20 y377.length co20] rfl (by (try simp only [List.map_toArray, List.map_cons, List.map_nil]); first | done | rfl | (simp only [List.length_drop, List.length_take]; rfl)) ?_; (with_reducible refine (rela_Bytes.calls k _ _ y377 t380 _ ?side1 ?side2 A7.out).mono ?_); (case side1 => repeat (first | exact (Kd.R_reads' HO379.out).2.2 | (with_reducible refine Kd.C_alloc ?_ _) | (with_reducible refine Kd.C_drewN ?_ _) | (with_reducible refine Kd.C_drew ?_))); (case side2 => exact (Kd.R_reads' HO379.out).2.1); rintro e w21 ⟨v381, rfl, ho0, hb⟩; refine ⟨_, rfl, ?_⟩; have n0_ := Aside0.mk (Kd.R_below (by (with_reducible repeat (first | apply Kd.R_alloc | apply Kd.R_drewN | apply Kd.R_drew)); exact HO379.out) hb); have n1_ := Aside0.mk (Kd.R_lower ho0 (below_size (by repeat (first | (with_reducible first | exact HB.out | apply below_alloc | apply pw_below_drewN | apply below_drew1) | exact HB.out)))); have n2_ := Aside0.mk (below_step (by repeat (first | (with_reducible first | exact HB.out | apply below_alloc | apply pw_below_drewN | apply below_drew1) | exact HB.out)) hb); clear HO379; clear HB; have HO379 := n0_; have HO382 := n1_; have HB := n2_; clear n0_ n1_ n2_; (try clear hb); (try clear hb2); (try clear hk); (try clear hi); (try clear ho0); obtain ⟨Ao22, co22, eo22⟩ := Kd.R_slice HO382.out; subst eo22) | ((with_reducible refine gate_callee (f := 38) rfl ?_); refine goesL_ (some 28) rfl rfl Try.func38 (by kernel_rfl) rfl #[.slice Ao22 t380.length co22, .int .u64 a1, .int .i64 1] rfl (by (try simp only [List.map_toArray, List.map_cons, List.map_nil]); first | done | rfl | (simp only [List.length_drop, List.length_take]; rfl)) ?_; (with_reducible refine (rela_Parse.calls k _ _ t380 a1 1 t383 t384 _ ?side1 ?side2 A8.out).mono ?_); (case side1 => repeat (first | exact (Kd.R_reads' HO382.out).2.2 | (with_reducible refine Kd.C_alloc ?_ _) | (with_reducible refine Kd.C_drewN ?_ _) | (with_reducible refine Kd.C_drew ?_))); (case side2 => exact (Kd.R_reads' HO382.out).2.1); rintro e w23 ⟨v385, rfl, ho0, hb⟩; refine ⟨_, rfl, ?_⟩; have n0_ := Aside0.mk (Kd.R_elder' (by (with_reducible repeat (first | apply Kd.R_alloc | apply Kd.R_drewN | apply Kd.R_drew)); exact HO379.out) (Kd.R_base ho0) hb); have n1_ := Aside0.mk (Kd.R_below (by (with_reducible repeat (first | apply Kd.R_alloc | apply Kd.R_drewN | apply Kd.R_drew)); exact HO382.out) hb); have n2_ := Aside0.mk (Kd.R_lower (Kd.R_new' ho0 (Kd.R_lt (by (with_reducible repeat (first | apply Kd.R_alloc | apply Kd.R_drewN | apply Kd.R_drew)); exact HO379.out))) (below_size (by repeat (first | (with_reducible first | exact HB.out | apply below_alloc | apply pw_below_drewN | apply below_drew1) | exact HB.out)))); have n3_ := Aside0.mk (below_step (by repeat (first | (with_reducible first | exact HB.out | apply below_alloc | apply pw_below_drewN | apply below_drew1) | exact HB.out)) hb); clear HO379; clear HO382; clear HB; have HO379 := n0_; have HO382 := n1_; have HO386 := n2_; have HB := n3_; clear n0_ n1_ n2_ n3_; (try clear hb); (try clear hb2); (try clear hk); (try clear hi); (try clear ho0)))
      go_ret
      exact ⟨by first | rfl | (simp [errW_none, errW_some] <;> rfl) | (simp [*, errW_none, errW_some] <;> rfl), by repeat (first | (with_reducible first | exact HB.out | apply below_alloc | apply pw_below_drewN | apply below_drew1) | exact HB.out)⟩
  · replace c5 := Bool.eq_false_iff.mpr c5
    subst c5
    have H1 : (some false) = some r := by rw [if_neg (show ¬ (false = true) by decide)] at H; exact H
    clear H
    have H := H1
    clear H1
    obtain rfl := Option.some.inj H
    go_enter Try.func13, Try.ntmps13
    go_wp2_with (first | ((with_reducible refine gate_callee (f := 35) rfl ?_); refine goesL_ (some 11) rfl rfl Try.func35 (by kernel_rfl) rfl #[] rfl (by (try simp only [List.map_toArray, List.map_cons, List.map_nil]); first | done | rfl | (simp only [List.length_drop, List.length_take]; rfl)) ?_; (with_reducible refine (dovetaillaw13_known.calls k  false _ A4.out).mono ?_); rintro e w24 ⟨rfl, hb⟩; refine ⟨_, rfl, ?_⟩; have n0_ := Aside0.mk (below_step (by repeat (first | (with_reducible first | exact HB.out | apply below_alloc | apply pw_below_drewN | apply below_drew1) | exact HB.out)) hb); clear HB; have HB := n0_; clear n0_; (try clear hb); (try clear hb2); (try clear hk); (try clear hi)))
    go_ret
    exact ⟨by first | rfl | (simp [errW_none, errW_some] <;> rfl) | (simp [*, errW_none, errW_some] <;> rfl), by repeat (first | (with_reducible first | exact HB.out | apply below_alloc | apply pw_below_drewN | apply below_drew1) | exact HB.out)⟩

/-- THE ONE PURE STATEMENT of dovetaillaw13_RelaEdges: yours. -/
def dovetaillaw13_RelaEdges.Pure : Prop := ∀ (a0 : Int) (a1 : Int) (a2 : Int), (Lit.int .u32 a0).wf = true → (Lit.int .u64 a1).wf = true → (Lit.int .u64 a2).wf = true → ∃ k, dovetaillaw13_RelaEdges.f k a0 a1 a2 = some true
theorem dovetaillaw13_RelaEdges.walk (P : dovetaillaw13_RelaEdges.Pure) (a0 : Int) (a1 : Int) (a2 : Int) (w : World) (w0 : (Lit.int .u32 a0).wf = true) (w1 : (Lit.int .u64 a1).wf = true) (w2 : (Lit.int .u64 a2).wf = true) :
    Calls Try.prog 13 #[.int .u32 a0, .int .u64 a1, .int .u64 a2] w fun e w' => e = .returned (.bool true) ∧ Below w.heap.size w w' := by
  obtain ⟨k, h⟩ := P a0 a1 a2 w0 w1 w2
  refine (dovetaillaw13_RelaEdges.calls k a0 a1 a2 true w h).mono ?_
  rintro e w' ⟨rfl, hd⟩
  exact ⟨rfl, hd⟩

end Go.Proofs.Ythjlhoclmbnjgaa.P
