-- printed by this session's program (wip/print), out of the translation; Lean checks it
import Derived.Test.YtojhnljjfmgjdaaP0
import Derived.Test.YtojhnljjfmgjdaaP37
import Derived.Test.YtojhnljjfmgjdaaP40
namespace Go.Proofs.Ytojhnljjfmgjdaa.P
open Go.RowKit Go.Proofs.YtojhnljjfmgjdaaW.PrintWords Go.Proofs.YtojhnljjfmgjdaaW.PrintLast Go.Proofs.YtojhnljjfmgjdaaW.PrintMore
attribute [local go_sem] max2_int min2_int max_two min_two max_three min_three max_four min_four   -- for this text's walks alone
set_option linter.unusedVariables false
set_option linter.unusedSimpArgs false
open Go.Proofs.YtojhnljjfmgjdaaX

/-! ### dovetaillaw12_SymMany: function 9 -/
def dovetaillaw12_SymMany.l0 : Nat → Int → Int → List Int → Int → Option (Bool)
  | 0, _, _, _, _ => none
  | k + 1, x1, x5, x6, x7 => if x7 < x5 then (if 0 ≤ (wrap64 (24 * x7)) then (if (wrap64 (24 * x7)) < (x6.length : Int) then (dovetaillaw12_SymMany.l0 k x1 x5 (x6.set ((wrap64 (24 * x7)) : Int).toNat 0) (wrap64 (x7 + 1))) else (none)) else (none)) else ((symtab_Parse.f k x6 (([0] : List Int)) ((x5) % 4294967296)).bind fun bt399 => (if x5 ≤ 500 then (some ((bt399.2.2 == 0) == ((Int.tmod x1 2) == 0))) else (some ((bt399.2.2 == 0) == false))))
def dovetaillaw12_SymMany.f (k : Nat) (a0 : Int) (a1 : Int) : Option (Bool) := (dovetaillaw12_known.f k).bind fun t391 => (if t391 = true then (if 0 ≤ (wrap64 ((wrap64 (24 * (wrap64 (498 + (wrap64 (Int.tmod a0 5)))))) + (wrap64 (Int.tmod a1 2)))) then (if (wrap64 ((wrap64 (24 * (wrap64 (498 + (wrap64 (Int.tmod a0 5)))))) + (wrap64 (Int.tmod a1 2))) : Int).toNat ≤ 281474976710656 then (dovetaillaw12_SymMany.l0 k a1 (wrap64 (498 + (wrap64 (Int.tmod a0 5)))) (List.replicate (wrap64 ((wrap64 (24 * (wrap64 (498 + (wrap64 (Int.tmod a0 5)))))) + (wrap64 (Int.tmod a1 2))) : Int).toNat 0) 1) else (none)) else (none)) else (some false))
theorem dovetaillaw12_SymMany.mono_l : ∀ k, (∀ y0 y1 y2 y3, LeO (dovetaillaw12_SymMany.l0 k y0 y1 y2 y3) (dovetaillaw12_SymMany.l0 (k + 1) y0 y1 y2 y3))
  | 0 => fun _ _ _ _ r h => by simp [dovetaillaw12_SymMany.l0] at h
  | k + 1 => by
    have ih0 := dovetaillaw12_SymMany.mono_l k
    · intro y0 y1 y2 y3
      unfold dovetaillaw12_SymMany.l0
      repeat' first
      | (with_reducible exact ih0 _ _ _ _)
      | (with_reducible exact dovetaillaw12_known.mono _)
      | (with_reducible exact symtab_Parse.mono _ _ _ _)
      | (with_reducible exact LeO.refl _)
      | (with_reducible exact LeO.none _)
      | (with_reducible refine LeO.ite ?_ ?_)
      | (with_reducible refine LeO.bind ?_ (fun _ => ?_))
      | exact ih0 _ _ _ _
      | exact dovetaillaw12_known.mono _
      | exact symtab_Parse.mono _ _ _ _
      | exact LeO.none _
      | refine LeO.ite ?_ ?_
      | refine LeO.bind ?_ (fun _ => ?_)
theorem dovetaillaw12_SymMany.mono : ∀ a0 a1 k, LeO (dovetaillaw12_SymMany.f k a0 a1) (dovetaillaw12_SymMany.f (k + 1) a0 a1) := by
  intro a0 a1 k
  have ih0 := dovetaillaw12_SymMany.mono_l k
  unfold dovetaillaw12_SymMany.f
  repeat' first
      | (with_reducible exact ih0 _ _ _ _)
      | (with_reducible exact dovetaillaw12_known.mono _)
      | (with_reducible exact symtab_Parse.mono _ _ _ _)
      | (with_reducible exact LeO.refl _)
      | (with_reducible exact LeO.none _)
      | (with_reducible refine LeO.ite ?_ ?_)
      | (with_reducible refine LeO.bind ?_ (fun _ => ?_))
      | exact ih0 _ _ _ _
      | exact dovetaillaw12_known.mono _
      | exact symtab_Parse.mono _ _ _ _
      | exact LeO.none _
      | refine LeO.ite ?_ ?_
      | refine LeO.bind ?_ (fun _ => ?_)
set_option maxHeartbeats 8000000 in
set_option maxRecDepth 100000 in
theorem dovetaillaw12_SymMany.calls (k : Nat) (a0 : Int) (a1 : Int) (r : Bool) (w : World) (h : dovetaillaw12_SymMany.f k a0 a1 = some r) :
    Calls Try.prog 9 #[.int .u8 a0, .int .u8 a1] w fun e w' => e = .returned (.bool r) ∧ Below w.heap.size w w' := by
  have HB := Aside0.mk (Below.refl w.heap.size w)
  have H : ((dovetaillaw12_known.f k).bind fun t391 => (if t391 = true then (if 0 ≤ (wrap64 ((wrap64 (24 * (wrap64 (498 + (wrap64 (Int.tmod a0 5)))))) + (wrap64 (Int.tmod a1 2)))) then (if (wrap64 ((wrap64 (24 * (wrap64 (498 + (wrap64 (Int.tmod a0 5)))))) + (wrap64 (Int.tmod a1 2))) : Int).toNat ≤ 281474976710656 then (dovetaillaw12_SymMany.l0 k a1 (wrap64 (498 + (wrap64 (Int.tmod a0 5)))) (List.replicate (wrap64 ((wrap64 (24 * (wrap64 (498 + (wrap64 (Int.tmod a0 5)))))) + (wrap64 (Int.tmod a1 2))) : Int).toNat 0) 1) else (none)) else (none)) else (some false))) = some r := h
  clear h
  replace H := Option.bind_eq_some_iff.mp H
  obtain ⟨t391, A30, H⟩ := H
  replace H : (if t391 = true then (if 0 ≤ (wrap64 ((wrap64 (24 * (wrap64 (498 + (wrap64 (Int.tmod a0 5)))))) + (wrap64 (Int.tmod a1 2)))) then (if (wrap64 ((wrap64 (24 * (wrap64 (498 + (wrap64 (Int.tmod a0 5)))))) + (wrap64 (Int.tmod a1 2))) : Int).toNat ≤ 281474976710656 then (dovetaillaw12_SymMany.l0 k a1 (wrap64 (498 + (wrap64 (Int.tmod a0 5)))) (List.replicate (wrap64 ((wrap64 (24 * (wrap64 (498 + (wrap64 (Int.tmod a0 5)))))) + (wrap64 (Int.tmod a1 2))) : Int).toNat 0) 1) else (none)) else (none)) else (some false)) = some r := H
  have A3 := Aside0.mk A30
  clear A30
  by_cases c4 : t391 = true
  · subst c4
    have H1 : (if 0 ≤ (wrap64 ((wrap64 (24 * (wrap64 (498 + (wrap64 (Int.tmod a0 5)))))) + (wrap64 (Int.tmod a1 2)))) then (if (wrap64 ((wrap64 (24 * (wrap64 (498 + (wrap64 (Int.tmod a0 5)))))) + (wrap64 (Int.tmod a1 2))) : Int).toNat ≤ 281474976710656 then (dovetaillaw12_SymMany.l0 k a1 (wrap64 (498 + (wrap64 (Int.tmod a0 5)))) (List.replicate (wrap64 ((wrap64 (24 * (wrap64 (498 + (wrap64 (Int.tmod a0 5)))))) + (wrap64 (Int.tmod a1 2))) : Int).toNat 0) 1) else (none)) else (none)) = some r := by rw [if_pos rfl] at H; exact H
    clear H
    have H := H1
    clear H1
    obtain ⟨ji5, hji5⟩ : ∃ j_ : Int, (wrap64 ((wrap64 (24 * (wrap64 (498 + (wrap64 (Int.tmod a0 5)))))) + (wrap64 (Int.tmod a1 2)))) = j_ := ⟨_, rfl⟩
    replace H : (if 0 ≤ (ji5) then (if (ji5 : Int).toNat ≤ 281474976710656 then (dovetaillaw12_SymMany.l0 k a1 (wrap64 (498 + (wrap64 (Int.tmod a0 5)))) (List.replicate (ji5 : Int).toNat 0) 1) else (none)) else (none)) = some r := by first | (rw [hji5] at H; exact H) | (simp only [hji5] at H ⊢; exact H)
    (try rw [hji5] at A3)
    have hji5w : (IntKind.i64.wrap ((wrap64 (24 * (wrap64 (498 + (wrap64 (Int.tmod a0 5)))))) + (wrap64 (Int.tmod a1 2)))) = ji5 := (i64_w _).trans hji5
    by_cases c6 : 0 ≤ (ji5)
    · rw [if_pos c6] at H
      have c6b0 := eq_true c6
      have c6b1 : decide (0 ≤ (ji5)) = true := decide_eq_true c6
      clear c6
      by_cases c7 : (ji5 : Int).toNat ≤ 281474976710656
      · rw [if_pos c7] at H
        have c7b0 := eq_true c7
        have c7b1 : decide ((ji5 : Int).toNat ≤ 281474976710656) = true := decide_eq_true c7
        clear c7
        obtain ⟨y392, hy392⟩ : ∃ y_ : List Int, y_ = (List.replicate (ji5 : Int).toNat 0) := ⟨_, rfl⟩
        replace H : (dovetaillaw12_SymMany.l0 k a1 (wrap64 (498 + (wrap64 (Int.tmod a0 5)))) y392 1) = some r := by first | (rw [hy392]; with_reducible exact H) | (have H2_ := (Option.bind_some _ _).symm.trans H; rw [hy392]; with_reducible exact H2_) | (have H2_ := (Option.bind_some _ _).symm.trans H; with_reducible exact H2_) | with_reducible exact H | (rw [hy392]; exact H) | exact H
        have Ny392 := Aside0.mk hy392
        clear hy392
        have H' := Aside0.mk H
        clear H
        go_enter Try.func9, Try.ntmps9
        go_wp2_with (first | ((with_reducible refine gate_callee (f := 22) rfl ?_); refine goesL_ (some 11) rfl rfl Try.func22 (by kernel_rfl) rfl #[] rfl (by (try simp only [List.map_toArray, List.map_cons, List.map_nil]); first | done | rfl | (simp only [List.length_drop, List.length_take]; rfl)) ?_; (with_reducible refine (dovetaillaw12_known.calls k  true _ A3.out).mono ?_); rintro e w8 ⟨rfl, hb⟩; refine ⟨_, rfl, ?_⟩; have n0_ := Aside0.mk (below_step (by repeat (first | (with_reducible first | exact HB.out | apply below_alloc | apply pw_below_drewN | apply below_drew1) | exact HB.out)) hb); clear HB; have HB := n0_; clear n0_; (try clear hb); (try clear hb2); (try clear hk); (try clear hi)) | ((with_reducible refine gate_dst (N := 23) rfl ?_); refine Kd.R_make (Kd.int .u8) _ 5 rfl (N := 23) rfl 22 _ _ rfl ji5 rfl rfl Try.underlying22 (.int .u8 0) 1 info5 rfl (by decide) (by omega) 0 (ok := fun _ => True) (okp := fun _ => True) rfl (fun _ hk => hk) trivial (of_decide_eq_true (by first | (with_reducible assumption) | assumption)) (Nat.le_trans (Nat.mul_le_mul_right _ (of_decide_eq_true (by first | (with_reducible assumption) | assumption) : ji5.toNat ≤ 281474976710656)) (by omega)) (Below.refl _ _) (Nat.le_refl _) ?_; intro v393 w9 ho10 hb hg_ hnew_; clear hg_ hnew_; (first | rw [← Ny392.out] at ho10 | (simp only [Int.reduceToNat] at ho10; rw [← Ny392.out] at ho10)); have n0_ := Aside0.mk (Kd.R_lower ho10 (below_size (by repeat (first | (with_reducible first | exact HB.out | apply below_alloc | apply pw_below_drewN | apply below_drew1) | exact HB.out)))); have n1_ := Aside0.mk (below_step (by repeat (first | (with_reducible first | exact HB.out | apply below_alloc | apply pw_below_drewN | apply below_drew1) | exact HB.out)) hb); clear HB; have HO394 := n0_; have HB := n1_; clear n0_ n1_; clear hb ho10))
        go_loopg [7] k (fun kq v7 w' => ∃ (x6_1 : List Int) (x7_1 : Int), v7 = .int .i64 x7_1 ∧ Aside0 (dovetaillaw12_SymMany.l0 kq a1 (wrap64 (498 + (wrap64 (Int.tmod a0 5)))) x6_1 x7_1 = some r) ∧ Aside0 (kq ≤ k) ∧ Aside0 (Kd.R (Kd.int .u8) 5 w' w.heap.size (fun _ => True) v393 x6_1) ∧ Aside0 (Below w.heap.size w w'))
        case atStart => exact ⟨(y392), (1), (by first | rfl | (simp; done) | (simp [*]; done)), H', ⟨Nat.le_refl _⟩, ⟨by (with_reducible repeat (first | apply Kd.R_alloc | apply Kd.R_drewN | apply Kd.R_drew)); exact HO394.out⟩, ⟨by repeat (first | (with_reducible first | exact HB.out | apply below_alloc | apply pw_below_drewN | apply below_drew1) | exact HB.out)⟩⟩
        case round =>
          clear H'
          try clear c2
          try clear p2
          try clear c4
          try clear c6
          try clear c6b0
          try clear c6b1
          try clear p6
          try clear c7
          try clear c7b0
          try clear c7b1
          try clear c9
          obtain ⟨x6_1, x7_1, rfl, HA, HK1, HO_6, HB⟩ := hrel
          cases gk with
          | zero => exact absurd HA.out (by simp [dovetaillaw12_SymMany.l0])
          | succ k1 =>
            have H := HA.out
            clear HA
            simp only [dovetaillaw12_SymMany.l0] at H
            by_cases c11 : x7_1 < (wrap64 (498 + (wrap64 (Int.tmod a0 5))))
            · rw [if_pos c11] at H
              have c11b0 : decide (x7_1 < (wrap64 (498 + (wrap64 (Int.tmod a0 5))))) = true := decide_eq_true c11
              clear c11
              obtain ⟨ji12, hji12⟩ : ∃ j_ : Int, (wrap64 (24 * x7_1)) = j_ := ⟨_, rfl⟩
              replace H : (if 0 ≤ (ji12) then (if (ji12) < (x6_1.length : Int) then (dovetaillaw12_SymMany.l0 k1 a1 (wrap64 (498 + (wrap64 (Int.tmod a0 5)))) (x6_1.set ((ji12) : Int).toNat 0) (wrap64 (x7_1 + 1))) else (none)) else (none)) = some r := by first | (rw [hji12] at H; exact H) | (simp only [hji12] at H ⊢; exact H)
              have hji12w : (IntKind.i64.wrap (24 * x7_1)) = ji12 := (i64_w _).trans hji12
              by_cases c13 : 0 ≤ (ji12)
              · rw [if_pos c13] at H
                have c13b0 : decide (0 ≤ (ji12)) = true := decide_eq_true c13
                clear c13
                by_cases c14 : (ji12) < (x6_1.length : Int)
                · rw [if_pos c14] at H
                  have c14b0 : decide ((ji12) < (x6_1.length : Int)) = true := decide_eq_true c14
                  clear c14
                  obtain ⟨y395, hy395⟩ : ∃ y_ : List Int, y_ = (x6_1.set ((ji12) : Int).toNat 0) := ⟨_, rfl⟩
                  replace H : (dovetaillaw12_SymMany.l0 k1 a1 (wrap64 (498 + (wrap64 (Int.tmod a0 5)))) y395 (wrap64 (x7_1 + 1))) = some r := by first | (rw [hy395]; with_reducible exact H) | (have H2_ := (Option.bind_some _ _).symm.trans H; rw [hy395]; with_reducible exact H2_) | (have H2_ := (Option.bind_some _ _).symm.trans H; with_reducible exact H2_) | with_reducible exact H | (rw [hy395]; exact H) | exact H
                  have Ny395 := Aside0.mk hy395
                  clear hy395
                  have H' := Aside0.mk H
                  clear H
                  have p15 : 0 ≤ ((ji12) : Int) := of_decide_eq_true (by first | (with_reducible assumption) | assumption)
                  have q15 : ((ji12) : Int) < ((x6_1.length : Int) : Int) := of_decide_eq_true (by first | (with_reducible assumption) | assumption)
                  obtain ⟨go15, co15, eo15, gb15, gl15, cl15, HG15⟩ := Kd.R_form HO_6.out (by omega)
                  (first | cases eo15 | (injection eo15 with ea_ en_ ec_; (first | subst ea_ | (injection ea_ with ea_; subst ea_)); subst ec_; clear en_))
                  have GB15 := Aside0.mk gb15
                  have GG15 := Aside0.mk HG15
                  clear gb15 gl15 HG15
                  obtain ⟨hx15_0, hf15_0⟩ := Kd.R_celln 0 HO_6.out ((ji12) : Int) p15 q15
                  replace p15 := eq_true p15
                  replace q15 := eq_true q15
                  have HP16 := Kd.R_putg HO_6.out ((ji12) : Int) 0
                  go_wp2_with (first | ((with_reducible refine gate_store (t := 5) (p := 32) rfl ?_); refine store_event (t := 5) (p := 32) (v := ?vo_w17) (w1 := (wr.setCell ⟨go15, ((ji12) : Int).toNat, none⟩ (.int .u8 0))) ?hg ?ho ?hn ?hr ?_; (case ho => rfl); (case hg => rfl); (case hn => rfl); (case hr => first | (go_simp; done) | (go_simp; rfl)); intro w17 hw; have hg : wr.grownBy w17 (some go15) := (by rw [hw]; exact HP16.2); have hp_ : Kd.R (Kd.int .u8) 5 w17 w.heap.size (fun _ => True) (.slice (some ⟨go15, 0, none⟩) x6_1.length co15) y395 := (by rw [hw, Ny395.out]; exact HP16.1); clear HP16; have n0_ := Aside0.mk (hp_); have n1_ := Aside0.mk ((by rw [hw]; exact below_set (HB.out) GB15.out : Below w.heap.size w w17)); clear HO_6; clear HB; have HO_6 := n0_; have HB := n1_; clear n0_ n1_; clear hg hw hp_))
                  go_roundg k1
                  case measure => have := HK1.out; omega
                  case rel => exact ⟨(y395), (wrap64 (x7_1 + 1)), (by first | rfl | (simp; done) | (simp [*]; done)), H', ⟨by have := HK1.out; omega⟩, ⟨by (with_reducible repeat (first | apply Kd.R_alloc | apply Kd.R_drewN | apply Kd.R_drew)); exact HO_6.out⟩, ⟨by repeat (first | (with_reducible first | exact HB.out | apply below_alloc | apply pw_below_drewN | apply below_drew1) | exact HB.out)⟩⟩
                · rw [if_neg c14] at H
                  exact absurd H (by simp)
              · rw [if_neg c13] at H
                exact absurd H (by simp)
            · rw [if_neg c11] at H
              have c11b0 : decide (x7_1 < (wrap64 (498 + (wrap64 (Int.tmod a0 5))))) = false := decide_eq_false c11
              clear c11
              obtain ⟨y396, hy396⟩ : ∃ y_ : List Int, y_ = (([0] : List Int)) := ⟨_, rfl⟩
              replace H : ((symtab_Parse.f k1 x6_1 y396 (((wrap64 (498 + (wrap64 (Int.tmod a0 5))))) % 4294967296)).bind fun bt399 => (if (wrap64 (498 + (wrap64 (Int.tmod a0 5)))) ≤ 500 then (some ((bt399.2.2 == 0) == ((Int.tmod a1 2) == 0))) else (some ((bt399.2.2 == 0) == false)))) = some r := by first | (rw [hy396]; with_reducible exact H) | (have H2_ := (Option.bind_some _ _).symm.trans H; rw [hy396]; with_reducible exact H2_) | (have H2_ := (Option.bind_some _ _).symm.trans H; with_reducible exact H2_) | with_reducible exact H | (rw [hy396]; exact H) | exact H
              have Ny396 := Aside0.mk hy396
              clear hy396
              replace H := Option.bind_eq_some_iff.mp H
              obtain ⟨⟨t399, t400, t401⟩, A180, H⟩ := H
              replace H : (if (wrap64 (498 + (wrap64 (Int.tmod a0 5)))) ≤ 500 then (some ((t401 == 0) == ((Int.tmod a1 2) == 0))) else (some ((t401 == 0) == false))) = some r := H
              have A18 := Aside0.mk A180
              clear A180
              by_cases c19 : (wrap64 (498 + (wrap64 (Int.tmod a0 5)))) ≤ 500
              · rw [if_pos c19] at H
                have c19b0 : decide ((wrap64 (498 + (wrap64 (Int.tmod a0 5)))) ≤ 500) = true := decide_eq_true c19
                clear c19
                obtain rfl := Option.some.inj H
                go_wp2_with (first | ((with_reducible refine gate_dst (N := 35) rfl ?_); refine Kd.R_lit (Kd.int .u8) _ 5 ?hg (N := 35) ?hd (xs := ([0] : List Int)) (inner := [.int .u8 0]) (ok := fun _ => True) (okp := fun _ => True) ?hr ?hp (fun _ hk => hk) trivial (Below.refl _ _) (Nat.le_refl _) (by simp) ?_; (case hd => rfl); (case hg => rfl); (case hr => first | (go_simp; done) | (go_simp; rfl)); (case hp => exact (Reps.one (show Kd.M (Kd.int .u8) _ _ _ 0 [.int .u8 0] from rfl) (Reps.none _ _))); intro v397 w20 ho21 hb hg_ hnew_; clear hg_ hnew_; (first | rw [← Ny396.out] at ho21 | (simp only [Int.reduceToNat] at ho21; rw [← Ny396.out] at ho21)); have n0_ := Aside0.mk (Kd.R_elder' (by (with_reducible repeat (first | apply Kd.R_alloc | apply Kd.R_drewN | apply Kd.R_drew)); exact HO_6.out) (Kd.R_base ho21) hb); have n1_ := Aside0.mk (Kd.R_lower (Kd.R_new' ho21 (Kd.R_lt (by (with_reducible repeat (first | apply Kd.R_alloc | apply Kd.R_drewN | apply Kd.R_drew)); exact HO_6.out))) (below_size (by repeat (first | (with_reducible first | exact HB.out | apply below_alloc | apply pw_below_drewN | apply below_drew1) | exact HB.out)))); have n2_ := Aside0.mk (below_step (by repeat (first | (with_reducible first | exact HB.out | apply below_alloc | apply pw_below_drewN | apply below_drew1) | exact HB.out)) hb); clear HO_6; clear HB; have HO_6 := n0_; have HO398 := n1_; have HB := n2_; clear n0_ n1_ n2_; clear hb ho21; obtain ⟨Ao22, co22, eo22⟩ := Kd.R_slice HO_6.out; subst eo22; obtain ⟨Ao23, co23, eo23⟩ := Kd.R_slice HO398.out; subst eo23) | ((with_reducible refine gate_callee (f := 23) rfl ?_); refine goesL_ (some 38) rfl rfl Try.func23 (by kernel_rfl) rfl #[.slice Ao22 x6_1.length co22, .slice Ao23 y396.length co23, .int .u32 (((wrap64 (498 + (wrap64 (Int.tmod a0 5))))) % 4294967296)] rfl (by (try simp only [List.map_toArray, List.map_cons, List.map_nil]); first | done | rfl | (simp only [List.length_drop, List.length_take]; rfl)) ?_; (with_reducible refine (symtab_Parse.calls k1 _ _ x6_1 _ _ y396 (((wrap64 (498 + (wrap64 (Int.tmod a0 5))))) % 4294967296) t399 t400 t401 _ ?side1 ?side2 ?side3 ?side4 A18.out).mono ?_); (case side1 => repeat (first | exact (Kd.R_reads' HO_6.out).2.2 | (with_reducible refine Kd.C_alloc ?_ _) | (with_reducible refine Kd.C_drewN ?_ _) | (with_reducible refine Kd.C_drew ?_))); (case side2 => exact (Kd.R_reads' HO_6.out).2.1); (case side3 => repeat (first | exact (Kd.R_reads' HO398.out).2.2 | (with_reducible refine Kd.C_alloc ?_ _) | (with_reducible refine Kd.C_drewN ?_ _) | (with_reducible refine Kd.C_drew ?_))); (case side4 => exact (Kd.R_reads' HO398.out).2.1); rintro e w24 ⟨v402, v404, rfl, ho0, ho1, hb⟩; refine ⟨_, rfl, ?_⟩; have n0_ := Aside0.mk (Kd.R_below (by (with_reducible repeat (first | apply Kd.R_alloc | apply Kd.R_drewN | apply Kd.R_drew)); exact HO_6.out) hb); have n1_ := Aside0.mk (Kd.R_below (by (with_reducible repeat (first | apply Kd.R_alloc | apply Kd.R_drewN | apply Kd.R_drew)); exact HO398.out) hb); have n2_ := Aside0.mk (Kd.R_lower ho0 (below_size (by repeat (first | (with_reducible first | exact HB.out | apply below_alloc | apply pw_below_drewN | apply below_drew1) | exact HB.out)))); have n3_ := Aside0.mk (Kd.R_lower ho1 (below_size (by repeat (first | (with_reducible first | exact HB.out | apply below_alloc | apply pw_below_drewN | apply below_drew1) | exact HB.out)))); have n4_ := Aside0.mk (below_step (by repeat (first | (with_reducible first | exact HB.out | apply below_alloc | apply pw_below_drewN | apply below_drew1) | exact HB.out)) hb); clear HO_6; clear HO398; clear HB; have HO_6 := n0_; have HO398 := n1_; have HO403 := n2_; have HO405 := n3_; have HB := n4_; clear n0_ n1_ n2_ n3_ n4_; (try clear hb); (try clear hb2); (try clear hk); (try clear hi); (try clear ho0); (try clear ho1)))
                go_ret
                exact ⟨by first | rfl | (simp [errW_none, errW_some] <;> rfl) | (simp only [← hji5]; first | rfl | (simp [errW_none, errW_some] <;> rfl)) | (simp [*, errW_none, errW_some] <;> rfl), by repeat (first | (with_reducible first | exact HB.out | apply below_alloc | apply pw_below_drewN | apply below_drew1) | exact HB.out)⟩
              · rw [if_neg c19] at H
                have c19b0 : decide ((wrap64 (498 + (wrap64 (Int.tmod a0 5)))) ≤ 500) = false := decide_eq_false c19
                clear c19
                obtain rfl := Option.some.inj H
                go_wp2_with (first | ((with_reducible refine gate_dst (N := 35) rfl ?_); refine Kd.R_lit (Kd.int .u8) _ 5 ?hg (N := 35) ?hd (xs := ([0] : List Int)) (inner := [.int .u8 0]) (ok := fun _ => True) (okp := fun _ => True) ?hr ?hp (fun _ hk => hk) trivial (Below.refl _ _) (Nat.le_refl _) (by simp) ?_; (case hd => rfl); (case hg => rfl); (case hr => first | (go_simp; done) | (go_simp; rfl)); (case hp => exact (Reps.one (show Kd.M (Kd.int .u8) _ _ _ 0 [.int .u8 0] from rfl) (Reps.none _ _))); intro v397 w25 ho26 hb hg_ hnew_; clear hg_ hnew_; (first | rw [← Ny396.out] at ho26 | (simp only [Int.reduceToNat] at ho26; rw [← Ny396.out] at ho26)); have n0_ := Aside0.mk (Kd.R_elder' (by (with_reducible repeat (first | apply Kd.R_alloc | apply Kd.R_drewN | apply Kd.R_drew)); exact HO_6.out) (Kd.R_base ho26) hb); have n1_ := Aside0.mk (Kd.R_lower (Kd.R_new' ho26 (Kd.R_lt (by (with_reducible repeat (first | apply Kd.R_alloc | apply Kd.R_drewN | apply Kd.R_drew)); exact HO_6.out))) (below_size (by repeat (first | (with_reducible first | exact HB.out | apply below_alloc | apply pw_below_drewN | apply below_drew1) | exact HB.out)))); have n2_ := Aside0.mk (below_step (by repeat (first | (with_reducible first | exact HB.out | apply below_alloc | apply pw_below_drewN | apply below_drew1) | exact HB.out)) hb); clear HO_6; clear HB; have HO_6 := n0_; have HO398 := n1_; have HB := n2_; clear n0_ n1_ n2_; clear hb ho26; obtain ⟨Ao27, co27, eo27⟩ := Kd.R_slice HO_6.out; subst eo27; obtain ⟨Ao28, co28, eo28⟩ := Kd.R_slice HO398.out; subst eo28) | ((with_reducible refine gate_callee (f := 23) rfl ?_); refine goesL_ (some 38) rfl rfl Try.func23 (by kernel_rfl) rfl #[.slice Ao27 x6_1.length co27, .slice Ao28 y396.length co28, .int .u32 (((wrap64 (498 + (wrap64 (Int.tmod a0 5))))) % 4294967296)] rfl (by (try simp only [List.map_toArray, List.map_cons, List.map_nil]); first | done | rfl | (simp only [List.length_drop, List.length_take]; rfl)) ?_; (with_reducible refine (symtab_Parse.calls k1 _ _ x6_1 _ _ y396 (((wrap64 (498 + (wrap64 (Int.tmod a0 5))))) % 4294967296) t399 t400 t401 _ ?side1 ?side2 ?side3 ?side4 A18.out).mono ?_); (case side1 => repeat (first | exact (Kd.R_reads' HO_6.out).2.2 | (with_reducible refine Kd.C_alloc ?_ _) | (with_reducible refine Kd.C_drewN ?_ _) | (with_reducible refine Kd.C_drew ?_))); (case side2 => exact (Kd.R_reads' HO_6.out).2.1); (case side3 => repeat (first | exact (Kd.R_reads' HO398.out).2.2 | (with_reducible refine Kd.C_alloc ?_ _) | (with_reducible refine Kd.C_drewN ?_ _) | (with_reducible refine Kd.C_drew ?_))); (case side4 => exact (Kd.R_reads' HO398.out).2.1); rintro e w29 ⟨v402, v404, rfl, ho0, ho1, hb⟩; refine ⟨_, rfl, ?_⟩; have n0_ := Aside0.mk (Kd.R_below (by (with_reducible repeat (first | apply Kd.R_alloc | apply Kd.R_drewN | apply Kd.R_drew)); exact HO_6.out) hb); have n1_ := Aside0.mk (Kd.R_below (by (with_reducible repeat (first | apply Kd.R_alloc | apply Kd.R_drewN | apply Kd.R_drew)); exact HO398.out) hb); have n2_ := Aside0.mk (Kd.R_lower ho0 (below_size (by repeat (first | (with_reducible first | exact HB.out | apply below_alloc | apply pw_below_drewN | apply below_drew1) | exact HB.out)))); have n3_ := Aside0.mk (Kd.R_lower ho1 (below_size (by repeat (first | (with_reducible first | exact HB.out | apply below_alloc | apply pw_below_drewN | apply below_drew1) | exact HB.out)))); have n4_ := Aside0.mk (below_step (by repeat (first | (with_reducible first | exact HB.out | apply below_alloc | apply pw_below_drewN | apply below_drew1) | exact HB.out)) hb); clear HO_6; clear HO398; clear HB; have HO_6 := n0_; have HO398 := n1_; have HO403 := n2_; have HO405 := n3_; have HB := n4_; clear n0_ n1_ n2_ n3_ n4_; (try clear hb); (try clear hb2); (try clear hk); (try clear hi); (try clear ho0); (try clear ho1)))
                go_ret
                exact ⟨by first | rfl | (simp [errW_none, errW_some] <;> rfl) | (simp only [← hji5]; first | rfl | (simp [errW_none, errW_some] <;> rfl)) | (simp [*, errW_none, errW_some] <;> rfl), by repeat (first | (with_reducible first | exact HB.out | apply below_alloc | apply pw_below_drewN | apply below_drew1) | exact HB.out)⟩
      · rw [if_neg c7] at H
        exact absurd H (by simp)
    · rw [if_neg c6] at H
      exact absurd H (by simp)
  · replace c4 := Bool.eq_false_iff.mpr c4
    subst c4
    have H1 : (some false) = some r := by rw [if_neg (show ¬ (false = true) by decide)] at H; exact H
    clear H
    have H := H1
    clear H1
    obtain rfl := Option.some.inj H
    go_enter Try.func9, Try.ntmps9
    go_wp2_with (first | ((with_reducible refine gate_callee (f := 22) rfl ?_); refine goesL_ (some 11) rfl rfl Try.func22 (by kernel_rfl) rfl #[] rfl (by (try simp only [List.map_toArray, List.map_cons, List.map_nil]); first | done | rfl | (simp only [List.length_drop, List.length_take]; rfl)) ?_; (with_reducible refine (dovetaillaw12_known.calls k  false _ A3.out).mono ?_); rintro e w30 ⟨rfl, hb⟩; refine ⟨_, rfl, ?_⟩; have n0_ := Aside0.mk (below_step (by repeat (first | (with_reducible first | exact HB.out | apply below_alloc | apply pw_below_drewN | apply below_drew1) | exact HB.out)) hb); clear HB; have HB := n0_; clear n0_; (try clear hb); (try clear hb2); (try clear hk); (try clear hi)))
    go_ret
    exact ⟨by first | rfl | (simp [errW_none, errW_some] <;> rfl) | (simp [*, errW_none, errW_some] <;> rfl), by repeat (first | (with_reducible first | exact HB.out | apply below_alloc | apply pw_below_drewN | apply below_drew1) | exact HB.out)⟩

/-- THE ONE PURE STATEMENT of dovetaillaw12_SymMany: yours. -/
def dovetaillaw12_SymMany.Pure : Prop := ∀ (a0 : Int) (a1 : Int), (Lit.int .u8 a0).wf = true → (Lit.int .u8 a1).wf = true → ∃ k, dovetaillaw12_SymMany.f k a0 a1 = some true
theorem dovetaillaw12_SymMany.walk (P : dovetaillaw12_SymMany.Pure) (a0 : Int) (a1 : Int) (w : World) (w0 : (Lit.int .u8 a0).wf = true) (w1 : (Lit.int .u8 a1).wf = true) :
    Calls Try.prog 9 #[.int .u8 a0, .int .u8 a1] w fun e w' => e = .returned (.bool true) ∧ Below w.heap.size w w' := by
  obtain ⟨k, h⟩ := P a0 a1 w0 w1
  refine (dovetaillaw12_SymMany.calls k a0 a1 true w h).mono ?_
  rintro e w' ⟨rfl, hd⟩
  exact ⟨rfl, hd⟩

end Go.Proofs.Ytojhnljjfmgjdaa.P
