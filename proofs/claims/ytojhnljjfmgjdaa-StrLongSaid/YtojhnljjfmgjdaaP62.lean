-- printed by this session's program (wip/print), out of the translation; Lean checks it
import Derived.Test.YtojhnljjfmgjdaaP0
import Derived.Test.YtojhnljjfmgjdaaP34
import Derived.Test.YtojhnljjfmgjdaaP56
namespace Go.Proofs.Ytojhnljjfmgjdaa.P
open Go.RowKit Go.Proofs.YtojhnljjfmgjdaaW.PrintWords Go.Proofs.YtojhnljjfmgjdaaW.PrintLast Go.Proofs.YtojhnljjfmgjdaaW.PrintMore
attribute [local go_sem] max2_int min2_int max_two min_two max_three min_three max_four min_four   -- for this text's walks alone
set_option linter.unusedVariables false
set_option linter.unusedSimpArgs false
open Go.Proofs.YtojhnljjfmgjdaaX

/-! ### dovetaillaw9_StrLong: function 14 -/
def dovetaillaw9_StrLong.l0 : Nat → Int → Int → List Int → Int → Option (Bool)
  | 0, _, _, _, _ => none
  | k + 1, x1, x5, x6, x7 => if x7 < x5 then (if 0 ≤ (wrap64 ((wrap64 ((wrap64 (Int.tmod x1 4)) + 1)) + x7)) then (if (wrap64 ((wrap64 ((wrap64 (Int.tmod x1 4)) + 1)) + x7)) < (x6.length : Int) then (dovetaillaw9_StrLong.l0 k x1 x5 (x6.set ((wrap64 ((wrap64 ((wrap64 (Int.tmod x1 4)) + 1)) + x7)) : Int).toNat 120) (wrap64 (x7 + 1))) else (none)) else (none)) else ((strtab_Get.f x6 ((((Int.tmod x1 4) % 4294967296) + 1) % 4294967296)).bind fun bt564 => (if (bt564.2 == (decide (x5 ≤ 200))) = true then (if bt564.2 = true then (if (bt564.1.size : Int) = x5 then (some true) else (some false)) else (some (bt564.1.toList == ([] : List UInt8)))) else (some false)))
def dovetaillaw9_StrLong.f (k : Nat) (a0 : Int) (a1 : Int) : Option (Bool) := (dovetaillaw9_known.f).bind fun t559 => (if t559 = true then (if 0 ≤ (wrap64 ((wrap64 ((wrap64 (197 + (wrap64 (Int.tmod a0 7)))) + 2)) + (wrap64 (Int.tmod a1 4)))) then (if (wrap64 ((wrap64 ((wrap64 (197 + (wrap64 (Int.tmod a0 7)))) + 2)) + (wrap64 (Int.tmod a1 4))) : Int).toNat ≤ 281474976710656 then (dovetaillaw9_StrLong.l0 k a1 (wrap64 (197 + (wrap64 (Int.tmod a0 7)))) (List.replicate (wrap64 ((wrap64 ((wrap64 (197 + (wrap64 (Int.tmod a0 7)))) + 2)) + (wrap64 (Int.tmod a1 4))) : Int).toNat 0) 0) else (none)) else (none)) else (some false))
theorem dovetaillaw9_StrLong.mono_l : ∀ k, (∀ y0 y1 y2 y3, LeO (dovetaillaw9_StrLong.l0 k y0 y1 y2 y3) (dovetaillaw9_StrLong.l0 (k + 1) y0 y1 y2 y3))
  | 0 => fun _ _ _ _ r h => by simp [dovetaillaw9_StrLong.l0] at h
  | k + 1 => by
    have ih0 := dovetaillaw9_StrLong.mono_l k
    · intro y0 y1 y2 y3
      unfold dovetaillaw9_StrLong.l0
      repeat' first
      | (with_reducible exact ih0 _ _ _ _)
      | (with_reducible exact LeO.refl _)
      | (with_reducible exact LeO.none _)
      | (with_reducible refine LeO.ite ?_ ?_)
      | (with_reducible refine LeO.bind ?_ (fun _ => ?_))
      | exact ih0 _ _ _ _
      | exact LeO.none _
      | refine LeO.ite ?_ ?_
      | refine LeO.bind ?_ (fun _ => ?_)
theorem dovetaillaw9_StrLong.mono : ∀ a0 a1 k, LeO (dovetaillaw9_StrLong.f k a0 a1) (dovetaillaw9_StrLong.f (k + 1) a0 a1) := by
  intro a0 a1 k
  have ih0 := dovetaillaw9_StrLong.mono_l k
  unfold dovetaillaw9_StrLong.f
  repeat' first
      | (with_reducible exact ih0 _ _ _ _)
      | (with_reducible exact LeO.refl _)
      | (with_reducible exact LeO.none _)
      | (with_reducible refine LeO.ite ?_ ?_)
      | (with_reducible refine LeO.bind ?_ (fun _ => ?_))
      | exact ih0 _ _ _ _
      | exact LeO.none _
      | refine LeO.ite ?_ ?_
      | refine LeO.bind ?_ (fun _ => ?_)
set_option maxHeartbeats 8000000 in
set_option maxRecDepth 100000 in
theorem dovetaillaw9_StrLong.calls (k : Nat) (a0 : Int) (a1 : Int) (r : Bool) (w : World) (h : dovetaillaw9_StrLong.f k a0 a1 = some r) :
    Calls Try.prog 14 #[.int .u8 a0, .int .u8 a1] w fun e w' => e = .returned (.bool r) ∧ Below w.heap.size w w' := by
  have HB := Aside0.mk (Below.refl w.heap.size w)
  have H : ((dovetaillaw9_known.f).bind fun t559 => (if t559 = true then (if 0 ≤ (wrap64 ((wrap64 ((wrap64 (197 + (wrap64 (Int.tmod a0 7)))) + 2)) + (wrap64 (Int.tmod a1 4)))) then (if (wrap64 ((wrap64 ((wrap64 (197 + (wrap64 (Int.tmod a0 7)))) + 2)) + (wrap64 (Int.tmod a1 4))) : Int).toNat ≤ 281474976710656 then (dovetaillaw9_StrLong.l0 k a1 (wrap64 (197 + (wrap64 (Int.tmod a0 7)))) (List.replicate (wrap64 ((wrap64 ((wrap64 (197 + (wrap64 (Int.tmod a0 7)))) + 2)) + (wrap64 (Int.tmod a1 4))) : Int).toNat 0) 0) else (none)) else (none)) else (some false))) = some r := h
  clear h
  replace H := Option.bind_eq_some_iff.mp H
  obtain ⟨t559, A30, H⟩ := H
  replace H : (if t559 = true then (if 0 ≤ (wrap64 ((wrap64 ((wrap64 (197 + (wrap64 (Int.tmod a0 7)))) + 2)) + (wrap64 (Int.tmod a1 4)))) then (if (wrap64 ((wrap64 ((wrap64 (197 + (wrap64 (Int.tmod a0 7)))) + 2)) + (wrap64 (Int.tmod a1 4))) : Int).toNat ≤ 281474976710656 then (dovetaillaw9_StrLong.l0 k a1 (wrap64 (197 + (wrap64 (Int.tmod a0 7)))) (List.replicate (wrap64 ((wrap64 ((wrap64 (197 + (wrap64 (Int.tmod a0 7)))) + 2)) + (wrap64 (Int.tmod a1 4))) : Int).toNat 0) 0) else (none)) else (none)) else (some false)) = some r := H
  have A3 := Aside0.mk A30
  clear A30
  by_cases c4 : t559 = true
  · subst c4
    have H1 : (if 0 ≤ (wrap64 ((wrap64 ((wrap64 (197 + (wrap64 (Int.tmod a0 7)))) + 2)) + (wrap64 (Int.tmod a1 4)))) then (if (wrap64 ((wrap64 ((wrap64 (197 + (wrap64 (Int.tmod a0 7)))) + 2)) + (wrap64 (Int.tmod a1 4))) : Int).toNat ≤ 281474976710656 then (dovetaillaw9_StrLong.l0 k a1 (wrap64 (197 + (wrap64 (Int.tmod a0 7)))) (List.replicate (wrap64 ((wrap64 ((wrap64 (197 + (wrap64 (Int.tmod a0 7)))) + 2)) + (wrap64 (Int.tmod a1 4))) : Int).toNat 0) 0) else (none)) else (none)) = some r := by rw [if_pos rfl] at H; exact H
    clear H
    have H := H1
    clear H1
    obtain ⟨ji5, hji5⟩ : ∃ j_ : Int, (wrap64 ((wrap64 ((wrap64 (197 + (wrap64 (Int.tmod a0 7)))) + 2)) + (wrap64 (Int.tmod a1 4)))) = j_ := ⟨_, rfl⟩
    replace H : (if 0 ≤ (ji5) then (if (ji5 : Int).toNat ≤ 281474976710656 then (dovetaillaw9_StrLong.l0 k a1 (wrap64 (197 + (wrap64 (Int.tmod a0 7)))) (List.replicate (ji5 : Int).toNat 0) 0) else (none)) else (none)) = some r := by first | (rw [hji5] at H; exact H) | (simp only [hji5] at H ⊢; exact H)
    (try rw [hji5] at A3)
    have hji5w : (IntKind.i64.wrap ((wrap64 ((wrap64 (197 + (wrap64 (Int.tmod a0 7)))) + 2)) + (wrap64 (Int.tmod a1 4)))) = ji5 := (i64_w _).trans hji5
    by_cases c6 : 0 ≤ (ji5)
    · rw [if_pos c6] at H
      have c6b0 := eq_true c6
      have c6b1 : decide (0 ≤ (ji5)) = true := decide_eq_true c6
      clear c6
      by_cases c7 : (ji5 : Int).toNat ≤ 281474976710656
      · rw [if_pos c7] at H
        have c7b0 := eq_true c7
        have c7b1 : decide ((ji5 : Int).toNat ≤ 281474976710656) = true := decide_eq_true c7
        clear c7
        obtain ⟨y560, hy560⟩ : ∃ y_ : List Int, y_ = (List.replicate (ji5 : Int).toNat 0) := ⟨_, rfl⟩
        replace H : (dovetaillaw9_StrLong.l0 k a1 (wrap64 (197 + (wrap64 (Int.tmod a0 7)))) y560 0) = some r := by first | (rw [hy560]; with_reducible exact H) | (have H2_ := (Option.bind_some _ _).symm.trans H; rw [hy560]; with_reducible exact H2_) | (have H2_ := (Option.bind_some _ _).symm.trans H; with_reducible exact H2_) | with_reducible exact H | (rw [hy560]; exact H) | exact H
        have Ny560 := Aside0.mk hy560
        clear hy560
        have H' := Aside0.mk H
        clear H
        go_enter Try.func14, Try.ntmps14
        go_wp2_with (first | ((with_reducible refine gate_callee (f := 26) rfl ?_); refine goesL_ (some 10) rfl rfl Try.func26 (by kernel_rfl) rfl #[] rfl (by (try simp only [List.map_toArray, List.map_cons, List.map_nil]); first | done | rfl | (simp only [List.length_drop, List.length_take]; rfl)) ?_; (with_reducible refine (dovetaillaw9_known.calls  true _ A3.out).mono ?_); rintro e w8 ⟨rfl, hb⟩; refine ⟨_, rfl, ?_⟩; have n0_ := Aside0.mk (below_step (by repeat (first | (with_reducible first | exact HB.out | apply below_alloc | apply pw_below_drewN | apply below_drew1) | exact HB.out)) hb); clear HB; have HB := n0_; clear n0_; (try clear hb); (try clear hb2); (try clear hk); (try clear hi)) | ((with_reducible refine gate_dst (N := 22) rfl ?_); (try (refine gate_guard (by rfl) ?_; dsimp only)); refine Kd.R_make (Kd.int .u8) _ 5 rfl (N := 22) rfl 22 _ _ rfl ji5 rfl rfl Try.underlying22 (.int .u8 0) 1 info5 rfl (by decide) (by omega) 0 (ok := fun _ => True) (okp := fun _ => True) rfl (fun _ hk => hk) trivial (of_decide_eq_true (by first | (with_reducible assumption) | assumption)) (Nat.le_trans (Nat.mul_le_mul_right _ (of_decide_eq_true (by first | (with_reducible assumption) | assumption) : ji5.toNat ≤ 281474976710656)) (by omega)) (Below.refl _ _) (Nat.le_refl _) ?_; intro v561 w9 ho10 hb hg_ hnew_; clear hg_ hnew_; (first | rw [← Ny560.out] at ho10 | (simp only [Int.reduceToNat] at ho10; rw [← Ny560.out] at ho10)); have n0_ := Aside0.mk (Kd.R_lower ho10 (below_size (by repeat (first | (with_reducible first | exact HB.out | apply below_alloc | apply pw_below_drewN | apply below_drew1) | exact HB.out)))); have n1_ := Aside0.mk (below_step (by repeat (first | (with_reducible first | exact HB.out | apply below_alloc | apply pw_below_drewN | apply below_drew1) | exact HB.out)) hb); clear HB; have HO562 := n0_; have HB := n1_; clear n0_ n1_; clear hb ho10))
        go_loopg [7] k (fun kq v7 w' => ∃ (x6_1 : List Int) (x7_1 : Int), v7 = .int .i64 x7_1 ∧ Aside0 (dovetaillaw9_StrLong.l0 kq a1 (wrap64 (197 + (wrap64 (Int.tmod a0 7)))) x6_1 x7_1 = some r) ∧ Aside0 (kq ≤ k) ∧ Aside0 (Kd.R (Kd.int .u8) 5 w' w.heap.size (fun _ => True) v561 x6_1) ∧ Aside0 (Below w.heap.size w w'))
        case atStart => exact ⟨(y560), (0), (by first | rfl | (simp; done) | (simp [*]; done)), H', ⟨Nat.le_refl _⟩, ⟨by (with_reducible repeat (first | apply Kd.R_alloc | apply Kd.R_drewN | apply Kd.R_drew)); exact HO562.out⟩, ⟨by repeat (first | (with_reducible first | exact HB.out | apply below_alloc | apply pw_below_drewN | apply below_drew1) | exact HB.out)⟩⟩
        case round =>
          clear H'
          try clear c1
          try clear c2
          try clear p2
          try clear c4
          try clear c6
          try clear c6b0
          try clear c6b1
          try clear p6
          try clear c7
          try clear c7b0
          try clear c7b1
          obtain ⟨x6_1, x7_1, rfl, HA, HK1, HO_6, HB⟩ := hrel
          cases gk with
          | zero => exact absurd HA.out (by simp [dovetaillaw9_StrLong.l0])
          | succ k1 =>
            have H := HA.out
            clear HA
            simp only [dovetaillaw9_StrLong.l0] at H
            by_cases c11 : x7_1 < (wrap64 (197 + (wrap64 (Int.tmod a0 7))))
            · rw [if_pos c11] at H
              have c11b0 : decide (x7_1 < (wrap64 (197 + (wrap64 (Int.tmod a0 7))))) = true := decide_eq_true c11
              clear c11
              obtain ⟨ji12, hji12⟩ : ∃ j_ : Int, (wrap64 ((wrap64 ((wrap64 (Int.tmod a1 4)) + 1)) + x7_1)) = j_ := ⟨_, rfl⟩
              replace H : (if 0 ≤ (ji12) then (if (ji12) < (x6_1.length : Int) then (dovetaillaw9_StrLong.l0 k1 a1 (wrap64 (197 + (wrap64 (Int.tmod a0 7)))) (x6_1.set ((ji12) : Int).toNat 120) (wrap64 (x7_1 + 1))) else (none)) else (none)) = some r := by first | (rw [hji12] at H; exact H) | (simp only [hji12] at H ⊢; exact H)
              have hji12w : (IntKind.i64.wrap ((wrap64 ((wrap64 (Int.tmod a1 4)) + 1)) + x7_1)) = ji12 := (i64_w _).trans hji12
              by_cases c13 : 0 ≤ (ji12)
              · rw [if_pos c13] at H
                have c13b0 : decide (0 ≤ (ji12)) = true := decide_eq_true c13
                clear c13
                by_cases c14 : (ji12) < (x6_1.length : Int)
                · rw [if_pos c14] at H
                  have c14b0 : decide ((ji12) < (x6_1.length : Int)) = true := decide_eq_true c14
                  clear c14
                  obtain ⟨y563, hy563⟩ : ∃ y_ : List Int, y_ = (x6_1.set ((ji12) : Int).toNat 120) := ⟨_, rfl⟩
                  replace H : (dovetaillaw9_StrLong.l0 k1 a1 (wrap64 (197 + (wrap64 (Int.tmod a0 7)))) y563 (wrap64 (x7_1 + 1))) = some r := by first | (rw [hy563]; with_reducible exact H) | (have H2_ := (Option.bind_some _ _).symm.trans H; rw [hy563]; with_reducible exact H2_) | (have H2_ := (Option.bind_some _ _).symm.trans H; with_reducible exact H2_) | with_reducible exact H | (rw [hy563]; exact H) | exact H
                  have Ny563 := Aside0.mk hy563
                  clear hy563
                  have H' := Aside0.mk H
                  clear H
                  have p15 : 0 ≤ ((ji12) : Int) := of_decide_eq_true (by first | (with_reducible assumption) | assumption)
                  have q15 : ((ji12) : Int) < ((x6_1.length : Int) : Int) := of_decide_eq_true (by first | (with_reducible assumption) | assumption)
                  obtain ⟨go15, co15, eo15, gb15, gl15, cl15, HG15⟩ := Kd.R_form HO_6.out (by omega)
                  (first | cases eo15 | (injection eo15 with ea_ en_ ec_; (first | subst ea_ | (injection ea_ with ea_; subst ea_)); subst ec_; clear en_))
                  have GB15 := Aside0.mk gb15
                  have GG15 := Aside0.mk HG15
                  clear gb15 gl15 HG15
                  obtain ⟨hx15_0, hf15_0⟩ := Kd.R_celln 0 HO_6.out ((ji12) : Int) p15 q15
                  replace p15 := eq_true p15
                  replace q15 := eq_true q15
                  have HP16 := Kd.R_putg HO_6.out ((ji12) : Int) 120
                  go_wp2_with (first | ((with_reducible refine gate_store (t := 5) (p := 35) rfl ?_); refine store_event (t := 5) (p := 35) (v := ?vo_w17) (w1 := (wr.setCell ⟨go15, ((ji12) : Int).toNat, none⟩ (.int .u8 120))) ?hg ?ho ?hn ?hr ?_; (case ho => rfl); (case hg => rfl); (case hn => rfl); (case hr => first | (go_simp; done) | (go_simp; rfl)); intro w17 hw; have hg : wr.grownBy w17 (some go15) := (by rw [hw]; exact HP16.2); have hp_ : Kd.R (Kd.int .u8) 5 w17 w.heap.size (fun _ => True) (.slice (some ⟨go15, 0, none⟩) x6_1.length co15) y563 := (by rw [hw, Ny563.out]; exact HP16.1); clear HP16; have n0_ := Aside0.mk (hp_); have n1_ := Aside0.mk ((by rw [hw]; exact below_set (HB.out) GB15.out : Below w.heap.size w w17)); clear HO_6; clear HB; have HO_6 := n0_; have HB := n1_; clear n0_ n1_; clear hg hw hp_))
                  go_roundg k1
                  case measure => have := HK1.out; omega
                  case rel => exact ⟨(y563), (wrap64 (x7_1 + 1)), (by first | rfl | (simp; done) | (simp [*]; done)), H', ⟨by have := HK1.out; omega⟩, ⟨by (with_reducible repeat (first | apply Kd.R_alloc | apply Kd.R_drewN | apply Kd.R_drew)); exact HO_6.out⟩, ⟨by repeat (first | (with_reducible first | exact HB.out | apply below_alloc | apply pw_below_drewN | apply below_drew1) | exact HB.out)⟩⟩
                · rw [if_neg c14] at H
                  exact absurd H (by simp)
              · rw [if_neg c13] at H
                exact absurd H (by simp)
            · rw [if_neg c11] at H
              have c11b0 : decide (x7_1 < (wrap64 (197 + (wrap64 (Int.tmod a0 7))))) = false := decide_eq_false c11
              clear c11
              replace H := Option.bind_eq_some_iff.mp H
              obtain ⟨⟨t564, t565⟩, A180, H⟩ := H
              replace H : (if (t565 == (decide ((wrap64 (197 + (wrap64 (Int.tmod a0 7)))) ≤ 200))) = true then (if t565 = true then (if (t564.size : Int) = (wrap64 (197 + (wrap64 (Int.tmod a0 7)))) then (some true) else (some false)) else (some (t564.toList == ([] : List UInt8)))) else (some false)) = some r := H
              have A18 := Aside0.mk A180
              clear A180
              by_cases c19 : (t565 == (decide ((wrap64 (197 + (wrap64 (Int.tmod a0 7)))) ≤ 200))) = true
              · rw [if_pos c19] at H
                have c19b0 : (t565 == (decide ((wrap64 (197 + (wrap64 (Int.tmod a0 7)))) ≤ 200))) = true := c19
                (try (have c19b1 : decide (t565 = (decide ((wrap64 (197 + (wrap64 (Int.tmod a0 7)))) ≤ 200))) = true := by simpa using c19))
                (try (have c19b2 : (t565 == (decide ((wrap64 (197 + (wrap64 (Int.tmod a0 7)))) ≤ 200))) = true := by simpa using c19))
                clear c19
                by_cases c20 : t565 = true
                · subst c20
                  have H1 : (if (t564.size : Int) = (wrap64 (197 + (wrap64 (Int.tmod a0 7)))) then (some true) else (some false)) = some r := by rw [if_pos rfl] at H; exact H
                  clear H
                  have H := H1
                  clear H1
                  by_cases c21 : (t564.size : Int) = (wrap64 (197 + (wrap64 (Int.tmod a0 7))))
                  · rw [if_pos c21] at H
                    have c21b0 : ((t564.size : Int) == (wrap64 (197 + (wrap64 (Int.tmod a0 7))))) = true := beq_iff_eq.mpr c21
                    have c21b1 : ((t564.size : Int) != (wrap64 (197 + (wrap64 (Int.tmod a0 7))))) = false := bne_eq_false_iff_eq.mpr c21
                    clear c21
                    obtain rfl := Option.some.inj H
                    obtain ⟨Ao22, co22, eo22⟩ := Kd.R_slice HO_6.out
                    subst eo22
                    go_wp2_with (first | ((with_reducible refine gate_callee (f := 27) rfl ?_); refine goesL_ (some 42) rfl rfl Try.func27 (by kernel_rfl) rfl #[.slice Ao22 x6_1.length co22, .int .u32 ((((Int.tmod a1 4) % 4294967296) + 1) % 4294967296)] rfl (by (try simp only [List.map_toArray, List.map_cons, List.map_nil]); first | done | rfl | (simp only [List.length_drop, List.length_take]; rfl)) ?_; (with_reducible refine (strtab_Get.calls _ _ x6_1 ((((Int.tmod a1 4) % 4294967296) + 1) % 4294967296) t564 true _ ?side1 ?side2 A18.out).mono ?_); (case side1 => repeat (first | exact (Kd.R_reads' HO_6.out).2.2 | (with_reducible refine Kd.C_alloc ?_ _) | (with_reducible refine Kd.C_drewN ?_ _) | (with_reducible refine Kd.C_drew ?_))); (case side2 => exact (Kd.R_reads' HO_6.out).2.1); rintro e w' ⟨rfl, ⟨nd, rfl⟩⟩; refine ⟨_, rfl, ?_⟩))
                    go_ret
                    exact ⟨by first | rfl | (simp [errW_none, errW_some] <;> rfl) | (simp only [← hji5]; first | rfl | (simp [errW_none, errW_some] <;> rfl)) | (simp [*, errW_none, errW_some] <;> rfl), by repeat (first | (with_reducible first | exact HB.out | apply below_alloc | apply pw_below_drewN | apply below_drew1) | exact HB.out)⟩
                  · rw [if_neg c21] at H
                    have c21b0 : ((t564.size : Int) == (wrap64 (197 + (wrap64 (Int.tmod a0 7))))) = false := beq_eq_false_iff_ne.mpr c21
                    have c21b1 : ((t564.size : Int) != (wrap64 (197 + (wrap64 (Int.tmod a0 7))))) = true := bne_iff_ne.mpr c21
                    obtain rfl := Option.some.inj H
                    obtain ⟨Ao23, co23, eo23⟩ := Kd.R_slice HO_6.out
                    subst eo23
                    go_wp2_with (first | ((with_reducible refine gate_callee (f := 27) rfl ?_); refine goesL_ (some 42) rfl rfl Try.func27 (by kernel_rfl) rfl #[.slice Ao23 x6_1.length co23, .int .u32 ((((Int.tmod a1 4) % 4294967296) + 1) % 4294967296)] rfl (by (try simp only [List.map_toArray, List.map_cons, List.map_nil]); first | done | rfl | (simp only [List.length_drop, List.length_take]; rfl)) ?_; (with_reducible refine (strtab_Get.calls _ _ x6_1 ((((Int.tmod a1 4) % 4294967296) + 1) % 4294967296) t564 true _ ?side1 ?side2 A18.out).mono ?_); (case side1 => repeat (first | exact (Kd.R_reads' HO_6.out).2.2 | (with_reducible refine Kd.C_alloc ?_ _) | (with_reducible refine Kd.C_drewN ?_ _) | (with_reducible refine Kd.C_drew ?_))); (case side2 => exact (Kd.R_reads' HO_6.out).2.1); rintro e w' ⟨rfl, ⟨nd, rfl⟩⟩; refine ⟨_, rfl, ?_⟩))
                    go_ret
                    exact ⟨by first | rfl | (simp [errW_none, errW_some] <;> rfl) | (simp only [← hji5]; first | rfl | (simp [errW_none, errW_some] <;> rfl)) | (simp [*, errW_none, errW_some] <;> rfl), by repeat (first | (with_reducible first | exact HB.out | apply below_alloc | apply pw_below_drewN | apply below_drew1) | exact HB.out)⟩
                · replace c20 := Bool.eq_false_iff.mpr c20
                  subst c20
                  have H1 : (some (t564.toList == ([] : List UInt8))) = some r := by rw [if_neg (show ¬ (false = true) by decide)] at H; exact H
                  clear H
                  have H := H1
                  clear H1
                  obtain rfl := Option.some.inj H
                  obtain ⟨Ao24, co24, eo24⟩ := Kd.R_slice HO_6.out
                  subst eo24
                  go_wp2_with (first | ((with_reducible refine gate_callee (f := 27) rfl ?_); refine goesL_ (some 42) rfl rfl Try.func27 (by kernel_rfl) rfl #[.slice Ao24 x6_1.length co24, .int .u32 ((((Int.tmod a1 4) % 4294967296) + 1) % 4294967296)] rfl (by (try simp only [List.map_toArray, List.map_cons, List.map_nil]); first | done | rfl | (simp only [List.length_drop, List.length_take]; rfl)) ?_; (with_reducible refine (strtab_Get.calls _ _ x6_1 ((((Int.tmod a1 4) % 4294967296) + 1) % 4294967296) t564 false _ ?side1 ?side2 A18.out).mono ?_); (case side1 => repeat (first | exact (Kd.R_reads' HO_6.out).2.2 | (with_reducible refine Kd.C_alloc ?_ _) | (with_reducible refine Kd.C_drewN ?_ _) | (with_reducible refine Kd.C_drew ?_))); (case side2 => exact (Kd.R_reads' HO_6.out).2.1); rintro e w' ⟨rfl, ⟨nd, rfl⟩⟩; refine ⟨_, rfl, ?_⟩))
                  go_ret
                  exact ⟨by first | rfl | (simp [errW_none, errW_some] <;> rfl) | (simp only [← hji5]; first | rfl | (simp [errW_none, errW_some] <;> rfl)) | (simp [*, errW_none, errW_some] <;> rfl), by repeat (first | (with_reducible first | exact HB.out | apply below_alloc | apply pw_below_drewN | apply below_drew1) | exact HB.out)⟩
              · rw [if_neg c19] at H
                have c19b0 : (t565 == (decide ((wrap64 (197 + (wrap64 (Int.tmod a0 7)))) ≤ 200))) = false := by simpa using c19
                (try (have c19b1 : decide (t565 = (decide ((wrap64 (197 + (wrap64 (Int.tmod a0 7)))) ≤ 200))) = false := by simpa using c19))
                (try (have c19b2 : (t565 == (decide ((wrap64 (197 + (wrap64 (Int.tmod a0 7)))) ≤ 200))) = false := by simpa using c19))
                (try (have c19b3 : ¬ (t565 = (decide ((wrap64 (197 + (wrap64 (Int.tmod a0 7)))) ≤ 200))) := by simpa using c19))
                clear c19
                obtain rfl := Option.some.inj H
                obtain ⟨Ao25, co25, eo25⟩ := Kd.R_slice HO_6.out
                subst eo25
                go_wp2_with (first | ((with_reducible refine gate_callee (f := 27) rfl ?_); refine goesL_ (some 42) rfl rfl Try.func27 (by kernel_rfl) rfl #[.slice Ao25 x6_1.length co25, .int .u32 ((((Int.tmod a1 4) % 4294967296) + 1) % 4294967296)] rfl (by (try simp only [List.map_toArray, List.map_cons, List.map_nil]); first | done | rfl | (simp only [List.length_drop, List.length_take]; rfl)) ?_; (with_reducible refine (strtab_Get.calls _ _ x6_1 ((((Int.tmod a1 4) % 4294967296) + 1) % 4294967296) t564 t565 _ ?side1 ?side2 A18.out).mono ?_); (case side1 => repeat (first | exact (Kd.R_reads' HO_6.out).2.2 | (with_reducible refine Kd.C_alloc ?_ _) | (with_reducible refine Kd.C_drewN ?_ _) | (with_reducible refine Kd.C_drew ?_))); (case side2 => exact (Kd.R_reads' HO_6.out).2.1); rintro e w' ⟨rfl, ⟨nd, rfl⟩⟩; refine ⟨_, rfl, ?_⟩))
                go_ret
                exact ⟨by first | rfl | (simp [errW_none, errW_some] <;> rfl) | (simp only [← hji5]; first | rfl | (simp [errW_none, errW_some] <;> rfl)) | (simp [*, errW_none, errW_some] <;> rfl), by repeat (first | (with_reducible first | exact HB.out | apply below_alloc | apply pw_below_drewN | apply below_drew1) | exact HB.out)⟩
      · rw [if_neg c7] at H
        exact absurd H (by simp)
    · rw [if_neg c6] at H
      exact absurd H (by simp)
  · replace c4 := Bool.eq_false_iff.mpr c4
    subst c4
    have H1 : (some false) = some r := by rw [if_neg (show ¬ (false = true) by decide)] at H; exact H
    clear H
    have H := H1
    clear H1
    obtain rfl := Option.some.inj H
    go_enter Try.func14, Try.ntmps14
    go_wp2_with (first | ((with_reducible refine gate_callee (f := 26) rfl ?_); refine goesL_ (some 10) rfl rfl Try.func26 (by kernel_rfl) rfl #[] rfl (by (try simp only [List.map_toArray, List.map_cons, List.map_nil]); first | done | rfl | (simp only [List.length_drop, List.length_take]; rfl)) ?_; (with_reducible refine (dovetaillaw9_known.calls  false _ A3.out).mono ?_); rintro e w26 ⟨rfl, hb⟩; refine ⟨_, rfl, ?_⟩; have n0_ := Aside0.mk (below_step (by repeat (first | (with_reducible first | exact HB.out | apply below_alloc | apply pw_below_drewN | apply below_drew1) | exact HB.out)) hb); clear HB; have HB := n0_; clear n0_; (try clear hb); (try clear hb2); (try clear hk); (try clear hi)))
    go_ret
    exact ⟨by first | rfl | (simp [errW_none, errW_some] <;> rfl) | (simp [*, errW_none, errW_some] <;> rfl), by repeat (first | (with_reducible first | exact HB.out | apply below_alloc | apply pw_below_drewN | apply below_drew1) | exact HB.out)⟩

/-- THE ONE PURE STATEMENT of dovetaillaw9_StrLong: yours. -/
def dovetaillaw9_StrLong.Pure : Prop := ∀ (a0 : Int) (a1 : Int), (Lit.int .u8 a0).wf = true → (Lit.int .u8 a1).wf = true → ∃ k, dovetaillaw9_StrLong.f k a0 a1 = some true
theorem dovetaillaw9_StrLong.walk (P : dovetaillaw9_StrLong.Pure) (a0 : Int) (a1 : Int) (w : World) (w0 : (Lit.int .u8 a0).wf = true) (w1 : (Lit.int .u8 a1).wf = true) :
    Calls Try.prog 14 #[.int .u8 a0, .int .u8 a1] w fun e w' => e = .returned (.bool true) ∧ Below w.heap.size w w' := by
  obtain ⟨k, h⟩ := P a0 a1 w0 w1
  refine (dovetaillaw9_StrLong.calls k a0 a1 true w h).mono ?_
  rintro e w' ⟨rfl, hd⟩
  exact ⟨rfl, hd⟩

end Go.Proofs.Ytojhnljjfmgjdaa.P
