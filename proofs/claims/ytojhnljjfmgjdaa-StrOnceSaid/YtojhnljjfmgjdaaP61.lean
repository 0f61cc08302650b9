-- printed by this session's program (wip/print), out of the translation; Lean checks it
import Derived.Test.YtojhnljjfmgjdaaP0
import Derived.Test.YtojhnljjfmgjdaaP55
import Derived.Test.YtojhnljjfmgjdaaP56
namespace Go.Proofs.Ytojhnljjfmgjdaa.P
open Go.RowKit Go.Proofs.YtojhnljjfmgjdaaW.PrintWords Go.Proofs.YtojhnljjfmgjdaaW.PrintLast Go.Proofs.YtojhnljjfmgjdaaW.PrintMore
attribute [local go_sem] max2_int min2_int max_two min_two max_three min_three max_four min_four   -- for this text's walks alone
set_option linter.unusedVariables false
set_option linter.unusedSimpArgs false
open Go.Proofs.YtojhnljjfmgjdaaX

/-! ### dovetaillaw9_StrOnce: function 13 -/
mutual
def dovetaillaw9_StrOnce.j0 : Nat → List ByteArray → List Int → Bool → Option (Bool)
  | 0, _, _, _ => none
  | k + 1, x0, x1, x25 => if x25 = true then (some true) else (dovetaillaw9_StrOnce.l0 k x0 x1 0)
def dovetaillaw9_StrOnce.l0 : Nat → List ByteArray → List Int → Int → Option (Bool)
  | 0, _, _, _ => none
  | k + 1, x0, x1, x5 => if x5 < (x0.length : Int) then (if 0 ≤ x5 then (if ((rdOf ByteArray.empty x0 x5).size : Int) > 60 then (some true) else (dovetaillaw9_StrOnce.l0 k x0 x1 (wrap64 (x5 + 1)))) else (none)) else (if ([] : List ByteArray).length + x0.length < 8796093022208 then (dovetaillaw9_StrOnce.l1 k x0 x1 (([] : List ByteArray) ++ x0) 0) else (none))
def dovetaillaw9_StrOnce.j3 : Nat → List ByteArray → List Int → List ByteArray → Option (Bool)
  | 0, _, _, _ => none
  | k + 1, x0, x1, x6 => (strtab_Build.f x0).bind fun bt529 => ((strtab_Build.f x6).bind fun bt535 => (if (strOfNums bt529.1).toList = (strOfNums bt535.1).toList then (dovetaillaw9_StrOnce.l2 k x0 x1 x6 bt529.2 bt535.1 bt535.2 0) else (some false)))
def dovetaillaw9_StrOnce.l2 : Nat → List ByteArray → List Int → List ByteArray → List Int → List Int → List Int → Int → Option (Bool)
  | 0, _, _, _, _, _, _, _ => none
  | k + 1, x0, x1, x6, x9, x10, x11, x12 => if x12 < (x11.length : Int) then (if x12 ≥ (x0.length : Int) then (if 0 ≤ (wrap64 (x12 - (x0.length : Int))) then (if (wrap64 (x12 - (x0.length : Int))) < (x1.length : Int) then (if (x0.length : Int) = 0 then (none) else (if 0 ≤ x12 then (if 0 ≤ (Int.tmod (wrap64 (rd x1 (wrap64 (x12 - (x0.length : Int))))) (x0.length : Int)) then (if (Int.tmod (wrap64 (rd x1 (wrap64 (x12 - (x0.length : Int))))) (x0.length : Int)) < (x9.length : Int) then (if (rd x11 x12) = (rd x9 (Int.tmod (wrap64 (rd x1 (wrap64 (x12 - (x0.length : Int))))) (x0.length : Int))) then (dovetaillaw9_StrOnce.l2 k x0 x1 x6 x9 x10 x11 (wrap64 (x12 + 1))) else (some false)) else (none)) else (none)) else (none))) else (none)) else (none)) else (if 0 ≤ x12 then (if x12 < (x9.length : Int) then (if (rd x11 x12) = (rd x9 x12) then (dovetaillaw9_StrOnce.l2 k x0 x1 x6 x9 x10 x11 (wrap64 (x12 + 1))) else (some false)) else (none)) else (none))) else (if x6.length < 8796093022208 then ((strtab_Build.f (x6 ++ [(⟨#[97, 110, 100, 32, 111, 110, 101, 32, 109, 111, 114, 101]⟩ : ByteArray)])).bind fun bt544 => (if 0 ≤ (x10.length : Int) then (if (x10.length : Int) ≤ (bt544.1.length : Int) then (some ((strOfNums (bt544.1.take ((x10.length : Int) : Int).toNat)).toList == (strOfNums x10).toList)) else (none)) else (none))) else (none))
def dovetaillaw9_StrOnce.l1 : Nat → List ByteArray → List Int → List ByteArray → Int → Option (Bool)
  | 0, _, _, _, _ => none
  | k + 1, x0, x1, x6, x7 => if x7 < (x1.length : Int) then (if (x0.length : Int) > 0 then (if 0 ≤ x7 then (if (x0.length : Int) = 0 then (none) else (if 0 ≤ (Int.tmod (wrap64 (rd x1 x7)) (x0.length : Int)) then (if (Int.tmod (wrap64 (rd x1 x7)) (x0.length : Int)) < (x0.length : Int) then (if x6.length < 8796093022208 then (dovetaillaw9_StrOnce.l1 k x0 x1 (x6 ++ [rdOf ByteArray.empty x0 (Int.tmod (wrap64 (rd x1 x7)) (x0.length : Int))]) (wrap64 (x7 + 1))) else (none)) else (none)) else (none))) else (none)) else (dovetaillaw9_StrOnce.j3 k x0 x1 x6)) else (dovetaillaw9_StrOnce.j3 k x0 x1 x6)
end
def dovetaillaw9_StrOnce.f (k : Nat) (l0 : List ByteArray) (l1 : List Int) : Option (Bool) := (dovetaillaw9_known.f).bind fun t519 => (if t519 = true then (if (l0.length : Int) > 10 then (dovetaillaw9_StrOnce.j0 k l0 l1 true) else (dovetaillaw9_StrOnce.j0 k l0 l1 (decide ((l1.length : Int) > 10)))) else (some false))
theorem dovetaillaw9_StrOnce.mono_l : ∀ k, (∀ y0 y1 y2, LeO (dovetaillaw9_StrOnce.j0 k y0 y1 y2) (dovetaillaw9_StrOnce.j0 (k + 1) y0 y1 y2)) ∧ (∀ y0 y1 y2, LeO (dovetaillaw9_StrOnce.l0 k y0 y1 y2) (dovetaillaw9_StrOnce.l0 (k + 1) y0 y1 y2)) ∧ (∀ y0 y1 y2, LeO (dovetaillaw9_StrOnce.j3 k y0 y1 y2) (dovetaillaw9_StrOnce.j3 (k + 1) y0 y1 y2)) ∧ (∀ y0 y1 y2 y3 y4 y5 y6, LeO (dovetaillaw9_StrOnce.l2 k y0 y1 y2 y3 y4 y5 y6) (dovetaillaw9_StrOnce.l2 (k + 1) y0 y1 y2 y3 y4 y5 y6)) ∧ (∀ y0 y1 y2 y3, LeO (dovetaillaw9_StrOnce.l1 k y0 y1 y2 y3) (dovetaillaw9_StrOnce.l1 (k + 1) y0 y1 y2 y3))
  | 0 => ⟨fun _ _ _ r h => by simp [dovetaillaw9_StrOnce.j0] at h, fun _ _ _ r h => by simp [dovetaillaw9_StrOnce.l0] at h, fun _ _ _ r h => by simp [dovetaillaw9_StrOnce.j3] at h, fun _ _ _ _ _ _ _ r h => by simp [dovetaillaw9_StrOnce.l2] at h, fun _ _ _ _ r h => by simp [dovetaillaw9_StrOnce.l1] at h⟩
  | k + 1 => by
    obtain ⟨ih0, ih1, ih2, ih3, ih4⟩ := dovetaillaw9_StrOnce.mono_l k
    refine ⟨?_, ?_, ?_, ?_, ?_⟩
    · intro y0 y1 y2
      unfold dovetaillaw9_StrOnce.j0
      repeat' first
      | (with_reducible exact ih0 _ _ _)
      | (with_reducible exact ih1 _ _ _)
      | (with_reducible exact ih2 _ _ _)
      | (with_reducible exact ih3 _ _ _ _ _ _ _)
      | (with_reducible exact ih4 _ _ _ _)
      | (with_reducible exact LeO.refl _)
      | (with_reducible exact LeO.none _)
      | (with_reducible refine LeO.ite ?_ ?_)
      | (with_reducible refine LeO.bind ?_ (fun _ => ?_))
      | exact ih0 _ _ _
      | exact ih1 _ _ _
      | exact ih2 _ _ _
      | exact ih3 _ _ _ _ _ _ _
      | exact ih4 _ _ _ _
      | exact LeO.none _
      | refine LeO.ite ?_ ?_
      | refine LeO.bind ?_ (fun _ => ?_)
    · intro y0 y1 y2
      unfold dovetaillaw9_StrOnce.l0
      repeat' first
      | (with_reducible exact ih0 _ _ _)
      | (with_reducible exact ih1 _ _ _)
      | (with_reducible exact ih2 _ _ _)
      | (with_reducible exact ih3 _ _ _ _ _ _ _)
      | (with_reducible exact ih4 _ _ _ _)
      | (with_reducible exact LeO.refl _)
      | (with_reducible exact LeO.none _)
      | (with_reducible refine LeO.ite ?_ ?_)
      | (with_reducible refine LeO.bind ?_ (fun _ => ?_))
      | exact ih0 _ _ _
      | exact ih1 _ _ _
      | exact ih2 _ _ _
      | exact ih3 _ _ _ _ _ _ _
      | exact ih4 _ _ _ _
      | exact LeO.none _
      | refine LeO.ite ?_ ?_
      | refine LeO.bind ?_ (fun _ => ?_)
    · intro y0 y1 y2
      unfold dovetaillaw9_StrOnce.j3
      repeat' first
      | (with_reducible exact ih0 _ _ _)
      | (with_reducible exact ih1 _ _ _)
      | (with_reducible exact ih2 _ _ _)
      | (with_reducible exact ih3 _ _ _ _ _ _ _)
      | (with_reducible exact ih4 _ _ _ _)
      | (with_reducible exact LeO.refl _)
      | (with_reducible exact LeO.none _)
      | (with_reducible refine LeO.ite ?_ ?_)
      | (with_reducible refine LeO.bind ?_ (fun _ => ?_))
      | exact ih0 _ _ _
      | exact ih1 _ _ _
      | exact ih2 _ _ _
      | exact ih3 _ _ _ _ _ _ _
      | exact ih4 _ _ _ _
      | exact LeO.none _
      | refine LeO.ite ?_ ?_
      | refine LeO.bind ?_ (fun _ => ?_)
    · intro y0 y1 y2 y3 y4 y5 y6
      unfold dovetaillaw9_StrOnce.l2
      repeat' first
      | (with_reducible exact ih0 _ _ _)
      | (with_reducible exact ih1 _ _ _)
      | (with_reducible exact ih2 _ _ _)
      | (with_reducible exact ih3 _ _ _ _ _ _ _)
      | (with_reducible exact ih4 _ _ _ _)
      | (with_reducible exact LeO.refl _)
      | (with_reducible exact LeO.none _)
      | (with_reducible refine LeO.ite ?_ ?_)
      | (with_reducible refine LeO.bind ?_ (fun _ => ?_))
      | exact ih0 _ _ _
      | exact ih1 _ _ _
      | exact ih2 _ _ _
      | exact ih3 _ _ _ _ _ _ _
      | exact ih4 _ _ _ _
      | exact LeO.none _
      | refine LeO.ite ?_ ?_
      | refine LeO.bind ?_ (fun _ => ?_)
    · intro y0 y1 y2 y3
      unfold dovetaillaw9_StrOnce.l1
      repeat' first
      | (with_reducible exact ih0 _ _ _)
      | (with_reducible exact ih1 _ _ _)
      | (with_reducible exact ih2 _ _ _)
      | (with_reducible exact ih3 _ _ _ _ _ _ _)
      | (with_reducible exact ih4 _ _ _ _)
      | (with_reducible exact LeO.refl _)
      | (with_reducible exact LeO.none _)
      | (with_reducible refine LeO.ite ?_ ?_)
      | (with_reducible refine LeO.bind ?_ (fun _ => ?_))
      | exact ih0 _ _ _
      | exact ih1 _ _ _
      | exact ih2 _ _ _
      | exact ih3 _ _ _ _ _ _ _
      | exact ih4 _ _ _ _
      | exact LeO.none _
      | refine LeO.ite ?_ ?_
      | refine LeO.bind ?_ (fun _ => ?_)
theorem dovetaillaw9_StrOnce.mono : ∀ a0 a1 k, LeO (dovetaillaw9_StrOnce.f k a0 a1) (dovetaillaw9_StrOnce.f (k + 1) a0 a1) := by
  intro a0 a1 k
  obtain ⟨ih0, ih1, ih2, ih3, ih4⟩ := dovetaillaw9_StrOnce.mono_l k
  unfold dovetaillaw9_StrOnce.f
  repeat' first
      | (with_reducible exact ih0 _ _ _)
      | (with_reducible exact ih1 _ _ _)
      | (with_reducible exact ih2 _ _ _)
      | (with_reducible exact ih3 _ _ _ _ _ _ _)
      | (with_reducible exact ih4 _ _ _ _)
      | (with_reducible exact LeO.refl _)
      | (with_reducible exact LeO.none _)
      | (with_reducible refine LeO.ite ?_ ?_)
      | (with_reducible refine LeO.bind ?_ (fun _ => ?_))
      | exact ih0 _ _ _
      | exact ih1 _ _ _
      | exact ih2 _ _ _
      | exact ih3 _ _ _ _ _ _ _
      | exact ih4 _ _ _ _
      | exact LeO.none _
      | refine LeO.ite ?_ ?_
      | refine LeO.bind ?_ (fun _ => ?_)
set_option maxHeartbeats 8000000 in
set_option maxRecDepth 100000 in
theorem dovetaillaw9_StrOnce.calls (k : Nat) (A0 : Option Addr) (c0 : Nat) (l0 : List ByteArray) (A1 : Option Addr) (c1 : Nat) (l1 : List Int) (r : Bool) (w : World) (hr0 : Kd.C Kd.string w A0 l0.length l0) (hc0 : l0.length ≤ c0) (hr1 : Kd.C (Kd.int .u8) w A1 l1.length l1) (hc1 : l1.length ≤ c1) (h : dovetaillaw9_StrOnce.f k l0 l1 = some r) :
    Calls Try.prog 13 #[.slice A0 l0.length c0, .slice A1 l1.length c1] w fun e w' => e = .returned (.bool r) ∧ Below w.heap.size w w' := by
  have HR0 := Aside0.mk hr0
  have HC0 := Aside0.mk hc0
  clear hr0 hc0
  have HR1 := Aside0.mk hr1
  have HC1 := Aside0.mk hc1
  clear hr1 hc1
  have HB := Aside0.mk (Below.refl w.heap.size w)
  have H : ((dovetaillaw9_known.f).bind fun t519 => (if t519 = true then (if (l0.length : Int) > 10 then (dovetaillaw9_StrOnce.j0 k l0 l1 true) else (dovetaillaw9_StrOnce.j0 k l0 l1 (decide ((l1.length : Int) > 10)))) else (some false))) = some r := h
  clear h
  replace H := Option.bind_eq_some_iff.mp H
  obtain ⟨t519, A30, H⟩ := H
  replace H : (if t519 = true then (if (l0.length : Int) > 10 then (dovetaillaw9_StrOnce.j0 k l0 l1 true) else (dovetaillaw9_StrOnce.j0 k l0 l1 (decide ((l1.length : Int) > 10)))) else (some false)) = some r := H
  have A3 := Aside0.mk A30
  clear A30
  by_cases c4 : t519 = true
  · subst c4
    have H1 : (if (l0.length : Int) > 10 then (dovetaillaw9_StrOnce.j0 k l0 l1 true) else (dovetaillaw9_StrOnce.j0 k l0 l1 (decide ((l1.length : Int) > 10)))) = some r := by rw [if_pos rfl] at H; exact H
    clear H
    have H := H1
    clear H1
    have HC5 := Aside0.mk H
    clear H
    go_enter Try.func13, Try.ntmps13
    go_upto_region 3 with (first | (go_at_call 26; (with_reducible refine (dovetaillaw9_known.calls  true _ A3.out).mono ?_); rintro e w6 ⟨rfl, hb⟩; have n0_ := Aside0.mk (below_step (by repeat (first | (with_reducible first | exact HB.out | apply below_alloc | apply pw_below_drewN | apply below_drew1) | exact HB.out)) hb); clear HB; have HB := n0_; clear n0_; (try clear hb); (try clear hb2); (try clear hk); (try clear hi)))
    repeat (go_quiet (first | (go_at_call 26; (with_reducible refine (dovetaillaw9_known.calls  true _ A3.out).mono ?_); rintro e w6 ⟨rfl, hb⟩; have n0_ := Aside0.mk (below_step (by repeat (first | (with_reducible first | exact HB.out | apply below_alloc | apply pw_below_drewN | apply below_drew1) | exact HB.out)) hb); clear HB; have HB := n0_; clear n0_; (try clear hb); (try clear hb2); (try clear hk); (try clear hi))); go_upto_region 3 with (first | (go_at_call 26; (with_reducible refine (dovetaillaw9_known.calls  true _ A3.out).mono ?_); rintro e w6 ⟨rfl, hb⟩; have n0_ := Aside0.mk (below_step (by repeat (first | (with_reducible first | exact HB.out | apply below_alloc | apply pw_below_drewN | apply below_drew1) | exact HB.out)) hb); clear HB; have HB := n0_; clear n0_; (try clear hb); (try clear hb2); (try clear hk); (try clear hi))))
    (try simp only [Act.put, List.setIfInBounds_toArray, List.set_cons_zero, List.set_cons_succ])
    go_cut [25] (fun v25 wc => ∃ (kq : Nat) (x25_4 : Bool), v25 = .bool x25_4 ∧ Aside0 (dovetaillaw9_StrOnce.j0 kq l0 l1 x25_4 = some r) ∧ Aside0 (kq ≤ k) ∧ Aside0 (Below w.heap.size w wc))
    case first =>
      have H := HC5.out
      clear HC5
      by_cases c7 : (l0.length : Int) > 10
      · rw [if_pos c7] at H
        have c7b0 : decide (10 < (l0.length : Int)) = true := decide_eq_true c7
        have c7b1 : decide (10 < l0.length) = true := decide_eq_true (by omega)
        clear c7
        (first | rw [c7b0] | (simp only [i64_w, i32_w]; rw [c7b0]) | skip)
        have H' := Aside0.mk H
        clear H
        go_wp2
        repeat (go_quiet (fail); try go_wp2)
        go_meet
        case rel => exact ⟨_, (true), (by first | rfl | (simp; done) | (simp [*]; done)), H', ⟨by first | omega | exact Nat.le_refl _⟩, ⟨by repeat (first | (with_reducible first | exact HB.out | apply below_alloc | apply pw_below_drewN | apply below_drew1) | exact HB.out)⟩⟩
      · rw [if_neg c7] at H
        have c7b0 : decide (10 < (l0.length : Int)) = false := decide_eq_false c7
        have c7b1 : decide (10 < l0.length) = false := decide_eq_false (by omega)
        clear c7
        (first | rw [c7b0] | (simp only [i64_w, i32_w]; rw [c7b0]) | skip)
        have H' := Aside0.mk H
        clear H
        go_wp2
        repeat (go_quiet (fail); try go_wp2)
        go_meet
        case rel => exact ⟨_, (decide ((l1.length : Int) > 10)), (by first | rfl | (simp; done) | (simp [*]; done)), H', ⟨by first | omega | exact Nat.le_refl _⟩, ⟨by repeat (first | (with_reducible first | exact HB.out | apply below_alloc | apply pw_below_drewN | apply below_drew1) | exact HB.out)⟩⟩
    case rest =>
      clear HC5
      try clear c1
      try clear p2
      try clear c4
      try clear c7
      try clear c7b0
      try clear c7b1
      obtain ⟨kq, x25_4, rfl, HA, HJ4, HB⟩ := hcut
      cases kq with
      | zero => exact absurd HA.out (by simp [dovetaillaw9_StrOnce.j0])
      | succ kj4 =>
        have H := HA.out
        clear HA
        simp only [dovetaillaw9_StrOnce.j0] at H
        by_cases c8 : x25_4 = true
        · subst c8
          have H1 : (some true) = some r := by rw [if_pos rfl] at H; exact H
          clear H
          have H := H1
          clear H1
          obtain rfl := Option.some.inj H
          go_wp2
          repeat (go_quiet (fail); try go_wp2)
          go_ret
          exact ⟨by first | rfl | (simp [errW_none, errW_some] <;> rfl) | (simp [*, errW_none, errW_some] <;> rfl), by repeat (first | (with_reducible first | exact HB.out | apply below_alloc | apply pw_below_drewN | apply below_drew1) | exact HB.out)⟩
        · replace c8 := Bool.eq_false_iff.mpr c8
          subst c8
          have H1 : (dovetaillaw9_StrOnce.l0 kj4 l0 l1 0) = some r := by rw [if_neg (show ¬ (false = true) by decide)] at H; exact H
          clear H
          have H := H1
          clear H1
          have H' := Aside0.mk H
          clear H
          go_wp2
          repeat (go_quiet (fail); try go_wp2)
          go_loopg [5] kj4 (fun kq v5 w' => ∃ (x5_2 : Int), v5 = .int .i64 x5_2 ∧ Aside0 (dovetaillaw9_StrOnce.l0 kq l0 l1 x5_2 = some r) ∧ Aside0 (kq ≤ kj4) ∧ Aside0 (Below w.heap.size w w'))
          case atStart => exact ⟨(0), (by first | rfl | (simp; done) | (simp [*]; done)), H', ⟨Nat.le_refl _⟩, ⟨by repeat (first | (with_reducible first | exact HB.out | apply below_alloc | apply pw_below_drewN | apply below_drew1) | exact HB.out)⟩⟩
          case round =>
            clear H'
            try clear c1
            try clear p2
            try clear c4
            try clear c7
            try clear c7b0
            try clear c7b1
            try clear c8
            try clear p2
            obtain ⟨x5_2, rfl, HA, HK2, HB⟩ := hrel
            cases gk with
            | zero => exact absurd HA.out (by simp [dovetaillaw9_StrOnce.l0])
            | succ k2 =>
              have H := HA.out
              clear HA
              simp only [dovetaillaw9_StrOnce.l0] at H
              by_cases c9 : x5_2 < (l0.length : Int)
              · rw [if_pos c9] at H
                have c9b0 : decide (x5_2 < (l0.length : Int)) = true := decide_eq_true c9
                clear c9
                by_cases c10 : 0 ≤ x5_2
                · rw [if_pos c10] at H
                  have c10b0 : decide (0 ≤ x5_2) = true := decide_eq_true c10
                  clear c10
                  by_cases c11 : ((rdOf ByteArray.empty l0 x5_2).size : Int) > 60
                  · rw [if_pos c11] at H
                    have c11b0 : decide (60 < ((rdOf ByteArray.empty l0 x5_2).size : Int)) = true := decide_eq_true c11
                    have c11b1 : decide (60 < (rdOf ByteArray.empty l0 x5_2).size) = true := decide_eq_true (by omega)
                    clear c11
                    obtain rfl := Option.some.inj H
                    have p520 : 0 ≤ (x5_2 : Int) := of_decide_eq_true (by first | (with_reducible assumption) | assumption)
                    have q520 : x5_2 < (l0.length : Int) := of_decide_eq_true (by first | (with_reducible assumption) | assumption)
                    obtain ⟨ad520, e520, hx520_0⟩ := Kd.at_string HR0.out x5_2 p520 q520
                    cases e520
                    replace hx520_0 := (HB.out.cell (World.block_lt_of_cell? w _ hx520_0)).trans hx520_0
                    replace p520 := eq_true p520
                    replace q520 := eq_true q520
                    go_wp2
                    repeat (go_quiet (fail); try go_wp2)
                    go_ret
                    exact ⟨by first | rfl | (simp [errW_none, errW_some] <;> rfl) | (simp [*, errW_none, errW_some] <;> rfl), by repeat (first | (with_reducible first | exact HB.out | apply below_alloc | apply pw_below_drewN | apply below_drew1) | exact HB.out)⟩
                  · rw [if_neg c11] at H
                    have c11b0 : decide (60 < ((rdOf ByteArray.empty l0 x5_2).size : Int)) = false := decide_eq_false c11
                    have c11b1 : decide (60 < (rdOf ByteArray.empty l0 x5_2).size) = false := decide_eq_false (by omega)
                    clear c11
                    have H' := Aside0.mk H
                    clear H
                    have p520 : 0 ≤ (x5_2 : Int) := of_decide_eq_true (by first | (with_reducible assumption) | assumption)
                    have q520 : x5_2 < (l0.length : Int) := of_decide_eq_true (by first | (with_reducible assumption) | assumption)
                    obtain ⟨ad520, e520, hx520_0⟩ := Kd.at_string HR0.out x5_2 p520 q520
                    cases e520
                    replace hx520_0 := (HB.out.cell (World.block_lt_of_cell? w _ hx520_0)).trans hx520_0
                    replace p520 := eq_true p520
                    replace q520 := eq_true q520
                    go_wp2
                    repeat (go_quiet (fail); try go_wp2)
                    go_roundg k2
                    case measure => have := HJ4.out; have := HK2.out; omega
                    case rel => exact ⟨(wrap64 (x5_2 + 1)), (by first | rfl | (simp; done) | (simp [*]; done)), H', ⟨by have := HJ4.out; have := HK2.out; omega⟩, ⟨by repeat (first | (with_reducible first | exact HB.out | apply below_alloc | apply pw_below_drewN | apply below_drew1) | exact HB.out)⟩⟩
                · rw [if_neg c10] at H
                  exact absurd H (by simp)
              · rw [if_neg c9] at H
                have c9b0 : decide (x5_2 < (l0.length : Int)) = false := decide_eq_false c9
                clear c9
                by_cases c12 : ([] : List ByteArray).length + l0.length < 8796093022208
                · rw [if_pos c12] at H
                  have LMc12 := Aside0.mk c12
                  clear c12
                  obtain ⟨y521, hy521⟩ : ∃ y_ : List ByteArray, y_ = (([] : List ByteArray) ++ l0) := ⟨_, rfl⟩
                  replace H : (dovetaillaw9_StrOnce.l1 k2 l0 l1 y521 0) = some r := by first | (rw [hy521]; with_reducible exact H) | (have H2_ := (Option.bind_some _ _).symm.trans H; rw [hy521]; with_reducible exact H2_) | (have H2_ := (Option.bind_some _ _).symm.trans H; with_reducible exact H2_) | with_reducible exact H | (rw [hy521]; exact H) | exact H
                  have Ny521 := Aside0.mk hy521
                  clear hy521
                  have HC13 := Aside0.mk H
                  clear H
                  go_upto_block 2 with (first | ((with_reducible refine gate_builtin (b := .append) (xs := #[.const (.slice none 0 0), .tmp 38]) rfl ?_); (try (refine gate_guard (by rfl) ?_; dsimp only)); at_builtin; refine Kd.R_append_rows Kd.string (w0 := w) w.heap.size rfl (.const (.slice none 0 0)) (.tmp 38) 41 9 (.string ⟨#[]⟩) 16 rfl Try.underlying41 info9 rfl (by decide) (by omega) (.slice none 0 0) ([] : List ByteArray) l0 _ _ _ (fun _ => True) (fun _ => False) rfl rfl ?aO ?aR (fun _ _ h => h) (fun _ h => h.elim) ?aF ?aB ?aS ?aL ?_; (case aR => repeat (first | exact (Kd.C_below HR0.out HB.out) | (with_reducible refine Kd.C_alloc ?_ _) | (with_reducible refine Kd.C_drewN ?_ _) | (with_reducible refine Kd.C_drew ?_))); (case aB => exact (by repeat (first | (with_reducible first | exact HB.out | apply below_alloc | apply pw_below_drewN | apply below_drew1) | exact HB.out))); (case aF => exact (fun _ _ => trivial)); (case aO => exact ((Kd.R_nil _ _ _ _ (fun _ => True)))); (case aS => exact (below_size (by repeat (first | (with_reducible first | exact HB.out | apply below_alloc | apply pw_below_drewN | apply below_drew1) | exact HB.out)))); (case aL => have := LMc12.out; omega); intro v522 w14 ho hb hg hat; rw [← Ny521.out] at ho; have n0_ := Aside0.mk (hb); have n1_ := Aside0.mk (ho); clear HB; have HB := n0_; have HO523 := n1_; clear n0_ n1_; clear ho hb hg hat))
                  repeat (go_quiet (first | ((with_reducible refine gate_builtin (b := .append) (xs := #[.const (.slice none 0 0), .tmp 38]) rfl ?_); (try (refine gate_guard (by rfl) ?_; dsimp only)); at_builtin; refine Kd.R_append_rows Kd.string (w0 := w) w.heap.size rfl (.const (.slice none 0 0)) (.tmp 38) 41 9 (.string ⟨#[]⟩) 16 rfl Try.underlying41 info9 rfl (by decide) (by omega) (.slice none 0 0) ([] : List ByteArray) l0 _ _ _ (fun _ => True) (fun _ => False) rfl rfl ?aO ?aR (fun _ _ h => h) (fun _ h => h.elim) ?aF ?aB ?aS ?aL ?_; (case aR => repeat (first | exact (Kd.C_below HR0.out HB.out) | (with_reducible refine Kd.C_alloc ?_ _) | (with_reducible refine Kd.C_drewN ?_ _) | (with_reducible refine Kd.C_drew ?_))); (case aB => exact (by repeat (first | (with_reducible first | exact HB.out | apply below_alloc | apply pw_below_drewN | apply below_drew1) | exact HB.out))); (case aF => exact (fun _ _ => trivial)); (case aO => exact ((Kd.R_nil _ _ _ _ (fun _ => True)))); (case aS => exact (below_size (by repeat (first | (with_reducible first | exact HB.out | apply below_alloc | apply pw_below_drewN | apply below_drew1) | exact HB.out)))); (case aL => have := LMc12.out; omega); intro v522 w14 ho hb hg hat; rw [← Ny521.out] at ho; have n0_ := Aside0.mk (hb); have n1_ := Aside0.mk (ho); clear HB; have HB := n0_; have HO523 := n1_; clear n0_ n1_; clear ho hb hg hat)); go_upto_block 2 with (first | ((with_reducible refine gate_builtin (b := .append) (xs := #[.const (.slice none 0 0), .tmp 38]) rfl ?_); (try (refine gate_guard (by rfl) ?_; dsimp only)); at_builtin; refine Kd.R_append_rows Kd.string (w0 := w) w.heap.size rfl (.const (.slice none 0 0)) (.tmp 38) 41 9 (.string ⟨#[]⟩) 16 rfl Try.underlying41 info9 rfl (by decide) (by omega) (.slice none 0 0) ([] : List ByteArray) l0 _ _ _ (fun _ => True) (fun _ => False) rfl rfl ?aO ?aR (fun _ _ h => h) (fun _ h => h.elim) ?aF ?aB ?aS ?aL ?_; (case aR => repeat (first | exact (Kd.C_below HR0.out HB.out) | (with_reducible refine Kd.C_alloc ?_ _) | (with_reducible refine Kd.C_drewN ?_ _) | (with_reducible refine Kd.C_drew ?_))); (case aB => exact (by repeat (first | (with_reducible first | exact HB.out | apply below_alloc | apply pw_below_drewN | apply below_drew1) | exact HB.out))); (case aF => exact (fun _ _ => trivial)); (case aO => exact ((Kd.R_nil _ _ _ _ (fun _ => True)))); (case aS => exact (below_size (by repeat (first | (with_reducible first | exact HB.out | apply below_alloc | apply pw_below_drewN | apply below_drew1) | exact HB.out)))); (case aL => have := LMc12.out; omega); intro v522 w14 ho hb hg hat; rw [← Ny521.out] at ho; have n0_ := Aside0.mk (hb); have n1_ := Aside0.mk (ho); clear HB; have HB := n0_; have HO523 := n1_; clear n0_ n1_; clear ho hb hg hat)))
                  (try simp only [Act.put, List.setIfInBounds_toArray, List.set_cons_zero, List.set_cons_succ])
                  go_cut [6] (fun v6 wc => ∃ (kq : Nat) (x6_12 : List ByteArray), Aside0 (dovetaillaw9_StrOnce.j3 kq l0 l1 x6_12 = some r) ∧ Aside0 (kq ≤ k2) ∧ Aside0 (Kd.R Kd.string 9 wc w.heap.size (fun _ => True) v6 x6_12) ∧ Aside0 (Below w.heap.size w wc))
                  case first =>
                    have H := HC13.out
                    clear HC13
                    have H' := Aside0.mk H
                    clear H
                    go_wp2
                    repeat (go_quiet (fail); try go_wp2)
                    go_loopg [6, 7] k2 (fun kq v6 v7 w' => ∃ (x6_3 : List ByteArray) (x7_3 : Int), v7 = .int .i64 x7_3 ∧ Aside0 (dovetaillaw9_StrOnce.l1 kq l0 l1 x6_3 x7_3 = some r) ∧ Aside0 (kq ≤ k2) ∧ Aside0 (Kd.R Kd.string 9 w' w.heap.size (fun _ => True) v6 x6_3) ∧ Aside0 (Below w.heap.size w w'))
                    case atStart => exact ⟨(y521), (0), (by first | rfl | (simp; done) | (simp [*]; done)), H', ⟨Nat.le_refl _⟩, ⟨by (with_reducible repeat (first | apply Kd.R_alloc | apply Kd.R_drewN | apply Kd.R_drew)); exact HO523.out⟩, ⟨by repeat (first | (with_reducible first | exact HB.out | apply below_alloc | apply pw_below_drewN | apply below_drew1) | exact HB.out)⟩⟩
                    case round =>
                      clear H'
                      try clear c1
                      try clear p2
                      try clear c4
                      try clear p5
                      try clear q5
                      try clear hx5
                      try clear p6
                      try clear c7
                      try clear c7b0
                      try clear c7b1
                      try clear c8
                      try clear c9
                      try clear c9b0
                      try clear c10
                      try clear c10b0
                      try clear c11
                      try clear c11b0
                      try clear c11b1
                      try clear c12
                      try clear c13
                      try clear hx520_0
                      try clear p2
                      try clear p520
                      try clear q520
                      obtain ⟨x6_3, x7_3, rfl, HA, HK3, HO_6, HB⟩ := hrel
                      cases gk with
                      | zero => exact absurd HA.out (by simp [dovetaillaw9_StrOnce.l1])
                      | succ k3 =>
                        have H := HA.out
                        clear HA
                        simp only [dovetaillaw9_StrOnce.l1] at H
                        by_cases c15 : x7_3 < (l1.length : Int)
                        · rw [if_pos c15] at H
                          have c15b0 : decide (x7_3 < (l1.length : Int)) = true := decide_eq_true c15
                          clear c15
                          (first | rw [c15b0] | (simp only [i64_w, i32_w]; rw [c15b0]) | skip)
                          by_cases c16 : (l0.length : Int) > 0
                          · rw [if_pos c16] at H
                            have c16b0 : decide (0 < (l0.length : Int)) = true := decide_eq_true c16
                            have c16b1 : decide (0 < l0.length) = true := decide_eq_true (by omega)
                            clear c16
                            by_cases c17 : 0 ≤ x7_3
                            · rw [if_pos c17] at H
                              have c17b0 : decide (0 ≤ x7_3) = true := decide_eq_true c17
                              clear c17
                              by_cases c18 : (l0.length : Int) = 0
                              · rw [if_pos c18] at H
                                exact absurd H (by simp)
                              · rw [if_neg c18] at H
                                have c18b0 : ((l0.length : Int) == 0) = false := beq_eq_false_iff_ne.mpr c18
                                have c18b1 : ((l0.length : Int) != 0) = true := bne_iff_ne.mpr c18
                                have c18b2 : ¬ (l0 = []) := fun h_ => c18 (by rw [h_]; rfl)
                                obtain ⟨ji19, hji19⟩ : ∃ j_ : Int, (Int.tmod (wrap64 (rd l1 x7_3)) (l0.length : Int)) = j_ := ⟨_, rfl⟩
                                replace H : (if 0 ≤ (ji19) then (if (ji19) < (l0.length : Int) then (if x6_3.length < 8796093022208 then (dovetaillaw9_StrOnce.l1 k3 l0 l1 (x6_3 ++ [rdOf ByteArray.empty l0 (ji19)]) (wrap64 (x7_3 + 1))) else (none)) else (none)) else (none)) = some r := by first | (rw [hji19] at H; exact H) | (simp only [hji19] at H ⊢; exact H)
                                by_cases c20 : 0 ≤ (ji19)
                                · rw [if_pos c20] at H
                                  have c20b0 : decide (0 ≤ (ji19)) = true := decide_eq_true c20
                                  clear c20
                                  by_cases c21 : (ji19) < (l0.length : Int)
                                  · rw [if_pos c21] at H
                                    have c21b0 : decide ((ji19) < (l0.length : Int)) = true := decide_eq_true c21
                                    clear c21
                                    by_cases c22 : x6_3.length < 8796093022208
                                    · rw [if_pos c22] at H
                                      have LMc22 := Aside0.mk c22
                                      clear c22
                                      obtain ⟨y526, hy526⟩ : ∃ y_ : List ByteArray, y_ = (x6_3 ++ [rdOf ByteArray.empty l0 (ji19)]) := ⟨_, rfl⟩
                                      replace H : (dovetaillaw9_StrOnce.l1 k3 l0 l1 y526 (wrap64 (x7_3 + 1))) = some r := by first | (rw [hy526]; with_reducible exact H) | (have H2_ := (Option.bind_some _ _).symm.trans H; rw [hy526]; with_reducible exact H2_) | (have H2_ := (Option.bind_some _ _).symm.trans H; with_reducible exact H2_) | with_reducible exact H | (rw [hy526]; exact H) | exact H
                                      have Ny526 := Aside0.mk hy526
                                      clear hy526
                                      have H' := Aside0.mk H
                                      clear H
                                      have p524 : 0 ≤ (x7_3 : Int) := of_decide_eq_true (by first | (with_reducible assumption) | assumption)
                                      have q524 : x7_3 < (l1.length : Int) := of_decide_eq_true (by first | (with_reducible assumption) | assumption)
                                      obtain ⟨ad524, e524, hx524_0⟩ := Kd.at_int HR1.out x7_3 p524 q524
                                      cases e524
                                      replace hx524_0 := (HB.out.cell (World.block_lt_of_cell? w _ hx524_0)).trans hx524_0
                                      replace p524 := eq_true p524
                                      replace q524 := eq_true q524
                                      have p525 : 0 ≤ ((ji19) : Int) := of_decide_eq_true (by first | (with_reducible assumption) | assumption)
                                      have q525 : (ji19) < (l0.length : Int) := of_decide_eq_true (by first | (with_reducible assumption) | assumption)
                                      obtain ⟨ad525, e525, hx525_0⟩ := Kd.at_string HR0.out (ji19) p525 q525
                                      cases e525
                                      replace hx525_0 := (HB.out.cell (World.block_lt_of_cell? w _ hx525_0)).trans hx525_0
                                      replace p525 := eq_true p525
                                      replace q525 := eq_true q525
                                      go_wp2_with (first | ((with_reducible refine gate_builtin (b := .append) (xs := #[.tmp 51, .tmp 63]) rfl ?_); (try (refine gate_guard (by rfl) ?_; dsimp only)); at_builtin; refine Kd.R_append Kd.string (w0 := w) w.heap.size rfl (.tmp 51) (.tmp 63) 41 9 (.string ⟨#[]⟩) 16 rfl Try.underlying41 info9 rfl (by decide) (by omega) u6 x6_3 (rdOf ByteArray.empty l0 (ji19)) [.string (rdOf ByteArray.empty l0 (ji19))] (fun _ => True) (fun _ => False) rfl rfl ?aP (fun _ hk => hk.elim) ?aF ?aO ?aB ?aS ?aL ?_; (case aP => exact rfl); (case aB => exact (by repeat (first | (with_reducible first | exact HB.out | apply below_alloc | apply pw_below_drewN | apply below_drew1) | exact HB.out))); (case aF => exact (fun _ _ => trivial)); (case aO => exact (by (with_reducible repeat (first | apply Kd.R_alloc | apply Kd.R_drewN | apply Kd.R_drew)); exact HO_6.out)); (case aS => exact (below_size (by repeat (first | (with_reducible first | exact HB.out | apply below_alloc | apply pw_below_drewN | apply below_drew1) | exact HB.out)))); (case aL => have := LMc22.out; omega); intro v527 w23 ho hb hg hat; rw [← Ny526.out] at ho; have n0_ := Aside0.mk (hb); have n1_ := Aside0.mk (ho); clear HB; clear HO_6; have HB := n0_; have HO528 := n1_; clear n0_ n1_; clear ho hb hg hat))
                                      repeat (go_quiet (first | ((with_reducible refine gate_builtin (b := .append) (xs := #[.tmp 51, .tmp 63]) rfl ?_); (try (refine gate_guard (by rfl) ?_; dsimp only)); at_builtin; refine Kd.R_append Kd.string (w0 := w) w.heap.size rfl (.tmp 51) (.tmp 63) 41 9 (.string ⟨#[]⟩) 16 rfl Try.underlying41 info9 rfl (by decide) (by omega) u6 x6_3 (rdOf ByteArray.empty l0 (ji19)) [.string (rdOf ByteArray.empty l0 (ji19))] (fun _ => True) (fun _ => False) rfl rfl ?aP (fun _ hk => hk.elim) ?aF ?aO ?aB ?aS ?aL ?_; (case aP => exact rfl); (case aB => exact (by repeat (first | (with_reducible first | exact HB.out | apply below_alloc | apply pw_below_drewN | apply below_drew1) | exact HB.out))); (case aF => exact (fun _ _ => trivial)); (case aO => exact (by (with_reducible repeat (first | apply Kd.R_alloc | apply Kd.R_drewN | apply Kd.R_drew)); exact HO_6.out)); (case aS => exact (below_size (by repeat (first | (with_reducible first | exact HB.out | apply below_alloc | apply pw_below_drewN | apply below_drew1) | exact HB.out)))); (case aL => have := LMc22.out; omega); intro v527 w23 ho hb hg hat; rw [← Ny526.out] at ho; have n0_ := Aside0.mk (hb); have n1_ := Aside0.mk (ho); clear HB; clear HO_6; have HB := n0_; have HO528 := n1_; clear n0_ n1_; clear ho hb hg hat)); try go_wp2_with (first | ((with_reducible refine gate_builtin (b := .append) (xs := #[.tmp 51, .tmp 63]) rfl ?_); (try (refine gate_guard (by rfl) ?_; dsimp only)); at_builtin; refine Kd.R_append Kd.string (w0 := w) w.heap.size rfl (.tmp 51) (.tmp 63) 41 9 (.string ⟨#[]⟩) 16 rfl Try.underlying41 info9 rfl (by decide) (by omega) u6 x6_3 (rdOf ByteArray.empty l0 (ji19)) [.string (rdOf ByteArray.empty l0 (ji19))] (fun _ => True) (fun _ => False) rfl rfl ?aP (fun _ hk => hk.elim) ?aF ?aO ?aB ?aS ?aL ?_; (case aP => exact rfl); (case aB => exact (by repeat (first | (with_reducible first | exact HB.out | apply below_alloc | apply pw_below_drewN | apply below_drew1) | exact HB.out))); (case aF => exact (fun _ _ => trivial)); (case aO => exact (by (with_reducible repeat (first | apply Kd.R_alloc | apply Kd.R_drewN | apply Kd.R_drew)); exact HO_6.out)); (case aS => exact (below_size (by repeat (first | (with_reducible first | exact HB.out | apply below_alloc | apply pw_below_drewN | apply below_drew1) | exact HB.out)))); (case aL => have := LMc22.out; omega); intro v527 w23 ho hb hg hat; rw [← Ny526.out] at ho; have n0_ := Aside0.mk (hb); have n1_ := Aside0.mk (ho); clear HB; clear HO_6; have HB := n0_; have HO528 := n1_; clear n0_ n1_; clear ho hb hg hat)))
                                      go_roundg k3
                                      case measure => have := HJ4.out; have := HK2.out; have := HK3.out; omega
                                      case rel => exact ⟨(y526), (wrap64 (x7_3 + 1)), (by first | rfl | (simp; done) | (simp [*]; done)), H', ⟨by have := HJ4.out; have := HK2.out; have := HK3.out; omega⟩, ⟨by (with_reducible repeat (first | apply Kd.R_alloc | apply Kd.R_drewN | apply Kd.R_drew)); exact HO528.out⟩, ⟨by repeat (first | (with_reducible first | exact HB.out | apply below_alloc | apply pw_below_drewN | apply below_drew1) | exact HB.out)⟩⟩
                                    · rw [if_neg c22] at H
                                      exact absurd H (by simp)
                                  · rw [if_neg c21] at H
                                    exact absurd H (by simp)
                                · rw [if_neg c20] at H
                                  exact absurd H (by simp)
                            · rw [if_neg c17] at H
                              exact absurd H (by simp)
                          · rw [if_neg c16] at H
                            have c16b0 : decide (0 < (l0.length : Int)) = false := decide_eq_false c16
                            have c16b1 : decide (0 < l0.length) = false := decide_eq_false (by omega)
                            clear c16
                            have H' := Aside0.mk H
                            clear H
                            go_wp2
                            repeat (go_quiet (fail); try go_wp2)
                            go_meet
                            case rel => exact ⟨_, (x6_3), H', ⟨by have := HJ4.out; have := HK2.out; have := HK3.out; first | omega | exact Nat.le_refl _⟩, ⟨by (with_reducible repeat (first | apply Kd.R_alloc | apply Kd.R_drewN | apply Kd.R_drew)); exact HO_6.out⟩, ⟨by repeat (first | (with_reducible first | exact HB.out | apply below_alloc | apply pw_below_drewN | apply below_drew1) | exact HB.out)⟩⟩
                        · rw [if_neg c15] at H
                          have c15b0 : decide (x7_3 < (l1.length : Int)) = false := decide_eq_false c15
                          clear c15
                          (first | rw [c15b0] | (simp only [i64_w, i32_w]; rw [c15b0]) | skip)
                          have H' := Aside0.mk H
                          clear H
                          go_wp2
                          repeat (go_quiet (fail); try go_wp2)
                          go_meet
                          case rel => exact ⟨_, (x6_3), H', ⟨by have := HJ4.out; have := HK2.out; have := HK3.out; first | omega | exact Nat.le_refl _⟩, ⟨by (with_reducible repeat (first | apply Kd.R_alloc | apply Kd.R_drewN | apply Kd.R_drew)); exact HO_6.out⟩, ⟨by repeat (first | (with_reducible first | exact HB.out | apply below_alloc | apply pw_below_drewN | apply below_drew1) | exact HB.out)⟩⟩
                  case rest =>
                    clear HC13
                    try clear c1
                    try clear c2
                    try clear p2
                    try clear c4
                    try clear p5
                    try clear q5
                    try clear hx5
                    try clear p6
                    try clear c7
                    try clear c7b0
                    try clear c7b1
                    try clear c8
                    try clear c9
                    try clear c9b0
                    try clear c10
                    try clear c10b0
                    try clear c11
                    try clear c11b0
                    try clear c11b1
                    try clear c12
                    try clear c13
                    try clear c15
                    try clear c15b0
                    try clear c16
                    try clear c16b0
                    try clear c16b1
                    try clear c17
                    try clear c17b0
                    try clear c18
                    try clear c18b0
                    try clear c18b1
                    try clear c18b2
                    try clear c20
                    try clear c20b0
                    try clear c21
                    try clear c21b0
                    try clear c22
                    try clear hx520_0
                    try clear hx524_0
                    try clear hx525_0
                    try clear p2
                    try clear p5
                    try clear p520
                    try clear p524
                    try clear p525
                    try clear p6
                    try clear q5
                    try clear q520
                    try clear q524
                    try clear q525
                    obtain ⟨kq, x6_12, HA, HJ12, HO_6, HB⟩ := hcut
                    cases kq with
                    | zero => exact absurd HA.out (by simp [dovetaillaw9_StrOnce.j3])
                    | succ kj12 =>
                      have H := HA.out
                      clear HA
                      simp only [dovetaillaw9_StrOnce.j3] at H
                      replace H := Option.bind_eq_some_iff.mp H
                      obtain ⟨⟨t529, t530⟩, A240, H⟩ := H
                      replace H : ((strtab_Build.f x6_12).bind fun bt535 => (if (strOfNums t529).toList = (strOfNums bt535.1).toList then (dovetaillaw9_StrOnce.l2 kj12 l0 l1 x6_12 t530 bt535.1 bt535.2 0) else (some false))) = some r := H
                      have A24 := Aside0.mk A240
                      clear A240
                      replace H := Option.bind_eq_some_iff.mp H
                      obtain ⟨⟨t535, t536⟩, A250, H⟩ := H
                      replace H : (if (strOfNums t529).toList = (strOfNums t535).toList then (dovetaillaw9_StrOnce.l2 kj12 l0 l1 x6_12 t530 t535 t536 0) else (some false)) = some r := H
                      have A25 := Aside0.mk A250
                      clear A250
                      by_cases c26 : (strOfNums t529).toList = (strOfNums t535).toList
                      · rw [if_pos c26] at H
                        have c26b0 : ((strOfNums t529).toList == (strOfNums t535).toList) = true := beq_iff_eq.mpr c26
                        have c26b1 : ((strOfNums t529).toList != (strOfNums t535).toList) = false := bne_eq_false_iff_eq.mpr c26
                        clear c26
                        have H' := Aside0.mk H
                        clear H
                        go_wp2_with (first | (go_at_call 29; (with_reducible refine (strtab_Build.calls _ _ l0 t529 t530 _ ?side1 ?side2 A24.out).mono ?_); (case side1 => repeat (first | exact (Kd.C_below HR0.out HB.out) | (with_reducible refine Kd.C_alloc ?_ _) | (with_reducible refine Kd.C_drewN ?_ _) | (with_reducible refine Kd.C_drew ?_))); (case side2 => exact HC0.out); rintro e w27 ⟨v531, v533, rfl, ho0, ho1, hb⟩; have n0_ := Aside0.mk (Kd.R_below (by (with_reducible repeat (first | apply Kd.R_alloc | apply Kd.R_drewN | apply Kd.R_drew)); exact HO_6.out) hb); have n1_ := Aside0.mk (Kd.R_lower ho0 (below_size (by repeat (first | (with_reducible first | exact HB.out | apply below_alloc | apply pw_below_drewN | apply below_drew1) | exact HB.out)))); have n2_ := Aside0.mk (Kd.R_lower ho1 (below_size (by repeat (first | (with_reducible first | exact HB.out | apply below_alloc | apply pw_below_drewN | apply below_drew1) | exact HB.out)))); have n3_ := Aside0.mk (below_step (by repeat (first | (with_reducible first | exact HB.out | apply below_alloc | apply pw_below_drewN | apply below_drew1) | exact HB.out)) hb); clear HO_6; clear HB; have HO_6 := n0_; have HO532 := n1_; have HO534 := n2_; have HB := n3_; clear n0_ n1_ n2_ n3_; (try clear hb); (try clear hb2); (try clear hk); (try clear hi); (try clear ho0); (try clear ho1); obtain ⟨Ao28, co28, eo28⟩ := Kd.R_slice HO_6.out; subst eo28) | (go_at_call 29; (with_reducible refine (strtab_Build.calls _ _ x6_12 t535 t536 _ ?side1 ?side2 A25.out).mono ?_); (case side1 => repeat (first | exact (Kd.R_reads' HO_6.out).2.2 | (with_reducible refine Kd.C_alloc ?_ _) | (with_reducible refine Kd.C_drewN ?_ _) | (with_reducible refine Kd.C_drew ?_))); (case side2 => exact (Kd.R_reads' HO_6.out).2.1); rintro e w29 ⟨v537, v539, rfl, ho0, ho1, hb⟩; have n0_ := Aside0.mk (Kd.R_below (by (with_reducible repeat (first | apply Kd.R_alloc | apply Kd.R_drewN | apply Kd.R_drew)); exact HO_6.out) hb); have n1_ := Aside0.mk (Kd.R_elder' (by (with_reducible repeat (first | apply Kd.R_alloc | apply Kd.R_drewN | apply Kd.R_drew)); exact HO532.out) (Kd.R_base ho0) hb); have n2_ := Aside0.mk (Kd.R_elder' (by (with_reducible repeat (first | apply Kd.R_alloc | apply Kd.R_drewN | apply Kd.R_drew)); exact HO534.out) (Kd.R_base ho1) hb); have n3_ := Aside0.mk (Kd.R_lower (Kd.R_new' ho0 (Kd.R_lt (by (with_reducible repeat (first | apply Kd.R_alloc | apply Kd.R_drewN | apply Kd.R_drew)); exact HO532.out))) (below_size (by repeat (first | (with_reducible first | exact HB.out | apply below_alloc | apply pw_below_drewN | apply below_drew1) | exact HB.out)))); have n4_ := Aside0.mk (Kd.R_lower (Kd.R_new' ho1 (Kd.R_lt (by (with_reducible repeat (first | apply Kd.R_alloc | apply Kd.R_drewN | apply Kd.R_drew)); exact HO534.out))) (below_size (by repeat (first | (with_reducible first | exact HB.out | apply below_alloc | apply pw_below_drewN | apply below_drew1) | exact HB.out)))); have n5_ := Aside0.mk (below_step (by repeat (first | (with_reducible first | exact HB.out | apply below_alloc | apply pw_below_drewN | apply below_drew1) | exact HB.out)) hb); clear HO_6; clear HO532; clear HO534; clear HB; have HO_6 := n0_; have HO532 := n1_; have HO534 := n2_; have HO538 := n3_; have HO540 := n4_; have HB := n5_; clear n0_ n1_ n2_ n3_ n4_ n5_; (try clear hb); (try clear hb2); (try clear hk); (try clear hi); (try clear ho0); (try clear ho1); have hcv30 := own_string (P := Try.prog) Try.underlying22 Try.underlying5 Try.underlying9 (Kd.own_of_R HO532.out); have hcv30_ := fun m_ => own_string (P := Try.prog) Try.underlying22 Try.underlying5 Try.underlying9 (Kd.own_of_R (Kd.R_drewN HO532.out m_)); have hcv31 := own_string (P := Try.prog) Try.underlying22 Try.underlying5 Try.underlying9 (Kd.own_of_R HO538.out); have hcv31_ := fun m_ => own_string (P := Try.prog) Try.underlying22 Try.underlying5 Try.underlying9 (Kd.own_of_R (Kd.R_drewN HO538.out m_))))
                        repeat (go_quiet (first | (go_at_call 29; (with_reducible refine (strtab_Build.calls _ _ l0 t529 t530 _ ?side1 ?side2 A24.out).mono ?_); (case side1 => repeat (first | exact (Kd.C_below HR0.out HB.out) | (with_reducible refine Kd.C_alloc ?_ _) | (with_reducible refine Kd.C_drewN ?_ _) | (with_reducible refine Kd.C_drew ?_))); (case side2 => exact HC0.out); rintro e w27 ⟨v531, v533, rfl, ho0, ho1, hb⟩; have n0_ := Aside0.mk (Kd.R_below (by (with_reducible repeat (first | apply Kd.R_alloc | apply Kd.R_drewN | apply Kd.R_drew)); exact HO_6.out) hb); have n1_ := Aside0.mk (Kd.R_lower ho0 (below_size (by repeat (first | (with_reducible first | exact HB.out | apply below_alloc | apply pw_below_drewN | apply below_drew1) | exact HB.out)))); have n2_ := Aside0.mk (Kd.R_lower ho1 (below_size (by repeat (first | (with_reducible first | exact HB.out | apply below_alloc | apply pw_below_drewN | apply below_drew1) | exact HB.out)))); have n3_ := Aside0.mk (below_step (by repeat (first | (with_reducible first | exact HB.out | apply below_alloc | apply pw_below_drewN | apply below_drew1) | exact HB.out)) hb); clear HO_6; clear HB; have HO_6 := n0_; have HO532 := n1_; have HO534 := n2_; have HB := n3_; clear n0_ n1_ n2_ n3_; (try clear hb); (try clear hb2); (try clear hk); (try clear hi); (try clear ho0); (try clear ho1); obtain ⟨Ao28, co28, eo28⟩ := Kd.R_slice HO_6.out; subst eo28) | (go_at_call 29; (with_reducible refine (strtab_Build.calls _ _ x6_12 t535 t536 _ ?side1 ?side2 A25.out).mono ?_); (case side1 => repeat (first | exact (Kd.R_reads' HO_6.out).2.2 | (with_reducible refine Kd.C_alloc ?_ _) | (with_reducible refine Kd.C_drewN ?_ _) | (with_reducible refine Kd.C_drew ?_))); (case side2 => exact (Kd.R_reads' HO_6.out).2.1); rintro e w29 ⟨v537, v539, rfl, ho0, ho1, hb⟩; have n0_ := Aside0.mk (Kd.R_below (by (with_reducible repeat (first | apply Kd.R_alloc | apply Kd.R_drewN | apply Kd.R_drew)); exact HO_6.out) hb); have n1_ := Aside0.mk (Kd.R_elder' (by (with_reducible repeat (first | apply Kd.R_alloc | apply Kd.R_drewN | apply Kd.R_drew)); exact HO532.out) (Kd.R_base ho0) hb); have n2_ := Aside0.mk (Kd.R_elder' (by (with_reducible repeat (first | apply Kd.R_alloc | apply Kd.R_drewN | apply Kd.R_drew)); exact HO534.out) (Kd.R_base ho1) hb); have n3_ := Aside0.mk (Kd.R_lower (Kd.R_new' ho0 (Kd.R_lt (by (with_reducible repeat (first | apply Kd.R_alloc | apply Kd.R_drewN | apply Kd.R_drew)); exact HO532.out))) (below_size (by repeat (first | (with_reducible first | exact HB.out | apply below_alloc | apply pw_below_drewN | apply below_drew1) | exact HB.out)))); have n4_ := Aside0.mk (Kd.R_lower (Kd.R_new' ho1 (Kd.R_lt (by (with_reducible repeat (first | apply Kd.R_alloc | apply Kd.R_drewN | apply Kd.R_drew)); exact HO534.out))) (below_size (by repeat (first | (with_reducible first | exact HB.out | apply below_alloc | apply pw_below_drewN | apply below_drew1) | exact HB.out)))); have n5_ := Aside0.mk (below_step (by repeat (first | (with_reducible first | exact HB.out | apply below_alloc | apply pw_below_drewN | apply below_drew1) | exact HB.out)) hb); clear HO_6; clear HO532; clear HO534; clear HB; have HO_6 := n0_; have HO532 := n1_; have HO534 := n2_; have HO538 := n3_; have HO540 := n4_; have HB := n5_; clear n0_ n1_ n2_ n3_ n4_ n5_; (try clear hb); (try clear hb2); (try clear hk); (try clear hi); (try clear ho0); (try clear ho1); have hcv30 := own_string (P := Try.prog) Try.underlying22 Try.underlying5 Try.underlying9 (Kd.own_of_R HO532.out); have hcv30_ := fun m_ => own_string (P := Try.prog) Try.underlying22 Try.underlying5 Try.underlying9 (Kd.own_of_R (Kd.R_drewN HO532.out m_)); have hcv31 := own_string (P := Try.prog) Try.underlying22 Try.underlying5 Try.underlying9 (Kd.own_of_R HO538.out); have hcv31_ := fun m_ => own_string (P := Try.prog) Try.underlying22 Try.underlying5 Try.underlying9 (Kd.own_of_R (Kd.R_drewN HO538.out m_)))); try go_wp2_with (first | (go_at_call 29; (with_reducible refine (strtab_Build.calls _ _ l0 t529 t530 _ ?side1 ?side2 A24.out).mono ?_); (case side1 => repeat (first | exact (Kd.C_below HR0.out HB.out) | (with_reducible refine Kd.C_alloc ?_ _) | (with_reducible refine Kd.C_drewN ?_ _) | (with_reducible refine Kd.C_drew ?_))); (case side2 => exact HC0.out); rintro e w27 ⟨v531, v533, rfl, ho0, ho1, hb⟩; have n0_ := Aside0.mk (Kd.R_below (by (with_reducible repeat (first | apply Kd.R_alloc | apply Kd.R_drewN | apply Kd.R_drew)); exact HO_6.out) hb); have n1_ := Aside0.mk (Kd.R_lower ho0 (below_size (by repeat (first | (with_reducible first | exact HB.out | apply below_alloc | apply pw_below_drewN | apply below_drew1) | exact HB.out)))); have n2_ := Aside0.mk (Kd.R_lower ho1 (below_size (by repeat (first | (with_reducible first | exact HB.out | apply below_alloc | apply pw_below_drewN | apply below_drew1) | exact HB.out)))); have n3_ := Aside0.mk (below_step (by repeat (first | (with_reducible first | exact HB.out | apply below_alloc | apply pw_below_drewN | apply below_drew1) | exact HB.out)) hb); clear HO_6; clear HB; have HO_6 := n0_; have HO532 := n1_; have HO534 := n2_; have HB := n3_; clear n0_ n1_ n2_ n3_; (try clear hb); (try clear hb2); (try clear hk); (try clear hi); (try clear ho0); (try clear ho1); obtain ⟨Ao28, co28, eo28⟩ := Kd.R_slice HO_6.out; subst eo28) | (go_at_call 29; (with_reducible refine (strtab_Build.calls _ _ x6_12 t535 t536 _ ?side1 ?side2 A25.out).mono ?_); (case side1 => repeat (first | exact (Kd.R_reads' HO_6.out).2.2 | (with_reducible refine Kd.C_alloc ?_ _) | (with_reducible refine Kd.C_drewN ?_ _) | (with_reducible refine Kd.C_drew ?_))); (case side2 => exact (Kd.R_reads' HO_6.out).2.1); rintro e w29 ⟨v537, v539, rfl, ho0, ho1, hb⟩; have n0_ := Aside0.mk (Kd.R_below (by (with_reducible repeat (first | apply Kd.R_alloc | apply Kd.R_drewN | apply Kd.R_drew)); exact HO_6.out) hb); have n1_ := Aside0.mk (Kd.R_elder' (by (with_reducible repeat (first | apply Kd.R_alloc | apply Kd.R_drewN | apply Kd.R_drew)); exact HO532.out) (Kd.R_base ho0) hb); have n2_ := Aside0.mk (Kd.R_elder' (by (with_reducible repeat (first | apply Kd.R_alloc | apply Kd.R_drewN | apply Kd.R_drew)); exact HO534.out) (Kd.R_base ho1) hb); have n3_ := Aside0.mk (Kd.R_lower (Kd.R_new' ho0 (Kd.R_lt (by (with_reducible repeat (first | apply Kd.R_alloc | apply Kd.R_drewN | apply Kd.R_drew)); exact HO532.out))) (below_size (by repeat (first | (with_reducible first | exact HB.out | apply below_alloc | apply pw_below_drewN | apply below_drew1) | exact HB.out)))); have n4_ := Aside0.mk (Kd.R_lower (Kd.R_new' ho1 (Kd.R_lt (by (with_reducible repeat (first | apply Kd.R_alloc | apply Kd.R_drewN | apply Kd.R_drew)); exact HO534.out))) (below_size (by repeat (first | (with_reducible first | exact HB.out | apply below_alloc | apply pw_below_drewN | apply below_drew1) | exact HB.out)))); have n5_ := Aside0.mk (below_step (by repeat (first | (with_reducible first | exact HB.out | apply below_alloc | apply pw_below_drewN | apply below_drew1) | exact HB.out)) hb); clear HO_6; clear HO532; clear HO534; clear HB; have HO_6 := n0_; have HO532 := n1_; have HO534 := n2_; have HO538 := n3_; have HO540 := n4_; have HB := n5_; clear n0_ n1_ n2_ n3_ n4_ n5_; (try clear hb); (try clear hb2); (try clear hk); (try clear hi); (try clear ho0); (try clear ho1); have hcv30 := own_string (P := Try.prog) Try.underlying22 Try.underlying5 Try.underlying9 (Kd.own_of_R HO532.out); have hcv30_ := fun m_ => own_string (P := Try.prog) Try.underlying22 Try.underlying5 Try.underlying9 (Kd.own_of_R (Kd.R_drewN HO532.out m_)); have hcv31 := own_string (P := Try.prog) Try.underlying22 Try.underlying5 Try.underlying9 (Kd.own_of_R HO538.out); have hcv31_ := fun m_ => own_string (P := Try.prog) Try.underlying22 Try.underlying5 Try.underlying9 (Kd.own_of_R (Kd.R_drewN HO538.out m_)))))
                        go_loopg [12] kj12 (fun kq v12 w' => ∃ (x12_4 : Int), v12 = .int .i64 x12_4 ∧ Aside0 (dovetaillaw9_StrOnce.l2 kq l0 l1 x6_12 t530 t535 t536 x12_4 = some r) ∧ Aside0 (kq ≤ kj12) ∧ Aside0 (Kd.R Kd.string 9 w' w.heap.size (fun _ => True) (.slice Ao28 x6_12.length co28) x6_12) ∧ Aside0 (Kd.R (Kd.int .u32) 43 w' w.heap.size (fun k_ => some k_ ≠ (v539 : Value).ownBlock) v533 t530) ∧ Aside0 (Kd.R (Kd.int .u8) 5 w' w.heap.size (fun _ => True) v537 t535) ∧ Aside0 (Kd.R (Kd.int .u32) 43 w' w.heap.size (fun k_ => some k_ ≠ (v533 : Value).ownBlock) v539 t536) ∧ Aside0 (Below w.heap.size w w'))
                        case atStart => exact ⟨(0), (by first | rfl | (simp; done) | (simp [*]; done)), H', ⟨Nat.le_refl _⟩, ⟨by (with_reducible repeat (first | apply Kd.R_alloc | apply Kd.R_drewN | apply Kd.R_drew)); exact HO_6.out⟩, ⟨by (with_reducible repeat (first | apply Kd.R_alloc | apply Kd.R_drewN | apply Kd.R_drew)); exact Kd.R_mono HO534.out (fun _ hk => by first | exact hk.2 | trivial)⟩, ⟨by (with_reducible repeat (first | apply Kd.R_alloc | apply Kd.R_drewN | apply Kd.R_drew)); exact Kd.R_mono HO538.out (fun _ hk => trivial)⟩, ⟨by (with_reducible repeat (first | apply Kd.R_alloc | apply Kd.R_drewN | apply Kd.R_drew)); exact Kd.R_mono HO540.out (fun _ hk => by first | exact hk.2 | trivial)⟩, ⟨by repeat (first | (with_reducible first | exact HB.out | apply below_alloc | apply pw_below_drewN | apply below_drew1) | exact HB.out)⟩⟩
                        case round =>
                          clear H'
                          try clear c1
                          try clear c2
                          try clear p2
                          try clear hcv3
                          try clear c4
                          try clear p5
                          try clear q5
                          try clear hx5
                          try clear p6
                          try clear c7
                          try clear c7b0
                          try clear c7b1
                          try clear c8
                          try clear c9
                          try clear c9b0
                          try clear c10
                          try clear c10b0
                          try clear c11
                          try clear c11b0
                          try clear c11b1
                          try clear c12
                          try clear c13
                          try clear c15
                          try clear c15b0
                          try clear c16
                          try clear c16b0
                          try clear c16b1
                          try clear c17
                          try clear c17b0
                          try clear c18
                          try clear c18b0
                          try clear c18b1
                          try clear c18b2
                          try clear c20
                          try clear c20b0
                          try clear c21
                          try clear c21b0
                          try clear c22
                          try clear c26
                          try clear c26b0
                          try clear c26b1
                          try clear hcv30
                          try clear hcv31
                          try clear hx520_0
                          try clear hx524_0
                          try clear hx525_0
                          try clear p2
                          try clear p5
                          try clear p520
                          try clear p524
                          try clear p525
                          try clear p6
                          try clear q5
                          try clear q520
                          try clear q524
                          try clear q525
                          obtain ⟨x12_4, rfl, HA, HK4, HO_6, HO_9, HO_10, HO_11, HB⟩ := hrel
                          cases gk with
                          | zero => exact absurd HA.out (by simp [dovetaillaw9_StrOnce.l2])
                          | succ k4 =>
                            have H := HA.out
                            clear HA
                            simp only [dovetaillaw9_StrOnce.l2] at H
                            by_cases c32 : x12_4 < (t536.length : Int)
                            · rw [if_pos c32] at H
                              have c32b0 : decide (x12_4 < (t536.length : Int)) = true := decide_eq_true c32
                              clear c32
                              by_cases c33 : x12_4 ≥ (l0.length : Int)
                              · rw [if_pos c33] at H
                                have c33b0 : decide ((l0.length : Int) ≤ x12_4) = true := decide_eq_true c33
                                clear c33
                                obtain ⟨ji34, hji34⟩ : ∃ j_ : Int, (wrap64 (x12_4 - (l0.length : Int))) = j_ := ⟨_, rfl⟩
                                replace H : (if 0 ≤ (ji34) then (if (ji34) < (l1.length : Int) then (if (l0.length : Int) = 0 then (none) else (if 0 ≤ x12_4 then (if 0 ≤ (Int.tmod (wrap64 (rd l1 (ji34))) (l0.length : Int)) then (if (Int.tmod (wrap64 (rd l1 (ji34))) (l0.length : Int)) < (t530.length : Int) then (if (rd t536 x12_4) = (rd t530 (Int.tmod (wrap64 (rd l1 (ji34))) (l0.length : Int))) then (dovetaillaw9_StrOnce.l2 k4 l0 l1 x6_12 t530 t535 t536 (wrap64 (x12_4 + 1))) else (some false)) else (none)) else (none)) else (none))) else (none)) else (none)) = some r := by first | (rw [hji34] at H; exact H) | (simp only [hji34] at H ⊢; exact H)
                                have hji34w : (IntKind.i64.wrap (x12_4 - (l0.length : Int))) = ji34 := (i64_w _).trans hji34
                                by_cases c35 : 0 ≤ (ji34)
                                · rw [if_pos c35] at H
                                  have c35b0 : decide (0 ≤ (ji34)) = true := decide_eq_true c35
                                  clear c35
                                  by_cases c36 : (ji34) < (l1.length : Int)
                                  · rw [if_pos c36] at H
                                    have c36b0 : decide ((ji34) < (l1.length : Int)) = true := decide_eq_true c36
                                    clear c36
                                    by_cases c37 : (l0.length : Int) = 0
                                    · rw [if_pos c37] at H
                                      exact absurd H (by simp)
                                    · rw [if_neg c37] at H
                                      have c37b0 : ((l0.length : Int) == 0) = false := beq_eq_false_iff_ne.mpr c37
                                      have c37b1 : ((l0.length : Int) != 0) = true := bne_iff_ne.mpr c37
                                      have c37b2 : ¬ (l0 = []) := fun h_ => c37 (by rw [h_]; rfl)
                                      by_cases c38 : 0 ≤ x12_4
                                      · rw [if_pos c38] at H
                                        have c38b0 : decide (0 ≤ x12_4) = true := decide_eq_true c38
                                        clear c38
                                        obtain ⟨ji39, hji39⟩ : ∃ j_ : Int, (Int.tmod (wrap64 (rd l1 (ji34))) (l0.length : Int)) = j_ := ⟨_, rfl⟩
                                        replace H : (if 0 ≤ (ji39) then (if (ji39) < (t530.length : Int) then (if (rd t536 x12_4) = (rd t530 (ji39)) then (dovetaillaw9_StrOnce.l2 k4 l0 l1 x6_12 t530 t535 t536 (wrap64 (x12_4 + 1))) else (some false)) else (none)) else (none)) = some r := by first | (rw [hji39] at H; exact H) | (simp only [hji39] at H ⊢; exact H)
                                        by_cases c40 : 0 ≤ (ji39)
                                        · rw [if_pos c40] at H
                                          have c40b0 : decide (0 ≤ (ji39)) = true := decide_eq_true c40
                                          clear c40
                                          by_cases c41 : (ji39) < (t530.length : Int)
                                          · rw [if_pos c41] at H
                                            have c41b0 : decide ((ji39) < (t530.length : Int)) = true := decide_eq_true c41
                                            clear c41
                                            by_cases c42 : (rd t536 x12_4) = (rd t530 (ji39))
                                            · rw [if_pos c42] at H
                                              have c42b0 : ((rd t536 x12_4) == (rd t530 (ji39))) = true := beq_iff_eq.mpr c42
                                              have c42b1 : ((rd t536 x12_4) != (rd t530 (ji39))) = false := bne_eq_false_iff_eq.mpr c42
                                              clear c42
                                              have H' := Aside0.mk H
                                              clear H
                                              obtain ⟨Ao43, co43, eo43⟩ := Kd.R_slice HO_11.out
                                              subst eo43
                                              have p554 : 0 ≤ ((ji34) : Int) := of_decide_eq_true (by first | (with_reducible assumption) | assumption)
                                              have q554 : (ji34) < (l1.length : Int) := of_decide_eq_true (by first | (with_reducible assumption) | assumption)
                                              obtain ⟨ad554, e554, hx554_0⟩ := Kd.at_int HR1.out (ji34) p554 q554
                                              cases e554
                                              replace hx554_0 := (HB.out.cell (World.block_lt_of_cell? w _ hx554_0)).trans hx554_0
                                              replace p554 := eq_true p554
                                              replace q554 := eq_true q554
                                              have p555 : 0 ≤ (x12_4 : Int) := of_decide_eq_true (by first | (with_reducible assumption) | assumption)
                                              have q555 : x12_4 < (t536.length : Int) := of_decide_eq_true (by first | (with_reducible assumption) | assumption)
                                              obtain ⟨ad555, e555, hx555_0⟩ := Kd.at_int (Kd.R_reads' HO_11.out).2.2 x12_4 p555 q555
                                              cases e555
                                              replace p555 := eq_true p555
                                              replace q555 := eq_true q555
                                              obtain ⟨Ao44, co44, eo44⟩ := Kd.R_slice HO_9.out
                                              subst eo44
                                              have p556 : 0 ≤ ((ji39) : Int) := of_decide_eq_true (by first | (with_reducible assumption) | assumption)
                                              have q556 : (ji39) < (t530.length : Int) := of_decide_eq_true (by first | (with_reducible assumption) | assumption)
                                              obtain ⟨ad556, e556, hx556_0⟩ := Kd.at_int (Kd.R_reads' HO_9.out).2.2 (ji39) p556 q556
                                              cases e556
                                              replace p556 := eq_true p556
                                              replace q556 := eq_true q556
                                              go_wp2
                                              repeat (go_quiet (fail); try go_wp2)
                                              go_roundg k4
                                              case measure => have := HJ4.out; have := HK2.out; have := HJ12.out; have := HK4.out; omega
                                              case rel => exact ⟨(wrap64 (x12_4 + 1)), (by first | rfl | (simp; done) | (simp [*]; done)), H', ⟨by have := HJ4.out; have := HK2.out; have := HJ12.out; have := HK4.out; omega⟩, ⟨by (with_reducible repeat (first | apply Kd.R_alloc | apply Kd.R_drewN | apply Kd.R_drew)); exact HO_6.out⟩, ⟨by (with_reducible repeat (first | apply Kd.R_alloc | apply Kd.R_drewN | apply Kd.R_drew)); exact HO_9.out⟩, ⟨by (with_reducible repeat (first | apply Kd.R_alloc | apply Kd.R_drewN | apply Kd.R_drew)); exact HO_10.out⟩, ⟨by (with_reducible repeat (first | apply Kd.R_alloc | apply Kd.R_drewN | apply Kd.R_drew)); exact HO_11.out⟩, ⟨by repeat (first | (with_reducible first | exact HB.out | apply below_alloc | apply pw_below_drewN | apply below_drew1) | exact HB.out)⟩⟩
                                            · rw [if_neg c42] at H
                                              have c42b0 : ((rd t536 x12_4) == (rd t530 (ji39))) = false := beq_eq_false_iff_ne.mpr c42
                                              have c42b1 : ((rd t536 x12_4) != (rd t530 (ji39))) = true := bne_iff_ne.mpr c42
                                              obtain rfl := Option.some.inj H
                                              obtain ⟨Ao45, co45, eo45⟩ := Kd.R_slice HO_11.out
                                              subst eo45
                                              have p554 : 0 ≤ ((ji34) : Int) := of_decide_eq_true (by first | (with_reducible assumption) | assumption)
                                              have q554 : (ji34) < (l1.length : Int) := of_decide_eq_true (by first | (with_reducible assumption) | assumption)
                                              obtain ⟨ad554, e554, hx554_0⟩ := Kd.at_int HR1.out (ji34) p554 q554
                                              cases e554
                                              replace hx554_0 := (HB.out.cell (World.block_lt_of_cell? w _ hx554_0)).trans hx554_0
                                              replace p554 := eq_true p554
                                              replace q554 := eq_true q554
                                              have p555 : 0 ≤ (x12_4 : Int) := of_decide_eq_true (by first | (with_reducible assumption) | assumption)
                                              have q555 : x12_4 < (t536.length : Int) := of_decide_eq_true (by first | (with_reducible assumption) | assumption)
                                              obtain ⟨ad555, e555, hx555_0⟩ := Kd.at_int (Kd.R_reads' HO_11.out).2.2 x12_4 p555 q555
                                              cases e555
                                              replace p555 := eq_true p555
                                              replace q555 := eq_true q555
                                              obtain ⟨Ao46, co46, eo46⟩ := Kd.R_slice HO_9.out
                                              subst eo46
                                              have p556 : 0 ≤ ((ji39) : Int) := of_decide_eq_true (by first | (with_reducible assumption) | assumption)
                                              have q556 : (ji39) < (t530.length : Int) := of_decide_eq_true (by first | (with_reducible assumption) | assumption)
                                              obtain ⟨ad556, e556, hx556_0⟩ := Kd.at_int (Kd.R_reads' HO_9.out).2.2 (ji39) p556 q556
                                              cases e556
                                              replace p556 := eq_true p556
                                              replace q556 := eq_true q556
                                              go_wp2
                                              repeat (go_quiet (fail); try go_wp2)
                                              go_ret
                                              exact ⟨by first | rfl | (simp [errW_none, errW_some] <;> rfl) | (simp only [← hji34, ← hji39]; first | rfl | (simp [errW_none, errW_some] <;> rfl)) | (simp [*, errW_none, errW_some] <;> rfl), by repeat (first | (with_reducible first | exact HB.out | apply below_alloc | apply pw_below_drewN | apply below_drew1) | exact HB.out)⟩
                                          · rw [if_neg c41] at H
                                            exact absurd H (by simp)
                                        · rw [if_neg c40] at H
                                          exact absurd H (by simp)
                                      · rw [if_neg c38] at H
                                        exact absurd H (by simp)
                                  · rw [if_neg c36] at H
                                    exact absurd H (by simp)
                                · rw [if_neg c35] at H
                                  exact absurd H (by simp)
                              · rw [if_neg c33] at H
                                have c33b0 : decide ((l0.length : Int) ≤ x12_4) = false := decide_eq_false c33
                                clear c33
                                by_cases c47 : 0 ≤ x12_4
                                · rw [if_pos c47] at H
                                  have c47b0 : decide (0 ≤ x12_4) = true := decide_eq_true c47
                                  clear c47
                                  by_cases c48 : x12_4 < (t530.length : Int)
                                  · rw [if_pos c48] at H
                                    have c48b0 : decide (x12_4 < (t530.length : Int)) = true := decide_eq_true c48
                                    clear c48
                                    by_cases c49 : (rd t536 x12_4) = (rd t530 x12_4)
                                    · rw [if_pos c49] at H
                                      have c49b0 : ((rd t536 x12_4) == (rd t530 x12_4)) = true := beq_iff_eq.mpr c49
                                      have c49b1 : ((rd t536 x12_4) != (rd t530 x12_4)) = false := bne_eq_false_iff_eq.mpr c49
                                      clear c49
                                      have H' := Aside0.mk H
                                      clear H
                                      obtain ⟨Ao50, co50, eo50⟩ := Kd.R_slice HO_11.out
                                      subst eo50
                                      have p557 : 0 ≤ (x12_4 : Int) := of_decide_eq_true (by first | (with_reducible assumption) | assumption)
                                      have q557 : x12_4 < (t536.length : Int) := of_decide_eq_true (by first | (with_reducible assumption) | assumption)
                                      obtain ⟨ad557, e557, hx557_0⟩ := Kd.at_int (Kd.R_reads' HO_11.out).2.2 x12_4 p557 q557
                                      cases e557
                                      replace p557 := eq_true p557
                                      replace q557 := eq_true q557
                                      obtain ⟨Ao51, co51, eo51⟩ := Kd.R_slice HO_9.out
                                      subst eo51
                                      have p558 : 0 ≤ (x12_4 : Int) := of_decide_eq_true (by first | (with_reducible assumption) | assumption)
                                      have q558 : x12_4 < (t530.length : Int) := of_decide_eq_true (by first | (with_reducible assumption) | assumption)
                                      obtain ⟨ad558, e558, hx558_0⟩ := Kd.at_int (Kd.R_reads' HO_9.out).2.2 x12_4 p558 q558
                                      cases e558
                                      replace p558 := eq_true p558
                                      replace q558 := eq_true q558
                                      go_wp2
                                      repeat (go_quiet (fail); try go_wp2)
                                      go_roundg k4
                                      case measure => have := HJ4.out; have := HK2.out; have := HJ12.out; have := HK4.out; omega
                                      case rel => exact ⟨(wrap64 (x12_4 + 1)), (by first | rfl | (simp; done) | (simp [*]; done)), H', ⟨by have := HJ4.out; have := HK2.out; have := HJ12.out; have := HK4.out; omega⟩, ⟨by (with_reducible repeat (first | apply Kd.R_alloc | apply Kd.R_drewN | apply Kd.R_drew)); exact HO_6.out⟩, ⟨by (with_reducible repeat (first | apply Kd.R_alloc | apply Kd.R_drewN | apply Kd.R_drew)); exact HO_9.out⟩, ⟨by (with_reducible repeat (first | apply Kd.R_alloc | apply Kd.R_drewN | apply Kd.R_drew)); exact HO_10.out⟩, ⟨by (with_reducible repeat (first | apply Kd.R_alloc | apply Kd.R_drewN | apply Kd.R_drew)); exact HO_11.out⟩, ⟨by repeat (first | (with_reducible first | exact HB.out | apply below_alloc | apply pw_below_drewN | apply below_drew1) | exact HB.out)⟩⟩
                                    · rw [if_neg c49] at H
                                      have c49b0 : ((rd t536 x12_4) == (rd t530 x12_4)) = false := beq_eq_false_iff_ne.mpr c49
                                      have c49b1 : ((rd t536 x12_4) != (rd t530 x12_4)) = true := bne_iff_ne.mpr c49
                                      obtain rfl := Option.some.inj H
                                      obtain ⟨Ao52, co52, eo52⟩ := Kd.R_slice HO_11.out
                                      subst eo52
                                      have p557 : 0 ≤ (x12_4 : Int) := of_decide_eq_true (by first | (with_reducible assumption) | assumption)
                                      have q557 : x12_4 < (t536.length : Int) := of_decide_eq_true (by first | (with_reducible assumption) | assumption)
                                      obtain ⟨ad557, e557, hx557_0⟩ := Kd.at_int (Kd.R_reads' HO_11.out).2.2 x12_4 p557 q557
                                      cases e557
                                      replace p557 := eq_true p557
                                      replace q557 := eq_true q557
                                      obtain ⟨Ao53, co53, eo53⟩ := Kd.R_slice HO_9.out
                                      subst eo53
                                      have p558 : 0 ≤ (x12_4 : Int) := of_decide_eq_true (by first | (with_reducible assumption) | assumption)
                                      have q558 : x12_4 < (t530.length : Int) := of_decide_eq_true (by first | (with_reducible assumption) | assumption)
                                      obtain ⟨ad558, e558, hx558_0⟩ := Kd.at_int (Kd.R_reads' HO_9.out).2.2 x12_4 p558 q558
                                      cases e558
                                      replace p558 := eq_true p558
                                      replace q558 := eq_true q558
                                      go_wp2
                                      repeat (go_quiet (fail); try go_wp2)
                                      go_ret
                                      exact ⟨by first | rfl | (simp [errW_none, errW_some] <;> rfl) | (simp [*, errW_none, errW_some] <;> rfl), by repeat (first | (with_reducible first | exact HB.out | apply below_alloc | apply pw_below_drewN | apply below_drew1) | exact HB.out)⟩
                                  · rw [if_neg c48] at H
                                    exact absurd H (by simp)
                                · rw [if_neg c47] at H
                                  exact absurd H (by simp)
                            · rw [if_neg c32] at H
                              have c32b0 : decide (x12_4 < (t536.length : Int)) = false := decide_eq_false c32
                              clear c32
                              by_cases c54 : x6_12.length < 8796093022208
                              · rw [if_pos c54] at H
                                have LMc54 := Aside0.mk c54
                                clear c54
                                obtain ⟨y541, hy541⟩ : ∃ y_ : List ByteArray, y_ = (x6_12 ++ [(⟨#[97, 110, 100, 32, 111, 110, 101, 32, 109, 111, 114, 101]⟩ : ByteArray)]) := ⟨_, rfl⟩
                                replace H : ((strtab_Build.f y541).bind fun bt544 => (if 0 ≤ (t535.length : Int) then (if (t535.length : Int) ≤ (bt544.1.length : Int) then (some ((strOfNums (bt544.1.take ((t535.length : Int) : Int).toNat)).toList == (strOfNums t535).toList)) else (none)) else (none))) = some r := by first | (rw [hy541]; with_reducible exact H) | (have H2_ := (Option.bind_some _ _).symm.trans H; rw [hy541]; with_reducible exact H2_) | (have H2_ := (Option.bind_some _ _).symm.trans H; with_reducible exact H2_) | with_reducible exact H | (rw [hy541]; exact H) | exact H
                                have Ny541 := Aside0.mk hy541
                                clear hy541
                                replace H := Option.bind_eq_some_iff.mp H
                                obtain ⟨⟨t544, t545⟩, A550, H⟩ := H
                                replace H : (if 0 ≤ (t535.length : Int) then (if (t535.length : Int) ≤ (t544.length : Int) then (some ((strOfNums (t544.take ((t535.length : Int) : Int).toNat)).toList == (strOfNums t535).toList)) else (none)) else (none)) = some r := H
                                have A55 := Aside0.mk A550
                                clear A550
                                by_cases c56 : 0 ≤ (t535.length : Int)
                                · rw [if_pos c56] at H
                                  have c56b0 := eq_true c56
                                  have c56b1 : decide (0 ≤ (t535.length : Int)) = true := decide_eq_true c56
                                  clear c56
                                  by_cases c57 : (t535.length : Int) ≤ (t544.length : Int)
                                  · rw [if_pos c57] at H
                                    have c57b0 := eq_true c57
                                    have c57b1 : decide ((t535.length : Int) ≤ (t544.length : Int)) = true := decide_eq_true c57
                                    clear c57
                                    obtain ⟨y550, hy550⟩ : ∃ y_ : List Int, y_ = (t544.take ((t535.length : Int) : Int).toNat) := ⟨_, rfl⟩
                                    replace H : (some ((strOfNums y550).toList == (strOfNums t535).toList)) = some r := by first | (rw [hy550]; with_reducible exact H) | (have H2_ := (Option.bind_some _ _).symm.trans H; rw [hy550]; with_reducible exact H2_) | (have H2_ := (Option.bind_some _ _).symm.trans H; with_reducible exact H2_) | with_reducible exact H | (rw [hy550]; exact H) | exact H
                                    have Ny550 := Aside0.mk hy550
                                    clear hy550
                                    obtain rfl := Option.some.inj H
                                    obtain ⟨Ao58, co58, eo58⟩ := Kd.R_slice HO_11.out
                                    subst eo58
                                    go_wp2_with (first | ((with_reducible refine gate_builtin (b := .append) (xs := #[.tmp 112, .tmp 113]) rfl ?_); (try (refine gate_guard (by rfl) ?_; dsimp only)); at_builtin; refine Kd.R_append Kd.string (w0 := w) w.heap.size rfl (.tmp 112) (.tmp 113) 41 9 (.string ⟨#[]⟩) 16 rfl Try.underlying41 info9 rfl (by decide) (by omega) (.slice Ao28 x6_12.length co28) x6_12 (⟨#[97, 110, 100, 32, 111, 110, 101, 32, 109, 111, 114, 101]⟩ : ByteArray) [.string (⟨#[97, 110, 100, 32, 111, 110, 101, 32, 109, 111, 114, 101]⟩ : ByteArray)] (fun _ => True) (fun _ => False) rfl rfl ?aP (fun _ hk => hk.elim) ?aF ?aO ?aB ?aS ?aL ?_; (case aP => exact rfl); (case aB => exact (by repeat (first | (with_reducible first | exact HB.out | apply below_alloc | apply pw_below_drewN | apply below_drew1) | exact HB.out))); (case aF => exact (fun _ _ => trivial)); (case aO => exact (by (with_reducible repeat (first | apply Kd.R_alloc | apply Kd.R_drewN | apply Kd.R_drew)); exact HO_6.out)); (case aS => exact (below_size (by repeat (first | (with_reducible first | exact HB.out | apply below_alloc | apply pw_below_drewN | apply below_drew1) | exact HB.out)))); (case aL => have := LMc54.out; omega); intro v542 w59 ho hb hg hat; rw [← Ny541.out] at ho; have n0_ := Aside0.mk (Kd.R_over' (by (with_reducible repeat (first | apply Kd.R_alloc | apply Kd.R_drewN | apply Kd.R_drew)); exact HO_9.out) (Kd.R_typed (by (with_reducible repeat (first | apply Kd.R_alloc | apply Kd.R_drewN | apply Kd.R_drew)); exact HO_6.out)) (by decide) hg); have n1_ := Aside0.mk (Kd.R_over' (by (with_reducible repeat (first | apply Kd.R_alloc | apply Kd.R_drewN | apply Kd.R_drew)); exact HO_10.out) (Kd.R_typed (by (with_reducible repeat (first | apply Kd.R_alloc | apply Kd.R_drewN | apply Kd.R_drew)); exact HO_6.out)) (by decide) hg); have n2_ := Aside0.mk (Kd.R_over' (by (with_reducible repeat (first | apply Kd.R_alloc | apply Kd.R_drewN | apply Kd.R_drew)); exact HO_11.out) (Kd.R_typed (by (with_reducible repeat (first | apply Kd.R_alloc | apply Kd.R_drewN | apply Kd.R_drew)); exact HO_6.out)) (by decide) hg); have n3_ := Aside0.mk (hb); have n4_ := Aside0.mk (ho); clear HO_9; clear HO_10; clear HO_11; clear HB; clear HO_6; have HO_9 := n0_; have HO_10 := n1_; have HO_11 := n2_; have HB := n3_; have HO543 := n4_; clear n0_ n1_ n2_ n3_ n4_; clear ho hb hg hat; obtain ⟨Ao60, co60, eo60⟩ := Kd.R_slice HO543.out; subst eo60) | (go_at_call 29; (with_reducible refine (strtab_Build.calls _ _ y541 t544 t545 _ ?side1 ?side2 A55.out).mono ?_); (case side1 => repeat (first | exact (Kd.R_reads' HO543.out).2.2 | (with_reducible refine Kd.C_alloc ?_ _) | (with_reducible refine Kd.C_drewN ?_ _) | (with_reducible refine Kd.C_drew ?_))); (case side2 => exact (Kd.R_reads' HO543.out).2.1); rintro e w61 ⟨v546, v548, rfl, ho0, ho1, hb⟩; have n0_ := Aside0.mk (Kd.R_elder' (by (with_reducible repeat (first | apply Kd.R_alloc | apply Kd.R_drewN | apply Kd.R_drew)); exact HO_9.out) (Kd.R_base ho1) hb); have n1_ := Aside0.mk (Kd.R_elder' (by (with_reducible repeat (first | apply Kd.R_alloc | apply Kd.R_drewN | apply Kd.R_drew)); exact HO_10.out) (Kd.R_base ho0) hb); have n2_ := Aside0.mk (Kd.R_elder' (by (with_reducible repeat (first | apply Kd.R_alloc | apply Kd.R_drewN | apply Kd.R_drew)); exact HO_11.out) (Kd.R_base ho1) hb); have n3_ := Aside0.mk (Kd.R_below (by (with_reducible repeat (first | apply Kd.R_alloc | apply Kd.R_drewN | apply Kd.R_drew)); exact HO543.out) hb); have n4_ := Aside0.mk (Kd.R_lower (Kd.R_new' ho0 (Kd.R_lt (by (with_reducible repeat (first | apply Kd.R_alloc | apply Kd.R_drewN | apply Kd.R_drew)); exact HO_10.out))) (below_size (by repeat (first | (with_reducible first | exact HB.out | apply below_alloc | apply pw_below_drewN | apply below_drew1) | exact HB.out)))); have n5_ := Aside0.mk (Kd.R_lower (Kd.R_new' (Kd.R_new' ho1 (Kd.R_lt (by (with_reducible repeat (first | apply Kd.R_alloc | apply Kd.R_drewN | apply Kd.R_drew)); exact HO_9.out))) (Kd.R_lt (by (with_reducible repeat (first | apply Kd.R_alloc | apply Kd.R_drewN | apply Kd.R_drew)); exact HO_11.out))) (below_size (by repeat (first | (with_reducible first | exact HB.out | apply below_alloc | apply pw_below_drewN | apply below_drew1) | exact HB.out)))); have n6_ := Aside0.mk (below_step (by repeat (first | (with_reducible first | exact HB.out | apply below_alloc | apply pw_below_drewN | apply below_drew1) | exact HB.out)) hb); clear HO_9; clear HO_10; clear HO_11; clear HO543; clear HB; have HO_9 := n0_; have HO_10 := n1_; have HO_11 := n2_; have HO543 := n3_; have HO547 := n4_; have HO549 := n5_; have HB := n6_; clear n0_ n1_ n2_ n3_ n4_ n5_ n6_; (try clear hb); (try clear hb2); (try clear hk); (try clear hi); (try clear ho0); (try clear ho1); obtain ⟨Ao62, co62, eo62⟩ := Kd.R_slice HO_10.out; subst eo62; obtain ⟨Ao64, co64, eo64⟩ := Kd.R_slice HO547.out; subst eo64; have q63 : ((t535.length : Int) : Int) ≤ ((t544.length : Int) : Int) := of_decide_eq_true (by first | (with_reducible assumption) | assumption); obtain ⟨i063, hi063, _, hsz63, _⟩ := info_parts info5; have hroom63 : t544.length ≤ co64 := (Kd.R_reads' HO547.out).2.1; have hC63 : Kd.C (Kd.int .u8) _ Ao64 t544.length t544 := (Kd.R_reads' HO547.out).2.2; have hcut63 := cut_to (P := Try.prog) 22 5 .i64 Try.underlying22 hi063 Ao64 t544.length co64 (t535.length : Int) (of_decide_eq_true (by first | (with_reducible assumption) | assumption)) q63 hroom63; have hr63 := Kd.C_take (m := ((t535.length : Int) : Int).toNat) hC63 (by omega); have hy63 : y550.length = ((t535.length : Int) : Int).toNat := (by rw [Ny550.out, List.length_take]; omega); rw [← Ny550.out] at hr63; rw [← hy63] at hcut63; have HR553 := Aside0.mk hr63; have HC553 := Aside0.mk (show y550.length ≤ co64 from by omega); clear hr63 hC63 hroom63 hi063 hsz63; have KY63 := Aside0.mk hy63; clear hy63; have KL63 := Aside0.mk (show ((t535.length : Int) : Int).toNat ≤ t544.length from by omega); replace q63 := eq_true q63; have hcv65_ := fun m_ => Kd.C_string (P := Try.prog) (A := Ao64) (c := co64) Try.underlying22 Try.underlying5 Try.underlying9 (Kd.C_drewN HR553.out m_); have hcv65 := Kd.C_string (P := Try.prog) (A := Ao64) (c := co64) Try.underlying22 Try.underlying5 Try.underlying9 (by repeat (first | (with_reducible exact HR553.out) | (with_reducible refine Kd.C_alloc ?_ _) | (with_reducible refine Kd.C_drewN ?_ _) | (with_reducible refine Kd.C_drew ?_) | exact HR553.out)); have hcv66 := own_string (P := Try.prog) Try.underlying22 Try.underlying5 Try.underlying9 (Kd.own_of_R HO_10.out); have hcv66_ := fun m_ => own_string (P := Try.prog) Try.underlying22 Try.underlying5 Try.underlying9 (Kd.own_of_R (Kd.R_drewN HO_10.out m_))))
                                    repeat (go_quiet (first | ((with_reducible refine gate_builtin (b := .append) (xs := #[.tmp 112, .tmp 113]) rfl ?_); (try (refine gate_guard (by rfl) ?_; dsimp only)); at_builtin; refine Kd.R_append Kd.string (w0 := w) w.heap.size rfl (.tmp 112) (.tmp 113) 41 9 (.string ⟨#[]⟩) 16 rfl Try.underlying41 info9 rfl (by decide) (by omega) (.slice Ao28 x6_12.length co28) x6_12 (⟨#[97, 110, 100, 32, 111, 110, 101, 32, 109, 111, 114, 101]⟩ : ByteArray) [.string (⟨#[97, 110, 100, 32, 111, 110, 101, 32, 109, 111, 114, 101]⟩ : ByteArray)] (fun _ => True) (fun _ => False) rfl rfl ?aP (fun _ hk => hk.elim) ?aF ?aO ?aB ?aS ?aL ?_; (case aP => exact rfl); (case aB => exact (by repeat (first | (with_reducible first | exact HB.out | apply below_alloc | apply pw_below_drewN | apply below_drew1) | exact HB.out))); (case aF => exact (fun _ _ => trivial)); (case aO => exact (by (with_reducible repeat (first | apply Kd.R_alloc | apply Kd.R_drewN | apply Kd.R_drew)); exact HO_6.out)); (case aS => exact (below_size (by repeat (first | (with_reducible first | exact HB.out | apply below_alloc | apply pw_below_drewN | apply below_drew1) | exact HB.out)))); (case aL => have := LMc54.out; omega); intro v542 w59 ho hb hg hat; rw [← Ny541.out] at ho; have n0_ := Aside0.mk (Kd.R_over' (by (with_reducible repeat (first | apply Kd.R_alloc | apply Kd.R_drewN | apply Kd.R_drew)); exact HO_9.out) (Kd.R_typed (by (with_reducible repeat (first | apply Kd.R_alloc | apply Kd.R_drewN | apply Kd.R_drew)); exact HO_6.out)) (by decide) hg); have n1_ := Aside0.mk (Kd.R_over' (by (with_reducible repeat (first | apply Kd.R_alloc | apply Kd.R_drewN | apply Kd.R_drew)); exact HO_10.out) (Kd.R_typed (by (with_reducible repeat (first | apply Kd.R_alloc | apply Kd.R_drewN | apply Kd.R_drew)); exact HO_6.out)) (by decide) hg); have n2_ := Aside0.mk (Kd.R_over' (by (with_reducible repeat (first | apply Kd.R_alloc | apply Kd.R_drewN | apply Kd.R_drew)); exact HO_11.out) (Kd.R_typed (by (with_reducible repeat (first | apply Kd.R_alloc | apply Kd.R_drewN | apply Kd.R_drew)); exact HO_6.out)) (by decide) hg); have n3_ := Aside0.mk (hb); have n4_ := Aside0.mk (ho); clear HO_9; clear HO_10; clear HO_11; clear HB; clear HO_6; have HO_9 := n0_; have HO_10 := n1_; have HO_11 := n2_; have HB := n3_; have HO543 := n4_; clear n0_ n1_ n2_ n3_ n4_; clear ho hb hg hat; obtain ⟨Ao60, co60, eo60⟩ := Kd.R_slice HO543.out; subst eo60) | (go_at_call 29; (with_reducible refine (strtab_Build.calls _ _ y541 t544 t545 _ ?side1 ?side2 A55.out).mono ?_); (case side1 => repeat (first | exact (Kd.R_reads' HO543.out).2.2 | (with_reducible refine Kd.C_alloc ?_ _) | (with_reducible refine Kd.C_drewN ?_ _) | (with_reducible refine Kd.C_drew ?_))); (case side2 => exact (Kd.R_reads' HO543.out).2.1); rintro e w61 ⟨v546, v548, rfl, ho0, ho1, hb⟩; have n0_ := Aside0.mk (Kd.R_elder' (by (with_reducible repeat (first | apply Kd.R_alloc | apply Kd.R_drewN | apply Kd.R_drew)); exact HO_9.out) (Kd.R_base ho1) hb); have n1_ := Aside0.mk (Kd.R_elder' (by (with_reducible repeat (first | apply Kd.R_alloc | apply Kd.R_drewN | apply Kd.R_drew)); exact HO_10.out) (Kd.R_base ho0) hb); have n2_ := Aside0.mk (Kd.R_elder' (by (with_reducible repeat (first | apply Kd.R_alloc | apply Kd.R_drewN | apply Kd.R_drew)); exact HO_11.out) (Kd.R_base ho1) hb); have n3_ := Aside0.mk (Kd.R_below (by (with_reducible repeat (first | apply Kd.R_alloc | apply Kd.R_drewN | apply Kd.R_drew)); exact HO543.out) hb); have n4_ := Aside0.mk (Kd.R_lower (Kd.R_new' ho0 (Kd.R_lt (by (with_reducible repeat (first | apply Kd.R_alloc | apply Kd.R_drewN | apply Kd.R_drew)); exact HO_10.out))) (below_size (by repeat (first | (with_reducible first | exact HB.out | apply below_alloc | apply pw_below_drewN | apply below_drew1) | exact HB.out)))); have n5_ := Aside0.mk (Kd.R_lower (Kd.R_new' (Kd.R_new' ho1 (Kd.R_lt (by (with_reducible repeat (first | apply Kd.R_alloc | apply Kd.R_drewN | apply Kd.R_drew)); exact HO_9.out))) (Kd.R_lt (by (with_reducible repeat (first | apply Kd.R_alloc | apply Kd.R_drewN | apply Kd.R_drew)); exact HO_11.out))) (below_size (by repeat (first | (with_reducible first | exact HB.out | apply below_alloc | apply pw_below_drewN | apply below_drew1) | exact HB.out)))); have n6_ := Aside0.mk (below_step (by repeat (first | (with_reducible first | exact HB.out | apply below_alloc | apply pw_below_drewN | apply below_drew1) | exact HB.out)) hb); clear HO_9; clear HO_10; clear HO_11; clear HO543; clear HB; have HO_9 := n0_; have HO_10 := n1_; have HO_11 := n2_; have HO543 := n3_; have HO547 := n4_; have HO549 := n5_; have HB := n6_; clear n0_ n1_ n2_ n3_ n4_ n5_ n6_; (try clear hb); (try clear hb2); (try clear hk); (try clear hi); (try clear ho0); (try clear ho1); obtain ⟨Ao62, co62, eo62⟩ := Kd.R_slice HO_10.out; subst eo62; obtain ⟨Ao64, co64, eo64⟩ := Kd.R_slice HO547.out; subst eo64; have q63 : ((t535.length : Int) : Int) ≤ ((t544.length : Int) : Int) := of_decide_eq_true (by first | (with_reducible assumption) | assumption); obtain ⟨i063, hi063, _, hsz63, _⟩ := info_parts info5; have hroom63 : t544.length ≤ co64 := (Kd.R_reads' HO547.out).2.1; have hC63 : Kd.C (Kd.int .u8) _ Ao64 t544.length t544 := (Kd.R_reads' HO547.out).2.2; have hcut63 := cut_to (P := Try.prog) 22 5 .i64 Try.underlying22 hi063 Ao64 t544.length co64 (t535.length : Int) (of_decide_eq_true (by first | (with_reducible assumption) | assumption)) q63 hroom63; have hr63 := Kd.C_take (m := ((t535.length : Int) : Int).toNat) hC63 (by omega); have hy63 : y550.length = ((t535.length : Int) : Int).toNat := (by rw [Ny550.out, List.length_take]; omega); rw [← Ny550.out] at hr63; rw [← hy63] at hcut63; have HR553 := Aside0.mk hr63; have HC553 := Aside0.mk (show y550.length ≤ co64 from by omega); clear hr63 hC63 hroom63 hi063 hsz63; have KY63 := Aside0.mk hy63; clear hy63; have KL63 := Aside0.mk (show ((t535.length : Int) : Int).toNat ≤ t544.length from by omega); replace q63 := eq_true q63; have hcv65_ := fun m_ => Kd.C_string (P := Try.prog) (A := Ao64) (c := co64) Try.underlying22 Try.underlying5 Try.underlying9 (Kd.C_drewN HR553.out m_); have hcv65 := Kd.C_string (P := Try.prog) (A := Ao64) (c := co64) Try.underlying22 Try.underlying5 Try.underlying9 (by repeat (first | (with_reducible exact HR553.out) | (with_reducible refine Kd.C_alloc ?_ _) | (with_reducible refine Kd.C_drewN ?_ _) | (with_reducible refine Kd.C_drew ?_) | exact HR553.out)); have hcv66 := own_string (P := Try.prog) Try.underlying22 Try.underlying5 Try.underlying9 (Kd.own_of_R HO_10.out); have hcv66_ := fun m_ => own_string (P := Try.prog) Try.underlying22 Try.underlying5 Try.underlying9 (Kd.own_of_R (Kd.R_drewN HO_10.out m_)))); try go_wp2_with (first | ((with_reducible refine gate_builtin (b := .append) (xs := #[.tmp 112, .tmp 113]) rfl ?_); (try (refine gate_guard (by rfl) ?_; dsimp only)); at_builtin; refine Kd.R_append Kd.string (w0 := w) w.heap.size rfl (.tmp 112) (.tmp 113) 41 9 (.string ⟨#[]⟩) 16 rfl Try.underlying41 info9 rfl (by decide) (by omega) (.slice Ao28 x6_12.length co28) x6_12 (⟨#[97, 110, 100, 32, 111, 110, 101, 32, 109, 111, 114, 101]⟩ : ByteArray) [.string (⟨#[97, 110, 100, 32, 111, 110, 101, 32, 109, 111, 114, 101]⟩ : ByteArray)] (fun _ => True) (fun _ => False) rfl rfl ?aP (fun _ hk => hk.elim) ?aF ?aO ?aB ?aS ?aL ?_; (case aP => exact rfl); (case aB => exact (by repeat (first | (with_reducible first | exact HB.out | apply below_alloc | apply pw_below_drewN | apply below_drew1) | exact HB.out))); (case aF => exact (fun _ _ => trivial)); (case aO => exact (by (with_reducible repeat (first | apply Kd.R_alloc | apply Kd.R_drewN | apply Kd.R_drew)); exact HO_6.out)); (case aS => exact (below_size (by repeat (first | (with_reducible first | exact HB.out | apply below_alloc | apply pw_below_drewN | apply below_drew1) | exact HB.out)))); (case aL => have := LMc54.out; omega); intro v542 w59 ho hb hg hat; rw [← Ny541.out] at ho; have n0_ := Aside0.mk (Kd.R_over' (by (with_reducible repeat (first | apply Kd.R_alloc | apply Kd.R_drewN | apply Kd.R_drew)); exact HO_9.out) (Kd.R_typed (by (with_reducible repeat (first | apply Kd.R_alloc | apply Kd.R_drewN | apply Kd.R_drew)); exact HO_6.out)) (by decide) hg); have n1_ := Aside0.mk (Kd.R_over' (by (with_reducible repeat (first | apply Kd.R_alloc | apply Kd.R_drewN | apply Kd.R_drew)); exact HO_10.out) (Kd.R_typed (by (with_reducible repeat (first | apply Kd.R_alloc | apply Kd.R_drewN | apply Kd.R_drew)); exact HO_6.out)) (by decide) hg); have n2_ := Aside0.mk (Kd.R_over' (by (with_reducible repeat (first | apply Kd.R_alloc | apply Kd.R_drewN | apply Kd.R_drew)); exact HO_11.out) (Kd.R_typed (by (with_reducible repeat (first | apply Kd.R_alloc | apply Kd.R_drewN | apply Kd.R_drew)); exact HO_6.out)) (by decide) hg); have n3_ := Aside0.mk (hb); have n4_ := Aside0.mk (ho); clear HO_9; clear HO_10; clear HO_11; clear HB; clear HO_6; have HO_9 := n0_; have HO_10 := n1_; have HO_11 := n2_; have HB := n3_; have HO543 := n4_; clear n0_ n1_ n2_ n3_ n4_; clear ho hb hg hat; obtain ⟨Ao60, co60, eo60⟩ := Kd.R_slice HO543.out; subst eo60) | (go_at_call 29; (with_reducible refine (strtab_Build.calls _ _ y541 t544 t545 _ ?side1 ?side2 A55.out).mono ?_); (case side1 => repeat (first | exact (Kd.R_reads' HO543.out).2.2 | (with_reducible refine Kd.C_alloc ?_ _) | (with_reducible refine Kd.C_drewN ?_ _) | (with_reducible refine Kd.C_drew ?_))); (case side2 => exact (Kd.R_reads' HO543.out).2.1); rintro e w61 ⟨v546, v548, rfl, ho0, ho1, hb⟩; have n0_ := Aside0.mk (Kd.R_elder' (by (with_reducible repeat (first | apply Kd.R_alloc | apply Kd.R_drewN | apply Kd.R_drew)); exact HO_9.out) (Kd.R_base ho1) hb); have n1_ := Aside0.mk (Kd.R_elder' (by (with_reducible repeat (first | apply Kd.R_alloc | apply Kd.R_drewN | apply Kd.R_drew)); exact HO_10.out) (Kd.R_base ho0) hb); have n2_ := Aside0.mk (Kd.R_elder' (by (with_reducible repeat (first | apply Kd.R_alloc | apply Kd.R_drewN | apply Kd.R_drew)); exact HO_11.out) (Kd.R_base ho1) hb); have n3_ := Aside0.mk (Kd.R_below (by (with_reducible repeat (first | apply Kd.R_alloc | apply Kd.R_drewN | apply Kd.R_drew)); exact HO543.out) hb); have n4_ := Aside0.mk (Kd.R_lower (Kd.R_new' ho0 (Kd.R_lt (by (with_reducible repeat (first | apply Kd.R_alloc | apply Kd.R_drewN | apply Kd.R_drew)); exact HO_10.out))) (below_size (by repeat (first | (with_reducible first | exact HB.out | apply below_alloc | apply pw_below_drewN | apply below_drew1) | exact HB.out)))); have n5_ := Aside0.mk (Kd.R_lower (Kd.R_new' (Kd.R_new' ho1 (Kd.R_lt (by (with_reducible repeat (first | apply Kd.R_alloc | apply Kd.R_drewN | apply Kd.R_drew)); exact HO_9.out))) (Kd.R_lt (by (with_reducible repeat (first | apply Kd.R_alloc | apply Kd.R_drewN | apply Kd.R_drew)); exact HO_11.out))) (below_size (by repeat (first | (with_reducible first | exact HB.out | apply below_alloc | apply pw_below_drewN | apply below_drew1) | exact HB.out)))); have n6_ := Aside0.mk (below_step (by repeat (first | (with_reducible first | exact HB.out | apply below_alloc | apply pw_below_drewN | apply below_drew1) | exact HB.out)) hb); clear HO_9; clear HO_10; clear HO_11; clear HO543; clear HB; have HO_9 := n0_; have HO_10 := n1_; have HO_11 := n2_; have HO543 := n3_; have HO547 := n4_; have HO549 := n5_; have HB := n6_; clear n0_ n1_ n2_ n3_ n4_ n5_ n6_; (try clear hb); (try clear hb2); (try clear hk); (try clear hi); (try clear ho0); (try clear ho1); obtain ⟨Ao62, co62, eo62⟩ := Kd.R_slice HO_10.out; subst eo62; obtain ⟨Ao64, co64, eo64⟩ := Kd.R_slice HO547.out; subst eo64; have q63 : ((t535.length : Int) : Int) ≤ ((t544.length : Int) : Int) := of_decide_eq_true (by first | (with_reducible assumption) | assumption); obtain ⟨i063, hi063, _, hsz63, _⟩ := info_parts info5; have hroom63 : t544.length ≤ co64 := (Kd.R_reads' HO547.out).2.1; have hC63 : Kd.C (Kd.int .u8) _ Ao64 t544.length t544 := (Kd.R_reads' HO547.out).2.2; have hcut63 := cut_to (P := Try.prog) 22 5 .i64 Try.underlying22 hi063 Ao64 t544.length co64 (t535.length : Int) (of_decide_eq_true (by first | (with_reducible assumption) | assumption)) q63 hroom63; have hr63 := Kd.C_take (m := ((t535.length : Int) : Int).toNat) hC63 (by omega); have hy63 : y550.length = ((t535.length : Int) : Int).toNat := (by rw [Ny550.out, List.length_take]; omega); rw [← Ny550.out] at hr63; rw [← hy63] at hcut63; have HR553 := Aside0.mk hr63; have HC553 := Aside0.mk (show y550.length ≤ co64 from by omega); clear hr63 hC63 hroom63 hi063 hsz63; have KY63 := Aside0.mk hy63; clear hy63; have KL63 := Aside0.mk (show ((t535.length : Int) : Int).toNat ≤ t544.length from by omega); replace q63 := eq_true q63; have hcv65_ := fun m_ => Kd.C_string (P := Try.prog) (A := Ao64) (c := co64) Try.underlying22 Try.underlying5 Try.underlying9 (Kd.C_drewN HR553.out m_); have hcv65 := Kd.C_string (P := Try.prog) (A := Ao64) (c := co64) Try.underlying22 Try.underlying5 Try.underlying9 (by repeat (first | (with_reducible exact HR553.out) | (with_reducible refine Kd.C_alloc ?_ _) | (with_reducible refine Kd.C_drewN ?_ _) | (with_reducible refine Kd.C_drew ?_) | exact HR553.out)); have hcv66 := own_string (P := Try.prog) Try.underlying22 Try.underlying5 Try.underlying9 (Kd.own_of_R HO_10.out); have hcv66_ := fun m_ => own_string (P := Try.prog) Try.underlying22 Try.underlying5 Try.underlying9 (Kd.own_of_R (Kd.R_drewN HO_10.out m_)))))
                                    go_ret
                                    exact ⟨by first | rfl | (simp [errW_none, errW_some] <;> rfl) | (simp [*, errW_none, errW_some] <;> rfl), by repeat (first | (with_reducible first | exact HB.out | apply below_alloc | apply pw_below_drewN | apply below_drew1) | exact HB.out)⟩
                                  · rw [if_neg c57] at H
                                    exact absurd H (by simp)
                                · rw [if_neg c56] at H
                                  exact absurd H (by simp)
                              · rw [if_neg c54] at H
                                exact absurd H (by simp)
                      · rw [if_neg c26] at H
                        have c26b0 : ((strOfNums t529).toList == (strOfNums t535).toList) = false := beq_eq_false_iff_ne.mpr c26
                        have c26b1 : ((strOfNums t529).toList != (strOfNums t535).toList) = true := bne_iff_ne.mpr c26
                        obtain rfl := Option.some.inj H
                        go_wp2_with (first | (go_at_call 29; (with_reducible refine (strtab_Build.calls _ _ l0 t529 t530 _ ?side1 ?side2 A24.out).mono ?_); (case side1 => repeat (first | exact (Kd.C_below HR0.out HB.out) | (with_reducible refine Kd.C_alloc ?_ _) | (with_reducible refine Kd.C_drewN ?_ _) | (with_reducible refine Kd.C_drew ?_))); (case side2 => exact HC0.out); rintro e w67 ⟨v531, v533, rfl, ho0, ho1, hb⟩; have n0_ := Aside0.mk (Kd.R_below (by (with_reducible repeat (first | apply Kd.R_alloc | apply Kd.R_drewN | apply Kd.R_drew)); exact HO_6.out) hb); have n1_ := Aside0.mk (Kd.R_lower ho0 (below_size (by repeat (first | (with_reducible first | exact HB.out | apply below_alloc | apply pw_below_drewN | apply below_drew1) | exact HB.out)))); have n2_ := Aside0.mk (Kd.R_lower ho1 (below_size (by repeat (first | (with_reducible first | exact HB.out | apply below_alloc | apply pw_below_drewN | apply below_drew1) | exact HB.out)))); have n3_ := Aside0.mk (below_step (by repeat (first | (with_reducible first | exact HB.out | apply below_alloc | apply pw_below_drewN | apply below_drew1) | exact HB.out)) hb); clear HO_6; clear HB; have HO_6 := n0_; have HO532 := n1_; have HO534 := n2_; have HB := n3_; clear n0_ n1_ n2_ n3_; (try clear hb); (try clear hb2); (try clear hk); (try clear hi); (try clear ho0); (try clear ho1); obtain ⟨Ao68, co68, eo68⟩ := Kd.R_slice HO_6.out; subst eo68) | (go_at_call 29; (with_reducible refine (strtab_Build.calls _ _ x6_12 t535 t536 _ ?side1 ?side2 A25.out).mono ?_); (case side1 => repeat (first | exact (Kd.R_reads' HO_6.out).2.2 | (with_reducible refine Kd.C_alloc ?_ _) | (with_reducible refine Kd.C_drewN ?_ _) | (with_reducible refine Kd.C_drew ?_))); (case side2 => exact (Kd.R_reads' HO_6.out).2.1); rintro e w69 ⟨v537, v539, rfl, ho0, ho1, hb⟩; have n0_ := Aside0.mk (Kd.R_below (by (with_reducible repeat (first | apply Kd.R_alloc | apply Kd.R_drewN | apply Kd.R_drew)); exact HO_6.out) hb); have n1_ := Aside0.mk (Kd.R_elder' (by (with_reducible repeat (first | apply Kd.R_alloc | apply Kd.R_drewN | apply Kd.R_drew)); exact HO532.out) (Kd.R_base ho0) hb); have n2_ := Aside0.mk (Kd.R_elder' (by (with_reducible repeat (first | apply Kd.R_alloc | apply Kd.R_drewN | apply Kd.R_drew)); exact HO534.out) (Kd.R_base ho1) hb); have n3_ := Aside0.mk (Kd.R_lower (Kd.R_new' ho0 (Kd.R_lt (by (with_reducible repeat (first | apply Kd.R_alloc | apply Kd.R_drewN | apply Kd.R_drew)); exact HO532.out))) (below_size (by repeat (first | (with_reducible first | exact HB.out | apply below_alloc | apply pw_below_drewN | apply below_drew1) | exact HB.out)))); have n4_ := Aside0.mk (Kd.R_lower (Kd.R_new' ho1 (Kd.R_lt (by (with_reducible repeat (first | apply Kd.R_alloc | apply Kd.R_drewN | apply Kd.R_drew)); exact HO534.out))) (below_size (by repeat (first | (with_reducible first | exact HB.out | apply below_alloc | apply pw_below_drewN | apply below_drew1) | exact HB.out)))); have n5_ := Aside0.mk (below_step (by repeat (first | (with_reducible first | exact HB.out | apply below_alloc | apply pw_below_drewN | apply below_drew1) | exact HB.out)) hb); clear HO_6; clear HO532; clear HO534; clear HB; have HO_6 := n0_; have HO532 := n1_; have HO534 := n2_; have HO538 := n3_; have HO540 := n4_; have HB := n5_; clear n0_ n1_ n2_ n3_ n4_ n5_; (try clear hb); (try clear hb2); (try clear hk); (try clear hi); (try clear ho0); (try clear ho1); have hcv70 := own_string (P := Try.prog) Try.underlying22 Try.underlying5 Try.underlying9 (Kd.own_of_R HO532.out); have hcv70_ := fun m_ => own_string (P := Try.prog) Try.underlying22 Try.underlying5 Try.underlying9 (Kd.own_of_R (Kd.R_drewN HO532.out m_)); have hcv71 := own_string (P := Try.prog) Try.underlying22 Try.underlying5 Try.underlying9 (Kd.own_of_R HO538.out); have hcv71_ := fun m_ => own_string (P := Try.prog) Try.underlying22 Try.underlying5 Try.underlying9 (Kd.own_of_R (Kd.R_drewN HO538.out m_))))
                        repeat (go_quiet (first | (go_at_call 29; (with_reducible refine (strtab_Build.calls _ _ l0 t529 t530 _ ?side1 ?side2 A24.out).mono ?_); (case side1 => repeat (first | exact (Kd.C_below HR0.out HB.out) | (with_reducible refine Kd.C_alloc ?_ _) | (with_reducible refine Kd.C_drewN ?_ _) | (with_reducible refine Kd.C_drew ?_))); (case side2 => exact HC0.out); rintro e w67 ⟨v531, v533, rfl, ho0, ho1, hb⟩; have n0_ := Aside0.mk (Kd.R_below (by (with_reducible repeat (first | apply Kd.R_alloc | apply Kd.R_drewN | apply Kd.R_drew)); exact HO_6.out) hb); have n1_ := Aside0.mk (Kd.R_lower ho0 (below_size (by repeat (first | (with_reducible first | exact HB.out | apply below_alloc | apply pw_below_drewN | apply below_drew1) | exact HB.out)))); have n2_ := Aside0.mk (Kd.R_lower ho1 (below_size (by repeat (first | (with_reducible first | exact HB.out | apply below_alloc | apply pw_below_drewN | apply below_drew1) | exact HB.out)))); have n3_ := Aside0.mk (below_step (by repeat (first | (with_reducible first | exact HB.out | apply below_alloc | apply pw_below_drewN | apply below_drew1) | exact HB.out)) hb); clear HO_6; clear HB; have HO_6 := n0_; have HO532 := n1_; have HO534 := n2_; have HB := n3_; clear n0_ n1_ n2_ n3_; (try clear hb); (try clear hb2); (try clear hk); (try clear hi); (try clear ho0); (try clear ho1); obtain ⟨Ao68, co68, eo68⟩ := Kd.R_slice HO_6.out; subst eo68) | (go_at_call 29; (with_reducible refine (strtab_Build.calls _ _ x6_12 t535 t536 _ ?side1 ?side2 A25.out).mono ?_); (case side1 => repeat (first | exact (Kd.R_reads' HO_6.out).2.2 | (with_reducible refine Kd.C_alloc ?_ _) | (with_reducible refine Kd.C_drewN ?_ _) | (with_reducible refine Kd.C_drew ?_))); (case side2 => exact (Kd.R_reads' HO_6.out).2.1); rintro e w69 ⟨v537, v539, rfl, ho0, ho1, hb⟩; have n0_ := Aside0.mk (Kd.R_below (by (with_reducible repeat (first | apply Kd.R_alloc | apply Kd.R_drewN | apply Kd.R_drew)); exact HO_6.out) hb); have n1_ := Aside0.mk (Kd.R_elder' (by (with_reducible repeat (first | apply Kd.R_alloc | apply Kd.R_drewN | apply Kd.R_drew)); exact HO532.out) (Kd.R_base ho0) hb); have n2_ := Aside0.mk (Kd.R_elder' (by (with_reducible repeat (first | apply Kd.R_alloc | apply Kd.R_drewN | apply Kd.R_drew)); exact HO534.out) (Kd.R_base ho1) hb); have n3_ := Aside0.mk (Kd.R_lower (Kd.R_new' ho0 (Kd.R_lt (by (with_reducible repeat (first | apply Kd.R_alloc | apply Kd.R_drewN | apply Kd.R_drew)); exact HO532.out))) (below_size (by repeat (first | (with_reducible first | exact HB.out | apply below_alloc | apply pw_below_drewN | apply below_drew1) | exact HB.out)))); have n4_ := Aside0.mk (Kd.R_lower (Kd.R_new' ho1 (Kd.R_lt (by (with_reducible repeat (first | apply Kd.R_alloc | apply Kd.R_drewN | apply Kd.R_drew)); exact HO534.out))) (below_size (by repeat (first | (with_reducible first | exact HB.out | apply below_alloc | apply pw_below_drewN | apply below_drew1) | exact HB.out)))); have n5_ := Aside0.mk (below_step (by repeat (first | (with_reducible first | exact HB.out | apply below_alloc | apply pw_below_drewN | apply below_drew1) | exact HB.out)) hb); clear HO_6; clear HO532; clear HO534; clear HB; have HO_6 := n0_; have HO532 := n1_; have HO534 := n2_; have HO538 := n3_; have HO540 := n4_; have HB := n5_; clear n0_ n1_ n2_ n3_ n4_ n5_; (try clear hb); (try clear hb2); (try clear hk); (try clear hi); (try clear ho0); (try clear ho1); have hcv70 := own_string (P := Try.prog) Try.underlying22 Try.underlying5 Try.underlying9 (Kd.own_of_R HO532.out); have hcv70_ := fun m_ => own_string (P := Try.prog) Try.underlying22 Try.underlying5 Try.underlying9 (Kd.own_of_R (Kd.R_drewN HO532.out m_)); have hcv71 := own_string (P := Try.prog) Try.underlying22 Try.underlying5 Try.underlying9 (Kd.own_of_R HO538.out); have hcv71_ := fun m_ => own_string (P := Try.prog) Try.underlying22 Try.underlying5 Try.underlying9 (Kd.own_of_R (Kd.R_drewN HO538.out m_)))); try go_wp2_with (first | (go_at_call 29; (with_reducible refine (strtab_Build.calls _ _ l0 t529 t530 _ ?side1 ?side2 A24.out).mono ?_); (case side1 => repeat (first | exact (Kd.C_below HR0.out HB.out) | (with_reducible refine Kd.C_alloc ?_ _) | (with_reducible refine Kd.C_drewN ?_ _) | (with_reducible refine Kd.C_drew ?_))); (case side2 => exact HC0.out); rintro e w67 ⟨v531, v533, rfl, ho0, ho1, hb⟩; have n0_ := Aside0.mk (Kd.R_below (by (with_reducible repeat (first | apply Kd.R_alloc | apply Kd.R_drewN | apply Kd.R_drew)); exact HO_6.out) hb); have n1_ := Aside0.mk (Kd.R_lower ho0 (below_size (by repeat (first | (with_reducible first | exact HB.out | apply below_alloc | apply pw_below_drewN | apply below_drew1) | exact HB.out)))); have n2_ := Aside0.mk (Kd.R_lower ho1 (below_size (by repeat (first | (with_reducible first | exact HB.out | apply below_alloc | apply pw_below_drewN | apply below_drew1) | exact HB.out)))); have n3_ := Aside0.mk (below_step (by repeat (first | (with_reducible first | exact HB.out | apply below_alloc | apply pw_below_drewN | apply below_drew1) | exact HB.out)) hb); clear HO_6; clear HB; have HO_6 := n0_; have HO532 := n1_; have HO534 := n2_; have HB := n3_; clear n0_ n1_ n2_ n3_; (try clear hb); (try clear hb2); (try clear hk); (try clear hi); (try clear ho0); (try clear ho1); obtain ⟨Ao68, co68, eo68⟩ := Kd.R_slice HO_6.out; subst eo68) | (go_at_call 29; (with_reducible refine (strtab_Build.calls _ _ x6_12 t535 t536 _ ?side1 ?side2 A25.out).mono ?_); (case side1 => repeat (first | exact (Kd.R_reads' HO_6.out).2.2 | (with_reducible refine Kd.C_alloc ?_ _) | (with_reducible refine Kd.C_drewN ?_ _) | (with_reducible refine Kd.C_drew ?_))); (case side2 => exact (Kd.R_reads' HO_6.out).2.1); rintro e w69 ⟨v537, v539, rfl, ho0, ho1, hb⟩; have n0_ := Aside0.mk (Kd.R_below (by (with_reducible repeat (first | apply Kd.R_alloc | apply Kd.R_drewN | apply Kd.R_drew)); exact HO_6.out) hb); have n1_ := Aside0.mk (Kd.R_elder' (by (with_reducible repeat (first | apply Kd.R_alloc | apply Kd.R_drewN | apply Kd.R_drew)); exact HO532.out) (Kd.R_base ho0) hb); have n2_ := Aside0.mk (Kd.R_elder' (by (with_reducible repeat (first | apply Kd.R_alloc | apply Kd.R_drewN | apply Kd.R_drew)); exact HO534.out) (Kd.R_base ho1) hb); have n3_ := Aside0.mk (Kd.R_lower (Kd.R_new' ho0 (Kd.R_lt (by (with_reducible repeat (first | apply Kd.R_alloc | apply Kd.R_drewN | apply Kd.R_drew)); exact HO532.out))) (below_size (by repeat (first | (with_reducible first | exact HB.out | apply below_alloc | apply pw_below_drewN | apply below_drew1) | exact HB.out)))); have n4_ := Aside0.mk (Kd.R_lower (Kd.R_new' ho1 (Kd.R_lt (by (with_reducible repeat (first | apply Kd.R_alloc | apply Kd.R_drewN | apply Kd.R_drew)); exact HO534.out))) (below_size (by repeat (first | (with_reducible first | exact HB.out | apply below_alloc | apply pw_below_drewN | apply below_drew1) | exact HB.out)))); have n5_ := Aside0.mk (below_step (by repeat (first | (with_reducible first | exact HB.out | apply below_alloc | apply pw_below_drewN | apply below_drew1) | exact HB.out)) hb); clear HO_6; clear HO532; clear HO534; clear HB; have HO_6 := n0_; have HO532 := n1_; have HO534 := n2_; have HO538 := n3_; have HO540 := n4_; have HB := n5_; clear n0_ n1_ n2_ n3_ n4_ n5_; (try clear hb); (try clear hb2); (try clear hk); (try clear hi); (try clear ho0); (try clear ho1); have hcv70 := own_string (P := Try.prog) Try.underlying22 Try.underlying5 Try.underlying9 (Kd.own_of_R HO532.out); have hcv70_ := fun m_ => own_string (P := Try.prog) Try.underlying22 Try.underlying5 Try.underlying9 (Kd.own_of_R (Kd.R_drewN HO532.out m_)); have hcv71 := own_string (P := Try.prog) Try.underlying22 Try.underlying5 Try.underlying9 (Kd.own_of_R HO538.out); have hcv71_ := fun m_ => own_string (P := Try.prog) Try.underlying22 Try.underlying5 Try.underlying9 (Kd.own_of_R (Kd.R_drewN HO538.out m_)))))
                        go_ret
                        exact ⟨by first | rfl | (simp [errW_none, errW_some] <;> rfl) | (simp [*, errW_none, errW_some] <;> rfl), by repeat (first | (with_reducible first | exact HB.out | apply below_alloc | apply pw_below_drewN | apply below_drew1) | exact HB.out)⟩
                · rw [if_neg c12] at H
                  exact absurd H (by simp)
  · replace c4 := Bool.eq_false_iff.mpr c4
    subst c4
    have H1 : (some false) = some r := by rw [if_neg (show ¬ (false = true) by decide)] at H; exact H
    clear H
    have H := H1
    clear H1
    obtain rfl := Option.some.inj H
    go_enter Try.func13, Try.ntmps13
    go_wp2_with (first | (go_at_call 26; (with_reducible refine (dovetaillaw9_known.calls  false _ A3.out).mono ?_); rintro e w72 ⟨rfl, hb⟩; have n0_ := Aside0.mk (below_step (by repeat (first | (with_reducible first | exact HB.out | apply below_alloc | apply pw_below_drewN | apply below_drew1) | exact HB.out)) hb); clear HB; have HB := n0_; clear n0_; (try clear hb); (try clear hb2); (try clear hk); (try clear hi)))
    repeat (go_quiet (first | (go_at_call 26; (with_reducible refine (dovetaillaw9_known.calls  false _ A3.out).mono ?_); rintro e w72 ⟨rfl, hb⟩; have n0_ := Aside0.mk (below_step (by repeat (first | (with_reducible first | exact HB.out | apply below_alloc | apply pw_below_drewN | apply below_drew1) | exact HB.out)) hb); clear HB; have HB := n0_; clear n0_; (try clear hb); (try clear hb2); (try clear hk); (try clear hi))); try go_wp2_with (first | (go_at_call 26; (with_reducible refine (dovetaillaw9_known.calls  false _ A3.out).mono ?_); rintro e w72 ⟨rfl, hb⟩; have n0_ := Aside0.mk (below_step (by repeat (first | (with_reducible first | exact HB.out | apply below_alloc | apply pw_below_drewN | apply below_drew1) | exact HB.out)) hb); clear HB; have HB := n0_; clear n0_; (try clear hb); (try clear hb2); (try clear hk); (try clear hi))))
    go_ret
    exact ⟨by first | rfl | (simp [errW_none, errW_some] <;> rfl) | (simp [*, errW_none, errW_some] <;> rfl), by repeat (first | (with_reducible first | exact HB.out | apply below_alloc | apply pw_below_drewN | apply below_drew1) | exact HB.out)⟩

end Go.Proofs.Ytojhnljjfmgjdaa.P
