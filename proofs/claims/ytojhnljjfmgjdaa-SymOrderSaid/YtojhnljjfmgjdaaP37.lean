-- printed by this session's program (wip/print), out of the translation; Lean checks it
import Derived.Test.YtojhnljjfmgjdaaP0
import Derived.Test.YtojhnljjfmgjdaaP14
import Derived.Test.YtojhnljjfmgjdaaP34
import Derived.Test.YtojhnljjfmgjdaaP35
import Derived.Test.YtojhnljjfmgjdaaP36
namespace Go.Proofs.Ytojhnljjfmgjdaa.P
open Go.RowKit Go.Proofs.YtojhnljjfmgjdaaW.PrintWords Go.Proofs.YtojhnljjfmgjdaaW.PrintLast Go.Proofs.YtojhnljjfmgjdaaW.PrintMore
attribute [local go_sem] max2_int min2_int max_two min_two max_three min_three max_four min_four   -- for this text's walks alone
set_option linter.unusedVariables false
set_option linter.unusedSimpArgs false
open Go.Proofs.YtojhnljjfmgjdaaX

/-! ### symtab_Parse: function 23 -/
mutual
def symtab_Parse.j0 : Nat → List Int → List Int → Int → Int → Bool → Option ((List (S45)) × List ByteArray × Int)
  | 0, _, _, _, _, _ => none
  | k + 1, x0, x1, x2, x9, x41 => if x41 = true then (some (([] : List (S45)), ([] : List ByteArray), 32)) else (if 24 ≤ (x0.length : Int) then (if 24 ≤ 281474976710656 then ((bytes_Equal.f (x0.take 24) (List.replicate 24 0)).bind fun t260 => (if t260 = true then (symtab_Parse.l0 k x0 x1 x2 x9 (([(⟨0, 0, 0, 0, 0, 0, 0⟩ : S45)] : List (S45))) (([(⟨#[]⟩ : ByteArray)] : List ByteArray)) 1) else (some (([] : List (S45)), ([] : List ByteArray), 32)))) else (none)) else (none))
def symtab_Parse.l0 : Nat → List Int → List Int → Int → Int → List (S45) → List ByteArray → Int → Option ((List (S45)) × List ByteArray × Int)
  | 0, _, _, _, _, _, _, _ => none
  | k + 1, x0, x1, x2, x9, x10, x11, x12 => if x12 < x9 then (if 0 ≤ (wrap64 (x12 * 24)) then (if (wrap64 (x12 * 24)) ≤ (wrap64 ((wrap64 (x12 + 1)) * 24)) then (if (wrap64 ((wrap64 (x12 + 1)) * 24)) ≤ (x0.length : Int) then ((symtab_symbol.f k ((x0.take ((wrap64 ((wrap64 (x12 + 1)) * 24)) : Int).toNat).drop ((wrap64 (x12 * 24)) : Int).toNat)).bind fun bt268 => ((strtab_Get.f x1 bt268.1).bind fun bt276 => (if bt276.2 = true then ((symtab_right.f bt268.1 bt268.2.1 bt268.2.2.1 bt268.2.2.2.1 bt268.2.2.2.2.1 bt268.2.2.2.2.2.1 bt268.2.2.2.2.2.2 bt276.1 x12 (wrap64 (x2))).bind fun t278 => (if t278 = true then (if x10.length < 2513169434916 then (if x11.length < 8796093022208 then (symtab_Parse.l0 k x0 x1 x2 x9 (x10 ++ [(⟨bt268.1, bt268.2.1, bt268.2.2.1, bt268.2.2.2.1, bt268.2.2.2.2.1, bt268.2.2.2.2.2.1, bt268.2.2.2.2.2.2⟩ : S45)]) (x11 ++ [bt276.1]) (wrap64 (x12 + 1))) else (none)) else (none)) else (some (([] : List (S45)), ([] : List ByteArray), 32)))) else (some (([] : List (S45)), ([] : List ByteArray), 32))))) else (none)) else (none)) else (none)) else (some (x10, x11, 0))
end
def symtab_Parse.f (k : Nat) (l0 : List Int) (l1 : List Int) (a2 : Int) : Option ((List (S45)) × List ByteArray × Int) := if ((l0.length : Int) % 24) = 0 then (if (wrap64 ((l0.length : Int) / 24)) < 1 then (symtab_Parse.j0 k l0 l1 a2 (wrap64 ((l0.length : Int) / 24)) true) else (if (wrap64 ((l0.length : Int) / 24)) > 500 then (symtab_Parse.j0 k l0 l1 a2 (wrap64 ((l0.length : Int) / 24)) true) else (if a2 < 1 then (symtab_Parse.j0 k l0 l1 a2 (wrap64 ((l0.length : Int) / 24)) true) else (symtab_Parse.j0 k l0 l1 a2 (wrap64 ((l0.length : Int) / 24)) (decide ((IntKind.u64.wrap (a2)) > (IntKind.u64.wrap (wrap64 ((l0.length : Int) / 24))))))))) else (symtab_Parse.j0 k l0 l1 a2 (wrap64 ((l0.length : Int) / 24)) true)
theorem symtab_Parse.mono_l : ∀ k, (∀ y0 y1 y2 y3 y4, LeO (symtab_Parse.j0 k y0 y1 y2 y3 y4) (symtab_Parse.j0 (k + 1) y0 y1 y2 y3 y4)) ∧ (∀ y0 y1 y2 y3 y4 y5 y6, LeO (symtab_Parse.l0 k y0 y1 y2 y3 y4 y5 y6) (symtab_Parse.l0 (k + 1) y0 y1 y2 y3 y4 y5 y6))
  | 0 => ⟨fun _ _ _ _ _ r h => by simp [symtab_Parse.j0] at h, fun _ _ _ _ _ _ _ r h => by simp [symtab_Parse.l0] at h⟩
  | k + 1 => by
    obtain ⟨ih0, ih1⟩ := symtab_Parse.mono_l k
    refine ⟨?_, ?_⟩
    · intro y0 y1 y2 y3 y4
      unfold symtab_Parse.j0
      repeat' first
      | (with_reducible exact ih0 _ _ _ _ _)
      | (with_reducible exact ih1 _ _ _ _ _ _ _)
      | (with_reducible exact symtab_symbol.mono _ _)
      | (with_reducible exact LeO.refl _)
      | (with_reducible exact LeO.none _)
      | (with_reducible refine LeO.ite ?_ ?_)
      | (with_reducible refine LeO.bind ?_ (fun _ => ?_))
      | exact ih0 _ _ _ _ _
      | exact ih1 _ _ _ _ _ _ _
      | exact symtab_symbol.mono _ _
      | exact LeO.none _
      | refine LeO.ite ?_ ?_
      | refine LeO.bind ?_ (fun _ => ?_)
    · intro y0 y1 y2 y3 y4 y5 y6
      unfold symtab_Parse.l0
      repeat' first
      | (with_reducible exact ih0 _ _ _ _ _)
      | (with_reducible exact ih1 _ _ _ _ _ _ _)
      | (with_reducible exact symtab_symbol.mono _ _)
      | (with_reducible exact LeO.refl _)
      | (with_reducible exact LeO.none _)
      | (with_reducible refine LeO.ite ?_ ?_)
      | (with_reducible refine LeO.bind ?_ (fun _ => ?_))
      | exact ih0 _ _ _ _ _
      | exact ih1 _ _ _ _ _ _ _
      | exact symtab_symbol.mono _ _
      | exact LeO.none _
      | refine LeO.ite ?_ ?_
      | refine LeO.bind ?_ (fun _ => ?_)
theorem symtab_Parse.mono : ∀ a0 a1 a2 k, LeO (symtab_Parse.f k a0 a1 a2) (symtab_Parse.f (k + 1) a0 a1 a2) := by
  intro a0 a1 a2 k
  obtain ⟨ih0, ih1⟩ := symtab_Parse.mono_l k
  unfold symtab_Parse.f
  repeat' first
      | (with_reducible exact ih0 _ _ _ _ _)
      | (with_reducible exact ih1 _ _ _ _ _ _ _)
      | (with_reducible exact symtab_symbol.mono _ _)
      | (with_reducible exact LeO.refl _)
      | (with_reducible exact LeO.none _)
      | (with_reducible refine LeO.ite ?_ ?_)
      | (with_reducible refine LeO.bind ?_ (fun _ => ?_))
      | exact ih0 _ _ _ _ _
      | exact ih1 _ _ _ _ _ _ _
      | exact symtab_symbol.mono _ _
      | exact LeO.none _
      | refine LeO.ite ?_ ?_
      | refine LeO.bind ?_ (fun _ => ?_)
set_option maxHeartbeats 8000000 in
set_option maxRecDepth 100000 in
theorem symtab_Parse.calls (k : Nat) (A0 : Option Addr) (c0 : Nat) (l0 : List Int) (A1 : Option Addr) (c1 : Nat) (l1 : List Int) (a2 : Int) (r1 : List (S45)) (r2 : List ByteArray) (r3 : Int) (w : World) (hr0 : Kd.C (Kd.int .u8) w A0 l0.length l0) (hc0 : l0.length ≤ c0) (hr1 : Kd.C (Kd.int .u8) w A1 l1.length l1) (hc1 : l1.length ≤ c1) (h : symtab_Parse.f k l0 l1 a2 = some (r1, r2, r3)) :
    Calls Try.prog 23 #[.slice A0 l0.length c0, .slice A1 l1.length c1, .int .u32 a2] w fun e w' => ∃ v0_ v1_ : Value, e = .returned (.tuple #[v0_, v1_, .int .i64 r3]) ∧ Kd.R k45 45 w' w.heap.size (fun _ => True) v0_ r1 ∧ Kd.R Kd.string 9 w' w.heap.size (fun _ => True) v1_ r2 ∧ Below w.heap.size w w' := by
  have hu45 := Try.underlying45
  have HR0 := Aside0.mk hr0
  have HC0 := Aside0.mk hc0
  clear hr0 hc0
  have HR1 := Aside0.mk hr1
  have HC1 := Aside0.mk hc1
  clear hr1 hc1
  have HB := Aside0.mk (Below.refl w.heap.size w)
  have H : (if ((l0.length : Int) % 24) = 0 then (if (wrap64 ((l0.length : Int) / 24)) < 1 then (symtab_Parse.j0 k l0 l1 a2 (wrap64 ((l0.length : Int) / 24)) true) else (if (wrap64 ((l0.length : Int) / 24)) > 500 then (symtab_Parse.j0 k l0 l1 a2 (wrap64 ((l0.length : Int) / 24)) true) else (if a2 < 1 then (symtab_Parse.j0 k l0 l1 a2 (wrap64 ((l0.length : Int) / 24)) true) else (symtab_Parse.j0 k l0 l1 a2 (wrap64 ((l0.length : Int) / 24)) (decide ((IntKind.u64.wrap (a2)) > (IntKind.u64.wrap (wrap64 ((l0.length : Int) / 24))))))))) else (symtab_Parse.j0 k l0 l1 a2 (wrap64 ((l0.length : Int) / 24)) true)) = some (r1, r2, r3) := h
  clear h
  have HC4 := Aside0.mk H
  clear H
  go_enter Try.func23, Try.ntmps23
  go_upto_region 2 with (fail)
  go_cut [41] (fun v41 wc => ∃ (kq : Nat) (x41_3 : Bool), v41 = .bool x41_3 ∧ Aside0 (symtab_Parse.j0 kq l0 l1 a2 (wrap64 ((l0.length : Int) / 24)) x41_3 = some (r1, r2, r3)) ∧ Aside0 (kq ≤ k) ∧ Aside0 (Below w.heap.size w wc))
  case first =>
    have H := HC4.out
    clear HC4
    by_cases c5 : ((l0.length : Int) % 24) = 0
    · rw [if_pos c5] at H
      have c5b0 : (((l0.length : Int) % 24) == 0) = true := beq_iff_eq.mpr c5
      have c5b1 : (((l0.length : Int) % 24) != 0) = false := bne_eq_false_iff_eq.mpr c5
      clear c5
      (first | rw [c5b0] | (simp only [i64_w, i32_w]; rw [c5b0]) | skip)
      by_cases c6 : (wrap64 ((l0.length : Int) / 24)) < 1
      · rw [if_pos c6] at H
        have c6b0 : decide ((wrap64 ((l0.length : Int) / 24)) < 1) = true := decide_eq_true c6
        clear c6
        have H' := Aside0.mk H
        clear H
        go_wp2
        go_meet
        case rel => exact ⟨_, (true), (by first | rfl | (simp; done) | (simp [*]; done)), H', ⟨by first | omega | exact Nat.le_refl _⟩, ⟨by repeat (first | (with_reducible first | exact HB.out | apply below_alloc | apply pw_below_drewN | apply below_drew1) | exact HB.out)⟩⟩
      · rw [if_neg c6] at H
        have c6b0 : decide ((wrap64 ((l0.length : Int) / 24)) < 1) = false := decide_eq_false c6
        clear c6
        by_cases c7 : (wrap64 ((l0.length : Int) / 24)) > 500
        · rw [if_pos c7] at H
          have c7b0 : decide (500 < (wrap64 ((l0.length : Int) / 24))) = true := decide_eq_true c7
          clear c7
          have H' := Aside0.mk H
          clear H
          go_wp2
          go_meet
          case rel => exact ⟨_, (true), (by first | rfl | (simp; done) | (simp [*]; done)), H', ⟨by first | omega | exact Nat.le_refl _⟩, ⟨by repeat (first | (with_reducible first | exact HB.out | apply below_alloc | apply pw_below_drewN | apply below_drew1) | exact HB.out)⟩⟩
        · rw [if_neg c7] at H
          have c7b0 : decide (500 < (wrap64 ((l0.length : Int) / 24))) = false := decide_eq_false c7
          clear c7
          by_cases c8 : a2 < 1
          · rw [if_pos c8] at H
            have c8b0 : decide (a2 < 1) = true := decide_eq_true c8
            clear c8
            have H' := Aside0.mk H
            clear H
            go_wp2
            go_meet
            case rel => exact ⟨_, (true), (by first | rfl | (simp; done) | (simp [*]; done)), H', ⟨by first | omega | exact Nat.le_refl _⟩, ⟨by repeat (first | (with_reducible first | exact HB.out | apply below_alloc | apply pw_below_drewN | apply below_drew1) | exact HB.out)⟩⟩
          · rw [if_neg c8] at H
            have c8b0 : decide (a2 < 1) = false := decide_eq_false c8
            clear c8
            have H' := Aside0.mk H
            clear H
            go_wp2
            go_meet
            case rel => exact ⟨_, (decide ((IntKind.u64.wrap (a2)) > (IntKind.u64.wrap (wrap64 ((l0.length : Int) / 24))))), (by first | rfl | (simp; done) | (simp [*]; done)), H', ⟨by first | omega | exact Nat.le_refl _⟩, ⟨by repeat (first | (with_reducible first | exact HB.out | apply below_alloc | apply pw_below_drewN | apply below_drew1) | exact HB.out)⟩⟩
    · rw [if_neg c5] at H
      have c5b0 : (((l0.length : Int) % 24) == 0) = false := beq_eq_false_iff_ne.mpr c5
      have c5b1 : (((l0.length : Int) % 24) != 0) = true := bne_iff_ne.mpr c5
      (first | rw [c5b0] | (simp only [i64_w, i32_w]; rw [c5b0]) | skip)
      have H' := Aside0.mk H
      clear H
      go_wp2
      go_meet
      case rel => exact ⟨_, (true), (by first | rfl | (simp; done) | (simp [*]; done)), H', ⟨by first | omega | exact Nat.le_refl _⟩, ⟨by repeat (first | (with_reducible first | exact HB.out | apply below_alloc | apply pw_below_drewN | apply below_drew1) | exact HB.out)⟩⟩
  case rest =>
    clear HC4
    try clear c1
    try clear c2
    try clear p2
    try clear c5
    try clear c5b0
    try clear c5b1
    try clear c6
    try clear c6b0
    try clear p6
    try clear c7
    try clear c7b0
    try clear c8
    try clear c8b0
    obtain ⟨kq, x41_3, rfl, HA, HJ3, HB⟩ := hcut
    cases kq with
    | zero => exact absurd HA.out (by simp [symtab_Parse.j0])
    | succ kj3 =>
      have H := HA.out
      clear HA
      simp only [symtab_Parse.j0] at H
      by_cases c9 : x41_3 = true
      · subst c9
        have H1 : (some (([] : List (S45)), ([] : List ByteArray), 32)) = some (r1, r2, r3) := by rw [if_pos rfl] at H; exact H
        clear H
        have H := H1
        clear H1
        simp only [Option.some.injEq, Prod.mk.injEq] at H
        obtain ⟨rfl, rfl, rfl⟩ := H
        go_wp2
        go_ret3
        exact ⟨_, _, by first | rfl | (simp [errW_none, errW_some] <;> rfl) | (simp [*, errW_none, errW_some] <;> rfl), by first | exact Kd.R_nil _ _ _ _ _ | exact Kd.N_nil _ _ _ _ _ | exact Kd.V_nil _ _ _ _ _ | exact Kd.Q_nil _ _ _ _ _ | exact Kd.S_nil _ _ _ _ _, by first | exact Kd.R_nil _ _ _ _ _ | exact Kd.N_nil _ _ _ _ _ | exact Kd.V_nil _ _ _ _ _ | exact Kd.Q_nil _ _ _ _ _ | exact Kd.S_nil _ _ _ _ _, by repeat (first | (with_reducible first | exact HB.out | apply below_alloc | apply pw_below_drewN | apply below_drew1) | exact HB.out)⟩
      · replace c9 := Bool.eq_false_iff.mpr c9
        subst c9
        have H1 : (if 24 ≤ (l0.length : Int) then (if 24 ≤ 281474976710656 then ((bytes_Equal.f (l0.take 24) (List.replicate 24 0)).bind fun t260 => (if t260 = true then (symtab_Parse.l0 kj3 l0 l1 a2 (wrap64 ((l0.length : Int) / 24)) (([(⟨0, 0, 0, 0, 0, 0, 0⟩ : S45)] : List (S45))) (([(⟨#[]⟩ : ByteArray)] : List ByteArray)) 1) else (some (([] : List (S45)), ([] : List ByteArray), 32)))) else (none)) else (none)) = some (r1, r2, r3) := by rw [if_neg (show ¬ (false = true) by decide)] at H; exact H
        clear H
        have H := H1
        clear H1
        by_cases c10 : 24 ≤ (l0.length : Int)
        · rw [if_pos c10] at H
          have c10b0 := eq_true c10
          have c10b1 : decide (24 ≤ (l0.length : Int)) = true := decide_eq_true c10
          clear c10
          by_cases c11 : 24 ≤ 281474976710656
          · rw [if_pos c11] at H
            have c11b0 := eq_true c11
            have c11b1 : decide (24 ≤ 281474976710656) = true := decide_eq_true c11
            clear c11
            obtain ⟨y257, hy257⟩ : ∃ y_ : List Int, y_ = (List.replicate 24 0) := ⟨_, rfl⟩
            replace H : ((bytes_Equal.f (l0.take 24) y257).bind fun t260 => (if t260 = true then (symtab_Parse.l0 kj3 l0 l1 a2 (wrap64 ((l0.length : Int) / 24)) (([(⟨0, 0, 0, 0, 0, 0, 0⟩ : S45)] : List (S45))) (([(⟨#[]⟩ : ByteArray)] : List ByteArray)) 1) else (some (([] : List (S45)), ([] : List ByteArray), 32)))) = some (r1, r2, r3) := by first | (rw [hy257]; with_reducible exact H) | (have H2_ := (Option.bind_some _ _).symm.trans H; rw [hy257]; with_reducible exact H2_) | (have H2_ := (Option.bind_some _ _).symm.trans H; with_reducible exact H2_) | with_reducible exact H | (rw [hy257]; exact H) | exact H
            have Ny257 := Aside0.mk hy257
            clear hy257
            replace H := Option.bind_eq_some_iff.mp H
            obtain ⟨t260, A120, H⟩ := H
            replace H : (if t260 = true then (symtab_Parse.l0 kj3 l0 l1 a2 (wrap64 ((l0.length : Int) / 24)) (([(⟨0, 0, 0, 0, 0, 0, 0⟩ : S45)] : List (S45))) (([(⟨#[]⟩ : ByteArray)] : List ByteArray)) 1) else (some (([] : List (S45)), ([] : List ByteArray), 32))) = some (r1, r2, r3) := H
            have A12 := Aside0.mk A120
            clear A120
            by_cases c13 : t260 = true
            · subst c13
              have H1 : (symtab_Parse.l0 kj3 l0 l1 a2 (wrap64 ((l0.length : Int) / 24)) (([(⟨0, 0, 0, 0, 0, 0, 0⟩ : S45)] : List (S45))) (([(⟨#[]⟩ : ByteArray)] : List ByteArray)) 1) = some (r1, r2, r3) := by rw [if_pos rfl] at H; exact H
              clear H
              have H := H1
              clear H1
              obtain ⟨y261, hy261⟩ : ∃ y_ : List (S45), y_ = (([(⟨0, 0, 0, 0, 0, 0, 0⟩ : S45)] : List (S45))) := ⟨_, rfl⟩
              replace H : (symtab_Parse.l0 kj3 l0 l1 a2 (wrap64 ((l0.length : Int) / 24)) y261 (([(⟨#[]⟩ : ByteArray)] : List ByteArray)) 1) = some (r1, r2, r3) := by first | (rw [hy261]; with_reducible exact H) | (have H2_ := (Option.bind_some _ _).symm.trans H; rw [hy261]; with_reducible exact H2_) | (have H2_ := (Option.bind_some _ _).symm.trans H; with_reducible exact H2_) | with_reducible exact H | (rw [hy261]; exact H) | exact H
              have Ny261 := Aside0.mk hy261
              clear hy261
              obtain ⟨y264, hy264⟩ : ∃ y_ : List ByteArray, y_ = (([(⟨#[]⟩ : ByteArray)] : List ByteArray)) := ⟨_, rfl⟩
              replace H : (symtab_Parse.l0 kj3 l0 l1 a2 (wrap64 ((l0.length : Int) / 24)) y261 y264 1) = some (r1, r2, r3) := by first | (rw [hy264]; with_reducible exact H) | (have H2_ := (Option.bind_some _ _).symm.trans H; rw [hy264]; with_reducible exact H2_) | (have H2_ := (Option.bind_some _ _).symm.trans H; with_reducible exact H2_) | with_reducible exact H | (rw [hy264]; exact H) | exact H
              have Ny264 := Aside0.mk hy264
              clear hy264
              have H' := Aside0.mk H
              clear H
              try go_wp2
              have n0_ := Aside0.mk (below_drew1 HB.out)
              clear HB
              have HB := n0_
              clear n0_
              obtain ⟨i015, hi015, _, hsz15, _⟩ := info_parts info5
              obtain ⟨hcut15, hA15, hC15⟩ := print_take_of (P := Try.prog) (Value.int .u8) 0 22 5 .i64 Try.underlying22 hi015 hsz15 A0 c0 l0 24 (by omega) (of_decide_eq_true (by first | (with_reducible assumption) | assumption)) HC0.out
              have HR256 := Aside0.mk (Kd.C_of_reads (h1 := fun _ => rfl) (hA15 _ (Kd.reads_of_C HR0.out)))
              have HC256 := Aside0.mk hC15
              clear hA15 hC15 hi015 hsz15
              refine start_ (n := 5) (S := fun w' => True) (ds := []) #[false, false, false, false, false] (by kernel_rfl) rfl rfl trivial (fun hHeld => ?_)
              generalize wc.drew = w14 at HB HR256 hHeld ⊢
              refine pure_ (i := 0) (N := some 42) (v := ?_) (a' := ?_) #[true, false, false, false, false] rfl rfl (by kernel_rfl) (fun _ _ _ h => h) (Or.inl ⟨by rfl, ?_⟩) ?_ ?_
              rotate_left
              · intro w'
                go_simp
                with_reducible rfl
              rotate_left
              · simp only [Act.put, List.setIfInBounds_toArray, List.set_cons_zero, List.set_cons_succ, i64_w, i32_w]
                rfl
              refine pure_ (i := 1) (N := some 43) (v := ?_) (a' := ?_) #[true, true, false, false, false] rfl rfl (by kernel_rfl) (fun _ _ _ h => h) (Or.inl ⟨by rfl, ?_⟩) ?_ ?_
              rotate_left
              · intro w'
                go_simp
                with_reducible rfl
              rotate_left
              · simp only [Act.put, List.setIfInBounds_toArray, List.set_cons_zero, List.set_cons_succ, i64_w, i32_w]
                rfl
              refine one_ (i := 2) (N := some 44) #[true, true, true, false, false] rfl rfl (by kernel_rfl) (by decide) (fun K hK => ?_)
              refine Kd.R_make_step (Kd.int .u8) _ 5 (by rfl) (N := 44) rfl 22 _ _ rfl 24 rfl rfl Try.underlying22 (.int .u8 0) 1 info5 rfl (by decide) (by omega) 0 (ok := fun _ => True) (okp := fun _ => True) rfl (fun _ hk => hk) trivial (by omega) (by omega) (Below.refl _ _) (Nat.le_refl _) ?_
              intro v258 w16 ho17 hb hg_ hnew_
              clear hg_ hnew_
              (first | rw [← Ny257.out] at ho17 | (simp only [Int.reduceToNat] at ho17; rw [← Ny257.out] at ho17))
              have n0_ := Aside0.mk (Kd.R_lower ho17 (below_size (by repeat (first | (with_reducible first | exact HB.out | apply below_alloc | apply pw_below_drewN | apply below_drew1) | exact HB.out))))
              have n1_ := Aside0.mk (below_step (by repeat (first | (with_reducible first | exact HB.out | apply below_alloc | apply pw_below_drewN | apply below_drew1) | exact HB.out)) hb)
              clear HB
              have HO259 := n0_
              have HB := n1_
              clear n0_ n1_
              clear hb ho17
              obtain ⟨Ao18, co18, eo18⟩ := Kd.R_slice HO259.out
              (first | subst eo18 | (injection eo18 with f1_ f2_ f3_; have f4_ := f1_.symm; have f5_ := f3_.symm; clear f1_ f2_ f3_; subst f4_; subst f5_))
              refine hK.out _ _ trivial (fun hHeld => ?_)
              clear hK K
              refine norm_ (a' := ?_) ?_ ?_
              rotate_left
              · show Act.put _ (some 44) _ = _
                simp only [Act.put, List.setIfInBounds_toArray, List.set_cons_zero, List.set_cons_succ, i64_w, i32_w]
                rfl
              refine one_ (i := 3) (N := some 45) #[true, true, true, true, false] rfl rfl (by kernel_rfl) (by decide) (fun K hK => ?_)
              refine goes_ Try.func35 (by kernel_rfl) rfl #[.slice A0 (l0.take 24).length c0, .slice Ao18 y257.length co18] (by rfl) rfl rfl (by (try simp only [List.map_toArray, List.map_cons, List.map_nil]); first | done | (rw [show (l0.take 24).length = 24 from (by rw [List.length_take]; have h_ : (24 : Int) ≤ (l0.length : Int) := of_decide_eq_true (by first | (with_reducible assumption) | assumption); omega)] <;> rfl) | rfl | (simp only [List.length_drop, List.length_take]; rfl)) ?_
              with_reducible refine (bytes_Equal.calls _ _ (l0.take 24) _ _ y257 true _ ?side1 ?side2 ?side3 ?side4 A12.out).mono ?_
              (case side1 => repeat (first | exact (Kd.C_below HR256.out HB.out) | (with_reducible refine Kd.C_alloc ?_ _) | (with_reducible refine Kd.C_drewN ?_ _) | (with_reducible refine Kd.C_drew ?_)))
              (case side2 => exact HC256.out)
              (case side3 => repeat (first | exact (Kd.R_reads' HO259.out).2.2 | (with_reducible refine Kd.C_alloc ?_ _) | (with_reducible refine Kd.C_drewN ?_ _) | (with_reducible refine Kd.C_drew ?_)))
              (case side4 => exact (Kd.R_reads' HO259.out).2.1)
              rintro e w' ⟨rfl, ⟨nd, rfl⟩⟩
              refine ⟨_, rfl, ?_⟩
              refine hK.out _ _ trivial (fun hHeld => ?_)
              clear hK K
              refine norm_ (a' := ?_) ?_ ?_
              rotate_left
              · show Act.put _ (some 45) _ = _
                simp only [Act.put, List.setIfInBounds_toArray, List.set_cons_zero, List.set_cons_succ, i64_w, i32_w]
                rfl
              refine pure_ (i := 4) (N := some 46) (v := ?_) (a' := ?_) #[true, true, true, true, true] rfl rfl (by kernel_rfl) (fun _ _ _ h => h) (Or.inl ⟨by rfl, ?_⟩) ?_ ?_
              rotate_left
              · intro w'
                go_simp
                with_reducible rfl
              rotate_left
              · simp only [Act.put, List.setIfInBounds_toArray, List.set_cons_zero, List.set_cons_succ, i64_w, i32_w]
                rfl
              refine done_ (by kernel_rfl) ?_
              try go_wp2_with (first | ((with_reducible refine gate_dst (N := 48) rfl ?_); refine Kd.R_lit k45 _ 45 ?hg (N := 48) ?hd (xs := ([(⟨0, 0, 0, 0, 0, 0, 0⟩ : S45)] : List (S45))) (inner := [.int .u32 0, .int .i64 0, .int .i64 0, .int .i64 0, .int .i64 0, .int .u64 0, .int .u64 0]) (ok := fun _ => True) (okp := fun _ => True) ?hr ?hp (fun _ hk => hk) trivial (Below.refl _ _) (Nat.le_refl _) (by simp) ?_; (case hd => rfl); (case hg => rfl); (case hr => first | (go_simp; done) | (go_simp; rfl)); (case hp => exact (Reps.c7 (show Kd.M k45 _ _ _ (⟨0, 0, 0, 0, 0, 0, 0⟩ : S45) [.int .u32 0, .int .i64 0, .int .i64 0, .int .i64 0, .int .i64 0, .int .u64 0, .int .u64 0] from (k45_mkM _ _ _ (⟨0, 0, 0, 0, 0, 0, 0⟩ : S45) )) (Reps.none _ _))); intro v262 w19 ho20 hb hg_ hnew_; clear hg_ hnew_; (first | rw [← Ny261.out] at ho20 | (simp only [Int.reduceToNat] at ho20; rw [← Ny261.out] at ho20)); have n0_ := Aside0.mk (Kd.R_below (by (with_reducible repeat (first | apply Kd.R_alloc | apply Kd.R_drewN | apply Kd.R_drew)); exact HO259.out) hb); have n1_ := Aside0.mk (Kd.R_lower ho20 (below_size (by repeat (first | (with_reducible first | exact HB.out | apply below_alloc | apply pw_below_drewN | apply below_drew1) | exact HB.out)))); have n2_ := Aside0.mk (below_step (by repeat (first | (with_reducible first | exact HB.out | apply below_alloc | apply pw_below_drewN | apply below_drew1) | exact HB.out)) hb); clear HO259; clear HB; have HO259 := n0_; have HO263 := n1_; have HB := n2_; clear n0_ n1_ n2_; clear hb ho20) | ((with_reducible refine gate_dst (N := 49) rfl ?_); refine Kd.R_lit Kd.string _ 9 ?hg (N := 49) ?hd (xs := ([(⟨#[]⟩ : ByteArray)] : List ByteArray)) (inner := [.string (⟨#[]⟩ : ByteArray)]) (ok := fun _ => True) (okp := fun _ => True) ?hr ?hp (fun _ hk => hk) trivial (Below.refl _ _) (Nat.le_refl _) (by simp) ?_; (case hd => rfl); (case hg => rfl); (case hr => first | (go_simp; done) | (go_simp; rfl)); (case hp => exact (Reps.one (show Kd.M Kd.string _ _ _ (⟨#[]⟩ : ByteArray) [.string (⟨#[]⟩ : ByteArray)] from rfl) (Reps.none _ _))); intro v265 w21 ho22 hb hg_ hnew_; clear hg_ hnew_; (first | rw [← Ny264.out] at ho22 | (simp only [Int.reduceToNat] at ho22; rw [← Ny264.out] at ho22)); have n0_ := Aside0.mk (Kd.R_below (by (with_reducible repeat (first | apply Kd.R_alloc | apply Kd.R_drewN | apply Kd.R_drew)); exact HO259.out) hb); have n1_ := Aside0.mk (Kd.R_below (by (with_reducible repeat (first | apply Kd.R_alloc | apply Kd.R_drewN | apply Kd.R_drew)); exact HO263.out) hb); have n2_ := Aside0.mk (Kd.R_lower ho22 (below_size (by repeat (first | (with_reducible first | exact HB.out | apply below_alloc | apply pw_below_drewN | apply below_drew1) | exact HB.out)))); have n3_ := Aside0.mk (below_step (by repeat (first | (with_reducible first | exact HB.out | apply below_alloc | apply pw_below_drewN | apply below_drew1) | exact HB.out)) hb); clear HO259; clear HO263; clear HB; have HO259 := n0_; have HO263 := n1_; have HO266 := n2_; have HB := n3_; clear n0_ n1_ n2_ n3_; clear hb ho22))
              go_loopg [10, 11, 12] kj3 (fun kq v10 v11 v12 w' => ∃ (x10_2 : List (S45)) (x11_2 : List ByteArray) (x12_2 : Int), v12 = .int .i64 x12_2 ∧ Aside0 (symtab_Parse.l0 kq l0 l1 a2 (wrap64 ((l0.length : Int) / 24)) x10_2 x11_2 x12_2 = some (r1, r2, r3)) ∧ Aside0 (kq ≤ kj3) ∧ Aside0 (Kd.R k45 45 w' w.heap.size (fun _ => True) v10 x10_2) ∧ Aside0 (Kd.R Kd.string 9 w' w.heap.size (fun _ => True) v11 x11_2) ∧ Aside0 (Below w.heap.size w w'))
              case atStart => exact ⟨(y261), (y264), (1), (by first | rfl | (simp; done) | (simp [*]; done)), H', ⟨Nat.le_refl _⟩, ⟨by (with_reducible repeat (first | apply Kd.R_alloc | apply Kd.R_drewN | apply Kd.R_drew)); exact HO263.out⟩, ⟨by (with_reducible repeat (first | apply Kd.R_alloc | apply Kd.R_drewN | apply Kd.R_drew)); exact HO266.out⟩, ⟨by repeat (first | (with_reducible first | exact HB.out | apply below_alloc | apply pw_below_drewN | apply below_drew1) | exact HB.out)⟩⟩
              case round =>
                clear H'
                try clear c1
                try clear c2
                try clear p2
                try clear c3
                try clear c5
                try clear c5b0
                try clear c5b1
                try clear c6
                try clear c6b0
                try clear p6
                try clear c7
                try clear c7b0
                try clear c8
                try clear c8b0
                try clear c9
                try clear c10
                try clear c10b0
                try clear c10b1
                try clear c11
                try clear c11b0
                try clear c11b1
                try clear c13
                try clear p2
                try clear p6
                obtain ⟨x10_2, x11_2, x12_2, rfl, HA, HK2, HO_10, HO_11, HB⟩ := hrel
                cases gk with
                | zero => exact absurd HA.out (by simp [symtab_Parse.l0])
                | succ k2 =>
                  have H := HA.out
                  clear HA
                  simp only [symtab_Parse.l0] at H
                  by_cases c23 : x12_2 < (wrap64 ((l0.length : Int) / 24))
                  · rw [if_pos c23] at H
                    have c23b0 : decide (x12_2 < (wrap64 ((l0.length : Int) / 24))) = true := decide_eq_true c23
                    clear c23
                    obtain ⟨ji24, hji24⟩ : ∃ j_ : Int, (wrap64 (x12_2 * 24)) = j_ := ⟨_, rfl⟩
                    replace H : (if 0 ≤ (ji24) then (if (ji24) ≤ (wrap64 ((wrap64 (x12_2 + 1)) * 24)) then (if (wrap64 ((wrap64 (x12_2 + 1)) * 24)) ≤ (l0.length : Int) then ((symtab_symbol.f k2 ((l0.take ((wrap64 ((wrap64 (x12_2 + 1)) * 24)) : Int).toNat).drop ((ji24) : Int).toNat)).bind fun bt268 => ((strtab_Get.f l1 bt268.1).bind fun bt276 => (if bt276.2 = true then ((symtab_right.f bt268.1 bt268.2.1 bt268.2.2.1 bt268.2.2.2.1 bt268.2.2.2.2.1 bt268.2.2.2.2.2.1 bt268.2.2.2.2.2.2 bt276.1 x12_2 (wrap64 (a2))).bind fun t278 => (if t278 = true then (if x10_2.length < 2513169434916 then (if x11_2.length < 8796093022208 then (symtab_Parse.l0 k2 l0 l1 a2 (wrap64 ((l0.length : Int) / 24)) (x10_2 ++ [(⟨bt268.1, bt268.2.1, bt268.2.2.1, bt268.2.2.2.1, bt268.2.2.2.2.1, bt268.2.2.2.2.2.1, bt268.2.2.2.2.2.2⟩ : S45)]) (x11_2 ++ [bt276.1]) (wrap64 (x12_2 + 1))) else (none)) else (none)) else (some (([] : List (S45)), ([] : List ByteArray), 32)))) else (some (([] : List (S45)), ([] : List ByteArray), 32))))) else (none)) else (none)) else (none)) = some (r1, r2, r3) := by first | (rw [hji24] at H; exact H) | (simp only [hji24] at H ⊢; exact H)
                    have hji24w : (IntKind.i64.wrap (x12_2 * 24)) = ji24 := (i64_w _).trans hji24
                    by_cases c25 : 0 ≤ (ji24)
                    · rw [if_pos c25] at H
                      have c25b0 := eq_true c25
                      have c25b1 : decide (0 ≤ (ji24)) = true := decide_eq_true c25
                      clear c25
                      by_cases c26 : (ji24) ≤ (wrap64 ((wrap64 (x12_2 + 1)) * 24))
                      · rw [if_pos c26] at H
                        have c26b0 := eq_true c26
                        have c26b1 : decide ((ji24) ≤ (wrap64 ((wrap64 (x12_2 + 1)) * 24))) = true := decide_eq_true c26
                        by_cases c27 : (wrap64 ((wrap64 (x12_2 + 1)) * 24)) ≤ (l0.length : Int)
                        · rw [if_pos c27] at H
                          have c27b0 := eq_true c27
                          have c27b1 : decide ((wrap64 ((wrap64 (x12_2 + 1)) * 24)) ≤ (l0.length : Int)) = true := decide_eq_true c27
                          replace H := Option.bind_eq_some_iff.mp H
                          obtain ⟨⟨t268, t269, t270, t271, t272, t273, t274⟩, A280, H⟩ := H
                          replace H : ((strtab_Get.f l1 t268).bind fun bt276 => (if bt276.2 = true then ((symtab_right.f t268 t269 t270 t271 t272 t273 t274 bt276.1 x12_2 (wrap64 (a2))).bind fun t278 => (if t278 = true then (if x10_2.length < 2513169434916 then (if x11_2.length < 8796093022208 then (symtab_Parse.l0 k2 l0 l1 a2 (wrap64 ((l0.length : Int) / 24)) (x10_2 ++ [(⟨t268, t269, t270, t271, t272, t273, t274⟩ : S45)]) (x11_2 ++ [bt276.1]) (wrap64 (x12_2 + 1))) else (none)) else (none)) else (some (([] : List (S45)), ([] : List ByteArray), 32)))) else (some (([] : List (S45)), ([] : List ByteArray), 32)))) = some (r1, r2, r3) := H
                          have A28 := Aside0.mk A280
                          clear A280
                          replace H := Option.bind_eq_some_iff.mp H
                          obtain ⟨⟨t276, t277⟩, A290, H⟩ := H
                          replace H : (if t277 = true then ((symtab_right.f t268 t269 t270 t271 t272 t273 t274 t276 x12_2 (wrap64 (a2))).bind fun t278 => (if t278 = true then (if x10_2.length < 2513169434916 then (if x11_2.length < 8796093022208 then (symtab_Parse.l0 k2 l0 l1 a2 (wrap64 ((l0.length : Int) / 24)) (x10_2 ++ [(⟨t268, t269, t270, t271, t272, t273, t274⟩ : S45)]) (x11_2 ++ [t276]) (wrap64 (x12_2 + 1))) else (none)) else (none)) else (some (([] : List (S45)), ([] : List ByteArray), 32)))) else (some (([] : List (S45)), ([] : List ByteArray), 32))) = some (r1, r2, r3) := H
                          have A29 := Aside0.mk A290
                          clear A290
                          by_cases c30 : t277 = true
                          · subst c30
                            have H1 : ((symtab_right.f t268 t269 t270 t271 t272 t273 t274 t276 x12_2 (wrap64 (a2))).bind fun t278 => (if t278 = true then (if x10_2.length < 2513169434916 then (if x11_2.length < 8796093022208 then (symtab_Parse.l0 k2 l0 l1 a2 (wrap64 ((l0.length : Int) / 24)) (x10_2 ++ [(⟨t268, t269, t270, t271, t272, t273, t274⟩ : S45)]) (x11_2 ++ [t276]) (wrap64 (x12_2 + 1))) else (none)) else (none)) else (some (([] : List (S45)), ([] : List ByteArray), 32)))) = some (r1, r2, r3) := by rw [if_pos rfl] at H; exact H
                            clear H
                            have H := H1
                            clear H1
                            replace H := Option.bind_eq_some_iff.mp H
                            obtain ⟨t278, A310, H⟩ := H
                            replace H : (if t278 = true then (if x10_2.length < 2513169434916 then (if x11_2.length < 8796093022208 then (symtab_Parse.l0 k2 l0 l1 a2 (wrap64 ((l0.length : Int) / 24)) (x10_2 ++ [(⟨t268, t269, t270, t271, t272, t273, t274⟩ : S45)]) (x11_2 ++ [t276]) (wrap64 (x12_2 + 1))) else (none)) else (none)) else (some (([] : List (S45)), ([] : List ByteArray), 32))) = some (r1, r2, r3) := H
                            have A31 := Aside0.mk A310
                            clear A310
                            by_cases c32 : t278 = true
                            · subst c32
                              have H1 : (if x10_2.length < 2513169434916 then (if x11_2.length < 8796093022208 then (symtab_Parse.l0 k2 l0 l1 a2 (wrap64 ((l0.length : Int) / 24)) (x10_2 ++ [(⟨t268, t269, t270, t271, t272, t273, t274⟩ : S45)]) (x11_2 ++ [t276]) (wrap64 (x12_2 + 1))) else (none)) else (none)) = some (r1, r2, r3) := by rw [if_pos rfl] at H; exact H
                              clear H
                              have H := H1
                              clear H1
                              by_cases c33 : x10_2.length < 2513169434916
                              · rw [if_pos c33] at H
                                have LMc33 := Aside0.mk c33
                                clear c33
                                obtain ⟨y279, hy279⟩ : ∃ y_ : List (S45), y_ = (x10_2 ++ [(⟨t268, t269, t270, t271, t272, t273, t274⟩ : S45)]) := ⟨_, rfl⟩
                                replace H : (if x11_2.length < 8796093022208 then (symtab_Parse.l0 k2 l0 l1 a2 (wrap64 ((l0.length : Int) / 24)) y279 (x11_2 ++ [t276]) (wrap64 (x12_2 + 1))) else (none)) = some (r1, r2, r3) := by first | (rw [hy279]; with_reducible exact H) | (have H2_ := (Option.bind_some _ _).symm.trans H; rw [hy279]; with_reducible exact H2_) | (have H2_ := (Option.bind_some _ _).symm.trans H; with_reducible exact H2_) | with_reducible exact H | (rw [hy279]; exact H) | exact H
                                have Ny279 := Aside0.mk hy279
                                clear hy279
                                by_cases c34 : x11_2.length < 8796093022208
                                · rw [if_pos c34] at H
                                  have LMc34 := Aside0.mk c34
                                  clear c34
                                  obtain ⟨y282, hy282⟩ : ∃ y_ : List ByteArray, y_ = (x11_2 ++ [t276]) := ⟨_, rfl⟩
                                  replace H : (symtab_Parse.l0 k2 l0 l1 a2 (wrap64 ((l0.length : Int) / 24)) y279 y282 (wrap64 (x12_2 + 1))) = some (r1, r2, r3) := by first | (rw [hy282]; with_reducible exact H) | (have H2_ := (Option.bind_some _ _).symm.trans H; rw [hy282]; with_reducible exact H2_) | (have H2_ := (Option.bind_some _ _).symm.trans H; with_reducible exact H2_) | with_reducible exact H | (rw [hy282]; exact H) | exact H
                                  have Ny282 := Aside0.mk hy282
                                  clear hy282
                                  have H' := Aside0.mk H
                                  clear H
                                  obtain ⟨i035, hi035, _, hsz35, _⟩ := info_parts info5
                                  obtain ⟨A35, hcut35, hA35, hC35⟩ := print_mid_of (P := Try.prog) (Value.int .u8) 0 22 5 .i64 .i64 Try.underlying22 hi035 hsz35 A0 c0 l0 (ji24) (wrap64 ((wrap64 (x12_2 + 1)) * 24)) (of_decide_eq_true (by first | (with_reducible assumption) | assumption)) (by first | omega | exact of_decide_eq_true (by first | (with_reducible assumption) | assumption)) (of_decide_eq_true (by first | (with_reducible assumption) | assumption)) HC0.out
                                  have HR267 := Aside0.mk (Kd.C_of_reads (h1 := fun _ => rfl) (hA35 _ (Kd.reads_of_C HR0.out)))
                                  have HC267 := Aside0.mk hC35
                                  clear hA35 hC35 hi035 hsz35
                                  go_wp2_with (first | ((with_reducible refine gate_callee (f := 46) rfl ?_); refine goesL_ (some 62) rfl rfl Try.func46 (by kernel_rfl) rfl #[.slice A35 ((l0.take ((wrap64 ((wrap64 (x12_2 + 1)) * 24)) : Int).toNat).drop ((ji24) : Int).toNat).length (c0 - (ji24).toNat)] rfl (by (try simp only [List.map_toArray, List.map_cons, List.map_nil]); first | done | (rw [show ((l0.take ((wrap64 ((wrap64 (x12_2 + 1)) * 24)) : Int).toNat).drop ((ji24) : Int).toNat).length = ((wrap64 ((wrap64 (x12_2 + 1)) * 24)).toNat - (ji24).toNat) from (by rw [List.length_drop, List.length_take]; have h_ : ((wrap64 ((wrap64 (x12_2 + 1)) * 24)) : Int) ≤ (l0.length : Int) := of_decide_eq_true (by first | (with_reducible assumption) | assumption); omega)] <;> rfl) | (simp only [hji24]; rfl) | rfl | (simp only [List.length_drop, List.length_take]; rfl)) ?_; (with_reducible refine (symtab_symbol.calls k2 _ _ ((l0.take ((wrap64 ((wrap64 (x12_2 + 1)) * 24)) : Int).toNat).drop ((ji24) : Int).toNat) t268 t269 t270 t271 t272 t273 t274 _ ?side1 ?side2 A28.out).mono ?_); (case side1 => repeat (first | exact (Kd.C_below HR267.out HB.out) | (with_reducible refine Kd.C_alloc ?_ _) | (with_reducible refine Kd.C_drewN ?_ _) | (with_reducible refine Kd.C_drew ?_))); (case side2 => exact HC267.out); rintro e w36 ⟨rfl, hb⟩; refine ⟨_, rfl, ?_⟩; have n0_ := Aside0.mk (Kd.R_below (by (with_reducible repeat (first | apply Kd.R_alloc | apply Kd.R_drewN | apply Kd.R_drew)); exact HO_10.out) hb); have n1_ := Aside0.mk (Kd.R_below (by (with_reducible repeat (first | apply Kd.R_alloc | apply Kd.R_drewN | apply Kd.R_drew)); exact HO_11.out) hb); have n2_ := Aside0.mk (below_step (by repeat (first | (with_reducible first | exact HB.out | apply below_alloc | apply pw_below_drewN | apply below_drew1) | exact HB.out)) hb); clear HO_10; clear HO_11; clear HB; have HO_10 := n0_; have HO_11 := n1_; have HB := n2_; clear n0_ n1_ n2_; (try clear hb); (try clear hb2); (try clear hk); (try clear hi)) | ((with_reducible refine gate_dst (N := 13) rfl ?_); refine box_event ?hg (N := 13) ?hd (cs := #[.int .u32 0, .int .i64 0, .int .i64 0, .int .i64 0, .int .i64 0, .int .u64 0, .int .u64 0]) (t := 45) ?hr ?_; (case hd => rfl); (case hg => rfl); (case hr => first | (go_simp; done) | (go_simp; rfl)); intro gb275 hg w37 hbox hb; have n0_ := Aside0.mk (Kd.R_below (Kd.R_elderB (by (with_reducible repeat (first | apply Kd.R_alloc | apply Kd.R_drewN | apply Kd.R_drew)); exact HO_10.out) gb275 (Nat.le_of_eq hg.symm)) hb); have n1_ := Aside0.mk (Kd.R_below (by (with_reducible repeat (first | apply Kd.R_alloc | apply Kd.R_drewN | apply Kd.R_drew)); exact HO_11.out) hb); have n2_ := Aside0.mk (below_step (by repeat (first | (with_reducible first | exact HB.out | apply below_alloc | apply pw_below_drewN | apply below_drew1) | exact HB.out)) hb); have n3_ := Aside0.mk (hbox); have n4_ := Aside0.mk ((by rw [hg]; exact (below_size (by repeat (first | (with_reducible first | exact HB.out | apply below_alloc | apply pw_below_drewN | apply below_drew1) | exact HB.out))) : w.heap.size ≤ gb275)); have n5_ := Aside0.mk ((by rw [hg]; exact (below_size (by repeat (first | (with_reducible first | exact HB.out | apply below_alloc | apply pw_below_drewN | apply below_drew1) | exact HB.out))) : w.heap.size ≤ gb275)); clear HO_10; clear HO_11; clear HB; have HO_10 := n0_; have HO_11 := n1_; have HB := n2_; have BK275 := n3_; have GW275 := n4_; have GE275 := n5_; clear n0_ n1_ n2_ n3_ n4_ n5_; clear hb hbox hg; have hcz38_0 : w37.cell? ⟨gb275, 0, none⟩ = some (.int .u32 0) := (blk_cell BK275.out 0).trans rfl; have hcz38_1 : w37.cell? ⟨gb275, 1, none⟩ = some (.int .i64 0) := (blk_cell BK275.out 1).trans rfl; have hcz38_2 : w37.cell? ⟨gb275, 2, none⟩ = some (.int .i64 0) := (blk_cell BK275.out 2).trans rfl; have hcz38_3 : w37.cell? ⟨gb275, 3, none⟩ = some (.int .i64 0) := (blk_cell BK275.out 3).trans rfl; have hcz38_4 : w37.cell? ⟨gb275, 4, none⟩ = some (.int .i64 0) := (blk_cell BK275.out 4).trans rfl; have hcz38_5 : w37.cell? ⟨gb275, 5, none⟩ = some (.int .u64 0) := (blk_cell BK275.out 5).trans rfl; have hcz38_6 : w37.cell? ⟨gb275, 6, none⟩ = some (.int .u64 0) := (blk_cell BK275.out 6).trans rfl; have hfz38_0 := blk_frozen BK275.out 0; have hfz38_1 := blk_frozen BK275.out 1; have hfz38_2 := blk_frozen BK275.out 2; have hfz38_3 := blk_frozen BK275.out 3; have hfz38_4 := blk_frozen BK275.out 4; have hfz38_5 := blk_frozen BK275.out 5; have hfz38_6 := blk_frozen BK275.out 6) | ((with_reducible refine gate_callee (f := 27) rfl ?_); refine goesL_ (some 67) rfl rfl Try.func27 (by kernel_rfl) rfl #[.slice A1 l1.length c1, .int .u32 t268] rfl (by (try simp only [List.map_toArray, List.map_cons, List.map_nil]); first | done | rfl | (simp only [List.length_drop, List.length_take]; rfl)) ?_; (with_reducible refine (strtab_Get.calls _ _ l1 t268 t276 true _ ?side1 ?side2 A29.out).mono ?_); (case side1 => exact Kd.C_below HR1.out (by repeat (first | (with_reducible first | exact HB.out | apply below_alloc | apply pw_below_drewN | apply below_drew1 | refine below_set ?_ GE275.out) | exact HB.out))); (case side2 => exact HC1.out); rintro e w' ⟨rfl, ⟨nd, rfl⟩⟩; refine ⟨_, rfl, ?_⟩) | (go_at_call 47; (with_reducible refine (symtab_right.calls t268 t269 t270 t271 t272 t273 t274 t276 x12_2 (wrap64 (a2)) true _ A31.out).mono ?_); rintro e w39 ⟨rfl, hb⟩; have n0_ := Aside0.mk (Kd.R_below (by (with_reducible repeat (first | apply Kd.R_alloc | apply Kd.R_drewN | apply Kd.R_drew)); exact (Kd.R_mono (Kd.R_far (p := ⟨gb275, 6, none⟩) (Kd.R_far (p := ⟨gb275, 5, none⟩) (Kd.R_far (p := ⟨gb275, 4, none⟩) (Kd.R_far (p := ⟨gb275, 3, none⟩) (Kd.R_far (p := ⟨gb275, 2, none⟩) (Kd.R_far (p := ⟨gb275, 1, none⟩) (Kd.R_far (p := ⟨gb275, 0, none⟩) (Kd.R_mono HO_10.out (fun k_ hk => (⟨hk, hk.2⟩ : _ ∧ k_ ≠ gb275))) (fun _ hk => by first | exact hk.2 | trivial) (.int .u32 t268)) (fun _ hk => by first | exact hk.2 | trivial) (.int .i64 t269)) (fun _ hk => by first | exact hk.2 | trivial) (.int .i64 t270)) (fun _ hk => by first | exact hk.2 | trivial) (.int .i64 t271)) (fun _ hk => by first | exact hk.2 | trivial) (.int .i64 t272)) (fun _ hk => by first | exact hk.2 | trivial) (.int .u64 t273)) (fun _ hk => by first | exact hk.2 | trivial) (.int .u64 t274)) (fun _ h_ => h_.1))) hb); have n1_ := Aside0.mk (Kd.R_below (by (with_reducible repeat (first | apply Kd.R_alloc | apply Kd.R_drewN | apply Kd.R_drew)); exact (Kd.R_mono (Kd.R_far (p := ⟨gb275, 6, none⟩) (Kd.R_far (p := ⟨gb275, 5, none⟩) (Kd.R_far (p := ⟨gb275, 4, none⟩) (Kd.R_far (p := ⟨gb275, 3, none⟩) (Kd.R_far (p := ⟨gb275, 2, none⟩) (Kd.R_far (p := ⟨gb275, 1, none⟩) (Kd.R_far (p := ⟨gb275, 0, none⟩) (Kd.R_types HO_11.out BK275.out (by decide)) (fun _ hk => by first | exact hk.2 | trivial) (.int .u32 t268)) (fun _ hk => by first | exact hk.2 | trivial) (.int .i64 t269)) (fun _ hk => by first | exact hk.2 | trivial) (.int .i64 t270)) (fun _ hk => by first | exact hk.2 | trivial) (.int .i64 t271)) (fun _ hk => by first | exact hk.2 | trivial) (.int .i64 t272)) (fun _ hk => by first | exact hk.2 | trivial) (.int .u64 t273)) (fun _ hk => by first | exact hk.2 | trivial) (.int .u64 t274)) (fun _ h_ => h_.1))) hb); have n2_ := Aside0.mk (blk_below (g := gb275) (o := .cells #[.int .u32 t268, .int .i64 t269, .int .i64 t270, .int .i64 t271, .int .i64 t272, .int .u64 t273, .int .u64 t274] 45 (0, 0)) (by (with_reducible repeat (first | refine blk_drewN ?_ _ | refine blk_drew ?_ | refine blk_alloc ?_ _)); refine blk_put (cs := #[.int .u32 t268, .int .i64 t269, .int .i64 t270, .int .i64 t271, .int .i64 t272, .int .u64 t273, .int .u64 0]) ?_ 6 _ rfl; (with_reducible repeat (first | refine blk_drewN ?_ _ | refine blk_drew ?_ | refine blk_alloc ?_ _)); refine blk_put (cs := #[.int .u32 t268, .int .i64 t269, .int .i64 t270, .int .i64 t271, .int .i64 t272, .int .u64 0, .int .u64 0]) ?_ 5 _ rfl; (with_reducible repeat (first | refine blk_drewN ?_ _ | refine blk_drew ?_ | refine blk_alloc ?_ _)); refine blk_put (cs := #[.int .u32 t268, .int .i64 t269, .int .i64 t270, .int .i64 t271, .int .i64 0, .int .u64 0, .int .u64 0]) ?_ 4 _ rfl; (with_reducible repeat (first | refine blk_drewN ?_ _ | refine blk_drew ?_ | refine blk_alloc ?_ _)); refine blk_put (cs := #[.int .u32 t268, .int .i64 t269, .int .i64 t270, .int .i64 0, .int .i64 0, .int .u64 0, .int .u64 0]) ?_ 3 _ rfl; (with_reducible repeat (first | refine blk_drewN ?_ _ | refine blk_drew ?_ | refine blk_alloc ?_ _)); refine blk_put (cs := #[.int .u32 t268, .int .i64 t269, .int .i64 0, .int .i64 0, .int .i64 0, .int .u64 0, .int .u64 0]) ?_ 2 _ rfl; (with_reducible repeat (first | refine blk_drewN ?_ _ | refine blk_drew ?_ | refine blk_alloc ?_ _)); refine blk_put (cs := #[.int .u32 t268, .int .i64 0, .int .i64 0, .int .i64 0, .int .i64 0, .int .u64 0, .int .u64 0]) ?_ 1 _ rfl; (with_reducible repeat (first | refine blk_drewN ?_ _ | refine blk_drew ?_ | refine blk_alloc ?_ _)); refine blk_put (cs := #[.int .u32 0, .int .i64 0, .int .i64 0, .int .i64 0, .int .i64 0, .int .u64 0, .int .u64 0]) ?_ 0 _ rfl; (with_reducible repeat (first | refine blk_drewN ?_ _ | refine blk_drew ?_ | refine blk_alloc ?_ _)); exact BK275.out) hb); have n3_ := Aside0.mk (below_step (by repeat (first | (with_reducible first | exact HB.out | apply below_alloc | apply pw_below_drewN | apply below_drew1 | refine below_set ?_ GE275.out) | exact HB.out)) hb); clear HO_10; clear HO_11; clear BK275; clear HB; have HO_10 := n0_; have HO_11 := n1_; have BK275 := n2_; have HB := n3_; clear n0_ n1_ n2_ n3_; (try clear hb); (try clear hb2); (try clear hk); (try clear hi); have hcz40_0 : w39.cell? ⟨gb275, 0, none⟩ = some (.int .u32 t268) := (blk_cell BK275.out 0).trans rfl; have hcz40_1 : w39.cell? ⟨gb275, 1, none⟩ = some (.int .i64 t269) := (blk_cell BK275.out 1).trans rfl; have hcz40_2 : w39.cell? ⟨gb275, 2, none⟩ = some (.int .i64 t270) := (blk_cell BK275.out 2).trans rfl; have hcz40_3 : w39.cell? ⟨gb275, 3, none⟩ = some (.int .i64 t271) := (blk_cell BK275.out 3).trans rfl; have hcz40_4 : w39.cell? ⟨gb275, 4, none⟩ = some (.int .i64 t272) := (blk_cell BK275.out 4).trans rfl; have hcz40_5 : w39.cell? ⟨gb275, 5, none⟩ = some (.int .u64 t273) := (blk_cell BK275.out 5).trans rfl; have hcz40_6 : w39.cell? ⟨gb275, 6, none⟩ = some (.int .u64 t274) := (blk_cell BK275.out 6).trans rfl; have hfz40_0 := blk_frozen BK275.out 0; have hfz40_1 := blk_frozen BK275.out 1; have hfz40_2 := blk_frozen BK275.out 2; have hfz40_3 := blk_frozen BK275.out 3; have hfz40_4 := blk_frozen BK275.out 4; have hfz40_5 := blk_frozen BK275.out 5; have hfz40_6 := blk_frozen BK275.out 6) | ((with_reducible refine gate_builtin (b := .append) (xs := #[.tmp 81, .tmp 83]) rfl ?_); at_builtin; refine Kd.R_append k45 (w0 := w) w.heap.size rfl (.tmp 81) (.tmp 83) 46 45 (.agg #[(.int .u32 0), (.int .i64 0), (.int .i64 0), (.int .i64 0), (.int .i64 0), (.int .u64 0), (.int .u64 0)]) 56 rfl Try.underlying46 info45 rfl (by decide) (by omega) u10 x10_2 (⟨t268, t269, t270, t271, t272, t273, t274⟩ : S45) [.int .u32 t268, .int .i64 t269, .int .i64 t270, .int .i64 t271, .int .i64 t272, .int .u64 t273, .int .u64 t274] (fun k_ => k_ ≠ gb275) (fun _ => False) rfl rfl ?aP (fun _ hk => hk.elim) ?aF ?aO ?aB ?aS ?aL ?_; (case aP => exact k45_mkM _ _ _ (⟨t268, t269, t270, t271, t272, t273, t274⟩ : S45)); (case aB => exact (by repeat (first | (with_reducible first | exact HB.out | apply below_alloc | apply pw_below_drewN | apply below_drew1 | refine below_set ?_ GE275.out) | exact HB.out))); (case aF => exact (fun k_ hk => Kd.freshB (g := gb275) (o := .cells #[.int .u32 t268, .int .i64 t269, .int .i64 t270, .int .i64 t271, .int .i64 t272, .int .u64 t273, .int .u64 t274] 45 (0, 0)) (by (with_reducible repeat (first | refine blk_drewN ?_ _ | refine blk_drew ?_ | refine blk_alloc ?_ _)); exact BK275.out) k_ hk)); (case aO => exact (by (with_reducible repeat (first | apply Kd.R_alloc | apply Kd.R_drewN | apply Kd.R_drew)); exact Kd.R_mono HO_10.out (fun _ hk => by first | exact hk.2 | trivial))); (case aS => exact (below_size (by repeat (first | (with_reducible first | exact HB.out | apply below_alloc | apply pw_below_drewN | apply below_drew1 | refine below_set ?_ GE275.out) | exact HB.out)))); (case aL => have := LMc33.out; omega); intro v280 w41 ho hb hg hat; rw [← Ny279.out] at ho; have n0_ := Aside0.mk (Kd.R_over' (by (with_reducible repeat (first | apply Kd.R_alloc | apply Kd.R_drewN | apply Kd.R_drew)); exact HO_11.out) (Kd.R_typed (by (with_reducible repeat (first | apply Kd.R_alloc | apply Kd.R_drewN | apply Kd.R_drew)); exact HO_10.out)) (by decide) hg); have n1_ := Aside0.mk (blk_grown (g := gb275) (o := .cells #[.int .u32 t268, .int .i64 t269, .int .i64 t270, .int .i64 t271, .int .i64 t272, .int .u64 t273, .int .u64 t274] 45 (0, 0)) (by (with_reducible repeat (first | refine blk_drewN ?_ _ | refine blk_drew ?_ | refine blk_alloc ?_ _)); exact BK275.out) hg (Kd.R_away HO_10.out (fun _ hk => by first | exact hk.2 | trivial))); have n2_ := Aside0.mk (hb); have n3_ := Aside0.mk (ho); clear HO_11; clear BK275; clear HB; clear HO_10; have HO_11 := n0_; have BK275 := n1_; have HB := n2_; have HO281 := n3_; clear n0_ n1_ n2_ n3_; clear ho hb hg hat) | ((with_reducible refine gate_builtin (b := .append) (xs := #[.tmp 85, .tmp 87]) rfl ?_); at_builtin; refine Kd.R_append Kd.string (w0 := w) w.heap.size rfl (.tmp 85) (.tmp 87) 41 9 (.string ⟨#[]⟩) 16 rfl Try.underlying41 info9 rfl (by decide) (by omega) u11 x11_2 t276 [.string t276] (fun _ => True) (fun _ => False) rfl rfl ?aP (fun _ hk => hk.elim) ?aF ?aO ?aB ?aS ?aL ?_; (case aP => exact rfl); (case aB => exact (by repeat (first | (with_reducible first | exact HB.out | apply below_alloc | apply pw_below_drewN | apply below_drew1 | refine below_set ?_ GE275.out) | exact HB.out))); (case aF => exact (fun _ _ => trivial)); (case aO => exact (by (with_reducible repeat (first | apply Kd.R_alloc | apply Kd.R_drewN | apply Kd.R_drew)); exact HO_11.out)); (case aS => exact (below_size (by repeat (first | (with_reducible first | exact HB.out | apply below_alloc | apply pw_below_drewN | apply below_drew1 | refine below_set ?_ GE275.out) | exact HB.out)))); (case aL => have := LMc34.out; omega); intro v283 w42 ho hb hg hat; rw [← Ny282.out] at ho; have n0_ := Aside0.mk (blk_grown (g := gb275) (o := .cells #[.int .u32 t268, .int .i64 t269, .int .i64 t270, .int .i64 t271, .int .i64 t272, .int .u64 t273, .int .u64 t274] 45 (0, 0)) (by (with_reducible repeat (first | refine blk_drewN ?_ _ | refine blk_drew ?_ | refine blk_alloc ?_ _)); exact BK275.out) hg (Kd.R_ne HO_11.out BK275.out (by decide))); have n1_ := Aside0.mk (Kd.R_over' (by (with_reducible repeat (first | apply Kd.R_alloc | apply Kd.R_drewN | apply Kd.R_drew)); exact HO281.out) (Kd.R_typed (by (with_reducible repeat (first | apply Kd.R_alloc | apply Kd.R_drewN | apply Kd.R_drew)); exact HO_11.out)) (by decide) hg); have n2_ := Aside0.mk (hb); have n3_ := Aside0.mk (ho); clear BK275; clear HO281; clear HB; clear HO_11; have BK275 := n0_; have HO281 := n1_; have HB := n2_; have HO284 := n3_; clear n0_ n1_ n2_ n3_; clear ho hb hg hat))
                                  go_roundg k2
                                  case measure => have := HJ3.out; have := HK2.out; omega
                                  case rel => exact ⟨(y279), (y282), (wrap64 (x12_2 + 1)), (by first | rfl | (simp; done) | (simp [*]; done)), H', ⟨by have := HJ3.out; have := HK2.out; omega⟩, ⟨by (with_reducible repeat (first | apply Kd.R_alloc | apply Kd.R_drewN | apply Kd.R_drew)); exact Kd.R_mono HO281.out (fun _ hk => trivial)⟩, ⟨by (with_reducible repeat (first | apply Kd.R_alloc | apply Kd.R_drewN | apply Kd.R_drew)); exact HO284.out⟩, ⟨by repeat (first | (with_reducible first | exact HB.out | apply below_alloc | apply pw_below_drewN | apply below_drew1 | refine below_set ?_ GE275.out) | exact HB.out)⟩⟩
                                · rw [if_neg c34] at H
                                  exact absurd H (by simp)
                              · rw [if_neg c33] at H
                                exact absurd H (by simp)
                            · replace c32 := Bool.eq_false_iff.mpr c32
                              subst c32
                              have H1 : (some (([] : List (S45)), ([] : List ByteArray), 32)) = some (r1, r2, r3) := by rw [if_neg (show ¬ (false = true) by decide)] at H; exact H
                              clear H
                              have H := H1
                              clear H1
                              simp only [Option.some.injEq, Prod.mk.injEq] at H
                              obtain ⟨rfl, rfl, rfl⟩ := H
                              obtain ⟨i043, hi043, _, hsz43, _⟩ := info_parts info5
                              obtain ⟨A43, hcut43, hA43, hC43⟩ := print_mid_of (P := Try.prog) (Value.int .u8) 0 22 5 .i64 .i64 Try.underlying22 hi043 hsz43 A0 c0 l0 (ji24) (wrap64 ((wrap64 (x12_2 + 1)) * 24)) (of_decide_eq_true (by first | (with_reducible assumption) | assumption)) (by first | omega | exact of_decide_eq_true (by first | (with_reducible assumption) | assumption)) (of_decide_eq_true (by first | (with_reducible assumption) | assumption)) HC0.out
                              have HR267 := Aside0.mk (Kd.C_of_reads (h1 := fun _ => rfl) (hA43 _ (Kd.reads_of_C HR0.out)))
                              have HC267 := Aside0.mk hC43
                              clear hA43 hC43 hi043 hsz43
                              go_wp2_with (first | ((with_reducible refine gate_callee (f := 46) rfl ?_); refine goesL_ (some 62) rfl rfl Try.func46 (by kernel_rfl) rfl #[.slice A43 ((l0.take ((wrap64 ((wrap64 (x12_2 + 1)) * 24)) : Int).toNat).drop ((ji24) : Int).toNat).length (c0 - (ji24).toNat)] rfl (by (try simp only [List.map_toArray, List.map_cons, List.map_nil]); first | done | (rw [show ((l0.take ((wrap64 ((wrap64 (x12_2 + 1)) * 24)) : Int).toNat).drop ((ji24) : Int).toNat).length = ((wrap64 ((wrap64 (x12_2 + 1)) * 24)).toNat - (ji24).toNat) from (by rw [List.length_drop, List.length_take]; have h_ : ((wrap64 ((wrap64 (x12_2 + 1)) * 24)) : Int) ≤ (l0.length : Int) := of_decide_eq_true (by first | (with_reducible assumption) | assumption); omega)] <;> rfl) | (simp only [hji24]; rfl) | rfl | (simp only [List.length_drop, List.length_take]; rfl)) ?_; (with_reducible refine (symtab_symbol.calls k2 _ _ ((l0.take ((wrap64 ((wrap64 (x12_2 + 1)) * 24)) : Int).toNat).drop ((ji24) : Int).toNat) t268 t269 t270 t271 t272 t273 t274 _ ?side1 ?side2 A28.out).mono ?_); (case side1 => repeat (first | exact (Kd.C_below HR267.out HB.out) | (with_reducible refine Kd.C_alloc ?_ _) | (with_reducible refine Kd.C_drewN ?_ _) | (with_reducible refine Kd.C_drew ?_))); (case side2 => exact HC267.out); rintro e w44 ⟨rfl, hb⟩; refine ⟨_, rfl, ?_⟩; have n0_ := Aside0.mk (Kd.R_below (by (with_reducible repeat (first | apply Kd.R_alloc | apply Kd.R_drewN | apply Kd.R_drew)); exact HO_10.out) hb); have n1_ := Aside0.mk (Kd.R_below (by (with_reducible repeat (first | apply Kd.R_alloc | apply Kd.R_drewN | apply Kd.R_drew)); exact HO_11.out) hb); have n2_ := Aside0.mk (below_step (by repeat (first | (with_reducible first | exact HB.out | apply below_alloc | apply pw_below_drewN | apply below_drew1) | exact HB.out)) hb); clear HO_10; clear HO_11; clear HB; have HO_10 := n0_; have HO_11 := n1_; have HB := n2_; clear n0_ n1_ n2_; (try clear hb); (try clear hb2); (try clear hk); (try clear hi)) | ((with_reducible refine gate_dst (N := 13) rfl ?_); refine box_event ?hg (N := 13) ?hd (cs := #[.int .u32 0, .int .i64 0, .int .i64 0, .int .i64 0, .int .i64 0, .int .u64 0, .int .u64 0]) (t := 45) ?hr ?_; (case hd => rfl); (case hg => rfl); (case hr => first | (go_simp; done) | (go_simp; rfl)); intro gb275 hg w45 hbox hb; have n0_ := Aside0.mk (Kd.R_below (Kd.R_elderB (by (with_reducible repeat (first | apply Kd.R_alloc | apply Kd.R_drewN | apply Kd.R_drew)); exact HO_10.out) gb275 (Nat.le_of_eq hg.symm)) hb); have n1_ := Aside0.mk (Kd.R_below (by (with_reducible repeat (first | apply Kd.R_alloc | apply Kd.R_drewN | apply Kd.R_drew)); exact HO_11.out) hb); have n2_ := Aside0.mk (below_step (by repeat (first | (with_reducible first | exact HB.out | apply below_alloc | apply pw_below_drewN | apply below_drew1) | exact HB.out)) hb); have n3_ := Aside0.mk (hbox); have n4_ := Aside0.mk ((by rw [hg]; exact (below_size (by repeat (first | (with_reducible first | exact HB.out | apply below_alloc | apply pw_below_drewN | apply below_drew1) | exact HB.out))) : w.heap.size ≤ gb275)); have n5_ := Aside0.mk ((by rw [hg]; exact (below_size (by repeat (first | (with_reducible first | exact HB.out | apply below_alloc | apply pw_below_drewN | apply below_drew1) | exact HB.out))) : w.heap.size ≤ gb275)); clear HO_10; clear HO_11; clear HB; have HO_10 := n0_; have HO_11 := n1_; have HB := n2_; have BK275 := n3_; have GW275 := n4_; have GE275 := n5_; clear n0_ n1_ n2_ n3_ n4_ n5_; clear hb hbox hg; have hcz46_0 : w45.cell? ⟨gb275, 0, none⟩ = some (.int .u32 0) := (blk_cell BK275.out 0).trans rfl; have hcz46_1 : w45.cell? ⟨gb275, 1, none⟩ = some (.int .i64 0) := (blk_cell BK275.out 1).trans rfl; have hcz46_2 : w45.cell? ⟨gb275, 2, none⟩ = some (.int .i64 0) := (blk_cell BK275.out 2).trans rfl; have hcz46_3 : w45.cell? ⟨gb275, 3, none⟩ = some (.int .i64 0) := (blk_cell BK275.out 3).trans rfl; have hcz46_4 : w45.cell? ⟨gb275, 4, none⟩ = some (.int .i64 0) := (blk_cell BK275.out 4).trans rfl; have hcz46_5 : w45.cell? ⟨gb275, 5, none⟩ = some (.int .u64 0) := (blk_cell BK275.out 5).trans rfl; have hcz46_6 : w45.cell? ⟨gb275, 6, none⟩ = some (.int .u64 0) := (blk_cell BK275.out 6).trans rfl; have hfz46_0 := blk_frozen BK275.out 0; have hfz46_1 := blk_frozen BK275.out 1; have hfz46_2 := blk_frozen BK275.out 2; have hfz46_3 := blk_frozen BK275.out 3; have hfz46_4 := blk_frozen BK275.out 4; have hfz46_5 := blk_frozen BK275.out 5; have hfz46_6 := blk_frozen BK275.out 6) | ((with_reducible refine gate_callee (f := 27) rfl ?_); refine goesL_ (some 67) rfl rfl Try.func27 (by kernel_rfl) rfl #[.slice A1 l1.length c1, .int .u32 t268] rfl (by (try simp only [List.map_toArray, List.map_cons, List.map_nil]); first | done | rfl | (simp only [List.length_drop, List.length_take]; rfl)) ?_; (with_reducible refine (strtab_Get.calls _ _ l1 t268 t276 true _ ?side1 ?side2 A29.out).mono ?_); (case side1 => exact Kd.C_below HR1.out (by repeat (first | (with_reducible first | exact HB.out | apply below_alloc | apply pw_below_drewN | apply below_drew1 | refine below_set ?_ GE275.out) | exact HB.out))); (case side2 => exact HC1.out); rintro e w' ⟨rfl, ⟨nd, rfl⟩⟩; refine ⟨_, rfl, ?_⟩) | (go_at_call 47; (with_reducible refine (symtab_right.calls t268 t269 t270 t271 t272 t273 t274 t276 x12_2 (wrap64 (a2)) false _ A31.out).mono ?_); rintro e w47 ⟨rfl, hb⟩; have n0_ := Aside0.mk (Kd.R_below (by (with_reducible repeat (first | apply Kd.R_alloc | apply Kd.R_drewN | apply Kd.R_drew)); exact (Kd.R_mono (Kd.R_far (p := ⟨gb275, 6, none⟩) (Kd.R_far (p := ⟨gb275, 5, none⟩) (Kd.R_far (p := ⟨gb275, 4, none⟩) (Kd.R_far (p := ⟨gb275, 3, none⟩) (Kd.R_far (p := ⟨gb275, 2, none⟩) (Kd.R_far (p := ⟨gb275, 1, none⟩) (Kd.R_far (p := ⟨gb275, 0, none⟩) (Kd.R_mono HO_10.out (fun k_ hk => (⟨hk, hk.2⟩ : _ ∧ k_ ≠ gb275))) (fun _ hk => by first | exact hk.2 | trivial) (.int .u32 t268)) (fun _ hk => by first | exact hk.2 | trivial) (.int .i64 t269)) (fun _ hk => by first | exact hk.2 | trivial) (.int .i64 t270)) (fun _ hk => by first | exact hk.2 | trivial) (.int .i64 t271)) (fun _ hk => by first | exact hk.2 | trivial) (.int .i64 t272)) (fun _ hk => by first | exact hk.2 | trivial) (.int .u64 t273)) (fun _ hk => by first | exact hk.2 | trivial) (.int .u64 t274)) (fun _ h_ => h_.1))) hb); have n1_ := Aside0.mk (Kd.R_below (by (with_reducible repeat (first | apply Kd.R_alloc | apply Kd.R_drewN | apply Kd.R_drew)); exact (Kd.R_mono (Kd.R_far (p := ⟨gb275, 6, none⟩) (Kd.R_far (p := ⟨gb275, 5, none⟩) (Kd.R_far (p := ⟨gb275, 4, none⟩) (Kd.R_far (p := ⟨gb275, 3, none⟩) (Kd.R_far (p := ⟨gb275, 2, none⟩) (Kd.R_far (p := ⟨gb275, 1, none⟩) (Kd.R_far (p := ⟨gb275, 0, none⟩) (Kd.R_types HO_11.out BK275.out (by decide)) (fun _ hk => by first | exact hk.2 | trivial) (.int .u32 t268)) (fun _ hk => by first | exact hk.2 | trivial) (.int .i64 t269)) (fun _ hk => by first | exact hk.2 | trivial) (.int .i64 t270)) (fun _ hk => by first | exact hk.2 | trivial) (.int .i64 t271)) (fun _ hk => by first | exact hk.2 | trivial) (.int .i64 t272)) (fun _ hk => by first | exact hk.2 | trivial) (.int .u64 t273)) (fun _ hk => by first | exact hk.2 | trivial) (.int .u64 t274)) (fun _ h_ => h_.1))) hb); have n2_ := Aside0.mk (blk_below (g := gb275) (o := .cells #[.int .u32 t268, .int .i64 t269, .int .i64 t270, .int .i64 t271, .int .i64 t272, .int .u64 t273, .int .u64 t274] 45 (0, 0)) (by (with_reducible repeat (first | refine blk_drewN ?_ _ | refine blk_drew ?_ | refine blk_alloc ?_ _)); refine blk_put (cs := #[.int .u32 t268, .int .i64 t269, .int .i64 t270, .int .i64 t271, .int .i64 t272, .int .u64 t273, .int .u64 0]) ?_ 6 _ rfl; (with_reducible repeat (first | refine blk_drewN ?_ _ | refine blk_drew ?_ | refine blk_alloc ?_ _)); refine blk_put (cs := #[.int .u32 t268, .int .i64 t269, .int .i64 t270, .int .i64 t271, .int .i64 t272, .int .u64 0, .int .u64 0]) ?_ 5 _ rfl; (with_reducible repeat (first | refine blk_drewN ?_ _ | refine blk_drew ?_ | refine blk_alloc ?_ _)); refine blk_put (cs := #[.int .u32 t268, .int .i64 t269, .int .i64 t270, .int .i64 t271, .int .i64 0, .int .u64 0, .int .u64 0]) ?_ 4 _ rfl; (with_reducible repeat (first | refine blk_drewN ?_ _ | refine blk_drew ?_ | refine blk_alloc ?_ _)); refine blk_put (cs := #[.int .u32 t268, .int .i64 t269, .int .i64 t270, .int .i64 0, .int .i64 0, .int .u64 0, .int .u64 0]) ?_ 3 _ rfl; (with_reducible repeat (first | refine blk_drewN ?_ _ | refine blk_drew ?_ | refine blk_alloc ?_ _)); refine blk_put (cs := #[.int .u32 t268, .int .i64 t269, .int .i64 0, .int .i64 0, .int .i64 0, .int .u64 0, .int .u64 0]) ?_ 2 _ rfl; (with_reducible repeat (first | refine blk_drewN ?_ _ | refine blk_drew ?_ | refine blk_alloc ?_ _)); refine blk_put (cs := #[.int .u32 t268, .int .i64 0, .int .i64 0, .int .i64 0, .int .i64 0, .int .u64 0, .int .u64 0]) ?_ 1 _ rfl; (with_reducible repeat (first | refine blk_drewN ?_ _ | refine blk_drew ?_ | refine blk_alloc ?_ _)); refine blk_put (cs := #[.int .u32 0, .int .i64 0, .int .i64 0, .int .i64 0, .int .i64 0, .int .u64 0, .int .u64 0]) ?_ 0 _ rfl; (with_reducible repeat (first | refine blk_drewN ?_ _ | refine blk_drew ?_ | refine blk_alloc ?_ _)); exact BK275.out) hb); have n3_ := Aside0.mk (below_step (by repeat (first | (with_reducible first | exact HB.out | apply below_alloc | apply pw_below_drewN | apply below_drew1 | refine below_set ?_ GE275.out) | exact HB.out)) hb); clear HO_10; clear HO_11; clear BK275; clear HB; have HO_10 := n0_; have HO_11 := n1_; have BK275 := n2_; have HB := n3_; clear n0_ n1_ n2_ n3_; (try clear hb); (try clear hb2); (try clear hk); (try clear hi)))
                              go_ret3
                              exact ⟨_, _, by first | rfl | (simp [errW_none, errW_some] <;> rfl) | (simp only [← hji24]; first | rfl | (simp [errW_none, errW_some] <;> rfl)) | (simp [*, errW_none, errW_some] <;> rfl), by first | exact Kd.R_nil _ _ _ _ _ | exact Kd.N_nil _ _ _ _ _ | exact Kd.V_nil _ _ _ _ _ | exact Kd.Q_nil _ _ _ _ _ | exact Kd.S_nil _ _ _ _ _, by first | exact Kd.R_nil _ _ _ _ _ | exact Kd.N_nil _ _ _ _ _ | exact Kd.V_nil _ _ _ _ _ | exact Kd.Q_nil _ _ _ _ _ | exact Kd.S_nil _ _ _ _ _, by repeat (first | (with_reducible first | exact HB.out | apply below_alloc | apply pw_below_drewN | apply below_drew1 | refine below_set ?_ GE275.out) | exact HB.out)⟩
                          · replace c30 := Bool.eq_false_iff.mpr c30
                            subst c30
                            have H1 : (some (([] : List (S45)), ([] : List ByteArray), 32)) = some (r1, r2, r3) := by rw [if_neg (show ¬ (false = true) by decide)] at H; exact H
                            clear H
                            have H := H1
                            clear H1
                            simp only [Option.some.injEq, Prod.mk.injEq] at H
                            obtain ⟨rfl, rfl, rfl⟩ := H
                            obtain ⟨i048, hi048, _, hsz48, _⟩ := info_parts info5
                            obtain ⟨A48, hcut48, hA48, hC48⟩ := print_mid_of (P := Try.prog) (Value.int .u8) 0 22 5 .i64 .i64 Try.underlying22 hi048 hsz48 A0 c0 l0 (ji24) (wrap64 ((wrap64 (x12_2 + 1)) * 24)) (of_decide_eq_true (by first | (with_reducible assumption) | assumption)) (by first | omega | exact of_decide_eq_true (by first | (with_reducible assumption) | assumption)) (of_decide_eq_true (by first | (with_reducible assumption) | assumption)) HC0.out
                            have HR267 := Aside0.mk (Kd.C_of_reads (h1 := fun _ => rfl) (hA48 _ (Kd.reads_of_C HR0.out)))
                            have HC267 := Aside0.mk hC48
                            clear hA48 hC48 hi048 hsz48
                            go_wp2_with (first | ((with_reducible refine gate_callee (f := 46) rfl ?_); refine goesL_ (some 62) rfl rfl Try.func46 (by kernel_rfl) rfl #[.slice A48 ((l0.take ((wrap64 ((wrap64 (x12_2 + 1)) * 24)) : Int).toNat).drop ((ji24) : Int).toNat).length (c0 - (ji24).toNat)] rfl (by (try simp only [List.map_toArray, List.map_cons, List.map_nil]); first | done | (rw [show ((l0.take ((wrap64 ((wrap64 (x12_2 + 1)) * 24)) : Int).toNat).drop ((ji24) : Int).toNat).length = ((wrap64 ((wrap64 (x12_2 + 1)) * 24)).toNat - (ji24).toNat) from (by rw [List.length_drop, List.length_take]; have h_ : ((wrap64 ((wrap64 (x12_2 + 1)) * 24)) : Int) ≤ (l0.length : Int) := of_decide_eq_true (by first | (with_reducible assumption) | assumption); omega)] <;> rfl) | (simp only [hji24]; rfl) | rfl | (simp only [List.length_drop, List.length_take]; rfl)) ?_; (with_reducible refine (symtab_symbol.calls k2 _ _ ((l0.take ((wrap64 ((wrap64 (x12_2 + 1)) * 24)) : Int).toNat).drop ((ji24) : Int).toNat) t268 t269 t270 t271 t272 t273 t274 _ ?side1 ?side2 A28.out).mono ?_); (case side1 => repeat (first | exact (Kd.C_below HR267.out HB.out) | (with_reducible refine Kd.C_alloc ?_ _) | (with_reducible refine Kd.C_drewN ?_ _) | (with_reducible refine Kd.C_drew ?_))); (case side2 => exact HC267.out); rintro e w49 ⟨rfl, hb⟩; refine ⟨_, rfl, ?_⟩; have n0_ := Aside0.mk (Kd.R_below (by (with_reducible repeat (first | apply Kd.R_alloc | apply Kd.R_drewN | apply Kd.R_drew)); exact HO_10.out) hb); have n1_ := Aside0.mk (Kd.R_below (by (with_reducible repeat (first | apply Kd.R_alloc | apply Kd.R_drewN | apply Kd.R_drew)); exact HO_11.out) hb); have n2_ := Aside0.mk (below_step (by repeat (first | (with_reducible first | exact HB.out | apply below_alloc | apply pw_below_drewN | apply below_drew1) | exact HB.out)) hb); clear HO_10; clear HO_11; clear HB; have HO_10 := n0_; have HO_11 := n1_; have HB := n2_; clear n0_ n1_ n2_; (try clear hb); (try clear hb2); (try clear hk); (try clear hi)) | ((with_reducible refine gate_dst (N := 13) rfl ?_); refine box_event ?hg (N := 13) ?hd (cs := #[.int .u32 0, .int .i64 0, .int .i64 0, .int .i64 0, .int .i64 0, .int .u64 0, .int .u64 0]) (t := 45) ?hr ?_; (case hd => rfl); (case hg => rfl); (case hr => first | (go_simp; done) | (go_simp; rfl)); intro gb275 hg w50 hbox hb; have n0_ := Aside0.mk (Kd.R_below (Kd.R_elderB (by (with_reducible repeat (first | apply Kd.R_alloc | apply Kd.R_drewN | apply Kd.R_drew)); exact HO_10.out) gb275 (Nat.le_of_eq hg.symm)) hb); have n1_ := Aside0.mk (Kd.R_below (by (with_reducible repeat (first | apply Kd.R_alloc | apply Kd.R_drewN | apply Kd.R_drew)); exact HO_11.out) hb); have n2_ := Aside0.mk (below_step (by repeat (first | (with_reducible first | exact HB.out | apply below_alloc | apply pw_below_drewN | apply below_drew1) | exact HB.out)) hb); have n3_ := Aside0.mk (hbox); have n4_ := Aside0.mk ((by rw [hg]; exact (below_size (by repeat (first | (with_reducible first | exact HB.out | apply below_alloc | apply pw_below_drewN | apply below_drew1) | exact HB.out))) : w.heap.size ≤ gb275)); have n5_ := Aside0.mk ((by rw [hg]; exact (below_size (by repeat (first | (with_reducible first | exact HB.out | apply below_alloc | apply pw_below_drewN | apply below_drew1) | exact HB.out))) : w.heap.size ≤ gb275)); clear HO_10; clear HO_11; clear HB; have HO_10 := n0_; have HO_11 := n1_; have HB := n2_; have BK275 := n3_; have GW275 := n4_; have GE275 := n5_; clear n0_ n1_ n2_ n3_ n4_ n5_; clear hb hbox hg; have hcz51_0 : w50.cell? ⟨gb275, 0, none⟩ = some (.int .u32 0) := (blk_cell BK275.out 0).trans rfl; have hcz51_1 : w50.cell? ⟨gb275, 1, none⟩ = some (.int .i64 0) := (blk_cell BK275.out 1).trans rfl; have hcz51_2 : w50.cell? ⟨gb275, 2, none⟩ = some (.int .i64 0) := (blk_cell BK275.out 2).trans rfl; have hcz51_3 : w50.cell? ⟨gb275, 3, none⟩ = some (.int .i64 0) := (blk_cell BK275.out 3).trans rfl; have hcz51_4 : w50.cell? ⟨gb275, 4, none⟩ = some (.int .i64 0) := (blk_cell BK275.out 4).trans rfl; have hcz51_5 : w50.cell? ⟨gb275, 5, none⟩ = some (.int .u64 0) := (blk_cell BK275.out 5).trans rfl; have hcz51_6 : w50.cell? ⟨gb275, 6, none⟩ = some (.int .u64 0) := (blk_cell BK275.out 6).trans rfl; have hfz51_0 := blk_frozen BK275.out 0; have hfz51_1 := blk_frozen BK275.out 1; have hfz51_2 := blk_frozen BK275.out 2; have hfz51_3 := blk_frozen BK275.out 3; have hfz51_4 := blk_frozen BK275.out 4; have hfz51_5 := blk_frozen BK275.out 5; have hfz51_6 := blk_frozen BK275.out 6) | ((with_reducible refine gate_callee (f := 27) rfl ?_); refine goesL_ (some 67) rfl rfl Try.func27 (by kernel_rfl) rfl #[.slice A1 l1.length c1, .int .u32 t268] rfl (by (try simp only [List.map_toArray, List.map_cons, List.map_nil]); first | done | rfl | (simp only [List.length_drop, List.length_take]; rfl)) ?_; (with_reducible refine (strtab_Get.calls _ _ l1 t268 t276 false _ ?side1 ?side2 A29.out).mono ?_); (case side1 => exact Kd.C_below HR1.out (by repeat (first | (with_reducible first | exact HB.out | apply below_alloc | apply pw_below_drewN | apply below_drew1 | refine below_set ?_ GE275.out) | exact HB.out))); (case side2 => exact HC1.out); rintro e w' ⟨rfl, ⟨nd, rfl⟩⟩; refine ⟨_, rfl, ?_⟩))
                            go_ret3
                            exact ⟨_, _, by first | rfl | (simp [errW_none, errW_some] <;> rfl) | (simp only [← hji24]; first | rfl | (simp [errW_none, errW_some] <;> rfl)) | (simp [*, errW_none, errW_some] <;> rfl), by first | exact Kd.R_nil _ _ _ _ _ | exact Kd.N_nil _ _ _ _ _ | exact Kd.V_nil _ _ _ _ _ | exact Kd.Q_nil _ _ _ _ _ | exact Kd.S_nil _ _ _ _ _, by first | exact Kd.R_nil _ _ _ _ _ | exact Kd.N_nil _ _ _ _ _ | exact Kd.V_nil _ _ _ _ _ | exact Kd.Q_nil _ _ _ _ _ | exact Kd.S_nil _ _ _ _ _, by repeat (first | (with_reducible first | exact HB.out | apply below_alloc | apply pw_below_drewN | apply below_drew1 | refine below_set ?_ GE275.out) | exact HB.out)⟩
                        · rw [if_neg c27] at H
                          exact absurd H (by simp)
                      · rw [if_neg c26] at H
                        exact absurd H (by simp)
                    · rw [if_neg c25] at H
                      exact absurd H (by simp)
                  · rw [if_neg c23] at H
                    have c23b0 : decide (x12_2 < (wrap64 ((l0.length : Int) / 24))) = false := decide_eq_false c23
                    clear c23
                    simp only [Option.some.injEq, Prod.mk.injEq] at H
                    obtain ⟨rfl, rfl, rfl⟩ := H
                    go_wp2
                    go_ret3
                    exact ⟨_, _, by first | rfl | (simp [errW_none, errW_some] <;> rfl) | (simp [*, errW_none, errW_some] <;> rfl), by (with_reducible repeat (first | apply Kd.R_alloc | apply Kd.R_drewN | apply Kd.R_drew)); exact HO_10.out, by (with_reducible repeat (first | apply Kd.R_alloc | apply Kd.R_drewN | apply Kd.R_drew)); exact HO_11.out, by repeat (first | (with_reducible first | exact HB.out | apply below_alloc | apply pw_below_drewN | apply below_drew1) | exact HB.out)⟩
            · replace c13 := Bool.eq_false_iff.mpr c13
              subst c13
              have H1 : (some (([] : List (S45)), ([] : List ByteArray), 32)) = some (r1, r2, r3) := by rw [if_neg (show ¬ (false = true) by decide)] at H; exact H
              clear H
              have H := H1
              clear H1
              simp only [Option.some.injEq, Prod.mk.injEq] at H
              obtain ⟨rfl, rfl, rfl⟩ := H
              try go_wp2
              have n0_ := Aside0.mk (below_drew1 HB.out)
              clear HB
              have HB := n0_
              clear n0_
              obtain ⟨i053, hi053, _, hsz53, _⟩ := info_parts info5
              obtain ⟨hcut53, hA53, hC53⟩ := print_take_of (P := Try.prog) (Value.int .u8) 0 22 5 .i64 Try.underlying22 hi053 hsz53 A0 c0 l0 24 (by omega) (of_decide_eq_true (by first | (with_reducible assumption) | assumption)) HC0.out
              have HR256 := Aside0.mk (Kd.C_of_reads (h1 := fun _ => rfl) (hA53 _ (Kd.reads_of_C HR0.out)))
              have HC256 := Aside0.mk hC53
              clear hA53 hC53 hi053 hsz53
              refine start_ (n := 5) (S := fun w' => True) (ds := []) #[false, false, false, false, false] (by kernel_rfl) rfl rfl trivial (fun hHeld => ?_)
              generalize wc.drew = w52 at HB HR256 hHeld ⊢
              refine pure_ (i := 0) (N := some 42) (v := ?_) (a' := ?_) #[true, false, false, false, false] rfl rfl (by kernel_rfl) (fun _ _ _ h => h) (Or.inl ⟨by rfl, ?_⟩) ?_ ?_
              rotate_left
              · intro w'
                go_simp
                with_reducible rfl
              rotate_left
              · simp only [Act.put, List.setIfInBounds_toArray, List.set_cons_zero, List.set_cons_succ, i64_w, i32_w]
                rfl
              refine pure_ (i := 1) (N := some 43) (v := ?_) (a' := ?_) #[true, true, false, false, false] rfl rfl (by kernel_rfl) (fun _ _ _ h => h) (Or.inl ⟨by rfl, ?_⟩) ?_ ?_
              rotate_left
              · intro w'
                go_simp
                with_reducible rfl
              rotate_left
              · simp only [Act.put, List.setIfInBounds_toArray, List.set_cons_zero, List.set_cons_succ, i64_w, i32_w]
                rfl
              refine one_ (i := 2) (N := some 44) #[true, true, true, false, false] rfl rfl (by kernel_rfl) (by decide) (fun K hK => ?_)
              refine Kd.R_make_step (Kd.int .u8) _ 5 (by rfl) (N := 44) rfl 22 _ _ rfl 24 rfl rfl Try.underlying22 (.int .u8 0) 1 info5 rfl (by decide) (by omega) 0 (ok := fun _ => True) (okp := fun _ => True) rfl (fun _ hk => hk) trivial (by omega) (by omega) (Below.refl _ _) (Nat.le_refl _) ?_
              intro v258 w54 ho55 hb hg_ hnew_
              clear hg_ hnew_
              (first | rw [← Ny257.out] at ho55 | (simp only [Int.reduceToNat] at ho55; rw [← Ny257.out] at ho55))
              have n0_ := Aside0.mk (Kd.R_lower ho55 (below_size (by repeat (first | (with_reducible first | exact HB.out | apply below_alloc | apply pw_below_drewN | apply below_drew1) | exact HB.out))))
              have n1_ := Aside0.mk (below_step (by repeat (first | (with_reducible first | exact HB.out | apply below_alloc | apply pw_below_drewN | apply below_drew1) | exact HB.out)) hb)
              clear HB
              have HO259 := n0_
              have HB := n1_
              clear n0_ n1_
              clear hb ho55
              obtain ⟨Ao56, co56, eo56⟩ := Kd.R_slice HO259.out
              (first | subst eo56 | (injection eo56 with f1_ f2_ f3_; have f4_ := f1_.symm; have f5_ := f3_.symm; clear f1_ f2_ f3_; subst f4_; subst f5_))
              refine hK.out _ _ trivial (fun hHeld => ?_)
              clear hK K
              refine norm_ (a' := ?_) ?_ ?_
              rotate_left
              · show Act.put _ (some 44) _ = _
                simp only [Act.put, List.setIfInBounds_toArray, List.set_cons_zero, List.set_cons_succ, i64_w, i32_w]
                rfl
              refine one_ (i := 3) (N := some 45) #[true, true, true, true, false] rfl rfl (by kernel_rfl) (by decide) (fun K hK => ?_)
              refine goes_ Try.func35 (by kernel_rfl) rfl #[.slice A0 (l0.take 24).length c0, .slice Ao56 y257.length co56] (by rfl) rfl rfl (by (try simp only [List.map_toArray, List.map_cons, List.map_nil]); first | done | (rw [show (l0.take 24).length = 24 from (by rw [List.length_take]; have h_ : (24 : Int) ≤ (l0.length : Int) := of_decide_eq_true (by first | (with_reducible assumption) | assumption); omega)] <;> rfl) | rfl | (simp only [List.length_drop, List.length_take]; rfl)) ?_
              with_reducible refine (bytes_Equal.calls _ _ (l0.take 24) _ _ y257 false _ ?side1 ?side2 ?side3 ?side4 A12.out).mono ?_
              (case side1 => repeat (first | exact (Kd.C_below HR256.out HB.out) | (with_reducible refine Kd.C_alloc ?_ _) | (with_reducible refine Kd.C_drewN ?_ _) | (with_reducible refine Kd.C_drew ?_)))
              (case side2 => exact HC256.out)
              (case side3 => repeat (first | exact (Kd.R_reads' HO259.out).2.2 | (with_reducible refine Kd.C_alloc ?_ _) | (with_reducible refine Kd.C_drewN ?_ _) | (with_reducible refine Kd.C_drew ?_)))
              (case side4 => exact (Kd.R_reads' HO259.out).2.1)
              rintro e w' ⟨rfl, ⟨nd, rfl⟩⟩
              refine ⟨_, rfl, ?_⟩
              refine hK.out _ _ trivial (fun hHeld => ?_)
              clear hK K
              refine norm_ (a' := ?_) ?_ ?_
              rotate_left
              · show Act.put _ (some 45) _ = _
                simp only [Act.put, List.setIfInBounds_toArray, List.set_cons_zero, List.set_cons_succ, i64_w, i32_w]
                rfl
              refine pure_ (i := 4) (N := some 46) (v := ?_) (a' := ?_) #[true, true, true, true, true] rfl rfl (by kernel_rfl) (fun _ _ _ h => h) (Or.inl ⟨by rfl, ?_⟩) ?_ ?_
              rotate_left
              · intro w'
                go_simp
                with_reducible rfl
              rotate_left
              · simp only [Act.put, List.setIfInBounds_toArray, List.set_cons_zero, List.set_cons_succ, i64_w, i32_w]
                rfl
              refine done_ (by kernel_rfl) ?_
              try go_wp2
              go_ret3
              exact ⟨_, _, by first | rfl | (simp [errW_none, errW_some] <;> rfl) | (simp [*, errW_none, errW_some] <;> rfl), by first | exact Kd.R_nil _ _ _ _ _ | exact Kd.N_nil _ _ _ _ _ | exact Kd.V_nil _ _ _ _ _ | exact Kd.Q_nil _ _ _ _ _ | exact Kd.S_nil _ _ _ _ _, by first | exact Kd.R_nil _ _ _ _ _ | exact Kd.N_nil _ _ _ _ _ | exact Kd.V_nil _ _ _ _ _ | exact Kd.Q_nil _ _ _ _ _ | exact Kd.S_nil _ _ _ _ _, by repeat (first | (with_reducible first | exact HB.out | apply below_alloc | apply pw_below_drewN | apply below_drew1) | exact HB.out)⟩
          · rw [if_neg c11] at H
            exact absurd H (by simp)
        · rw [if_neg c10] at H
          exact absurd H (by simp)

end Go.Proofs.Ytojhnljjfmgjdaa.P
