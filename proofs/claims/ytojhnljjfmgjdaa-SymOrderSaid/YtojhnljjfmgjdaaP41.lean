-- printed by this session's program (wip/print), out of the translation; Lean checks it
import Derived.Test.YtojhnljjfmgjdaaP0
import Derived.Test.YtojhnljjfmgjdaaP26
namespace Go.Proofs.Ytojhnljjfmgjdaa.P
open Go.RowKit Go.Proofs.YtojhnljjfmgjdaaW.PrintWords Go.Proofs.YtojhnljjfmgjdaaW.PrintLast Go.Proofs.YtojhnljjfmgjdaaW.PrintMore
attribute [local go_sem] max2_int min2_int max_two min_two max_three min_three max_four min_four   -- for this text's walks alone
set_option linter.unusedVariables false
set_option linter.unusedSimpArgs false
open Go.Proofs.YtojhnljjfmgjdaaX

/-! ### dovetailref9_SymBytes: function 24 -/
def dovetailref9_SymBytes.l0 : Nat → List (S45) → List Int → Int → Option (List Int)
  | 0, _, _, _ => none
  | k + 1, x0, x3, x4 => if x4 < (x0.length : Int) then (if 0 ≤ x4 then ((dovetailref1_Put.f k x3 (IntKind.u64.wrap ((rd_T45 x0 x4).f0)) 4).bind fun t347 => ((some (([(Go.bits .or .i64 (wrap64 ((Go.bits .and .i64 ((rd_T45 x0 x4).f1) 15) * 16)) (Go.bits .and .i64 ((rd_T45 x0 x4).f2) 15)) % 256, ((rd_T45 x0 x4).f3) % 256] : List Int) : List Int)).bind fun y350 => (if t347.length + y350.length < 140737488355328 then ((dovetailref1_Put.f k (t347 ++ y350) (IntKind.u64.wrap ((rd_T45 x0 x4).f4)) 2).bind fun t356 => ((dovetailref1_Put.f k t356 ((rd_T45 x0 x4).f5) 8).bind fun t359 => ((dovetailref1_Put.f k t359 ((rd_T45 x0 x4).f6) 8).bind fun t362 => (dovetailref9_SymBytes.l0 k x0 t362 (wrap64 (x4 + 1)))))) else (none)))) else (none)) else (some x3)
def dovetailref9_SymBytes.f (k : Nat) (l0 : List (S45)) : Option (List Int) := dovetailref9_SymBytes.l0 k l0 ([] : List Int) 0
theorem dovetailref9_SymBytes.mono_l : ∀ k, (∀ y0 y1 y2, LeO (dovetailref9_SymBytes.l0 k y0 y1 y2) (dovetailref9_SymBytes.l0 (k + 1) y0 y1 y2))
  | 0 => fun _ _ _ r h => by simp [dovetailref9_SymBytes.l0] at h
  | k + 1 => by
    have ih0 := dovetailref9_SymBytes.mono_l k
    · intro y0 y1 y2
      unfold dovetailref9_SymBytes.l0
      repeat' first
      | (with_reducible exact ih0 _ _ _)
      | (with_reducible exact dovetailref1_Put.mono _ _ _ _)
      | (with_reducible exact LeO.refl _)
      | (with_reducible exact LeO.none _)
      | (with_reducible refine LeO.ite ?_ ?_)
      | (with_reducible refine LeO.bind ?_ (fun _ => ?_))
      | exact ih0 _ _ _
      | exact dovetailref1_Put.mono _ _ _ _
      | exact LeO.none _
      | refine LeO.ite ?_ ?_
      | refine LeO.bind ?_ (fun _ => ?_)
theorem dovetailref9_SymBytes.mono : ∀ a0 k, LeO (dovetailref9_SymBytes.f k a0) (dovetailref9_SymBytes.f (k + 1) a0) := by
  intro a0 k
  have ih0 := dovetailref9_SymBytes.mono_l k
  unfold dovetailref9_SymBytes.f
  repeat' first
      | (with_reducible exact ih0 _ _ _)
      | (with_reducible exact dovetailref1_Put.mono _ _ _ _)
      | (with_reducible exact LeO.refl _)
      | (with_reducible exact LeO.none _)
      | (with_reducible refine LeO.ite ?_ ?_)
      | (with_reducible refine LeO.bind ?_ (fun _ => ?_))
      | exact ih0 _ _ _
      | exact dovetailref1_Put.mono _ _ _ _
      | exact LeO.none _
      | refine LeO.ite ?_ ?_
      | refine LeO.bind ?_ (fun _ => ?_)
def dovetailref9_SymBytes.T8 : Bool × List (List Nat × List Nat) := (true, [([], []), ([], []), ([1], [1]), ([2], [2]), ([0, 3], [0, 3]), ([], []), ([5], [5]), ([4, 6, 4], [4, 6]), ([], []), ([8], [8]), ([7, 9, 7], [7, 9]), ([10, 10, 0, 1, 2, 3, 4, 5, 6, 7, 8, 9, 10], [0, 10])])
def dovetailref9_SymBytes.B8 : List Nat := [0, 0, 2, 6, 15, 0, 32, 127, 0, 256, 1023, 2047]
theorem dovetailref9_SymBytes.tab8 : rtab .any (opsOf Try.f24 8) = dovetailref9_SymBytes.T8 := by kernel_rfl
theorem dovetailref9_SymBytes.bits8 : waitsOk dovetailref9_SymBytes.T8.2 dovetailref9_SymBytes.B8 = true := by kernel_rfl
set_option maxHeartbeats 8000000 in
set_option maxRecDepth 100000 in
theorem dovetailref9_SymBytes.calls (k : Nat) (A0 : Option Addr) (c0 : Nat) (l0 : List (S45)) (r : List Int) (w : World) (hr0 : Kd.C k45 w A0 l0.length l0) (hc0 : l0.length ≤ c0) (h : dovetailref9_SymBytes.f k l0 = some r) :
    Calls Try.prog 24 #[.slice A0 l0.length c0] w fun e w' => ∃ v0_ : Value, e = .returned (v0_) ∧ Kd.R (Kd.int .u8) 5 w' w.heap.size (fun _ => True) v0_ r ∧ Below w.heap.size w w' := by
  have hu45 := Try.underlying45
  have HR0 := Aside0.mk hr0
  have HC0 := Aside0.mk hc0
  clear hr0 hc0
  have HB := Aside0.mk (Below.refl w.heap.size w)
  have H : (dovetailref9_SymBytes.l0 k l0 ([] : List Int) 0) = some r := h
  clear h
  have H' := Aside0.mk H
  clear H
  go_enter Try.func24, Try.ntmps24
  go_wp2
  go_loopg [3, 4] k (fun kq v3 v4 w' => ∃ (x3_1 : List Int) (x4_1 : Int), v4 = .int .i64 x4_1 ∧ Aside0 (dovetailref9_SymBytes.l0 kq l0 x3_1 x4_1 = some r) ∧ Aside0 (kq ≤ k) ∧ Aside0 (Kd.R (Kd.int .u8) 5 w' w.heap.size (fun _ => True) v3 x3_1) ∧ Aside0 (Below w.heap.size w w'))
  case atStart => exact ⟨(([] : List Int)), (0), (by first | rfl | (simp; done) | (simp [*]; done)), H', ⟨Nat.le_refl _⟩, ⟨by first | exact Kd.R_nil _ _ _ _ _ | exact Kd.N_nil _ _ _ _ _ | exact Kd.V_nil _ _ _ _ _ | exact Kd.Q_nil _ _ _ _ _ | exact Kd.S_nil _ _ _ _ _⟩, ⟨by repeat (first | (with_reducible first | exact HB.out | apply below_alloc | apply pw_below_drewN | apply below_drew1) | exact HB.out)⟩⟩
  case round =>
    clear H'
    obtain ⟨x3_1, x4_1, rfl, HA, HK1, HO_3, HB⟩ := hrel
    cases gk with
    | zero => exact absurd HA.out (by simp [dovetailref9_SymBytes.l0])
    | succ k1 =>
      have H := HA.out
      clear HA
      simp only [dovetailref9_SymBytes.l0] at H
      by_cases c2 : x4_1 < (l0.length : Int)
      · rw [if_pos c2] at H
        have c2b0 : decide (x4_1 < (l0.length : Int)) = true := decide_eq_true c2
        clear c2
        by_cases c3 : 0 ≤ x4_1
        · rw [if_pos c3] at H
          have c3b0 : decide (0 ≤ x4_1) = true := decide_eq_true c3
          clear c3
          replace H := Option.bind_eq_some_iff.mp H
          obtain ⟨t347, A40, H⟩ := H
          replace H : ((some (([(Go.bits .or .i64 (wrap64 ((Go.bits .and .i64 ((rd_T45 l0 x4_1).f1) 15) * 16)) (Go.bits .and .i64 ((rd_T45 l0 x4_1).f2) 15)) % 256, ((rd_T45 l0 x4_1).f3) % 256] : List Int) : List Int)).bind fun y350 => (if t347.length + y350.length < 140737488355328 then ((dovetailref1_Put.f k1 (t347 ++ y350) (IntKind.u64.wrap ((rd_T45 l0 x4_1).f4)) 2).bind fun t356 => ((dovetailref1_Put.f k1 t356 ((rd_T45 l0 x4_1).f5) 8).bind fun t359 => ((dovetailref1_Put.f k1 t359 ((rd_T45 l0 x4_1).f6) 8).bind fun t362 => (dovetailref9_SymBytes.l0 k1 l0 t362 (wrap64 (x4_1 + 1)))))) else (none))) = some r := H
          have A4 := Aside0.mk A40
          clear A40
          obtain ⟨y350, hy350⟩ : ∃ y_ : List Int, y_ = (([(Go.bits .or .i64 (wrap64 ((Go.bits .and .i64 ((rd_T45 l0 x4_1).f1) 15) * 16)) (Go.bits .and .i64 ((rd_T45 l0 x4_1).f2) 15)) % 256, ((rd_T45 l0 x4_1).f3) % 256] : List Int)) := ⟨_, rfl⟩
          replace H : (if t347.length + y350.length < 140737488355328 then ((dovetailref1_Put.f k1 (t347 ++ y350) (IntKind.u64.wrap ((rd_T45 l0 x4_1).f4)) 2).bind fun t356 => ((dovetailref1_Put.f k1 t356 ((rd_T45 l0 x4_1).f5) 8).bind fun t359 => ((dovetailref1_Put.f k1 t359 ((rd_T45 l0 x4_1).f6) 8).bind fun t362 => (dovetailref9_SymBytes.l0 k1 l0 t362 (wrap64 (x4_1 + 1)))))) else (none)) = some r := by first | (rw [hy350]; with_reducible exact H) | (have H2_ := (Option.bind_some _ _).symm.trans H; rw [hy350]; with_reducible exact H2_) | (have H2_ := (Option.bind_some _ _).symm.trans H; with_reducible exact H2_) | with_reducible exact H | (rw [hy350]; exact H) | exact H
          have Ny350 := Aside0.mk hy350
          clear hy350
          by_cases c5 : t347.length + y350.length < 140737488355328
          · rw [if_pos c5] at H
            have LMc5 := Aside0.mk c5
            clear c5
            obtain ⟨y353, hy353⟩ : ∃ y_ : List Int, y_ = (t347 ++ y350) := ⟨_, rfl⟩
            replace H : ((dovetailref1_Put.f k1 y353 (IntKind.u64.wrap ((rd_T45 l0 x4_1).f4)) 2).bind fun t356 => ((dovetailref1_Put.f k1 t356 ((rd_T45 l0 x4_1).f5) 8).bind fun t359 => ((dovetailref1_Put.f k1 t359 ((rd_T45 l0 x4_1).f6) 8).bind fun t362 => (dovetailref9_SymBytes.l0 k1 l0 t362 (wrap64 (x4_1 + 1)))))) = some r := by first | (rw [hy353]; with_reducible exact H) | (have H2_ := (Option.bind_some _ _).symm.trans H; rw [hy353]; with_reducible exact H2_) | (have H2_ := (Option.bind_some _ _).symm.trans H; with_reducible exact H2_) | with_reducible exact H | (rw [hy353]; exact H) | exact H
            have Ny353 := Aside0.mk hy353
            clear hy353
            replace H := Option.bind_eq_some_iff.mp H
            obtain ⟨t356, A60, H⟩ := H
            replace H : ((dovetailref1_Put.f k1 t356 ((rd_T45 l0 x4_1).f5) 8).bind fun t359 => ((dovetailref1_Put.f k1 t359 ((rd_T45 l0 x4_1).f6) 8).bind fun t362 => (dovetailref9_SymBytes.l0 k1 l0 t362 (wrap64 (x4_1 + 1))))) = some r := H
            have A6 := Aside0.mk A60
            clear A60
            replace H := Option.bind_eq_some_iff.mp H
            obtain ⟨t359, A70, H⟩ := H
            replace H : ((dovetailref1_Put.f k1 t359 ((rd_T45 l0 x4_1).f6) 8).bind fun t362 => (dovetailref9_SymBytes.l0 k1 l0 t362 (wrap64 (x4_1 + 1)))) = some r := H
            have A7 := Aside0.mk A70
            clear A70
            replace H := Option.bind_eq_some_iff.mp H
            obtain ⟨t362, A80, H⟩ := H
            replace H : (dovetailref9_SymBytes.l0 k1 l0 t362 (wrap64 (x4_1 + 1))) = some r := H
            have A8 := Aside0.mk A80
            clear A80
            have H' := Aside0.mk H
            clear H
            have p345 : 0 ≤ (x4_1 : Int) := of_decide_eq_true (by first | (with_reducible assumption) | assumption)
            have q345 : x4_1 < (l0.length : Int) := of_decide_eq_true (by first | (with_reducible assumption) | assumption)
            obtain ⟨ad345, e345, hx345_0, hx345_1, hx345_2, hx345_3, hx345_4, hx345_5, hx345_6⟩ := at_T45 HR0.out x4_1 p345 q345
            cases e345
            replace hx345_0 := (HB.out.cell (World.block_lt_of_cell? w _ hx345_0)).trans hx345_0
            replace hx345_1 := (HB.out.cell (World.block_lt_of_cell? w _ hx345_1)).trans hx345_1
            replace hx345_2 := (HB.out.cell (World.block_lt_of_cell? w _ hx345_2)).trans hx345_2
            replace hx345_3 := (HB.out.cell (World.block_lt_of_cell? w _ hx345_3)).trans hx345_3
            replace hx345_4 := (HB.out.cell (World.block_lt_of_cell? w _ hx345_4)).trans hx345_4
            replace hx345_5 := (HB.out.cell (World.block_lt_of_cell? w _ hx345_5)).trans hx345_5
            replace hx345_6 := (HB.out.cell (World.block_lt_of_cell? w _ hx345_6)).trans hx345_6
            replace p345 := eq_true p345
            replace q345 := eq_true q345
            try go_wp2_with (first | ((with_reducible refine gate_dst (N := 5) rfl ?_); refine box_event ?hg (N := 5) ?hd (cs := #[.int .u32 0, .int .i64 0, .int .i64 0, .int .i64 0, .int .i64 0, .int .u64 0, .int .u64 0]) (t := 45) ?hr ?_; (case hd => rfl); (case hg => rfl); (case hr => first | (go_simp; done) | (go_simp; rfl)); intro gb346 hg w9 hbox hb; have n0_ := Aside0.mk (Kd.R_below (by (with_reducible repeat (first | apply Kd.R_alloc | apply Kd.R_drewN | apply Kd.R_drew)); exact HO_3.out) hb); have n1_ := Aside0.mk (below_step (by repeat (first | (with_reducible first | exact HB.out | apply below_alloc | apply pw_below_drewN | apply below_drew1) | exact HB.out)) hb); have n2_ := Aside0.mk (hbox); have n3_ := Aside0.mk ((by rw [hg]; exact (below_size (by repeat (first | (with_reducible first | exact HB.out | apply below_alloc | apply pw_below_drewN | apply below_drew1) | exact HB.out))) : w.heap.size ≤ gb346)); have n4_ := Aside0.mk ((by rw [hg]; exact (below_size (by repeat (first | (with_reducible first | exact HB.out | apply below_alloc | apply pw_below_drewN | apply below_drew1) | exact HB.out))) : w.heap.size ≤ gb346)); clear HO_3; clear HB; have HO_3 := n0_; have HB := n1_; have BK346 := n2_; have GW346 := n3_; have GE346 := n4_; clear n0_ n1_ n2_ n3_ n4_; clear hb hbox hg; have hcz10_0 : w9.cell? ⟨gb346, 0, none⟩ = some (.int .u32 0) := (blk_cell BK346.out 0).trans rfl; have hcz10_1 : w9.cell? ⟨gb346, 1, none⟩ = some (.int .i64 0) := (blk_cell BK346.out 1).trans rfl; have hcz10_2 : w9.cell? ⟨gb346, 2, none⟩ = some (.int .i64 0) := (blk_cell BK346.out 2).trans rfl; have hcz10_3 : w9.cell? ⟨gb346, 3, none⟩ = some (.int .i64 0) := (blk_cell BK346.out 3).trans rfl; have hcz10_4 : w9.cell? ⟨gb346, 4, none⟩ = some (.int .i64 0) := (blk_cell BK346.out 4).trans rfl; have hcz10_5 : w9.cell? ⟨gb346, 5, none⟩ = some (.int .u64 0) := (blk_cell BK346.out 5).trans rfl; have hcz10_6 : w9.cell? ⟨gb346, 6, none⟩ = some (.int .u64 0) := (blk_cell BK346.out 6).trans rfl; have hfz10_0 := blk_frozen BK346.out 0; have hfz10_1 := blk_frozen BK346.out 1; have hfz10_2 := blk_frozen BK346.out 2; have hfz10_3 := blk_frozen BK346.out 3; have hfz10_4 := blk_frozen BK346.out 4; have hfz10_5 := blk_frozen BK346.out 5; have hfz10_6 := blk_frozen BK346.out 6) | ((with_reducible refine gate_store (t := 45) (p := 5) rfl ?_); refine store_event (t := 45) (p := 5) (v := ?vo_w11) (w1 := (((((((w9.setCell ⟨gb346, 0, none⟩ (.int .u32 ((rd_T45 l0 x4_1).f0))).setCell ⟨gb346, 1, none⟩ (.int .i64 ((rd_T45 l0 x4_1).f1))).setCell ⟨gb346, 2, none⟩ (.int .i64 ((rd_T45 l0 x4_1).f2))).setCell ⟨gb346, 3, none⟩ (.int .i64 ((rd_T45 l0 x4_1).f3))).setCell ⟨gb346, 4, none⟩ (.int .i64 ((rd_T45 l0 x4_1).f4))).setCell ⟨gb346, 5, none⟩ (.int .u64 ((rd_T45 l0 x4_1).f5))).setCell ⟨gb346, 6, none⟩ (.int .u64 ((rd_T45 l0 x4_1).f6)))) ?hg ?ho ?hn ?hr ?_; (case ho => rfl); (case hg => rfl); (case hn => rfl); (case hr => first | (go_simp; done) | (go_simp; rfl)); intro w11 hw; have n0_ : Aside0 (Kd.R (Kd.int .u8) 5 w11 w.heap.size (fun _ => True) u3 x3_1) := ⟨(by rw [hw]; exact (by (with_reducible repeat (first | apply Kd.R_alloc | apply Kd.R_drewN | apply Kd.R_drew)); exact Kd.R_mono (Kd.R_far (p := ⟨gb346, 6, none⟩) (Kd.R_far (p := ⟨gb346, 5, none⟩) (Kd.R_far (p := ⟨gb346, 4, none⟩) (Kd.R_far (p := ⟨gb346, 3, none⟩) (Kd.R_far (p := ⟨gb346, 2, none⟩) (Kd.R_far (p := ⟨gb346, 1, none⟩) (Kd.R_far (p := ⟨gb346, 0, none⟩) (Kd.R_types HO_3.out BK346.out (by decide)) (fun _ hk => by first | exact hk.2 | trivial) (.int .u32 ((rd_T45 l0 x4_1).f0))) (fun _ hk => by first | exact hk.2 | trivial) (.int .i64 ((rd_T45 l0 x4_1).f1))) (fun _ hk => by first | exact hk.2 | trivial) (.int .i64 ((rd_T45 l0 x4_1).f2))) (fun _ hk => by first | exact hk.2 | trivial) (.int .i64 ((rd_T45 l0 x4_1).f3))) (fun _ hk => by first | exact hk.2 | trivial) (.int .i64 ((rd_T45 l0 x4_1).f4))) (fun _ hk => by first | exact hk.2 | trivial) (.int .u64 ((rd_T45 l0 x4_1).f5))) (fun _ hk => by first | exact hk.2 | trivial) (.int .u64 ((rd_T45 l0 x4_1).f6))) (fun _ hk => trivial)))⟩; have n1_ : Aside0 (w11.heap[gb346]? = some (.cells #[.int .u32 ((rd_T45 l0 x4_1).f0), .int .i64 ((rd_T45 l0 x4_1).f1), .int .i64 ((rd_T45 l0 x4_1).f2), .int .i64 ((rd_T45 l0 x4_1).f3), .int .i64 ((rd_T45 l0 x4_1).f4), .int .u64 ((rd_T45 l0 x4_1).f5), .int .u64 ((rd_T45 l0 x4_1).f6)] 45 (0, 0))) := ⟨(by rw [hw]; exact (by (with_reducible repeat (first | refine blk_drewN ?_ _ | refine blk_drew ?_ | refine blk_alloc ?_ _)); refine blk_put (cs := #[.int .u32 ((rd_T45 l0 x4_1).f0), .int .i64 ((rd_T45 l0 x4_1).f1), .int .i64 ((rd_T45 l0 x4_1).f2), .int .i64 ((rd_T45 l0 x4_1).f3), .int .i64 ((rd_T45 l0 x4_1).f4), .int .u64 ((rd_T45 l0 x4_1).f5), .int .u64 0]) ?_ 6 _ rfl; (with_reducible repeat (first | refine blk_drewN ?_ _ | refine blk_drew ?_ | refine blk_alloc ?_ _)); refine blk_put (cs := #[.int .u32 ((rd_T45 l0 x4_1).f0), .int .i64 ((rd_T45 l0 x4_1).f1), .int .i64 ((rd_T45 l0 x4_1).f2), .int .i64 ((rd_T45 l0 x4_1).f3), .int .i64 ((rd_T45 l0 x4_1).f4), .int .u64 0, .int .u64 0]) ?_ 5 _ rfl; (with_reducible repeat (first | refine blk_drewN ?_ _ | refine blk_drew ?_ | refine blk_alloc ?_ _)); refine blk_put (cs := #[.int .u32 ((rd_T45 l0 x4_1).f0), .int .i64 ((rd_T45 l0 x4_1).f1), .int .i64 ((rd_T45 l0 x4_1).f2), .int .i64 ((rd_T45 l0 x4_1).f3), .int .i64 0, .int .u64 0, .int .u64 0]) ?_ 4 _ rfl; (with_reducible repeat (first | refine blk_drewN ?_ _ | refine blk_drew ?_ | refine blk_alloc ?_ _)); refine blk_put (cs := #[.int .u32 ((rd_T45 l0 x4_1).f0), .int .i64 ((rd_T45 l0 x4_1).f1), .int .i64 ((rd_T45 l0 x4_1).f2), .int .i64 0, .int .i64 0, .int .u64 0, .int .u64 0]) ?_ 3 _ rfl; (with_reducible repeat (first | refine blk_drewN ?_ _ | refine blk_drew ?_ | refine blk_alloc ?_ _)); refine blk_put (cs := #[.int .u32 ((rd_T45 l0 x4_1).f0), .int .i64 ((rd_T45 l0 x4_1).f1), .int .i64 0, .int .i64 0, .int .i64 0, .int .u64 0, .int .u64 0]) ?_ 2 _ rfl; (with_reducible repeat (first | refine blk_drewN ?_ _ | refine blk_drew ?_ | refine blk_alloc ?_ _)); refine blk_put (cs := #[.int .u32 ((rd_T45 l0 x4_1).f0), .int .i64 0, .int .i64 0, .int .i64 0, .int .i64 0, .int .u64 0, .int .u64 0]) ?_ 1 _ rfl; (with_reducible repeat (first | refine blk_drewN ?_ _ | refine blk_drew ?_ | refine blk_alloc ?_ _)); refine blk_put (cs := #[.int .u32 0, .int .i64 0, .int .i64 0, .int .i64 0, .int .i64 0, .int .u64 0, .int .u64 0]) ?_ 0 _ rfl; (with_reducible repeat (first | refine blk_drewN ?_ _ | refine blk_drew ?_ | refine blk_alloc ?_ _)); exact BK346.out))⟩; have n2_ : Aside0 (Below w.heap.size w w11) := ⟨(by rw [hw]; exact (by repeat (first | (with_reducible first | exact HB.out | apply below_alloc | apply pw_below_drewN | apply below_drew1 | refine below_set ?_ GE346.out) | exact HB.out)))⟩; clear hw; clear HO_3; clear BK346; clear HB; have HO_3 := n0_; have BK346 := n1_; have HB := n2_; clear n0_ n1_ n2_; have hcz12_0 : w11.cell? ⟨gb346, 0, none⟩ = some (.int .u32 ((rd_T45 l0 x4_1).f0)) := (blk_cell BK346.out 0).trans rfl; have hcz12_1 : w11.cell? ⟨gb346, 1, none⟩ = some (.int .i64 ((rd_T45 l0 x4_1).f1)) := (blk_cell BK346.out 1).trans rfl; have hcz12_2 : w11.cell? ⟨gb346, 2, none⟩ = some (.int .i64 ((rd_T45 l0 x4_1).f2)) := (blk_cell BK346.out 2).trans rfl; have hcz12_3 : w11.cell? ⟨gb346, 3, none⟩ = some (.int .i64 ((rd_T45 l0 x4_1).f3)) := (blk_cell BK346.out 3).trans rfl; have hcz12_4 : w11.cell? ⟨gb346, 4, none⟩ = some (.int .i64 ((rd_T45 l0 x4_1).f4)) := (blk_cell BK346.out 4).trans rfl; have hcz12_5 : w11.cell? ⟨gb346, 5, none⟩ = some (.int .u64 ((rd_T45 l0 x4_1).f5)) := (blk_cell BK346.out 5).trans rfl; have hcz12_6 : w11.cell? ⟨gb346, 6, none⟩ = some (.int .u64 ((rd_T45 l0 x4_1).f6)) := (blk_cell BK346.out 6).trans rfl; have hfz12_0 := blk_frozen BK346.out 0; have hfz12_1 := blk_frozen BK346.out 1; have hfz12_2 := blk_frozen BK346.out 2; have hfz12_3 := blk_frozen BK346.out 3; have hfz12_4 := blk_frozen BK346.out 4; have hfz12_5 := blk_frozen BK346.out 5; have hfz12_6 := blk_frozen BK346.out 6; obtain ⟨Ao13, co13, eo13⟩ := Kd.R_slice HO_3.out; subst eo13) | ((with_reducible refine gate_callee (f := 44) rfl ?_); refine goesL_ (some 20) rfl rfl Try.func44 (by kernel_rfl) rfl #[.slice Ao13 x3_1.length co13, .int .u64 (IntKind.u64.wrap ((rd_T45 l0 x4_1).f0)), .int .i64 4] rfl (by (try simp only [List.map_toArray, List.map_cons, List.map_nil]); first | done | rfl | (simp only [List.length_drop, List.length_take]; rfl)) ?_; (with_reducible refine (dovetailref1_Put.calls k1 (fun k_ => some k_ = (.slice Ao13 x3_1.length co13 : Value).ownBlock) (.slice Ao13 x3_1.length co13) x3_1 (IntKind.u64.wrap ((rd_T45 l0 x4_1).f0)) 4 t347 w _ ?side1 ?side2 A4.out).mono ?_); (case side1 => repeat (first | (with_reducible first | exact HB.out | apply below_alloc | apply pw_below_drewN | apply below_drew1 | refine below_set ?_ GE346.out) | exact HB.out)); (case side2 => exact Kd.R_tight rfl HO_3.out); rintro e w14 ⟨v348, rfl, ho0, hb, hkp⟩; refine ⟨_, rfl, ?_⟩; have n0_ := Aside0.mk (blk_kept (by (with_reducible repeat (first | refine blk_drewN ?_ _ | refine blk_drew ?_ | refine blk_alloc ?_ _)); exact BK346.out) hkp (fun hs_ => (fun e_ => (Kd.R_ne HO_3.out BK346.out (by decide)) e_) hs_)); have n1_ := Aside0.mk (Kd.R_mono (ok' := fun k_ => True) ho0 (fun k_ hk_ => trivial)); have n2_ := Aside0.mk (hb); clear BK346; clear HB; clear HO_3; have BK346 := n0_; have HO349 := n1_; have HB := n2_; clear n0_ n1_ n2_; (try clear hb); (try clear hkp); (try clear ho0); have hcz15_0 : w14.cell? ⟨gb346, 0, none⟩ = some (.int .u32 ((rd_T45 l0 x4_1).f0)) := (blk_cell BK346.out 0).trans rfl; have hcz15_1 : w14.cell? ⟨gb346, 1, none⟩ = some (.int .i64 ((rd_T45 l0 x4_1).f1)) := (blk_cell BK346.out 1).trans rfl; have hcz15_2 : w14.cell? ⟨gb346, 2, none⟩ = some (.int .i64 ((rd_T45 l0 x4_1).f2)) := (blk_cell BK346.out 2).trans rfl; have hcz15_3 : w14.cell? ⟨gb346, 3, none⟩ = some (.int .i64 ((rd_T45 l0 x4_1).f3)) := (blk_cell BK346.out 3).trans rfl; have hcz15_4 : w14.cell? ⟨gb346, 4, none⟩ = some (.int .i64 ((rd_T45 l0 x4_1).f4)) := (blk_cell BK346.out 4).trans rfl; have hcz15_5 : w14.cell? ⟨gb346, 5, none⟩ = some (.int .u64 ((rd_T45 l0 x4_1).f5)) := (blk_cell BK346.out 5).trans rfl; have hcz15_6 : w14.cell? ⟨gb346, 6, none⟩ = some (.int .u64 ((rd_T45 l0 x4_1).f6)) := (blk_cell BK346.out 6).trans rfl; have hfz15_0 := blk_frozen BK346.out 0; have hfz15_1 := blk_frozen BK346.out 1; have hfz15_2 := blk_frozen BK346.out 2; have hfz15_3 := blk_frozen BK346.out 3; have hfz15_4 := blk_frozen BK346.out 4; have hfz15_5 := blk_frozen BK346.out 5; have hfz15_6 := blk_frozen BK346.out 6) | ((with_reducible refine gate_dst (N := 34) rfl ?_); refine Kd.R_lit (Kd.int .u8) _ 5 ?hg (N := 34) ?hd (xs := ([(Go.bits .or .i64 (wrap64 ((Go.bits .and .i64 ((rd_T45 l0 x4_1).f1) 15) * 16)) (Go.bits .and .i64 ((rd_T45 l0 x4_1).f2) 15)) % 256, ((rd_T45 l0 x4_1).f3) % 256] : List Int)) (inner := [.int .u8 ((Go.bits .or .i64 (wrap64 ((Go.bits .and .i64 ((rd_T45 l0 x4_1).f1) 15) * 16)) (Go.bits .and .i64 ((rd_T45 l0 x4_1).f2) 15)) % 256), .int .u8 (((rd_T45 l0 x4_1).f3) % 256)]) (ok := fun _ => True) (okp := fun _ => True) ?hr ?hp (fun _ hk => hk) trivial (Below.refl _ _) (Nat.le_refl _) (by simp) ?_; (case hd => rfl); (case hg => rfl); (case hr => first | (go_simp; done) | (go_simp; rfl)); (case hp => exact (Reps.one (show Kd.M (Kd.int .u8) _ _ _ ((Go.bits .or .i64 (wrap64 ((Go.bits .and .i64 ((rd_T45 l0 x4_1).f1) 15) * 16)) (Go.bits .and .i64 ((rd_T45 l0 x4_1).f2) 15)) % 256) [.int .u8 ((Go.bits .or .i64 (wrap64 ((Go.bits .and .i64 ((rd_T45 l0 x4_1).f1) 15) * 16)) (Go.bits .and .i64 ((rd_T45 l0 x4_1).f2) 15)) % 256)] from rfl) (Reps.one (show Kd.M (Kd.int .u8) _ _ _ (((rd_T45 l0 x4_1).f3) % 256) [.int .u8 (((rd_T45 l0 x4_1).f3) % 256)] from rfl) (Reps.none _ _)))); intro v351 w16 ho17 hb hg_ hnew_; clear hg_ hnew_; (first | rw [← Ny350.out] at ho17 | (simp only [Int.reduceToNat] at ho17; rw [← Ny350.out] at ho17)); have n0_ := Aside0.mk (Kd.R_elder' (by (with_reducible repeat (first | apply Kd.R_alloc | apply Kd.R_drewN | apply Kd.R_drew)); exact HO349.out) (Kd.R_base ho17) hb); have n1_ := Aside0.mk (Kd.R_lower (Kd.R_new' ho17 (Kd.R_lt (by (with_reducible repeat (first | apply Kd.R_alloc | apply Kd.R_drewN | apply Kd.R_drew)); exact HO349.out))) (below_size (by repeat (first | (with_reducible first | exact HB.out | apply below_alloc | apply pw_below_drewN | apply below_drew1 | refine below_set ?_ GE346.out) | exact HB.out)))); have n2_ := Aside0.mk (blk_below (g := gb346) (o := .cells #[.int .u32 ((rd_T45 l0 x4_1).f0), .int .i64 ((rd_T45 l0 x4_1).f1), .int .i64 ((rd_T45 l0 x4_1).f2), .int .i64 ((rd_T45 l0 x4_1).f3), .int .i64 ((rd_T45 l0 x4_1).f4), .int .u64 ((rd_T45 l0 x4_1).f5), .int .u64 ((rd_T45 l0 x4_1).f6)] 45 (0, 0)) (by (with_reducible repeat (first | refine blk_drewN ?_ _ | refine blk_drew ?_ | refine blk_alloc ?_ _)); exact BK346.out) hb); have n3_ := Aside0.mk (below_step (by repeat (first | (with_reducible first | exact HB.out | apply below_alloc | apply pw_below_drewN | apply below_drew1 | refine below_set ?_ GE346.out) | exact HB.out)) hb); clear HO349; clear BK346; clear HB; have HO349 := n0_; have HO352 := n1_; have BK346 := n2_; have HB := n3_; clear n0_ n1_ n2_ n3_; clear hb ho17; obtain ⟨Ao19, co19, eo19⟩ := Kd.R_slice HO352.out; subst eo19) | ((with_reducible refine gate_builtin (b := .append) (xs := #[.tmp 21, .tmp 34]) rfl ?_); at_builtin; refine Kd.R_append_rows (Kd.int .u8) (w0 := w) w.heap.size rfl (.tmp 21) (.tmp 34) 22 5 (.int .u8 0) 1 rfl Try.underlying22 info5 rfl (by decide) (by omega) v348 t347 y350 _ _ _ (fun k_ => some k_ ≠ (.slice Ao19 y350.length co19 : Value).ownBlock) (fun _ => False) rfl rfl ?aO ?aR (fun _ _ h => h) (fun _ h => h.elim) ?aF ?aB ?aS ?aL ?_; (case aR => repeat (first | exact (Kd.R_reads' HO352.out).2.2 | (with_reducible refine Kd.C_alloc ?_ _) | (with_reducible refine Kd.C_drewN ?_ _) | (with_reducible refine Kd.C_drew ?_))); (case aB => exact (by repeat (first | (with_reducible first | exact HB.out | apply below_alloc | apply pw_below_drewN | apply below_drew1 | refine below_set ?_ GE346.out) | exact HB.out))); (case aF => exact (fun k_ hk => Kd.fresh' (Kd.R_lt (by (with_reducible repeat (first | apply Kd.R_alloc | apply Kd.R_drewN | apply Kd.R_drew)); exact HO352.out)) k_ hk)); (case aO => exact (by (with_reducible repeat (first | apply Kd.R_alloc | apply Kd.R_drewN | apply Kd.R_drew)); exact Kd.R_mono HO349.out (fun _ hk => by first | exact hk.2 | trivial))); (case aS => exact (below_size (by repeat (first | (with_reducible first | exact HB.out | apply below_alloc | apply pw_below_drewN | apply below_drew1 | refine below_set ?_ GE346.out) | exact HB.out)))); (case aL => have := LMc5.out; omega); intro v354 w18 ho hb hg hat; rw [← Ny353.out] at ho; have n0_ := Aside0.mk (blk_grown (g := gb346) (o := .cells #[.int .u32 ((rd_T45 l0 x4_1).f0), .int .i64 ((rd_T45 l0 x4_1).f1), .int .i64 ((rd_T45 l0 x4_1).f2), .int .i64 ((rd_T45 l0 x4_1).f3), .int .i64 ((rd_T45 l0 x4_1).f4), .int .u64 ((rd_T45 l0 x4_1).f5), .int .u64 ((rd_T45 l0 x4_1).f6)] 45 (0, 0)) (by (with_reducible repeat (first | refine blk_drewN ?_ _ | refine blk_drew ?_ | refine blk_alloc ?_ _)); exact BK346.out) hg (Kd.R_ne HO349.out BK346.out (by decide))); have n1_ := Aside0.mk (Kd.R_after (ok := (fun _ => True)) (by (with_reducible repeat (first | apply Kd.R_alloc | apply Kd.R_drewN | apply Kd.R_drew)); exact HO352.out) hg hat); have n2_ := Aside0.mk (hb); have n3_ := Aside0.mk (ho); clear BK346; clear HO352; clear HB; clear HO349; have BK346 := n0_; have HO352 := n1_; have HB := n2_; have HO355 := n3_; clear n0_ n1_ n2_ n3_; clear ho hb hg hat))
            have n0_ := Aside0.mk (Kd.R_drew HO352.out)
            have n1_ := Aside0.mk (Kd.R_drew HO355.out)
            have n2_ := Aside0.mk (blk_drew BK346.out)
            have n3_ := Aside0.mk (below_drew1 HB.out)
            clear HO352
            clear HO355
            clear BK346
            clear HB
            have HO352 := n0_
            have HO355 := n1_
            have BK346 := n2_
            have HB := n3_
            clear n0_ n1_ n2_ n3_
            obtain ⟨Ao21, co21, eo21⟩ := Kd.R_slice HO355.out
            (first | subst eo21 | (injection eo21 with f1_ f2_ f3_; have f4_ := f1_.symm; have f5_ := f3_.symm; clear f1_ f2_ f3_; subst f4_; subst f5_))
            refine start_ (n := 12) (S := fun w' => w'.cell? ⟨gb346, 0, none⟩ = some (.int .u32 ((rd_T45 l0 x4_1).f0)) ∧ w'.cell? ⟨gb346, 1, none⟩ = some (.int .i64 ((rd_T45 l0 x4_1).f1)) ∧ w'.cell? ⟨gb346, 2, none⟩ = some (.int .i64 ((rd_T45 l0 x4_1).f2)) ∧ w'.cell? ⟨gb346, 3, none⟩ = some (.int .i64 ((rd_T45 l0 x4_1).f3)) ∧ w'.cell? ⟨gb346, 4, none⟩ = some (.int .i64 ((rd_T45 l0 x4_1).f4)) ∧ w'.cell? ⟨gb346, 5, none⟩ = some (.int .u64 ((rd_T45 l0 x4_1).f5)) ∧ w'.cell? ⟨gb346, 6, none⟩ = some (.int .u64 ((rd_T45 l0 x4_1).f6))) (ds := []) #[false, false, false, false, false, false, false, false, false, false, false, false] (by kernel_rfl) rfl rfl ⟨(blk_cell BK346.out 0).trans rfl, (blk_cell BK346.out 1).trans rfl, (blk_cell BK346.out 2).trans rfl, (blk_cell BK346.out 3).trans rfl, (blk_cell BK346.out 4).trans rfl, (blk_cell BK346.out 5).trans rfl, (blk_cell BK346.out 6).trans rfl⟩ (fun hHeld => ?_); refine with_tabW dovetailref9_SymBytes.tab8 dovetailref9_SymBytes.bits8 (fun HT_ HW_ => ?_)
            generalize w18.drew = w20 at HO352 HO355 BK346 HB hHeld ⊢
            refine pure_ (i := 0) (N := some 36) (v := ?_) (a' := ?_) #[true, false, false, false, false, false, false, false, false, false, false, false] rfl rfl (any_of HT_.out (by kernel_rfl)) (fun _ _ _ h => h) (Or.inl ⟨by rfl, ?_⟩) ?_ ?_
            rotate_left
            · intro w'
              go_simp
              with_reducible rfl
            rotate_left
            · simp only [Act.put, List.setIfInBounds_toArray, List.set_cons_zero, List.set_cons_succ, i64_w, i32_w]
              rfl
            refine pure_ (i := 1) (N := some 37) (v := ?_) (a' := ?_) #[true, true, false, false, false, false, false, false, false, false, false, false] rfl rfl (any_of HT_.out (by kernel_rfl)) (fun _ _ _ h => h) (Or.inl ⟨by rfl, ?_⟩) ?_ ?_
            rotate_left
            · intro w'
              go_simp
              with_reducible rfl
            rotate_left
            · simp only [Act.put, List.setIfInBounds_toArray, List.set_cons_zero, List.set_cons_succ, i64_w, i32_w]
              rfl
            refine pure_ (i := 5) (N := some 41) (v := ?_) (a' := ?_) #[true, true, false, false, false, true, false, false, false, false, false, false] rfl rfl (any_of HT_.out (by kernel_rfl)) (fun _ _ _ h => h) (Or.inl ⟨by rfl, ?_⟩) ?_ ?_
            rotate_left
            · intro w'
              go_simp
              with_reducible rfl
            rotate_left
            · simp only [Act.put, List.setIfInBounds_toArray, List.set_cons_zero, List.set_cons_succ, i64_w, i32_w]
              rfl
            refine pure_ (i := 8) (N := some 44) (v := ?_) (a' := ?_) #[true, true, false, false, false, true, false, false, true, false, false, false] rfl rfl (any_of HT_.out (by kernel_rfl)) (fun _ _ _ h => h) (Or.inl ⟨by rfl, ?_⟩) ?_ ?_
            rotate_left
            · intro w'
              go_simp
              with_reducible rfl
            rotate_left
            · simp only [Act.put, List.setIfInBounds_toArray, List.set_cons_zero, List.set_cons_succ, i64_w, i32_w]
              rfl
            refine take_ (i := 2) (N := some 38) (v := ?_) (a' := ?_) #[true, true, true, false, false, true, false, false, true, false, false, false] rfl rfl (take_ofW HT_.out HW_.out (by kernel_rfl)) (fun _ _ _ h => h) (Or.inl ⟨by rfl, ?_⟩) hHeld ?_ ?_
            rotate_left
            · rintro w' ⟨s0, s1, s2, s3, s4, s5, s6⟩
              go_simp
              with_reducible rfl
            rotate_left
            · simp only [Act.put, List.setIfInBounds_toArray, List.set_cons_zero, List.set_cons_succ, i64_w, i32_w]
              rfl
            refine pure_ (i := 3) (N := some 39) (v := ?_) (a' := ?_) #[true, true, true, true, false, true, false, false, true, false, false, false] rfl rfl (any_of HT_.out (by kernel_rfl)) (fun _ _ _ h => h) (Or.inl ⟨by rfl, ?_⟩) ?_ ?_
            rotate_left
            · intro w'
              go_simp
              with_reducible rfl
            rotate_left
            · simp only [Act.put, List.setIfInBounds_toArray, List.set_cons_zero, List.set_cons_succ, i64_w, i32_w]
              rfl
            refine take_ (i := 6) (N := some 42) (v := ?_) (a' := ?_) #[true, true, true, true, false, true, true, false, true, false, false, false] rfl rfl (take_ofW HT_.out HW_.out (by kernel_rfl)) (fun _ _ _ h => h) (Or.inl ⟨by rfl, ?_⟩) hHeld ?_ ?_
            rotate_left
            · rintro w' ⟨s0, s1, s2, s3, s4, s5, s6⟩
              go_simp
              with_reducible rfl
            rotate_left
            · simp only [Act.put, List.setIfInBounds_toArray, List.set_cons_zero, List.set_cons_succ, i64_w, i32_w]
              rfl
            refine take_ (i := 9) (N := some 45) (v := ?_) (a' := ?_) #[true, true, true, true, false, true, true, false, true, true, false, false] rfl rfl (take_ofW HT_.out HW_.out (by kernel_rfl)) (fun _ _ _ h => h) (Or.inl ⟨by rfl, ?_⟩) hHeld ?_ ?_
            rotate_left
            · rintro w' ⟨s0, s1, s2, s3, s4, s5, s6⟩
              go_simp
              with_reducible rfl
            rotate_left
            · simp only [Act.put, List.setIfInBounds_toArray, List.set_cons_zero, List.set_cons_succ, i64_w, i32_w]
              rfl
            refine one_ (i := 4) (N := some 40) #[true, true, true, true, true, true, true, false, true, true, false, false] rfl rfl (one_of HT_.out (by kernel_rfl)) (by decide) (fun K hK => ?_)
            refine goes_ Try.func44 (by kernel_rfl) rfl #[.slice Ao21 y353.length co21, .int .u64 (IntKind.u64.wrap ((rd_T45 l0 x4_1).f4)), .int .i64 2] (by rfl) rfl rfl (by (try simp only [List.map_toArray, List.map_cons, List.map_nil]); first | done | rfl | (simp only [List.length_drop, List.length_take]; rfl)) ?_
            with_reducible refine (dovetailref1_Put.calls k1 (fun k_ => some k_ = (.slice Ao21 y353.length co21 : Value).ownBlock) (.slice Ao21 y353.length co21) y353 (IntKind.u64.wrap ((rd_T45 l0 x4_1).f4)) 2 t356 w _ ?side1 ?side2 A6.out).mono ?_
            (case side1 => repeat (first | (with_reducible first | exact HB.out | apply below_alloc | apply pw_below_drewN | apply below_drew1 | refine below_set ?_ GE346.out) | exact HB.out))
            (case side2 => exact Kd.R_tight rfl HO355.out)
            rintro e w22 ⟨v357, rfl, ho0, hb, hkp⟩
            refine ⟨_, rfl, ?_⟩
            have n0_ := Aside0.mk (blk_kept (by (with_reducible repeat (first | refine blk_drewN ?_ _ | refine blk_drew ?_ | refine blk_alloc ?_ _)); exact BK346.out) hkp (fun hs_ => (fun e_ => (Kd.R_ne HO355.out BK346.out (by decide)) e_) hs_))
            have n1_ := Aside0.mk (Kd.R_mono (ok' := fun k_ => some k_ ≠ (v357 : Value).ownBlock) (Kd.R_keptB (HO352.out) hkp (fun k_ hk_ hs_ => (hk_.2) hs_)) (fun k_ hk_ => fun e_ => Or.elim (ho0.1 k_ e_.symm) (fun hs_ => hk_.2.1 hs_) (fun hn_ => Nat.not_le.2 hk_.2.2 hn_)))
            have n2_ := Aside0.mk (Kd.R_mono (ok' := fun k_ => some k_ ≠ (.slice Ao19 y350.length co19 : Value).ownBlock) ho0 (fun k_ hk_ => Or.elim hk_ (fun hs_ => fun e_ => (((HO352.out).1 k_ e_.symm).2) hs_) (fun hn_ => (Kd.fresh' (Kd.R_lt (by (with_reducible repeat (first | apply Kd.R_alloc | apply Kd.R_drewN | apply Kd.R_drew)); exact HO352.out)) k_ hn_))))
            have n3_ := Aside0.mk (hb)
            clear BK346
            clear HO352
            clear HB
            clear HO355
            have BK346 := n0_
            have HO352 := n1_
            have HO358 := n2_
            have HB := n3_
            clear n0_ n1_ n2_ n3_
            (try clear hb)
            (try clear hkp)
            (try clear ho0)
            obtain ⟨Ao23, co23, eo23⟩ := Kd.R_slice HO358.out
            (first | subst eo23 | (injection eo23 with f1_ f2_ f3_; have f4_ := f1_.symm; have f5_ := f3_.symm; clear f1_ f2_ f3_; subst f4_; subst f5_))
            refine hK.out _ _ ⟨(blk_cell BK346.out 0).trans rfl, (blk_cell BK346.out 1).trans rfl, (blk_cell BK346.out 2).trans rfl, (blk_cell BK346.out 3).trans rfl, (blk_cell BK346.out 4).trans rfl, (blk_cell BK346.out 5).trans rfl, (blk_cell BK346.out 6).trans rfl⟩ (fun hHeld => ?_)
            clear hK K
            refine norm_ (a' := ?_) ?_ ?_
            rotate_left
            · show Act.put _ (some 40) _ = _
              simp only [Act.put, List.setIfInBounds_toArray, List.set_cons_zero, List.set_cons_succ, i64_w, i32_w]
              rfl
            refine one_ (i := 7) (N := some 43) #[true, true, true, true, true, true, true, true, true, true, false, false] rfl rfl (one_of HT_.out (by kernel_rfl)) (by decide) (fun K hK => ?_)
            refine goes_ Try.func44 (by kernel_rfl) rfl #[.slice Ao23 t356.length co23, .int .u64 ((rd_T45 l0 x4_1).f5), .int .i64 8] (by rfl) rfl rfl (by (try simp only [List.map_toArray, List.map_cons, List.map_nil]); first | done | rfl | (simp only [List.length_drop, List.length_take]; rfl)) ?_
            with_reducible refine (dovetailref1_Put.calls k1 (fun k_ => some k_ = (.slice Ao23 t356.length co23 : Value).ownBlock) (.slice Ao23 t356.length co23) t356 ((rd_T45 l0 x4_1).f5) 8 t359 w _ ?side1 ?side2 A7.out).mono ?_
            (case side1 => repeat (first | (with_reducible first | exact HB.out | apply below_alloc | apply pw_below_drewN | apply below_drew1 | refine below_set ?_ GE346.out) | exact HB.out))
            (case side2 => exact Kd.R_tight rfl HO358.out)
            rintro e w24 ⟨v360, rfl, ho0, hb, hkp⟩
            refine ⟨_, rfl, ?_⟩
            have n0_ := Aside0.mk (blk_kept (by (with_reducible repeat (first | refine blk_drewN ?_ _ | refine blk_drew ?_ | refine blk_alloc ?_ _)); exact BK346.out) hkp (fun hs_ => (fun e_ => (Kd.R_ne HO358.out BK346.out (by decide)) e_) hs_))
            have n1_ := Aside0.mk (Kd.R_mono (ok' := fun k_ => some k_ ≠ (v360 : Value).ownBlock) (Kd.R_keptB (HO352.out) hkp (fun k_ hk_ hs_ => (hk_) hs_)) (fun k_ hk_ => fun e_ => Or.elim (ho0.1 k_ e_.symm) (fun hs_ => hk_.2.1 hs_) (fun hn_ => Nat.not_le.2 hk_.2.2 hn_)))
            have n2_ := Aside0.mk (Kd.R_mono (ok' := fun k_ => some k_ ≠ (.slice Ao19 y350.length co19 : Value).ownBlock) ho0 (fun k_ hk_ => Or.elim hk_ (fun hs_ => fun e_ => (((HO352.out).1 k_ e_.symm)) hs_) (fun hn_ => (Kd.fresh' (Kd.R_lt (by (with_reducible repeat (first | apply Kd.R_alloc | apply Kd.R_drewN | apply Kd.R_drew)); exact HO352.out)) k_ hn_))))
            have n3_ := Aside0.mk (hb)
            clear BK346
            clear HO352
            clear HB
            clear HO358
            have BK346 := n0_
            have HO352 := n1_
            have HO361 := n2_
            have HB := n3_
            clear n0_ n1_ n2_ n3_
            (try clear hb)
            (try clear hkp)
            (try clear ho0)
            obtain ⟨Ao25, co25, eo25⟩ := Kd.R_slice HO361.out
            (first | subst eo25 | (injection eo25 with f1_ f2_ f3_; have f4_ := f1_.symm; have f5_ := f3_.symm; clear f1_ f2_ f3_; subst f4_; subst f5_))
            refine hK.out _ _ ⟨(blk_cell BK346.out 0).trans rfl, (blk_cell BK346.out 1).trans rfl, (blk_cell BK346.out 2).trans rfl, (blk_cell BK346.out 3).trans rfl, (blk_cell BK346.out 4).trans rfl, (blk_cell BK346.out 5).trans rfl, (blk_cell BK346.out 6).trans rfl⟩ (fun hHeld => ?_)
            clear hK K
            refine norm_ (a' := ?_) ?_ ?_
            rotate_left
            · show Act.put _ (some 43) _ = _
              simp only [Act.put, List.setIfInBounds_toArray, List.set_cons_zero, List.set_cons_succ, i64_w, i32_w]
              rfl
            refine one_ (i := 10) (N := some 46) #[true, true, true, true, true, true, true, true, true, true, true, false] rfl rfl (one_of HT_.out (by kernel_rfl)) (by decide) (fun K hK => ?_)
            refine goes_ Try.func44 (by kernel_rfl) rfl #[.slice Ao25 t359.length co25, .int .u64 ((rd_T45 l0 x4_1).f6), .int .i64 8] (by rfl) rfl rfl (by (try simp only [List.map_toArray, List.map_cons, List.map_nil]); first | done | rfl | (simp only [List.length_drop, List.length_take]; rfl)) ?_
            with_reducible refine (dovetailref1_Put.calls k1 (fun k_ => some k_ = (.slice Ao25 t359.length co25 : Value).ownBlock) (.slice Ao25 t359.length co25) t359 ((rd_T45 l0 x4_1).f6) 8 t362 w _ ?side1 ?side2 A8.out).mono ?_
            (case side1 => repeat (first | (with_reducible first | exact HB.out | apply below_alloc | apply pw_below_drewN | apply below_drew1 | refine below_set ?_ GE346.out) | exact HB.out))
            (case side2 => exact Kd.R_tight rfl HO361.out)
            rintro e w26 ⟨v363, rfl, ho0, hb, hkp⟩
            refine ⟨_, rfl, ?_⟩
            have n0_ := Aside0.mk (blk_kept (by (with_reducible repeat (first | refine blk_drewN ?_ _ | refine blk_drew ?_ | refine blk_alloc ?_ _)); exact BK346.out) hkp (fun hs_ => (fun e_ => (Kd.R_ne HO361.out BK346.out (by decide)) e_) hs_))
            have n1_ := Aside0.mk (Kd.R_mono (ok' := fun k_ => some k_ ≠ (v363 : Value).ownBlock) (Kd.R_keptB (HO352.out) hkp (fun k_ hk_ hs_ => (hk_) hs_)) (fun k_ hk_ => fun e_ => Or.elim (ho0.1 k_ e_.symm) (fun hs_ => hk_.2.1 hs_) (fun hn_ => Nat.not_le.2 hk_.2.2 hn_)))
            have n2_ := Aside0.mk (Kd.R_mono (ok' := fun k_ => some k_ ≠ (.slice Ao19 y350.length co19 : Value).ownBlock) ho0 (fun k_ hk_ => Or.elim hk_ (fun hs_ => fun e_ => (((HO352.out).1 k_ e_.symm)) hs_) (fun hn_ => (Kd.fresh' (Kd.R_lt (by (with_reducible repeat (first | apply Kd.R_alloc | apply Kd.R_drewN | apply Kd.R_drew)); exact HO352.out)) k_ hn_))))
            have n3_ := Aside0.mk (hb)
            clear BK346
            clear HO352
            clear HB
            clear HO361
            have BK346 := n0_
            have HO352 := n1_
            have HO364 := n2_
            have HB := n3_
            clear n0_ n1_ n2_ n3_
            (try clear hb)
            (try clear hkp)
            (try clear ho0)
            refine hK.out _ _ ⟨(blk_cell BK346.out 0).trans rfl, (blk_cell BK346.out 1).trans rfl, (blk_cell BK346.out 2).trans rfl, (blk_cell BK346.out 3).trans rfl, (blk_cell BK346.out 4).trans rfl, (blk_cell BK346.out 5).trans rfl, (blk_cell BK346.out 6).trans rfl⟩ (fun hHeld => ?_)
            clear hK K
            refine norm_ (a' := ?_) ?_ ?_
            rotate_left
            · show Act.put _ (some 46) _ = _
              simp only [Act.put, List.setIfInBounds_toArray, List.set_cons_zero, List.set_cons_succ, i64_w, i32_w]
              rfl
            refine pure_ (i := 11) (N := some 3) (v := ?_) (a' := ?_) #[true, true, true, true, true, true, true, true, true, true, true, true] rfl rfl (any_of HT_.out (by kernel_rfl)) (fun _ _ _ h => h) (Or.inl ⟨by rfl, ?_⟩) ?_ ?_
            rotate_left
            · intro w'
              go_simp
              with_reducible rfl
            rotate_left
            · simp only [Act.put, List.setIfInBounds_toArray, List.set_cons_zero, List.set_cons_succ, i64_w, i32_w]
              rfl
            refine done_ (done_of HT_.out (by kernel_rfl)) ?_
            try go_wp2
            go_roundg k1
            case measure => have := HK1.out; omega
            case rel => exact ⟨(t362), (wrap64 (x4_1 + 1)), (by first | rfl | (simp; done) | (simp [*]; done)), H', ⟨by have := HK1.out; omega⟩, ⟨by (with_reducible repeat (first | apply Kd.R_alloc | apply Kd.R_drewN | apply Kd.R_drew)); exact Kd.R_mono HO364.out (fun _ hk => trivial)⟩, ⟨by repeat (first | (with_reducible first | exact HB.out | apply below_alloc | apply pw_below_drewN | apply below_drew1 | refine below_set ?_ GE346.out) | exact HB.out)⟩⟩
          · rw [if_neg c5] at H
            exact absurd H (by simp)
        · rw [if_neg c3] at H
          exact absurd H (by simp)
      · rw [if_neg c2] at H
        have c2b0 : decide (x4_1 < (l0.length : Int)) = false := decide_eq_false c2
        clear c2
        obtain rfl := Option.some.inj H
        go_wp2
        go_ret
        exact ⟨_, by first | rfl | (simp [errW_none, errW_some] <;> rfl) | (simp [*, errW_none, errW_some] <;> rfl), by (with_reducible repeat (first | apply Kd.R_alloc | apply Kd.R_drewN | apply Kd.R_drew)); exact HO_3.out, by repeat (first | (with_reducible first | exact HB.out | apply below_alloc | apply pw_below_drewN | apply below_drew1) | exact HB.out)⟩

end Go.Proofs.Ytojhnljjfmgjdaa.P
