-- printed by this session's program (wip/print), out of the translation; Lean checks it
import Derived.Test.YtojhnljjfmgjdaaP0
import Derived.Test.YtojhnljjfmgjdaaP11
import Derived.Test.YtojhnljjfmgjdaaP12
import Derived.Test.YtojhnljjfmgjdaaP13
namespace Go.Proofs.Ytojhnljjfmgjdaa.P
open Go.RowKit Go.Proofs.YtojhnljjfmgjdaaW.PrintWords Go.Proofs.YtojhnljjfmgjdaaW.PrintLast Go.Proofs.YtojhnljjfmgjdaaW.PrintMore
attribute [local go_sem] max2_int min2_int max_two min_two max_three min_three max_four min_four   -- for this text's walks alone
set_option linter.unusedVariables false
set_option linter.unusedSimpArgs false
open Go.Proofs.YtojhnljjfmgjdaaX

/-! ### symtab_symbol: function 46 -/
def symtab_symbol.f (k : Nat) (l0 : List Int) : Option (Int × Int × Int × Int × Int × Int × Int) := (le_U32.f k l0 0).bind fun bt244 => ((le_U16.f k l0 6).bind fun bt246 => ((le_U64.f k l0 8).bind fun bt248 => ((le_U64.f k l0 16).bind fun bt250 => (if 4 < (l0.length : Int) then (if 5 < (l0.length : Int) then (some (bt244.1, wrap64 ((rd l0 4) / 16), wrap64 (Go.bits .and .u8 (rd l0 4) 15), wrap64 (rd l0 5), wrap64 (bt246.1), bt248.1, bt250.1)) else (none)) else (none)))))
theorem symtab_symbol.mono : ∀ a0 k, LeO (symtab_symbol.f k a0) (symtab_symbol.f (k + 1) a0) := by
  intro a0 k
  unfold symtab_symbol.f
  repeat' first
      | (with_reducible exact le_U16.mono _ _ _)
      | (with_reducible exact le_U32.mono _ _ _)
      | (with_reducible exact le_U64.mono _ _ _)
      | (with_reducible exact LeO.refl _)
      | (with_reducible exact LeO.none _)
      | (with_reducible refine LeO.ite ?_ ?_)
      | (with_reducible refine LeO.bind ?_ (fun _ => ?_))
      | exact le_U16.mono _ _ _
      | exact le_U32.mono _ _ _
      | exact le_U64.mono _ _ _
      | exact LeO.none _
      | refine LeO.ite ?_ ?_
      | refine LeO.bind ?_ (fun _ => ?_)
def symtab_symbol.T5 : Bool × List (List Nat × List Nat) := (true, [([], []), ([], []), ([1], [1]), ([2], [2]), ([3], [3]), ([4], [4]), ([], []), ([6], [6]), ([7], [7]), ([8], [8]), ([9], [9]), ([], []), ([11], [11]), ([12], [12]), ([13], [13]), ([], []), ([15], [15]), ([], []), ([], []), ([0, 5, 10, 14, 16, 17, 18], [0, 5, 10, 14, 16, 17, 18]), ([19, 0, 1, 2, 3, 4, 5, 6, 7, 8, 9, 10, 11, 12, 13, 14, 15, 16, 17, 18, 19], [19])])
def symtab_symbol.B5 : List Nat := [0, 0, 2, 6, 14, 30, 0, 64, 192, 448, 960, 0, 2048, 6144, 14336, 0, 32768, 0, 0, 524287, 1048575]
theorem symtab_symbol.tab5 : rtab .any (opsOf Try.f46 5) = symtab_symbol.T5 := by kernel_rfl
theorem symtab_symbol.bits5 : waitsOk symtab_symbol.T5.2 symtab_symbol.B5 = true := by kernel_rfl
set_option maxHeartbeats 8000000 in
set_option maxRecDepth 100000 in
theorem symtab_symbol.calls (k : Nat) (A0 : Option Addr) (c0 : Nat) (l0 : List Int) (r1 : Int) (r2 : Int) (r3 : Int) (r4 : Int) (r5 : Int) (r6 : Int) (r7 : Int) (w : World) (hr0 : Kd.C (Kd.int .u8) w A0 l0.length l0) (hc0 : l0.length ≤ c0) (h : symtab_symbol.f k l0 = some (r1, r2, r3, r4, r5, r6, r7)) :
    Calls Try.prog 46 #[.slice A0 l0.length c0] w fun e w' => e = .returned (.agg #[.int .u32 r1, .int .i64 r2, .int .i64 r3, .int .i64 r4, .int .i64 r5, .int .u64 r6, .int .u64 r7]) ∧ Below w.heap.size w w' := by
  have hu45 := Try.underlying45
  have HR0 := Aside0.mk hr0
  have HC0 := Aside0.mk hc0
  clear hr0 hc0
  have HB := Aside0.mk (Below.refl w.heap.size w)
  have H : ((le_U32.f k l0 0).bind fun bt244 => ((le_U16.f k l0 6).bind fun bt246 => ((le_U64.f k l0 8).bind fun bt248 => ((le_U64.f k l0 16).bind fun bt250 => (if 4 < (l0.length : Int) then (if 5 < (l0.length : Int) then (some (bt244.1, wrap64 ((rd l0 4) / 16), wrap64 (Go.bits .and .u8 (rd l0 4) 15), wrap64 (rd l0 5), wrap64 (bt246.1), bt248.1, bt250.1)) else (none)) else (none)))))) = some (r1, r2, r3, r4, r5, r6, r7) := h
  clear h
  replace H := Option.bind_eq_some_iff.mp H
  obtain ⟨⟨t244, t245⟩, A20, H⟩ := H
  replace H : ((le_U16.f k l0 6).bind fun bt246 => ((le_U64.f k l0 8).bind fun bt248 => ((le_U64.f k l0 16).bind fun bt250 => (if 4 < (l0.length : Int) then (if 5 < (l0.length : Int) then (some (t244, wrap64 ((rd l0 4) / 16), wrap64 (Go.bits .and .u8 (rd l0 4) 15), wrap64 (rd l0 5), wrap64 (bt246.1), bt248.1, bt250.1)) else (none)) else (none))))) = some (r1, r2, r3, r4, r5, r6, r7) := H
  have A2 := Aside0.mk A20
  clear A20
  replace H := Option.bind_eq_some_iff.mp H
  obtain ⟨⟨t246, t247⟩, A30, H⟩ := H
  replace H : ((le_U64.f k l0 8).bind fun bt248 => ((le_U64.f k l0 16).bind fun bt250 => (if 4 < (l0.length : Int) then (if 5 < (l0.length : Int) then (some (t244, wrap64 ((rd l0 4) / 16), wrap64 (Go.bits .and .u8 (rd l0 4) 15), wrap64 (rd l0 5), wrap64 (t246), bt248.1, bt250.1)) else (none)) else (none)))) = some (r1, r2, r3, r4, r5, r6, r7) := H
  have A3 := Aside0.mk A30
  clear A30
  replace H := Option.bind_eq_some_iff.mp H
  obtain ⟨⟨t248, t249⟩, A40, H⟩ := H
  replace H : ((le_U64.f k l0 16).bind fun bt250 => (if 4 < (l0.length : Int) then (if 5 < (l0.length : Int) then (some (t244, wrap64 ((rd l0 4) / 16), wrap64 (Go.bits .and .u8 (rd l0 4) 15), wrap64 (rd l0 5), wrap64 (t246), t248, bt250.1)) else (none)) else (none))) = some (r1, r2, r3, r4, r5, r6, r7) := H
  have A4 := Aside0.mk A40
  clear A40
  replace H := Option.bind_eq_some_iff.mp H
  obtain ⟨⟨t250, t251⟩, A50, H⟩ := H
  replace H : (if 4 < (l0.length : Int) then (if 5 < (l0.length : Int) then (some (t244, wrap64 ((rd l0 4) / 16), wrap64 (Go.bits .and .u8 (rd l0 4) 15), wrap64 (rd l0 5), wrap64 (t246), t248, t250)) else (none)) else (none)) = some (r1, r2, r3, r4, r5, r6, r7) := H
  have A5 := Aside0.mk A50
  clear A50
  by_cases c6 : 4 < (l0.length : Int)
  · rw [if_pos c6] at H
    have c6b0 : decide (4 < (l0.length : Int)) = true := decide_eq_true c6
    have c6b1 : decide (4 < l0.length) = true := decide_eq_true (by omega)
    clear c6
    by_cases c7 : 5 < (l0.length : Int)
    · rw [if_pos c7] at H
      have c7b0 : decide (5 < (l0.length : Int)) = true := decide_eq_true c7
      have c7b1 : decide (5 < l0.length) = true := decide_eq_true (by omega)
      clear c7
      simp only [Option.some.injEq, Prod.mk.injEq] at H
      obtain ⟨rfl, rfl, rfl, rfl, rfl, rfl, rfl⟩ := H
      go_enter Try.func46, Try.ntmps46
      try go_wp2_with (first | ((with_reducible refine gate_dst (N := 2) rfl ?_); refine box_event ?hg (N := 2) ?hd (cs := #[.int .u32 0, .int .i64 0, .int .i64 0, .int .i64 0, .int .i64 0, .int .u64 0, .int .u64 0]) (t := 45) ?hr ?_; (case hd => rfl); (case hg => rfl); (case hr => first | (go_simp; done) | (go_simp; rfl)); intro gb243 hg w8 hbox hb; have n0_ := Aside0.mk (below_step (by repeat (first | (with_reducible first | exact HB.out | apply below_alloc | apply pw_below_drewN | apply below_drew1) | exact HB.out)) hb); have n1_ := Aside0.mk (hbox); have n2_ := Aside0.mk ((by rw [hg]; exact (below_size (by repeat (first | (with_reducible first | exact HB.out | apply below_alloc | apply pw_below_drewN | apply below_drew1) | exact HB.out))) : w.heap.size ≤ gb243)); have n3_ := Aside0.mk ((by rw [hg]; exact (below_size (by repeat (first | (with_reducible first | exact HB.out | apply below_alloc | apply pw_below_drewN | apply below_drew1) | exact HB.out))) : w.heap.size ≤ gb243)); clear HB; have HB := n0_; have BK243 := n1_; have GW243 := n2_; have GE243 := n3_; clear n0_ n1_ n2_ n3_; clear hb hbox hg) | ((with_reducible refine gate_callee (f := 33) rfl ?_); refine goesL_ (some 13) rfl rfl Try.func33 (by kernel_rfl) rfl #[.slice A0 l0.length c0, .int .u64 0] rfl (by (try simp only [List.map_toArray, List.map_cons, List.map_nil]); first | done | rfl | (simp only [List.length_drop, List.length_take]; rfl)) ?_; (with_reducible refine (le_U32.calls k _ _ l0 0 t244 t245 _ ?side1 ?side2 A2.out).mono ?_); (case side1 => repeat (first | exact (Kd.C_below HR0.out HB.out) | (with_reducible refine Kd.C_alloc ?_ _) | (with_reducible refine Kd.C_drewN ?_ _) | (with_reducible refine Kd.C_drew ?_))); (case side2 => exact HC0.out); rintro e w' ⟨rfl, ⟨nd, rfl⟩⟩; refine ⟨_, rfl, ?_⟩; (try (rw [drewN_self w8]; generalize hq_ : World.drewN w8 _ = w8; have n0_ : Aside0 (w8.heap[gb243]? = some (.cells #[.int .u32 0, .int .i64 0, .int .i64 0, .int .i64 0, .int .i64 0, .int .u64 0, .int .u64 0] 45 (0, 0))) := ⟨by rw [← hq_]; exact (by (with_reducible repeat (first | refine blk_drewN ?_ _ | refine blk_drew ?_ | refine blk_alloc ?_ _)); exact BK243.out)⟩; have n1_ : Aside0 (Below w.heap.size w w8) := ⟨by rw [← hq_]; exact (by repeat (first | (with_reducible first | exact HB.out | apply below_alloc | apply pw_below_drewN | apply below_drew1 | refine below_set ?_ GE243.out) | exact HB.out))⟩; clear BK243 HB hq_; have BK243 := n0_; have HB := n1_; clear n0_ n1_))) | ((with_reducible refine gate_callee (f := 34) rfl ?_); refine goesL_ (some 18) rfl rfl Try.func34 (by kernel_rfl) rfl #[.slice A0 l0.length c0, .int .u64 6] rfl (by (try simp only [List.map_toArray, List.map_cons, List.map_nil]); first | done | rfl | (simp only [List.length_drop, List.length_take]; rfl)) ?_; (with_reducible refine (le_U16.calls k _ _ l0 6 t246 t247 _ ?side1 ?side2 A3.out).mono ?_); (case side1 => repeat (first | exact (Kd.C_below HR0.out HB.out) | (with_reducible refine Kd.C_alloc ?_ _) | (with_reducible refine Kd.C_drewN ?_ _) | (with_reducible refine Kd.C_drew ?_))); (case side2 => exact HC0.out); rintro e w' ⟨rfl, ⟨nd, rfl⟩⟩; refine ⟨_, rfl, ?_⟩; (try (rw [drewN_self w8]; generalize hq_ : World.drewN w8 _ = w8; have n0_ : Aside0 (w8.heap[gb243]? = some (.cells #[.int .u32 0, .int .i64 0, .int .i64 0, .int .i64 0, .int .i64 0, .int .u64 0, .int .u64 0] 45 (0, 0))) := ⟨by rw [← hq_]; exact (by (with_reducible repeat (first | refine blk_drewN ?_ _ | refine blk_drew ?_ | refine blk_alloc ?_ _)); exact BK243.out)⟩; have n1_ : Aside0 (Below w.heap.size w w8) := ⟨by rw [← hq_]; exact (by repeat (first | (with_reducible first | exact HB.out | apply below_alloc | apply pw_below_drewN | apply below_drew1 | refine below_set ?_ GE243.out) | exact HB.out))⟩; clear BK243 HB hq_; have BK243 := n0_; have HB := n1_; clear n0_ n1_))) | ((with_reducible refine gate_callee (f := 32) rfl ?_); refine goesL_ (some 23) rfl rfl Try.func32 (by kernel_rfl) rfl #[.slice A0 l0.length c0, .int .u64 8] rfl (by (try simp only [List.map_toArray, List.map_cons, List.map_nil]); first | done | rfl | (simp only [List.length_drop, List.length_take]; rfl)) ?_; (with_reducible refine (le_U64.calls k _ _ l0 8 t248 t249 _ ?side1 ?side2 A4.out).mono ?_); (case side1 => repeat (first | exact (Kd.C_below HR0.out HB.out) | (with_reducible refine Kd.C_alloc ?_ _) | (with_reducible refine Kd.C_drewN ?_ _) | (with_reducible refine Kd.C_drew ?_))); (case side2 => exact HC0.out); rintro e w' ⟨rfl, ⟨nd, rfl⟩⟩; refine ⟨_, rfl, ?_⟩; (try (rw [drewN_self w8]; generalize hq_ : World.drewN w8 _ = w8; have n0_ : Aside0 (w8.heap[gb243]? = some (.cells #[.int .u32 0, .int .i64 0, .int .i64 0, .int .i64 0, .int .i64 0, .int .u64 0, .int .u64 0] 45 (0, 0))) := ⟨by rw [← hq_]; exact (by (with_reducible repeat (first | refine blk_drewN ?_ _ | refine blk_drew ?_ | refine blk_alloc ?_ _)); exact BK243.out)⟩; have n1_ : Aside0 (Below w.heap.size w w8) := ⟨by rw [← hq_]; exact (by repeat (first | (with_reducible first | exact HB.out | apply below_alloc | apply pw_below_drewN | apply below_drew1 | refine below_set ?_ GE243.out) | exact HB.out))⟩; clear BK243 HB hq_; have BK243 := n0_; have HB := n1_; clear n0_ n1_))) | ((with_reducible refine gate_callee (f := 32) rfl ?_); refine goesL_ (some 28) rfl rfl Try.func32 (by kernel_rfl) rfl #[.slice A0 l0.length c0, .int .u64 16] rfl (by (try simp only [List.map_toArray, List.map_cons, List.map_nil]); first | done | rfl | (simp only [List.length_drop, List.length_take]; rfl)) ?_; (with_reducible refine (le_U64.calls k _ _ l0 16 t250 t251 _ ?side1 ?side2 A5.out).mono ?_); (case side1 => repeat (first | exact (Kd.C_below HR0.out HB.out) | (with_reducible refine Kd.C_alloc ?_ _) | (with_reducible refine Kd.C_drewN ?_ _) | (with_reducible refine Kd.C_drew ?_))); (case side2 => exact HC0.out); rintro e w' ⟨rfl, ⟨nd, rfl⟩⟩; refine ⟨_, rfl, ?_⟩; (try (rw [drewN_self w8]; generalize hq_ : World.drewN w8 _ = w8; have n0_ : Aside0 (w8.heap[gb243]? = some (.cells #[.int .u32 0, .int .i64 0, .int .i64 0, .int .i64 0, .int .i64 0, .int .u64 0, .int .u64 0] 45 (0, 0))) := ⟨by rw [← hq_]; exact (by (with_reducible repeat (first | refine blk_drewN ?_ _ | refine blk_drew ?_ | refine blk_alloc ?_ _)); exact BK243.out)⟩; have n1_ : Aside0 (Below w.heap.size w w8) := ⟨by rw [← hq_]; exact (by repeat (first | (with_reducible first | exact HB.out | apply below_alloc | apply pw_below_drewN | apply below_drew1 | refine below_set ?_ GE243.out) | exact HB.out))⟩; clear BK243 HB hq_; have BK243 := n0_; have HB := n1_; clear n0_ n1_))))
      have n0_ := Aside0.mk (blk_drew BK243.out)
      have n1_ := Aside0.mk (below_drew1 HB.out)
      clear BK243
      clear HB
      have BK243 := n0_
      have HB := n1_
      clear n0_ n1_
      have p252 : 0 ≤ (4 : Int) := (by omega)
      have q252 : 4 < (l0.length : Int) := of_decide_eq_true (by first | (with_reducible assumption) | assumption)
      obtain ⟨ad252, e252, hx252_0⟩ := Kd.at_int HR0.out 4 p252 q252
      have hw252_0 := hx252_0
      (try rw [show ((4 : Int)).toNat = 4 from rfl] at hw252_0)
      (try rw [show 4 * 1 = 4 from rfl] at hw252_0)
      (try simp only [Nat.reduceMul, Nat.reduceEqDiff, Go.Addr.add, ↓reduceIte] at hw252_0)
      cases e252
      (try simp only [show (4 : Int).toNat = 4 from rfl, Nat.reduceMul, Nat.reduceEqDiff, Go.Addr.add, ↓reduceIte] at hx252_0)
      have qi252 : (4 < l0.length) = True := eq_true (by omega)
      (try rw [show ((4 : Int)).toNat = 4 from rfl] at hx252_0)
      replace hx252_0 := (HB.out.cell (World.block_lt_of_cell? w _ hx252_0)).trans hx252_0
      replace p252 := eq_true p252
      replace q252 := eq_true q252
      have p253 : 0 ≤ (4 : Int) := (by omega)
      have q253 : 4 < (l0.length : Int) := of_decide_eq_true (by first | (with_reducible assumption) | assumption)
      obtain ⟨ad253, e253, hx253_0⟩ := Kd.at_int HR0.out 4 p253 q253
      have hw253_0 := hx253_0
      (try rw [show ((4 : Int)).toNat = 4 from rfl] at hw253_0)
      (try rw [show 4 * 1 = 4 from rfl] at hw253_0)
      (try simp only [Nat.reduceMul, Nat.reduceEqDiff, Go.Addr.add, ↓reduceIte] at hw253_0)
      obtain rfl : ad252 = ad253 := (by injection e253)
      (try simp only [show (4 : Int).toNat = 4 from rfl, Nat.reduceMul, Nat.reduceEqDiff, Go.Addr.add, ↓reduceIte] at hx253_0)
      have qi253 : (4 < l0.length) = True := eq_true (by omega)
      (try rw [show ((4 : Int)).toNat = 4 from rfl] at hx253_0)
      replace hx253_0 := (HB.out.cell (World.block_lt_of_cell? w _ hx253_0)).trans hx253_0
      replace p253 := eq_true p253
      replace q253 := eq_true q253
      have p254 : 0 ≤ (5 : Int) := (by omega)
      have q254 : 5 < (l0.length : Int) := of_decide_eq_true (by first | (with_reducible assumption) | assumption)
      obtain ⟨ad254, e254, hx254_0⟩ := Kd.at_int HR0.out 5 p254 q254
      have hw254_0 := hx254_0
      (try rw [show ((5 : Int)).toNat = 5 from rfl] at hw254_0)
      (try rw [show 5 * 1 = 5 from rfl] at hw254_0)
      (try simp only [Nat.reduceMul, Nat.reduceEqDiff, Go.Addr.add, ↓reduceIte] at hw254_0)
      obtain rfl : ad252 = ad254 := (by injection e254)
      (try simp only [show (5 : Int).toNat = 5 from rfl, Nat.reduceMul, Nat.reduceEqDiff, Go.Addr.add, ↓reduceIte] at hx254_0)
      have qi254 : (5 < l0.length) = True := eq_true (by omega)
      (try rw [show ((5 : Int)).toNat = 5 from rfl] at hx254_0)
      replace hx254_0 := (HB.out.cell (World.block_lt_of_cell? w _ hx254_0)).trans hx254_0
      replace p254 := eq_true p254
      replace q254 := eq_true q254
      refine start_ (n := 21) (S := fun w' => w'.cell? ⟨ad252.block, ad252.off + 4, none⟩ = some (.int .u8 (rd l0 4)) ∧ w'.cell? ⟨ad252.block, ad252.off + 4, none⟩ = some (.int .u8 (rd l0 4)) ∧ w'.cell? ⟨ad252.block, ad252.off + 5, none⟩ = some (.int .u8 (rd l0 5))) (ds := []) #[false, false, false, false, false, false, false, false, false, false, false, false, false, false, false, false, false, false, false, false, false] (by kernel_rfl) rfl rfl ⟨((HB.out.cell (World.block_lt_of_cell? w _ hw252_0)).trans hw252_0), ((HB.out.cell (World.block_lt_of_cell? w _ hw253_0)).trans hw253_0), ((HB.out.cell (World.block_lt_of_cell? w _ hw254_0)).trans hw254_0)⟩ (fun hHeld => ?_); refine with_tabW symtab_symbol.tab5 symtab_symbol.bits5 (fun HT_ HW_ => ?_)
      generalize w8.drew = w9 at BK243 HB hx252_0 hx253_0 hx254_0 hHeld ⊢
      refine pure_ (i := 0) (N := some 31) (v := ?_) (a' := ?_) #[true, false, false, false, false, false, false, false, false, false, false, false, false, false, false, false, false, false, false, false, false] rfl rfl (any_of HT_.out (by kernel_rfl)) (fun _ _ _ h => h) (Or.inl ⟨by rfl, ?_⟩) ?_ ?_
      rotate_left
      · intro w'
        go_simp
        with_reducible rfl
      rotate_left
      · simp only [Act.put, List.setIfInBounds_toArray, List.set_cons_zero, List.set_cons_succ, i64_w, i32_w]
        rfl
      refine pure_ (i := 1) (N := some 32) (v := ?_) (a' := ?_) #[true, true, false, false, false, false, false, false, false, false, false, false, false, false, false, false, false, false, false, false, false] rfl rfl (any_of HT_.out (by kernel_rfl)) (fun _ _ _ h => h) (Or.inl ⟨by rfl, ?_⟩) ?_ ?_
      rotate_left
      · intro w'
        go_simp
        with_reducible rfl
      rotate_left
      · simp only [Act.put, List.setIfInBounds_toArray, List.set_cons_zero, List.set_cons_succ, i64_w, i32_w]
        rfl
      refine pure_ (i := 2) (N := some 33) (v := ?_) (a' := ?_) #[true, true, true, false, false, false, false, false, false, false, false, false, false, false, false, false, false, false, false, false, false] rfl rfl (any_of HT_.out (by kernel_rfl)) (fun _ _ _ h => h) (Or.inl ⟨by rfl, ?_⟩) ?_ ?_
      rotate_left
      · intro w'
        go_simp
        with_reducible rfl
      rotate_left
      · simp only [Act.put, List.setIfInBounds_toArray, List.set_cons_zero, List.set_cons_succ, i64_w, i32_w]
        rfl
      refine pure_ (i := 6) (N := some 37) (v := ?_) (a' := ?_) #[true, true, true, false, false, false, true, false, false, false, false, false, false, false, false, false, false, false, false, false, false] rfl rfl (any_of HT_.out (by kernel_rfl)) (fun _ _ _ h => h) (Or.inl ⟨by rfl, ?_⟩) ?_ ?_
      rotate_left
      · intro w'
        go_simp
        with_reducible rfl
      rotate_left
      · simp only [Act.put, List.setIfInBounds_toArray, List.set_cons_zero, List.set_cons_succ, i64_w, i32_w]
        rfl
      refine pure_ (i := 7) (N := some 38) (v := ?_) (a' := ?_) #[true, true, true, false, false, false, true, true, false, false, false, false, false, false, false, false, false, false, false, false, false] rfl rfl (any_of HT_.out (by kernel_rfl)) (fun _ _ _ h => h) (Or.inl ⟨by rfl, ?_⟩) ?_ ?_
      rotate_left
      · intro w'
        go_simp
        with_reducible rfl
      rotate_left
      · simp only [Act.put, List.setIfInBounds_toArray, List.set_cons_zero, List.set_cons_succ, i64_w, i32_w]
        rfl
      refine pure_ (i := 11) (N := some 42) (v := ?_) (a' := ?_) #[true, true, true, false, false, false, true, true, false, false, false, true, false, false, false, false, false, false, false, false, false] rfl rfl (any_of HT_.out (by kernel_rfl)) (fun _ _ _ h => h) (Or.inl ⟨by rfl, ?_⟩) ?_ ?_
      rotate_left
      · intro w'
        go_simp
        with_reducible rfl
      rotate_left
      · simp only [Act.put, List.setIfInBounds_toArray, List.set_cons_zero, List.set_cons_succ, i64_w, i32_w]
        rfl
      refine pure_ (i := 12) (N := some 43) (v := ?_) (a' := ?_) #[true, true, true, false, false, false, true, true, false, false, false, true, true, false, false, false, false, false, false, false, false] rfl rfl (any_of HT_.out (by kernel_rfl)) (fun _ _ _ h => h) (Or.inl ⟨by rfl, ?_⟩) ?_ ?_
      rotate_left
      · intro w'
        go_simp
        with_reducible rfl
      rotate_left
      · simp only [Act.put, List.setIfInBounds_toArray, List.set_cons_zero, List.set_cons_succ, i64_w, i32_w]
        rfl
      refine pure_ (i := 15) (N := some 46) (v := ?_) (a' := ?_) #[true, true, true, false, false, false, true, true, false, false, false, true, true, false, false, true, false, false, false, false, false] rfl rfl (any_of HT_.out (by kernel_rfl)) (fun _ _ _ h => h) (Or.inl ⟨by rfl, ?_⟩) ?_ ?_
      rotate_left
      · intro w'
        go_simp
        with_reducible rfl
      rotate_left
      · simp only [Act.put, List.setIfInBounds_toArray, List.set_cons_zero, List.set_cons_succ, i64_w, i32_w]
        rfl
      refine pure_ (i := 16) (N := some 47) (v := ?_) (a' := ?_) #[true, true, true, false, false, false, true, true, false, false, false, true, true, false, false, true, true, false, false, false, false] rfl rfl (any_of HT_.out (by kernel_rfl)) (fun _ _ _ h => h) (Or.inl ⟨by rfl, ?_⟩) ?_ ?_
      rotate_left
      · intro w'
        go_simp
        with_reducible rfl
      rotate_left
      · simp only [Act.put, List.setIfInBounds_toArray, List.set_cons_zero, List.set_cons_succ, i64_w, i32_w]
        rfl
      refine pure_ (i := 17) (N := some 48) (v := ?_) (a' := ?_) #[true, true, true, false, false, false, true, true, false, false, false, true, true, false, false, true, true, true, false, false, false] rfl rfl (any_of HT_.out (by kernel_rfl)) (fun _ _ _ h => h) (Or.inl ⟨by rfl, ?_⟩) ?_ ?_
      rotate_left
      · intro w'
        go_simp
        with_reducible rfl
      rotate_left
      · simp only [Act.put, List.setIfInBounds_toArray, List.set_cons_zero, List.set_cons_succ, i64_w, i32_w]
        rfl
      refine pure_ (i := 18) (N := some 49) (v := ?_) (a' := ?_) #[true, true, true, false, false, false, true, true, false, false, false, true, true, false, false, true, true, true, true, false, false] rfl rfl (any_of HT_.out (by kernel_rfl)) (fun _ _ _ h => h) (Or.inl ⟨by rfl, ?_⟩) ?_ ?_
      rotate_left
      · intro w'
        go_simp
        with_reducible rfl
      rotate_left
      · simp only [Act.put, List.setIfInBounds_toArray, List.set_cons_zero, List.set_cons_succ, i64_w, i32_w]
        rfl
      refine take_ (i := 3) (N := some 34) (v := ?_) (a' := ?_) #[true, true, true, true, false, false, true, true, false, false, false, true, true, false, false, true, true, true, true, false, false] rfl rfl (take_ofW HT_.out HW_.out (by kernel_rfl)) (fun _ _ _ h => h) (Or.inl ⟨by rfl, ?_⟩) hHeld ?_ ?_
      rotate_left
      · rintro w' ⟨s0, s1, s2⟩
        go_simp
        with_reducible rfl
      rotate_left
      · simp only [Act.put, List.setIfInBounds_toArray, List.set_cons_zero, List.set_cons_succ, i64_w, i32_w]
        rfl
      refine pure_ (i := 4) (N := some 35) (v := ?_) (a' := ?_) #[true, true, true, true, true, false, true, true, false, false, false, true, true, false, false, true, true, true, true, false, false] rfl rfl (any_of HT_.out (by kernel_rfl)) (fun _ _ _ h => h) (Or.inl ⟨by rfl, ?_⟩) ?_ ?_
      rotate_left
      · intro w'
        go_simp
        with_reducible rfl
      rotate_left
      · simp only [Act.put, List.setIfInBounds_toArray, List.set_cons_zero, List.set_cons_succ, i64_w, i32_w]
        rfl
      refine pure_ (i := 5) (N := some 36) (v := ?_) (a' := ?_) #[true, true, true, true, true, true, true, true, false, false, false, true, true, false, false, true, true, true, true, false, false] rfl rfl (any_of HT_.out (by kernel_rfl)) (fun _ _ _ h => h) (Or.inl ⟨by rfl, ?_⟩) ?_ ?_
      rotate_left
      · intro w'
        go_simp
        with_reducible rfl
      rotate_left
      · simp only [Act.put, List.setIfInBounds_toArray, List.set_cons_zero, List.set_cons_succ, i64_w, i32_w]
        rfl
      refine take_ (i := 8) (N := some 39) (v := ?_) (a' := ?_) #[true, true, true, true, true, true, true, true, true, false, false, true, true, false, false, true, true, true, true, false, false] rfl rfl (take_ofW HT_.out HW_.out (by kernel_rfl)) (fun _ _ _ h => h) (Or.inl ⟨by rfl, ?_⟩) hHeld ?_ ?_
      rotate_left
      · rintro w' ⟨s0, s1, s2⟩
        go_simp
        with_reducible rfl
      rotate_left
      · simp only [Act.put, List.setIfInBounds_toArray, List.set_cons_zero, List.set_cons_succ, i64_w, i32_w]
        rfl
      refine pure_ (i := 9) (N := some 40) (v := ?_) (a' := ?_) #[true, true, true, true, true, true, true, true, true, true, false, true, true, false, false, true, true, true, true, false, false] rfl rfl (any_of HT_.out (by kernel_rfl)) (fun _ _ _ h => h) (Or.inl ⟨by rfl, ?_⟩) ?_ ?_
      rotate_left
      · intro w'
        go_simp
        with_reducible rfl
      rotate_left
      · simp only [Act.put, List.setIfInBounds_toArray, List.set_cons_zero, List.set_cons_succ, i64_w, i32_w]
        rfl
      refine pure_ (i := 10) (N := some 41) (v := ?_) (a' := ?_) #[true, true, true, true, true, true, true, true, true, true, true, true, true, false, false, true, true, true, true, false, false] rfl rfl (any_of HT_.out (by kernel_rfl)) (fun _ _ _ h => h) (Or.inl ⟨by rfl, ?_⟩) ?_ ?_
      rotate_left
      · intro w'
        go_simp
        with_reducible rfl
      rotate_left
      · simp only [Act.put, List.setIfInBounds_toArray, List.set_cons_zero, List.set_cons_succ, i64_w, i32_w]
        rfl
      refine take_ (i := 13) (N := some 44) (v := ?_) (a' := ?_) #[true, true, true, true, true, true, true, true, true, true, true, true, true, true, false, true, true, true, true, false, false] rfl rfl (take_ofW HT_.out HW_.out (by kernel_rfl)) (fun _ _ _ h => h) (Or.inl ⟨by rfl, ?_⟩) hHeld ?_ ?_
      rotate_left
      · rintro w' ⟨s0, s1, s2⟩
        go_simp
        with_reducible rfl
      rotate_left
      · simp only [Act.put, List.setIfInBounds_toArray, List.set_cons_zero, List.set_cons_succ, i64_w, i32_w]
        rfl
      refine pure_ (i := 14) (N := some 45) (v := ?_) (a' := ?_) #[true, true, true, true, true, true, true, true, true, true, true, true, true, true, true, true, true, true, true, false, false] rfl rfl (any_of HT_.out (by kernel_rfl)) (fun _ _ _ h => h) (Or.inl ⟨by rfl, ?_⟩) ?_ ?_
      rotate_left
      · intro w'
        go_simp
        with_reducible rfl
      rotate_left
      · simp only [Act.put, List.setIfInBounds_toArray, List.set_cons_zero, List.set_cons_succ, i64_w, i32_w]
        rfl
      refine pure_ (i := 19) (N := some 50) (v := ?_) (a' := ?_) #[true, true, true, true, true, true, true, true, true, true, true, true, true, true, true, true, true, true, true, true, false] rfl rfl (any_of HT_.out (by kernel_rfl)) (fun _ _ _ h => h) (Or.inl ⟨by rfl, ?_⟩) ?_ ?_
      rotate_left
      · intro w'
        go_simp
        with_reducible rfl
      rotate_left
      · simp only [Act.put, List.setIfInBounds_toArray, List.set_cons_zero, List.set_cons_succ, i64_w, i32_w]
        rfl
      refine one_ (i := 20) (N := none) #[true, true, true, true, true, true, true, true, true, true, true, true, true, true, true, true, true, true, true, true, true] rfl rfl (one_of HT_.out (by kernel_rfl)) (by decide) (fun K hK => ?_)
      have hs10 : w9.cell? ⟨gb243, 0, none⟩ = some (.int .u32 0) := (blk_cell BK243.out 0).trans rfl
      have hfs10 := blk_frozen BK243.out 0
      have hs11 : w9.cell? ⟨gb243, 1, none⟩ = some (.int .i64 0) := (blk_cell BK243.out 1).trans rfl
      have hfs11 := blk_frozen BK243.out 1
      have hs12 : w9.cell? ⟨gb243, 2, none⟩ = some (.int .i64 0) := (blk_cell BK243.out 2).trans rfl
      have hfs12 := blk_frozen BK243.out 2
      have hs13 : w9.cell? ⟨gb243, 3, none⟩ = some (.int .i64 0) := (blk_cell BK243.out 3).trans rfl
      have hfs13 := blk_frozen BK243.out 3
      have hs14 : w9.cell? ⟨gb243, 4, none⟩ = some (.int .i64 0) := (blk_cell BK243.out 4).trans rfl
      have hfs14 := blk_frozen BK243.out 4
      have hs15 : w9.cell? ⟨gb243, 5, none⟩ = some (.int .u64 0) := (blk_cell BK243.out 5).trans rfl
      have hfs15 := blk_frozen BK243.out 5
      have hs16 : w9.cell? ⟨gb243, 6, none⟩ = some (.int .u64 0) := (blk_cell BK243.out 6).trans rfl
      have hfs16 := blk_frozen BK243.out 6
      refine skip_ (w1 := ?_) (by rfl) rfl ?_ ?_
      rotate_left
      · go_simp
        rfl
      refine hK.out _ _ ⟨((cell_far (p := ⟨gb243, _, none⟩) (by first | exact Nat.ne_of_lt (Nat.lt_of_lt_of_le (by have := World.block_lt_of_cell? _ _ hw252_0; first | rwa [add_block] at this | exact this) GW243.out) | (rw [add_block]; exact Nat.ne_of_lt (Nat.lt_of_lt_of_le (by have := World.block_lt_of_cell? _ _ hw252_0; first | rwa [add_block] at this | exact this) GW243.out)) | (show (Addr.add _ _).block ≠ _; rw [add_block]; exact Nat.ne_of_lt (Nat.lt_of_lt_of_le (by have := World.block_lt_of_cell? _ _ hw252_0; first | rwa [add_block] at this | exact this) GW243.out)) | (dsimp only; exact Nat.ne_of_lt (Nat.lt_of_lt_of_le (by have := World.block_lt_of_cell? _ _ hw252_0; first | rwa [add_block] at this | exact this) GW243.out))) _).trans (((cell_far (p := ⟨gb243, _, none⟩) (by first | exact Nat.ne_of_lt (Nat.lt_of_lt_of_le (by have := World.block_lt_of_cell? _ _ hw252_0; first | rwa [add_block] at this | exact this) GW243.out) | (rw [add_block]; exact Nat.ne_of_lt (Nat.lt_of_lt_of_le (by have := World.block_lt_of_cell? _ _ hw252_0; first | rwa [add_block] at this | exact this) GW243.out)) | (show (Addr.add _ _).block ≠ _; rw [add_block]; exact Nat.ne_of_lt (Nat.lt_of_lt_of_le (by have := World.block_lt_of_cell? _ _ hw252_0; first | rwa [add_block] at this | exact this) GW243.out)) | (dsimp only; exact Nat.ne_of_lt (Nat.lt_of_lt_of_le (by have := World.block_lt_of_cell? _ _ hw252_0; first | rwa [add_block] at this | exact this) GW243.out))) _).trans (((cell_far (p := ⟨gb243, _, none⟩) (by first | exact Nat.ne_of_lt (Nat.lt_of_lt_of_le (by have := World.block_lt_of_cell? _ _ hw252_0; first | rwa [add_block] at this | exact this) GW243.out) | (rw [add_block]; exact Nat.ne_of_lt (Nat.lt_of_lt_of_le (by have := World.block_lt_of_cell? _ _ hw252_0; first | rwa [add_block] at this | exact this) GW243.out)) | (show (Addr.add _ _).block ≠ _; rw [add_block]; exact Nat.ne_of_lt (Nat.lt_of_lt_of_le (by have := World.block_lt_of_cell? _ _ hw252_0; first | rwa [add_block] at this | exact this) GW243.out)) | (dsimp only; exact Nat.ne_of_lt (Nat.lt_of_lt_of_le (by have := World.block_lt_of_cell? _ _ hw252_0; first | rwa [add_block] at this | exact this) GW243.out))) _).trans (((cell_far (p := ⟨gb243, _, none⟩) (by first | exact Nat.ne_of_lt (Nat.lt_of_lt_of_le (by have := World.block_lt_of_cell? _ _ hw252_0; first | rwa [add_block] at this | exact this) GW243.out) | (rw [add_block]; exact Nat.ne_of_lt (Nat.lt_of_lt_of_le (by have := World.block_lt_of_cell? _ _ hw252_0; first | rwa [add_block] at this | exact this) GW243.out)) | (show (Addr.add _ _).block ≠ _; rw [add_block]; exact Nat.ne_of_lt (Nat.lt_of_lt_of_le (by have := World.block_lt_of_cell? _ _ hw252_0; first | rwa [add_block] at this | exact this) GW243.out)) | (dsimp only; exact Nat.ne_of_lt (Nat.lt_of_lt_of_le (by have := World.block_lt_of_cell? _ _ hw252_0; first | rwa [add_block] at this | exact this) GW243.out))) _).trans (((cell_far (p := ⟨gb243, _, none⟩) (by first | exact Nat.ne_of_lt (Nat.lt_of_lt_of_le (by have := World.block_lt_of_cell? _ _ hw252_0; first | rwa [add_block] at this | exact this) GW243.out) | (rw [add_block]; exact Nat.ne_of_lt (Nat.lt_of_lt_of_le (by have := World.block_lt_of_cell? _ _ hw252_0; first | rwa [add_block] at this | exact this) GW243.out)) | (show (Addr.add _ _).block ≠ _; rw [add_block]; exact Nat.ne_of_lt (Nat.lt_of_lt_of_le (by have := World.block_lt_of_cell? _ _ hw252_0; first | rwa [add_block] at this | exact this) GW243.out)) | (dsimp only; exact Nat.ne_of_lt (Nat.lt_of_lt_of_le (by have := World.block_lt_of_cell? _ _ hw252_0; first | rwa [add_block] at this | exact this) GW243.out))) _).trans (((cell_far (p := ⟨gb243, _, none⟩) (by first | exact Nat.ne_of_lt (Nat.lt_of_lt_of_le (by have := World.block_lt_of_cell? _ _ hw252_0; first | rwa [add_block] at this | exact this) GW243.out) | (rw [add_block]; exact Nat.ne_of_lt (Nat.lt_of_lt_of_le (by have := World.block_lt_of_cell? _ _ hw252_0; first | rwa [add_block] at this | exact this) GW243.out)) | (show (Addr.add _ _).block ≠ _; rw [add_block]; exact Nat.ne_of_lt (Nat.lt_of_lt_of_le (by have := World.block_lt_of_cell? _ _ hw252_0; first | rwa [add_block] at this | exact this) GW243.out)) | (dsimp only; exact Nat.ne_of_lt (Nat.lt_of_lt_of_le (by have := World.block_lt_of_cell? _ _ hw252_0; first | rwa [add_block] at this | exact this) GW243.out))) _).trans (((cell_far (p := ⟨gb243, _, none⟩) (by first | exact Nat.ne_of_lt (Nat.lt_of_lt_of_le (by have := World.block_lt_of_cell? _ _ hw252_0; first | rwa [add_block] at this | exact this) GW243.out) | (rw [add_block]; exact Nat.ne_of_lt (Nat.lt_of_lt_of_le (by have := World.block_lt_of_cell? _ _ hw252_0; first | rwa [add_block] at this | exact this) GW243.out)) | (show (Addr.add _ _).block ≠ _; rw [add_block]; exact Nat.ne_of_lt (Nat.lt_of_lt_of_le (by have := World.block_lt_of_cell? _ _ hw252_0; first | rwa [add_block] at this | exact this) GW243.out)) | (dsimp only; exact Nat.ne_of_lt (Nat.lt_of_lt_of_le (by have := World.block_lt_of_cell? _ _ hw252_0; first | rwa [add_block] at this | exact this) GW243.out))) _).trans (hHeld.1)))))))))))))), ((cell_far (p := ⟨gb243, _, none⟩) (by first | exact Nat.ne_of_lt (Nat.lt_of_lt_of_le (by have := World.block_lt_of_cell? _ _ hw253_0; first | rwa [add_block] at this | exact this) GW243.out) | (rw [add_block]; exact Nat.ne_of_lt (Nat.lt_of_lt_of_le (by have := World.block_lt_of_cell? _ _ hw253_0; first | rwa [add_block] at this | exact this) GW243.out)) | (show (Addr.add _ _).block ≠ _; rw [add_block]; exact Nat.ne_of_lt (Nat.lt_of_lt_of_le (by have := World.block_lt_of_cell? _ _ hw253_0; first | rwa [add_block] at this | exact this) GW243.out)) | (dsimp only; exact Nat.ne_of_lt (Nat.lt_of_lt_of_le (by have := World.block_lt_of_cell? _ _ hw253_0; first | rwa [add_block] at this | exact this) GW243.out))) _).trans (((cell_far (p := ⟨gb243, _, none⟩) (by first | exact Nat.ne_of_lt (Nat.lt_of_lt_of_le (by have := World.block_lt_of_cell? _ _ hw253_0; first | rwa [add_block] at this | exact this) GW243.out) | (rw [add_block]; exact Nat.ne_of_lt (Nat.lt_of_lt_of_le (by have := World.block_lt_of_cell? _ _ hw253_0; first | rwa [add_block] at this | exact this) GW243.out)) | (show (Addr.add _ _).block ≠ _; rw [add_block]; exact Nat.ne_of_lt (Nat.lt_of_lt_of_le (by have := World.block_lt_of_cell? _ _ hw253_0; first | rwa [add_block] at this | exact this) GW243.out)) | (dsimp only; exact Nat.ne_of_lt (Nat.lt_of_lt_of_le (by have := World.block_lt_of_cell? _ _ hw253_0; first | rwa [add_block] at this | exact this) GW243.out))) _).trans (((cell_far (p := ⟨gb243, _, none⟩) (by first | exact Nat.ne_of_lt (Nat.lt_of_lt_of_le (by have := World.block_lt_of_cell? _ _ hw253_0; first | rwa [add_block] at this | exact this) GW243.out) | (rw [add_block]; exact Nat.ne_of_lt (Nat.lt_of_lt_of_le (by have := World.block_lt_of_cell? _ _ hw253_0; first | rwa [add_block] at this | exact this) GW243.out)) | (show (Addr.add _ _).block ≠ _; rw [add_block]; exact Nat.ne_of_lt (Nat.lt_of_lt_of_le (by have := World.block_lt_of_cell? _ _ hw253_0; first | rwa [add_block] at this | exact this) GW243.out)) | (dsimp only; exact Nat.ne_of_lt (Nat.lt_of_lt_of_le (by have := World.block_lt_of_cell? _ _ hw253_0; first | rwa [add_block] at this | exact this) GW243.out))) _).trans (((cell_far (p := ⟨gb243, _, none⟩) (by first | exact Nat.ne_of_lt (Nat.lt_of_lt_of_le (by have := World.block_lt_of_cell? _ _ hw253_0; first | rwa [add_block] at this | exact this) GW243.out) | (rw [add_block]; exact Nat.ne_of_lt (Nat.lt_of_lt_of_le (by have := World.block_lt_of_cell? _ _ hw253_0; first | rwa [add_block] at this | exact this) GW243.out)) | (show (Addr.add _ _).block ≠ _; rw [add_block]; exact Nat.ne_of_lt (Nat.lt_of_lt_of_le (by have := World.block_lt_of_cell? _ _ hw253_0; first | rwa [add_block] at this | exact this) GW243.out)) | (dsimp only; exact Nat.ne_of_lt (Nat.lt_of_lt_of_le (by have := World.block_lt_of_cell? _ _ hw253_0; first | rwa [add_block] at this | exact this) GW243.out))) _).trans (((cell_far (p := ⟨gb243, _, none⟩) (by first | exact Nat.ne_of_lt (Nat.lt_of_lt_of_le (by have := World.block_lt_of_cell? _ _ hw253_0; first | rwa [add_block] at this | exact this) GW243.out) | (rw [add_block]; exact Nat.ne_of_lt (Nat.lt_of_lt_of_le (by have := World.block_lt_of_cell? _ _ hw253_0; first | rwa [add_block] at this | exact this) GW243.out)) | (show (Addr.add _ _).block ≠ _; rw [add_block]; exact Nat.ne_of_lt (Nat.lt_of_lt_of_le (by have := World.block_lt_of_cell? _ _ hw253_0; first | rwa [add_block] at this | exact this) GW243.out)) | (dsimp only; exact Nat.ne_of_lt (Nat.lt_of_lt_of_le (by have := World.block_lt_of_cell? _ _ hw253_0; first | rwa [add_block] at this | exact this) GW243.out))) _).trans (((cell_far (p := ⟨gb243, _, none⟩) (by first | exact Nat.ne_of_lt (Nat.lt_of_lt_of_le (by have := World.block_lt_of_cell? _ _ hw253_0; first | rwa [add_block] at this | exact this) GW243.out) | (rw [add_block]; exact Nat.ne_of_lt (Nat.lt_of_lt_of_le (by have := World.block_lt_of_cell? _ _ hw253_0; first | rwa [add_block] at this | exact this) GW243.out)) | (show (Addr.add _ _).block ≠ _; rw [add_block]; exact Nat.ne_of_lt (Nat.lt_of_lt_of_le (by have := World.block_lt_of_cell? _ _ hw253_0; first | rwa [add_block] at this | exact this) GW243.out)) | (dsimp only; exact Nat.ne_of_lt (Nat.lt_of_lt_of_le (by have := World.block_lt_of_cell? _ _ hw253_0; first | rwa [add_block] at this | exact this) GW243.out))) _).trans (((cell_far (p := ⟨gb243, _, none⟩) (by first | exact Nat.ne_of_lt (Nat.lt_of_lt_of_le (by have := World.block_lt_of_cell? _ _ hw253_0; first | rwa [add_block] at this | exact this) GW243.out) | (rw [add_block]; exact Nat.ne_of_lt (Nat.lt_of_lt_of_le (by have := World.block_lt_of_cell? _ _ hw253_0; first | rwa [add_block] at this | exact this) GW243.out)) | (show (Addr.add _ _).block ≠ _; rw [add_block]; exact Nat.ne_of_lt (Nat.lt_of_lt_of_le (by have := World.block_lt_of_cell? _ _ hw253_0; first | rwa [add_block] at this | exact this) GW243.out)) | (dsimp only; exact Nat.ne_of_lt (Nat.lt_of_lt_of_le (by have := World.block_lt_of_cell? _ _ hw253_0; first | rwa [add_block] at this | exact this) GW243.out))) _).trans (hHeld.2.1)))))))))))))), ((cell_far (p := ⟨gb243, _, none⟩) (by first | exact Nat.ne_of_lt (Nat.lt_of_lt_of_le (by have := World.block_lt_of_cell? _ _ hw254_0; first | rwa [add_block] at this | exact this) GW243.out) | (rw [add_block]; exact Nat.ne_of_lt (Nat.lt_of_lt_of_le (by have := World.block_lt_of_cell? _ _ hw254_0; first | rwa [add_block] at this | exact this) GW243.out)) | (show (Addr.add _ _).block ≠ _; rw [add_block]; exact Nat.ne_of_lt (Nat.lt_of_lt_of_le (by have := World.block_lt_of_cell? _ _ hw254_0; first | rwa [add_block] at this | exact this) GW243.out)) | (dsimp only; exact Nat.ne_of_lt (Nat.lt_of_lt_of_le (by have := World.block_lt_of_cell? _ _ hw254_0; first | rwa [add_block] at this | exact this) GW243.out))) _).trans (((cell_far (p := ⟨gb243, _, none⟩) (by first | exact Nat.ne_of_lt (Nat.lt_of_lt_of_le (by have := World.block_lt_of_cell? _ _ hw254_0; first | rwa [add_block] at this | exact this) GW243.out) | (rw [add_block]; exact Nat.ne_of_lt (Nat.lt_of_lt_of_le (by have := World.block_lt_of_cell? _ _ hw254_0; first | rwa [add_block] at this | exact this) GW243.out)) | (show (Addr.add _ _).block ≠ _; rw [add_block]; exact Nat.ne_of_lt (Nat.lt_of_lt_of_le (by have := World.block_lt_of_cell? _ _ hw254_0; first | rwa [add_block] at this | exact this) GW243.out)) | (dsimp only; exact Nat.ne_of_lt (Nat.lt_of_lt_of_le (by have := World.block_lt_of_cell? _ _ hw254_0; first | rwa [add_block] at this | exact this) GW243.out))) _).trans (((cell_far (p := ⟨gb243, _, none⟩) (by first | exact Nat.ne_of_lt (Nat.lt_of_lt_of_le (by have := World.block_lt_of_cell? _ _ hw254_0; first | rwa [add_block] at this | exact this) GW243.out) | (rw [add_block]; exact Nat.ne_of_lt (Nat.lt_of_lt_of_le (by have := World.block_lt_of_cell? _ _ hw254_0; first | rwa [add_block] at this | exact this) GW243.out)) | (show (Addr.add _ _).block ≠ _; rw [add_block]; exact Nat.ne_of_lt (Nat.lt_of_lt_of_le (by have := World.block_lt_of_cell? _ _ hw254_0; first | rwa [add_block] at this | exact this) GW243.out)) | (dsimp only; exact Nat.ne_of_lt (Nat.lt_of_lt_of_le (by have := World.block_lt_of_cell? _ _ hw254_0; first | rwa [add_block] at this | exact this) GW243.out))) _).trans (((cell_far (p := ⟨gb243, _, none⟩) (by first | exact Nat.ne_of_lt (Nat.lt_of_lt_of_le (by have := World.block_lt_of_cell? _ _ hw254_0; first | rwa [add_block] at this | exact this) GW243.out) | (rw [add_block]; exact Nat.ne_of_lt (Nat.lt_of_lt_of_le (by have := World.block_lt_of_cell? _ _ hw254_0; first | rwa [add_block] at this | exact this) GW243.out)) | (show (Addr.add _ _).block ≠ _; rw [add_block]; exact Nat.ne_of_lt (Nat.lt_of_lt_of_le (by have := World.block_lt_of_cell? _ _ hw254_0; first | rwa [add_block] at this | exact this) GW243.out)) | (dsimp only; exact Nat.ne_of_lt (Nat.lt_of_lt_of_le (by have := World.block_lt_of_cell? _ _ hw254_0; first | rwa [add_block] at this | exact this) GW243.out))) _).trans (((cell_far (p := ⟨gb243, _, none⟩) (by first | exact Nat.ne_of_lt (Nat.lt_of_lt_of_le (by have := World.block_lt_of_cell? _ _ hw254_0; first | rwa [add_block] at this | exact this) GW243.out) | (rw [add_block]; exact Nat.ne_of_lt (Nat.lt_of_lt_of_le (by have := World.block_lt_of_cell? _ _ hw254_0; first | rwa [add_block] at this | exact this) GW243.out)) | (show (Addr.add _ _).block ≠ _; rw [add_block]; exact Nat.ne_of_lt (Nat.lt_of_lt_of_le (by have := World.block_lt_of_cell? _ _ hw254_0; first | rwa [add_block] at this | exact this) GW243.out)) | (dsimp only; exact Nat.ne_of_lt (Nat.lt_of_lt_of_le (by have := World.block_lt_of_cell? _ _ hw254_0; first | rwa [add_block] at this | exact this) GW243.out))) _).trans (((cell_far (p := ⟨gb243, _, none⟩) (by first | exact Nat.ne_of_lt (Nat.lt_of_lt_of_le (by have := World.block_lt_of_cell? _ _ hw254_0; first | rwa [add_block] at this | exact this) GW243.out) | (rw [add_block]; exact Nat.ne_of_lt (Nat.lt_of_lt_of_le (by have := World.block_lt_of_cell? _ _ hw254_0; first | rwa [add_block] at this | exact this) GW243.out)) | (show (Addr.add _ _).block ≠ _; rw [add_block]; exact Nat.ne_of_lt (Nat.lt_of_lt_of_le (by have := World.block_lt_of_cell? _ _ hw254_0; first | rwa [add_block] at this | exact this) GW243.out)) | (dsimp only; exact Nat.ne_of_lt (Nat.lt_of_lt_of_le (by have := World.block_lt_of_cell? _ _ hw254_0; first | rwa [add_block] at this | exact this) GW243.out))) _).trans (((cell_far (p := ⟨gb243, _, none⟩) (by first | exact Nat.ne_of_lt (Nat.lt_of_lt_of_le (by have := World.block_lt_of_cell? _ _ hw254_0; first | rwa [add_block] at this | exact this) GW243.out) | (rw [add_block]; exact Nat.ne_of_lt (Nat.lt_of_lt_of_le (by have := World.block_lt_of_cell? _ _ hw254_0; first | rwa [add_block] at this | exact this) GW243.out)) | (show (Addr.add _ _).block ≠ _; rw [add_block]; exact Nat.ne_of_lt (Nat.lt_of_lt_of_le (by have := World.block_lt_of_cell? _ _ hw254_0; first | rwa [add_block] at this | exact this) GW243.out)) | (dsimp only; exact Nat.ne_of_lt (Nat.lt_of_lt_of_le (by have := World.block_lt_of_cell? _ _ hw254_0; first | rwa [add_block] at this | exact this) GW243.out))) _).trans (hHeld.2.2))))))))))))))⟩ (fun hHeld => ?_)
      clear hK K
      refine done_ (done_of HT_.out (by kernel_rfl)) ?_
      try go_wp2
      refine bodyPost_ret (results_cell_row rfl _ _ gb243 45 #[.int .u32 t244, .int .i64 (wrap64 ((rd l0 4) / 16)), .int .i64 (wrap64 (Go.bits .and .u8 (rd l0 4) 15)), .int .i64 (wrap64 (rd l0 5)), .int .i64 (wrap64 (t246)), .int .u64 t248, .int .u64 t250] (0, 0) _ rfl (by (with_reducible repeat (first | refine blk_drewN ?_ _ | refine blk_drew ?_ | refine blk_alloc ?_ _)); refine blk_put (cs := #[.int .u32 t244, .int .i64 (wrap64 ((rd l0 4) / 16)), .int .i64 (wrap64 (Go.bits .and .u8 (rd l0 4) 15)), .int .i64 (wrap64 (rd l0 5)), .int .i64 (wrap64 (t246)), .int .u64 t248, .int .u64 0]) ?_ 6 _ rfl; (with_reducible repeat (first | refine blk_drewN ?_ _ | refine blk_drew ?_ | refine blk_alloc ?_ _)); refine blk_put (cs := #[.int .u32 t244, .int .i64 (wrap64 ((rd l0 4) / 16)), .int .i64 (wrap64 (Go.bits .and .u8 (rd l0 4) 15)), .int .i64 (wrap64 (rd l0 5)), .int .i64 (wrap64 (t246)), .int .u64 0, .int .u64 0]) ?_ 5 _ rfl; (with_reducible repeat (first | refine blk_drewN ?_ _ | refine blk_drew ?_ | refine blk_alloc ?_ _)); refine blk_put (cs := #[.int .u32 t244, .int .i64 (wrap64 ((rd l0 4) / 16)), .int .i64 (wrap64 (Go.bits .and .u8 (rd l0 4) 15)), .int .i64 (wrap64 (rd l0 5)), .int .i64 0, .int .u64 0, .int .u64 0]) ?_ 4 _ rfl; (with_reducible repeat (first | refine blk_drewN ?_ _ | refine blk_drew ?_ | refine blk_alloc ?_ _)); refine blk_put (cs := #[.int .u32 t244, .int .i64 (wrap64 ((rd l0 4) / 16)), .int .i64 (wrap64 (Go.bits .and .u8 (rd l0 4) 15)), .int .i64 0, .int .i64 0, .int .u64 0, .int .u64 0]) ?_ 3 _ rfl; (with_reducible repeat (first | refine blk_drewN ?_ _ | refine blk_drew ?_ | refine blk_alloc ?_ _)); refine blk_put (cs := #[.int .u32 t244, .int .i64 (wrap64 ((rd l0 4) / 16)), .int .i64 0, .int .i64 0, .int .i64 0, .int .u64 0, .int .u64 0]) ?_ 2 _ rfl; (with_reducible repeat (first | refine blk_drewN ?_ _ | refine blk_drew ?_ | refine blk_alloc ?_ _)); refine blk_put (cs := #[.int .u32 t244, .int .i64 0, .int .i64 0, .int .i64 0, .int .i64 0, .int .u64 0, .int .u64 0]) ?_ 1 _ rfl; (with_reducible repeat (first | refine blk_drewN ?_ _ | refine blk_drew ?_ | refine blk_alloc ?_ _)); refine blk_put (cs := #[.int .u32 0, .int .i64 0, .int .i64 0, .int .i64 0, .int .i64 0, .int .u64 0, .int .u64 0]) ?_ 0 _ rfl; (with_reducible repeat (first | refine blk_drewN ?_ _ | refine blk_drew ?_ | refine blk_alloc ?_ _)); exact BK243.out) Try.underlying45 rfl (by kernel_rfl)) rfl ?_
      exact ⟨by first | rfl | (simp [errW_none, errW_some] <;> rfl) | (simp [*, errW_none, errW_some] <;> rfl), by repeat (first | (with_reducible first | exact HB.out | apply below_alloc | apply pw_below_drewN | apply below_drew1 | refine below_set ?_ GE243.out) | exact HB.out)⟩
    · rw [if_neg c7] at H
      exact absurd H (by simp)
  · rw [if_neg c6] at H
    exact absurd H (by simp)

end Go.Proofs.Ytojhnljjfmgjdaa.P
