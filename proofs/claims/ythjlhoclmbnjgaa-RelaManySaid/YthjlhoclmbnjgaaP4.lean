-- printed by this session's program (wip/print), out of the translation; Lean checks it
import Derived.Test.YthjlhoclmbnjgaaP0
namespace Go.Proofs.Ythjlhoclmbnjgaa.P
open Go.RowKit Go.Proofs.YthjlhoclmbnjgaaW.PrintWords Go.Proofs.YthjlhoclmbnjgaaW.PrintLast Go.Proofs.YthjlhoclmbnjgaaW.PrintMore
attribute [local go_sem] max2_int min2_int max_two min_two max_three min_three max_four min_four   -- for this text's walks alone
set_option linter.unusedVariables false
set_option linter.unusedSimpArgs false
open Go.Proofs.YthjlhoclmbnjgaaX

/-! ### le_put: function 47 -/
def le_put.l0 : Nat → List Int → Int → Int → Int → Option (List Int)
  | 0, _, _, _, _ => none
  | k + 1, x0, x1, x8, x9 => if x9 < x8 then (if 0 ≤ (IntKind.u64.wrap (wrap64 (8 * x9))) then (if x0.length < 140737488355328 then (le_put.l0 k (x0 ++ [(shr .u64 x1 (IntKind.u64.wrap (wrap64 (8 * x9)))) % 256]) x1 x8 (wrap64 (x9 + 1))) else (none)) else (none)) else (some x0)
def le_put.f (k : Nat) (l0 : List Int) (a1 : Int) (a2 : Int) : Option (List Int) := le_put.l0 k l0 a1 a2 0
theorem le_put.mono_l : ∀ k, (∀ y0 y1 y2 y3, LeO (le_put.l0 k y0 y1 y2 y3) (le_put.l0 (k + 1) y0 y1 y2 y3))
  | 0 => fun _ _ _ _ r h => by simp [le_put.l0] at h
  | k + 1 => by
    have ih0 := le_put.mono_l k
    · intro y0 y1 y2 y3
      unfold le_put.l0
      repeat' first
      | (with_reducible exact ih0 _ _ _ _)
      | (with_reducible exact LeO.refl _)
      | (with_reducible exact LeO.none _)
      | (with_reducible refine LeO.ite ?_ ?_)
      | (with_reducible refine LeO.bind ?_ (fun _ => ?_))
      | exact ih0 _ _ _ _
      | exact LeO.none _
      | refine LeO.ite ?_ ?_
      | refine LeO.bind ?_ (fun _ => ?_)
theorem le_put.mono : ∀ a0 a1 a2 k, LeO (le_put.f k a0 a1 a2) (le_put.f (k + 1) a0 a1 a2) := by
  intro a0 a1 a2 k
  have ih0 := le_put.mono_l k
  unfold le_put.f
  repeat' first
      | (with_reducible exact ih0 _ _ _ _)
      | (with_reducible exact LeO.refl _)
      | (with_reducible exact LeO.none _)
      | (with_reducible refine LeO.ite ?_ ?_)
      | (with_reducible refine LeO.bind ?_ (fun _ => ?_))
      | exact ih0 _ _ _ _
      | exact LeO.none _
      | refine LeO.ite ?_ ?_
      | refine LeO.bind ?_ (fun _ => ?_)
set_option maxHeartbeats 8000000 in
set_option maxRecDepth 100000 in
theorem le_put.calls (k : Nat) (P0_ : Nat → Prop) (u9000_ : Value) (l0 : List Int) (a1 : Int) (a2 : Int) (r : List Int) (w0 w : World) (hB : Below w0.heap.size w0 w) (ho0 : Kd.R (Kd.int .u8) 5 w w0.heap.size P0_ u9000_ l0) (h : le_put.f k l0 a1 a2 = some r) :
    Calls Try.prog 47 #[u9000_, .int .u64 a1, .int .i64 a2] w fun e w' => ∃ v0_ : Value, e = .returned (v0_) ∧ Kd.R (Kd.int .u8) 5 w' w0.heap.size (fun k_ => (P0_ k_ ∨ w.heap.size ≤ k_)) v0_ r ∧ Below w0.heap.size w0 w' ∧ Kept w w' (fun k_ => P0_ k_) := by
  have HO0 := Aside0.mk (show Kd.R (Kd.int .u8) 5 w w0.heap.size (fun k_ => (P0_ k_ ∨ w.heap.size ≤ k_)) u9000_ l0 from Kd.R_mono ho0 (fun k_ hk => (.inl hk)))
  have HK := Aside0.mk (Kept.refl w (fun k_ => P0_ k_))
  have HW0 := Aside0.mk hB.size
  have HB := Aside0.mk hB
  clear hB
  have H : (le_put.l0 k l0 a1 a2 0) = some r := h
  clear h
  have H' := Aside0.mk H
  clear H
  go_enter Try.func47, Try.ntmps47
  go_wp2
  go_loopg [0, 9] k (fun kq v0 v9 w' => ∃ (x0_1 : List Int) (x9_1 : Int), v9 = .int .i64 x9_1 ∧ Aside0 (le_put.l0 kq x0_1 a1 a2 x9_1 = some r) ∧ Aside0 (kq ≤ k) ∧ Aside0 (Kd.R (Kd.int .u8) 5 w' w0.heap.size (fun k_ => (P0_ k_ ∨ w.heap.size ≤ k_)) v0 x0_1) ∧ Aside0 (Kept w w' (fun k_ => P0_ k_)) ∧ Aside0 (Below w0.heap.size w0 w'))
  case atStart => exact ⟨(l0), (0), (by first | rfl | (simp; done) | (simp [*]; done)), H', ⟨Nat.le_refl _⟩, ⟨by (with_reducible repeat (first | apply Kd.R_alloc | apply Kd.R_drewN | apply Kd.R_drew)); exact HO0.out⟩, ⟨by repeat (first | (with_reducible first | exact HK.out | apply Kept.alloc | apply Kept.drewN | apply Kept.drew) | exact HK.out)⟩, ⟨by repeat (first | (with_reducible first | exact HB.out | apply below_alloc | apply pw_below_drewN | apply below_drew1) | exact HB.out)⟩⟩
  case round =>
    clear H'
    try clear p2
    obtain ⟨x0_1, x9_1, rfl, HA, HK1, HO_0, HK, HB⟩ := hrel
    cases gk with
    | zero => exact absurd HA.out (by simp [le_put.l0])
    | succ k1 =>
      have H := HA.out
      clear HA
      simp only [le_put.l0] at H
      by_cases c4 : x9_1 < a2
      · rw [if_pos c4] at H
        have c4b0 : decide (x9_1 < a2) = true := decide_eq_true c4
        clear c4
        obtain ⟨ji5, hji5⟩ : ∃ j_ : Int, (IntKind.u64.wrap (wrap64 (8 * x9_1))) = j_ := ⟨_, rfl⟩
        replace H : (if 0 ≤ (ji5) then (if x0_1.length < 140737488355328 then (le_put.l0 k1 (x0_1 ++ [(shr .u64 a1 (ji5)) % 256]) a1 a2 (wrap64 (x9_1 + 1))) else (none)) else (none)) = some r := by first | (rw [hji5] at H; exact H) | (simp only [hji5] at H ⊢; exact H)
        by_cases c6 : 0 ≤ (ji5)
        · rw [if_pos c6] at H
          have c6b0 := eq_true c6
          have c6b1 : decide (0 ≤ (ji5)) = true := decide_eq_true c6
          clear c6
          obtain ⟨ji7, hji7⟩ : ∃ j_ : Int, (shr .u64 a1 (ji5)) = j_ := ⟨_, rfl⟩
          replace H : (if x0_1.length < 140737488355328 then (le_put.l0 k1 (x0_1 ++ [(ji7) % 256]) a1 a2 (wrap64 (x9_1 + 1))) else (none)) = some r := by first | (rw [hji7] at H; exact H) | (simp only [hji7] at H ⊢; exact H)
          have hji7_ : (a1 / 2 ^ min (ji5).toNat 64) = ji7 := hji7
          have hji7z : (ji5) ≤ 64 → (a1 / 2 ^ (ji5).toNat) = ji7 := shr_small hji7
          by_cases c8 : x0_1.length < 140737488355328
          · rw [if_pos c8] at H
            have LMc8 := Aside0.mk c8
            clear c8
            obtain ⟨y101, hy101⟩ : ∃ y_ : List Int, y_ = (x0_1 ++ [(ji7) % 256]) := ⟨_, rfl⟩
            replace H : (le_put.l0 k1 y101 a1 a2 (wrap64 (x9_1 + 1))) = some r := by first | (rw [hy101]; with_reducible exact H) | (have H2_ := (Option.bind_some _ _).symm.trans H; rw [hy101]; with_reducible exact H2_) | (have H2_ := (Option.bind_some _ _).symm.trans H; with_reducible exact H2_) | with_reducible exact H | (rw [hy101]; exact H) | exact H
            have Ny101 := Aside0.mk hy101
            clear hy101
            have H' := Aside0.mk H
            clear H
            go_wp2_with (first | ((with_reducible refine gate_builtin (b := .append) (xs := #[.tmp 12, .tmp 19]) rfl ?_); at_builtin; refine Kd.R_append (Kd.int .u8) (w0 := w0) w0.heap.size rfl (.tmp 12) (.tmp 19) 22 5 (.int .u8 0) 1 rfl Try.underlying22 info5 rfl (by decide) (by omega) u0 x0_1 ((ji7) % 256) [.int .u8 ((ji7) % 256)] (fun k_ => (P0_ k_ ∨ w.heap.size ≤ k_)) (fun _ => False) rfl rfl ?aP (fun _ hk => hk.elim) ?aF ?aO ?aB ?aS ?aL ?_; (case aP => exact rfl); (case aB => exact (by repeat (first | (with_reducible first | exact HB.out | apply below_alloc | apply pw_below_drewN | apply below_drew1) | exact HB.out))); (case aF => exact (fun k_ hk => (.inr (Nat.le_trans (by first | exact HK.out.1 | exact (show Kept w _ (fun k_ => P0_ k_) from by repeat (first | (with_reducible first | exact HK.out | apply Kept.alloc | apply Kept.drewN | apply Kept.drew) | exact HK.out)).1) hk)))); (case aO => exact (by (with_reducible repeat (first | apply Kd.R_alloc | apply Kd.R_drewN | apply Kd.R_drew)); exact HO_0.out)); (case aS => exact (below_size (by repeat (first | (with_reducible first | exact HB.out | apply below_alloc | apply pw_below_drewN | apply below_drew1) | exact HB.out)))); (case aL => have := LMc8.out; omega); intro v102 w9 ho hb hg hat; rw [← Ny101.out] at ho; have n0_ := Aside0.mk (hb); have n1_ := Aside0.mk (Kept.of_grown (S := (fun k_ => P0_ k_)) hg (by repeat (first | (with_reducible first | exact HK.out | apply Kept.alloc | apply Kept.drewN | apply Kept.drew) | exact HK.out)) (fun k_ e_ => (HO_0.out.1 k_ e_))); have n2_ := Aside0.mk (ho); clear HB; clear HK; clear HO_0; have HB := n0_; have HK := n1_; have HO103 := n2_; clear n0_ n1_ n2_; clear ho hb hg hat))
            go_roundg k1
            case measure => have := HK1.out; omega
            case rel => exact ⟨(y101), (wrap64 (x9_1 + 1)), (by first | rfl | (simp; done) | (simp [*]; done)), H', ⟨by have := HK1.out; omega⟩, ⟨by (with_reducible repeat (first | apply Kd.R_alloc | apply Kd.R_drewN | apply Kd.R_drew)); exact HO103.out⟩, ⟨by repeat (first | (with_reducible first | exact HK.out | apply Kept.alloc | apply Kept.drewN | apply Kept.drew) | exact HK.out)⟩, ⟨by repeat (first | (with_reducible first | exact HB.out | apply below_alloc | apply pw_below_drewN | apply below_drew1) | exact HB.out)⟩⟩
          · rw [if_neg c8] at H
            exact absurd H (by simp)
        · rw [if_neg c6] at H
          exact absurd H (by simp)
      · rw [if_neg c4] at H
        have c4b0 : decide (x9_1 < a2) = false := decide_eq_false c4
        clear c4
        obtain rfl := Option.some.inj H
        go_wp2
        go_ret
        exact ⟨_, by first | rfl | (simp [errW_none, errW_some] <;> rfl) | (simp [*, errW_none, errW_some] <;> rfl), by (with_reducible repeat (first | apply Kd.R_alloc | apply Kd.R_drewN | apply Kd.R_drew)); exact HO_0.out, by repeat (first | (with_reducible first | exact HB.out | apply below_alloc | apply pw_below_drewN | apply below_drew1) | exact HB.out), by repeat (first | (with_reducible first | exact HK.out | apply Kept.alloc | apply Kept.drewN | apply Kept.drew) | exact HK.out)⟩

/-- What the loop of put holds: the slice that came in, in the first round; from then on a row of its own. -/
def PutSt (w w' : World) (A0 : Option Addr) (l0 : List Int) (v : Value) (x0 : List Int) (x9 : Int) : Prop :=
  (v = .slice A0 l0.length l0.length ∧ x0 = l0 ∧ x9 = 0 ∧ w' = w) ∨ (Kd.R (Kd.int .u8) 5 w' w.heap.size (fun _ => True) v x0 ∧ Below w.heap.size w w' ∧ 1 ≤ x9)
set_option maxHeartbeats 8000000 in
set_option maxRecDepth 100000 in
theorem le_put.calls_full (k : Nat) (A0 : Option Addr) (l0 : List Int) (a1 : Int) (a2 : Int) (r : List Int) (w : World) (h1 : 1 ≤ a2) (h2 : a2 ≤ 8) (hr0 : Kd.C (Kd.int .u8) w A0 l0.length l0) (h : le_put.f k l0 a1 a2 = some r) :
    Calls Try.prog 47 #[.slice A0 l0.length l0.length, .int .u64 a1, .int .i64 a2] w fun e w' => ∃ v0_ : Value, e = .returned (v0_) ∧ Kd.R (Kd.int .u8) 5 w' w.heap.size (fun _ => True) v0_ r ∧ Below w.heap.size w w' := by
  have HR0 := Aside0.mk hr0
  clear hr0
  have H : (le_put.l0 k l0 a1 a2 0) = some r := h
  clear h
  have H' := Aside0.mk H
  clear H
  have B1 := Aside0.mk h1
  clear h1
  go_enter Try.func47, Try.ntmps47
  go_wp2
  go_loopg [0, 9] k (fun kq v0 v9 w' => ∃ (x0_1 : List Int) (x9_1 : Int), v9 = .int .i64 x9_1 ∧ 0 ≤ x9_1 ∧ Aside0 (le_put.l0 kq x0_1 a1 a2 x9_1 = some r) ∧ Aside0 (kq ≤ k) ∧ Aside0 (PutSt w w' A0 l0 v0 x0_1 x9_1))
  case atStart => exact ⟨l0, 0, rfl, Int.le_refl _, H', ⟨Nat.le_refl _⟩, ⟨.inl ⟨rfl, rfl, rfl, rfl⟩⟩⟩
  case round =>
    clear H'
    obtain ⟨x0_1, x9_1, rfl, h0, HA, HK1, HS⟩ := hrel
    cases gk with
    | zero => exact absurd HA.out (by simp [le_put.l0])
    | succ k1 =>
      have H := HA.out
      clear HA
      simp only [le_put.l0] at H
      by_cases c4 : x9_1 < a2
      · rw [if_pos c4] at H
        have h8 : x9_1 ≤ 8 := by omega
        have e1 : IntKind.u64.wrap (wrap64 (8 * x9_1)) = 8 * x9_1 := by
          rw [show wrap64 (8 * x9_1) = 8 * x9_1 from by unfold wrap64; omega]
          exact Int.emod_eq_of_lt (by omega) (show 8 * x9_1 < 18446744073709551616 by omega)
        rw [e1] at H
        rw [if_pos (by omega)] at H
        have e2 : wrap64 (x9_1 + 1) = x9_1 + 1 := by unfold wrap64; omega
        rw [e2] at H
        obtain ⟨ji7, hji7⟩ : ∃ j_ : Int, (shr .u64 a1 (8 * x9_1)) = j_ := ⟨_, rfl⟩
        rw [hji7] at H
        have EJ := Aside0.mk (shr_small hji7 (show 8 * x9_1 ≤ 64 by omega))
        clear hji7 e1 e2
        by_cases c8 : x0_1.length < 140737488355328
        · rw [if_pos c8] at H
          have LMc8 := Aside0.mk c8
          have H' := Aside0.mk H
          clear c8 H
          rcases HS.out with ⟨rfl, rfl, rfl, rfl⟩ | ⟨hR, hB, hx⟩
          · clear HS
            go_wp2_with (at_builtin; refine C_append_full (Value.int .u8) 0 (h1 := fun _ => rfl) rfl (.tmp 12) (.tmp 19) 22 5 (.int .u8 0) 1 rfl Try.underlying22 info5 rfl A0 _ _ rfl rfl HR0.out (by decide) (by have := LMc8.out; omega) ?_; intro v102 w9 ho hb; have HO := Aside0.mk ho; have HB := Aside0.mk hb; clear ho hb)
            go_roundg k1
            case measure => have := HK1.out; omega
            case rel => exact ⟨_, _, rfl, by omega, H', ⟨by have := HK1.out; omega⟩, ⟨.inr ⟨by have e_ := EJ.out; simp at e_; rw [← e_]; exact HO.out, HB.out, by omega⟩⟩⟩
          · have HO1 := Aside0.mk hR
            have HB1 := Aside0.mk hB
            have HX := Aside0.mk hx
            clear HS hR hB hx
            go_wp2_with (at_builtin; refine Kd.R_append (Kd.int .u8) (w0 := w) w.heap.size rfl (.tmp 12) (.tmp 19) 22 5 (.int .u8 0) 1 rfl Try.underlying22 info5 rfl (by decide) (by decide) _ _ _ _ (fun _ => True) (fun _ => False) rfl rfl rfl (fun _ hk => hk.elim) (fun _ _ => trivial) HO1.out HB1.out (below_size HB1.out) (by have := LMc8.out; omega) ?_; intro v102 w9 ho hb hg hat; have HO := Aside0.mk ho; have HB := Aside0.mk hb; clear ho hb hg hat)
            go_roundg k1
            case measure => have := HK1.out; omega
            case rel => exact ⟨_, _, rfl, by omega, H', ⟨by have := HK1.out; omega⟩, ⟨.inr ⟨by rw [← EJ.out]; exact HO.out, HB.out, by omega⟩⟩⟩
        · rw [if_neg c8] at H
          exact absurd H (by simp)
      · rw [if_neg c4] at H
        obtain rfl := Option.some.inj H
        rcases HS.out with ⟨rfl, rfl, rfl, rfl⟩ | ⟨hR, hB, hx⟩
        · exact absurd B1.out (by omega)
        · have HO := Aside0.mk hR
          have HB := Aside0.mk hB
          clear HS hR hB
          go_wp2
          go_ret
          exact ⟨_, rfl, HO.out, HB.out⟩
theorem le_put_l0 (d : Nat) : ∀ (k : Nat) (x0 : List Int) (v n i : Int), 0 ≤ i → n ≤ 8 → n - i = d → d < k → x0.length + d ≤ 140737488355328 →
    le_put.l0 k x0 v n i = some (x0 ++ leb d (v / 2 ^ (8 * i).toNat)) := by
  induction d with
  | zero =>
    intro k x0 v n i h0 h8 hd hk hl
    obtain ⟨k, rfl⟩ : ∃ m, k = m + 1 := ⟨k - 1, by omega⟩
    simp only [le_put.l0, leb]
    rw [if_neg (by omega), List.append_nil]
  | succ d ih =>
    intro k x0 v n i h0 h8 hd hk hl
    obtain ⟨k, rfl⟩ : ∃ m, k = m + 1 := ⟨k - 1, by omega⟩
    have e1 : IntKind.u64.wrap (wrap64 (8 * i)) = 8 * i := by
      rw [show wrap64 (8 * i) = 8 * i from by unfold wrap64; omega]
      exact Int.emod_eq_of_lt (by omega) (show 8 * i < 18446744073709551616 by omega)
    have e2 : wrap64 (i + 1) = i + 1 := by unfold wrap64; omega
    have e3 : shr .u64 v (8 * i) = v / 2 ^ (8 * i).toNat := (shr_small rfl (show 8 * i ≤ 64 by omega)).symm
    have e4 : v / 2 ^ (8 * (i + 1)).toNat = v / 2 ^ (8 * i).toNat / 256 := by
      rw [show (8 * (i + 1)).toNat = (8 * i).toNat + 8 by omega, Int.pow_add, ← Int.ediv_ediv_of_nonneg (by exact Int.pow_nonneg (by omega))]
      rfl
    simp only [le_put.l0]
    rw [if_pos (by omega), e1, if_pos (by omega), if_pos (by omega), e2, e3, ih k _ v n (i + 1) (by omega) h8 (by omega) (by omega) (by simp; omega), e4]
    simp [leb]
theorem le_put_eq (k : Nat) (x0 : List Int) (v : Int) (n : Nat) (hn : n ≤ 8) (hk : n < k) (hl : x0.length + n ≤ 140737488355328) : le_put.f k x0 v n = some (x0 ++ leb n v) := by
  unfold le_put.f
  rw [le_put_l0 n k x0 v n 0 (by omega) (by omega) (by omega) hk hl]
  simp
/-- What the loop of Put holds: the slice that came in, clipped; from the first round on a row of its own. -/
def PutsSt (w w' : World) (A0 : Option Addr) (l0 : List Int) (v : Value) (x0 : List Int) (j : Nat) : Prop :=
  (v = .slice A0 l0.length l0.length ∧ j = 0 ∧ w' = w) ∨ (Kd.R (Kd.int .u8) 5 w' w.heap.size (fun _ => True) v x0 ∧ Below w.heap.size w w' ∧ 1 ≤ j)

set_option maxHeartbeats 8000000 in
set_option maxRecDepth 100000 in
theorem slices_Clip_byte_byte.calls_full (A0 : Option Addr) (n c0 : Nat) (w : World) (hn : n ≤ 9223372036854775807) (hc0 : n ≤ c0) :
    Calls Try.prog 49 #[.slice A0 n c0] w fun e w' => e = .returned (.slice A0 n n) ∧ w = w' := by
  have HC := Aside0.mk hc0
  go_enter Try.func49, Try.ntmps49
  go_wp2
  go_ret
  exact ⟨rfl, rfl⟩


end Go.Proofs.Ythjlhoclmbnjgaa.P
