-- printed by this session's program (wip/print), out of the translation; Lean checks it
import Derived.Test.YthjlhoclmbnjgaaP0
import Derived.Test.YthjlhoclmbnjgaaP4
namespace Go.Proofs.Ythjlhoclmbnjgaa.P
open Go.RowKit Go.Proofs.YthjlhoclmbnjgaaW.PrintWords Go.Proofs.YthjlhoclmbnjgaaW.PrintLast Go.Proofs.YthjlhoclmbnjgaaW.PrintMore
attribute [local go_sem] max2_int min2_int max_two min_two max_three min_three max_four min_four   -- for this text's walks alone
set_option linter.unusedVariables false
set_option linter.unusedSimpArgs false
open Go.Proofs.YthjlhoclmbnjgaaX

/-! ### le_Put32: function 27, by hand -/
def le_Put32.f (l0 l1 : List Int) : Option (List Int) := if l1 = [] then none else if l0.length + 4 * l1.length < 140737488355328 then some (l0 ++ l1.flatMap fun x => leb 4 (IntKind.u64.wrap x)) else none
set_option maxHeartbeats 8000000 in
set_option maxRecDepth 100000 in
theorem le_Put32.calls (A0 : Option Addr) (c0 : Nat) (l0 : List Int) (A1 : Option Addr) (c1 : Nat) (l1 : List Int) (r : List Int) (w : World) (hr0 : Kd.C (Kd.int .u8) w A0 l0.length l0) (hc0 : l0.length ≤ c0) (hr1 : Kd.C (Kd.int .u32) w A1 l1.length l1) (hc1 : l1.length ≤ c1) (h : le_Put32.f l0 l1 = some r) :
    Calls Try.prog 27 #[.slice A0 l0.length c0, .slice A1 l1.length c1] w fun e w' => ∃ v0_ : Value, e = .returned (v0_) ∧ Kd.R (Kd.int .u8) 5 w' w.heap.size (fun _ => True) v0_ r ∧ Below w.heap.size w w' := by
  unfold le_Put32.f at h
  split at h
  case isTrue => cases h
  rename_i hne
  split at h
  case isFalse => cases h
  rename_i hl
  obtain rfl := Option.some.inj h
  clear h
  have hne' : 0 < l1.length := List.length_pos_iff.2 hne
  have HM : l1.length ≤ 9223372036854775807 := hr1.2.1
  have HM0 : l0.length ≤ 9223372036854775807 := hr0.2.1
  have HR0 := Aside0.mk hr0
  have HR1 := Aside0.mk hr1
  have HC0 : (l0.length : Int) ≤ (c0 : Int) := by omega
  have HL := Aside0.mk hl
  have HN := Aside0.mk hne'
  have HH0 := Aside0.mk hc0
  clear hr0 hr1 hc0 hc1 hl hne hne'
  go_enter Try.func27, Try.ntmps27
  go_wp2_with (go_at_call 49; refine (slices_Clip_byte_byte.calls_full _ _ _ _ HM0 HH0.out).mono ?_; rintro e w' ⟨rfl, rfl⟩)
  go_loopw [0, 11] (fun v i wr => ∃ j : Nat, j ≤ l1.length ∧ i = .int .i64 j ∧ Aside0 (PutsSt w wr A0 l0 v (l0 ++ (l1.take j).flatMap fun x => leb 4 (IntKind.u64.wrap x)) j)) (fun _ i _ => l1.length - (intOf i).toNat)
  case atStart => exact ⟨0, Nat.zero_le _, rfl, ⟨.inl ⟨rfl, rfl, rfl⟩⟩⟩
  case round =>
    obtain ⟨j, hj, rfl, HS⟩ := hrel
    by_cases hlt : j < l1.length
    · obtain ⟨ad, rfl, hcell⟩ := (Kd.reads_of_C (d := 0) HR1.out).at_ (j : Int) (by omega) (by omega)
      have ht := take_flat (fun x => leb 4 (IntKind.u64.wrap x)) l1 j hlt
      have HT := Aside0.mk ht
      have hlen := flat_len 4 (fun x => (IntKind.u64.wrap x)) (l1.take j)
      have htl : (l1.take j).length = j := by rw [List.length_take]; omega
      have HLL := Aside0.mk (show (l0 ++ (l1.take j).flatMap fun x => leb 4 (IntKind.u64.wrap x)).length + 4 ≤ 140737488355328 by
        rw [List.length_append, hlen, htl]; have := HL.out; omega)
      have HFull := Aside0.mk (show l0.length + 4 ≤ 140737488355328 by have := HL.out; have := HN.out; omega)
      clear ht hlen htl
      rcases HS.out with ⟨rfl, rfl, rfl⟩ | ⟨hR, hB, hj1⟩
      · clear HS
        have hc' : wr.cell? ad = some (.int .u32 (rd l1 0)) := by have h_ := hcell; simp at h_; exact h_
        clear hcell
        go_wp2_with (go_at_call 47; refine (le_put.calls_full 5 _ _ _ _ _ _ (by omega) (by omega) HR0.out (le_put_eq 5 l0 _ 4 (by omega) (by omega) HFull.out)).mono ?_; rintro e w' ⟨v0, rfl, ho, hb⟩; have HO := Aside0.mk ho; have HB := Aside0.mk hb; clear ho hb)
        go_roundw
        case measure => have := HN.out; simp [intOf]; omega
        case rel => exact ⟨1, HN.out, by go_num, ⟨.inr ⟨by rw [HT.out]; exact HO.out, HB.out, Nat.le_refl _⟩⟩⟩
      · have hc' : wr.cell? (ad.add j) = some (.int .u32 (rd l1 j)) := pw_cell_below hB hcell
        clear hcell HS
        have HO1 := Aside0.mk hR
        have HB1 := Aside0.mk hB
        have HJ := Aside0.mk hj1
        clear hR hB hj1
        obtain ⟨x0, hx0⟩ : ∃ x0 : List Int, x0 = (l0 ++ (l1.take j).flatMap fun x => leb 4 (IntKind.u64.wrap x)) := ⟨_, rfl⟩
        rw [← hx0] at HO1 HLL
        have HX := Aside0.mk hx0
        clear hx0
        go_wp2_with (go_at_call 47; refine (le_put.calls 5 (fun _ => True) _ x0 _ _ _ w _ HB1.out HO1.out (le_put_eq 5 x0 _ 4 (by omega) (by omega) HLL.out)).mono ?_; rintro e w' ⟨v0, rfl, ho, hb, hk⟩; have HO := Aside0.mk (Kd.R_mono ho (fun _ _ => trivial) : Kd.R (Kd.int .u8) 5 w' w.heap.size (fun _ => True) v0 _); have HB := Aside0.mk hb; clear ho hb hk)
        go_roundw
        case measure => simp [intOf]; omega
        case rel => exact ⟨j + 1, by omega, by go_num, ⟨.inr ⟨by rw [HT.out, ← List.append_assoc, ← HX.out]; exact HO.out, HB.out, by omega⟩⟩⟩
    · obtain rfl : j = l1.length := by omega
      rcases HS.out with ⟨rfl, hz, rfl⟩ | ⟨hR, hB, hj1⟩
      · exact absurd HN.out (by omega)
      · rw [List.take_length] at hR
        have HO1 := Aside0.mk hR
        have HB1 := Aside0.mk hB
        clear HS hR hB hj1
        go_wp2
        go_ret
        exact ⟨_, rfl, HO1.out, HB1.out⟩


end Go.Proofs.Ythjlhoclmbnjgaa.P
