-- printed by this session's program (wip/print), out of the translation; Lean checks it
import Derived.Test.YthjlhoclmbnjgaaP0
import Derived.Test.YthjlhoclmbnjgaaP2
import Derived.Test.YthjlhoclmbnjgaaP3
import Derived.Test.YthjlhoclmbnjgaaP4
namespace Go.Proofs.Ythjlhoclmbnjgaa.P
open Go.RowKit Go.Proofs.YthjlhoclmbnjgaaW.PrintWords Go.Proofs.YthjlhoclmbnjgaaW.PrintLast Go.Proofs.YthjlhoclmbnjgaaW.PrintMore
attribute [local go_sem] max2_int min2_int max_two min_two max_three min_three max_four min_four   -- for this text's walks alone
set_option linter.unusedVariables false
set_option linter.unusedSimpArgs false
open Go.Proofs.YthjlhoclmbnjgaaX

/-! ### le_Set: function 16, by hand -/

def le_Set.f (l0 : List Int) (a1 a2 a3 : Int) : Option (List Int × Bool) :=
  if a3 < 1 then some ([], false) else if a3 > 8 then some ([], false) else
  (le_within.f a1 (IntKind.u64.wrap a3) (l0.length : Int)).bind fun t => if t = true then (if 0 ≤ a1 then (if l0.length < 140737488355328 then some (l0.take a1.toNat ++ leb a3.toNat a2 ++ l0.drop (a1.toNat + a3.toNat), true) else none) else none) else some ([], false)
set_option maxHeartbeats 8000000 in
set_option maxRecDepth 100000 in
theorem le_Set.calls (A0 : Option Addr) (c0 : Nat) (l0 : List Int) (a1 a2 a3 : Int) (r1 : List Int) (r2 : Bool) (w : World) (hr0 : Kd.C (Kd.int .u8) w A0 l0.length l0) (hc0 : l0.length ≤ c0) (h : le_Set.f l0 a1 a2 a3 = some (r1, r2)) :
    Calls Try.prog 16 #[.slice A0 l0.length c0, .int .u64 a1, .int .u64 a2, .int .i64 a3] w fun e w' => ∃ v0_ : Value, e = .returned (.tuple #[v0_, .bool r2]) ∧ Kd.R (Kd.int .u8) 5 w' w.heap.size (fun _ => True) v0_ r1 ∧ Below w.heap.size w w' := by
  have HR0 := Aside0.mk hr0
  have HC0 := Aside0.mk hc0
  have HM0 : l0.length ≤ 9223372036854775807 := hr0.2.1
  clear hr0 hc0
  unfold le_Set.f at h
  by_cases b1 : a3 < 1
  · rw [if_pos b1] at h
    simp only [Option.some.injEq, Prod.mk.injEq] at h
    obtain ⟨rfl, rfl⟩ := h
    go_enter Try.func16, Try.ntmps16
    go_wp2
    go_ret2
    exact ⟨_, rfl, Kd.R_nil _ _ _ _ _, Below.refl _ _⟩
  rw [if_neg b1] at h
  by_cases b2 : a3 > 8
  · rw [if_pos b2] at h
    simp only [Option.some.injEq, Prod.mk.injEq] at h
    obtain ⟨rfl, rfl⟩ := h
    have b1' : decide (a3 < 1) = false := decide_eq_false b1
    go_enter Try.func16, Try.ntmps16
    go_wp2
    go_ret2
    exact ⟨_, rfl, Kd.R_nil _ _ _ _ _, Below.refl _ _⟩
  rw [if_neg b2] at h
  have b1' : decide (a3 < 1) = false := decide_eq_false b1
  have b2' : decide (8 < a3) = false := decide_eq_false b2
  have e1 : IntKind.u64.wrap a3 = a3 := Int.emod_eq_of_lt (by omega) (show a3 < 18446744073709551616 by omega)
  rw [e1] at h
  clear e1
  obtain ⟨t, ht, h⟩ := Option.bind_eq_some_iff.1 h
  cases t with
  | false =>
    rw [if_neg (by decide)] at h
    simp only [Option.some.injEq, Prod.mk.injEq] at h
    obtain ⟨rfl, rfl⟩ := h
    have HT := Aside0.mk ht
    clear ht
    go_enter Try.func16, Try.ntmps16
    go_wp2_with (go_at_call 45; (with_reducible refine (le_within.calls _ _ _ _ _ HT.out).mono ?_); rintro e w' ⟨rfl, ⟨⟨n, rfl⟩⟩⟩)
    go_ret2
    exact ⟨_, rfl, Kd.R_nil _ _ _ _ _, pw_below_drewN (Below.refl _ _) _⟩
  | true =>
    rw [if_pos rfl] at h
    by_cases b3 : 0 ≤ a1
    case neg => rw [if_neg b3] at h; cases h
    rw [if_pos b3] at h
    by_cases b4 : l0.length < 140737488355328
    case neg => rw [if_neg b4] at h; cases h
    rw [if_pos b4] at h
    simp only [Option.some.injEq, Prod.mk.injEq] at h
    obtain ⟨rfl, rfl⟩ := h
    have HT := Aside0.mk ht
    have HL := Aside0.mk b4
    have hin : a1 + a3 ≤ l0.length := by
      unfold le_within.f at ht
      have e2 : IntKind.u64.wrap (l0.length : Int) = l0.length := Int.emod_eq_of_lt (by omega) (show (l0.length : Int) < 18446744073709551616 by omega)
      rw [e2] at ht
      split at ht
      · rename_i hle
        rw [show IntKind.u64.wrap ((l0.length : Int) - a3) = (l0.length : Int) - a3 from Int.emod_eq_of_lt (by omega) (show (l0.length : Int) - a3 < 18446744073709551616 by omega)] at ht
        have := of_decide_eq_true (Option.some.inj ht)
        omega
      · simp at ht
    clear ht b4
    go_enter Try.func16, Try.ntmps16
    go_wp2_with (first | (go_at_call 45; (with_reducible refine (le_within.calls _ _ _ _ _ HT.out).mono ?_); rintro e w' ⟨rfl, ⟨⟨n, rfl⟩⟩⟩) | (go_at_call 46; (with_reducible refine (slices_Clone_byte_byte.calls _ _ _ _ _ (Kd.C_drewN HR0.out _) HC0.out (by unfold slices_Clone_byte_byte.f; exact if_pos HL.out)).mono ?_); rintro e w' ⟨v0, rfl, ho, hb⟩; have HO := Aside0.mk (show Kd.R (Kd.int .u8) 5 w' w.heap.size (fun _ => True) v0 _ from ho); have HB := Aside0.mk (show Below w.heap.size w w' from Below.trans (pw_below_drewN (Below.refl w.heap.size w) n) hb); clear ho hb))
    have HSZ := Aside0.mk (below_size HB.out)
    obtain ⟨_, hform⟩ := Kd.own_of_R HO.out
    rcases hform with ⟨_, hz⟩ | ⟨g, cap, cur, rfl, hbg, hheap, hnc, hcm, hcs, htk⟩
    · omega
    obtain ⟨n, rfl⟩ : ∃ n : Nat, a3 = n := ⟨a3.toNat, by omega⟩
    obtain ⟨p, rfl⟩ : ∃ p : Nat, a1 = p := ⟨a1.toNat, by omega⟩
    have HP := Aside0.mk (le_put_eq (n + 1) [] a2 n (by omega) (by omega) (by simp; omega))
    have HG := Aside0.mk hheap
    have HCS := Aside0.mk hcs
    have HTK := Aside0.mk htk
    have HBG := Aside0.mk hbg
    clear hheap hcs htk hbg HO
    have hcp : ¬ cap = p := by omega
    have hpl : p ≤ l0.length := by omega
    have HA := Aside0.mk (show n ≤ l0.length - p ∧ p + n ≤ cap ∧ 0 < n by omega)
    go_region_law (first | (refine step_copy_splice rfl (.tmp 29) (.tmp 32) 22 22 rfl 5 Try.underlying22 (by kernel_rfl) (some ⟨g, p, none⟩) A2 (l0.length - p) (cap - p) ([] ++ leb n a2).length c2 (by simp [Act.eval, Act.put]) (by simp [Act.eval, Act.put]) g p cur.toList 5 (by rw [Array.toArray_toList]; exact (HK2.out.2 g ((Array.getElem?_eq_some_iff.1 HG.out).1) (fun h_ => h_)).trans HG.out) (encs (Value.int .u8) ([] ++ leb n a2)) (by have := HA.out; rw [encs_length, List.nil_append, leb_length]; exact (Nat.min_eq_left this.1).symm) (fun _ => ⟨rfl, by have := HA.out; obtain ⟨ad, he, hc⟩ := (Kd.reads_of_C (d := 0) HC2.out).2.2 (by rw [List.nil_append, leb_length]; exact this.2.2); exact ⟨ad, he, fun j v hj => by have hlt := (List.getElem?_eq_some_iff.1 hj).1; rw [encs_length] at hlt; rw [hc j hlt, ← hj, encs_get (d := 0) _ j hlt]⟩⟩) (by have := HA.out; have h_ := HCS.out; rw [encs_length, List.nil_append, leb_length, Array.length_toList, h_]; omega) (fun u hu => by obtain ⟨x, _, rfl⟩ := List.mem_map.1 hu; rfl) w.heap.size w HB2.out HBG.out ?_; intro w3 hg3 hb3; have HG3 := Aside0.mk hg3.out; have HB3 := Aside0.mk hb3; clear hg3 hb3) | (go_simp; go_at_call 47; (with_reducible refine (le_put.calls (n + 1) (fun _ => False) _ [] _ _ _ w _ (below_drew HB.out) (Kd.R_nil _ _ _ _ _) HP.out).mono ?_); rintro e w2 ⟨v2, rfl, ho, hb, hk⟩; obtain ⟨A2, c2, rfl, hlc, hC⟩ := Kd.R_reads ho; have HC2 := Aside0.mk hC; have HB2 := Aside0.mk hb; have HK2 := Aside0.mk hk; clear ho hb hk hlc hC))
    go_wp2
    go_ret2
    refine ⟨_, rfl, ?_, HB3.out⟩
    have hA := HA.out
    have hl : (l0.take p ++ leb n a2 ++ l0.drop (p + n)).length = l0.length := by
      simp only [List.length_append, List.length_take, List.length_drop, leb_length]
      omega
    have hmul : l0.length * 1 = l0.length := Nat.mul_one _
    have htk := HTK.out
    rw [hmul] at htk
    have hcl : cur.toList.length = cap := by rw [Array.length_toList, HCS.out, Nat.mul_one]
    show Kd.R (Kd.int .u8) 5 w3 w.heap.size (fun _ => True) (.slice (some ⟨g, 0, none⟩) l0.length cap) (l0.take p ++ leb n a2 ++ l0.drop (p + n))
    refine Kd.R_of_own ⟨by rw [encs_length, Nat.mul_one], .inr ⟨g, cap, _, by rw [hl], HBG.out, HG3.out, by rw [hl]; exact hnc, hcm, ?_, ?_⟩⟩ (fun _ _ => trivial)
    · simp only [splice, List.size_toArray, List.length_append, List.length_take, List.length_drop, encs_length, List.nil_append, leb_length, hcl]
      omega
    · rw [hl, hmul]
      show (splice cur.toList p (encs (Value.int .u8) ([] ++ leb n a2))).take l0.length = _
      rw [splice_take cur.toList (encs (Value.int .u8) l0) _ p l0.length htk (encs_length _) (by rw [encs_length, List.nil_append, leb_length]; omega)]
      simp only [encs_length, List.nil_append, leb_length]
      simp [encs, List.map_append, List.map_take, List.map_drop]

end Go.Proofs.Ythjlhoclmbnjgaa.P
