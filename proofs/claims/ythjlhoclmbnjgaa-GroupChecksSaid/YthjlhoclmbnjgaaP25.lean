-- printed by this session's program (wip/print), out of the translation; Lean checks it
import Derived.Test.YthjlhoclmbnjgaaP0
namespace Go.Proofs.Ythjlhoclmbnjgaa.P
open Go.RowKit Go.Proofs.YthjlhoclmbnjgaaW.PrintWords Go.Proofs.YthjlhoclmbnjgaaW.PrintLast Go.Proofs.YthjlhoclmbnjgaaW.PrintMore
attribute [local go_sem] max2_int min2_int max_two min_two max_three min_three max_four min_four   -- for this text's walks alone
set_option linter.unusedVariables false
set_option linter.unusedSimpArgs false
open Go.Proofs.YthjlhoclmbnjgaaX

/-! ### group_Check: function 29, by hand -/
def group_Check.f (l0 : List (List Int)) : Option Int := if total l0 < 4611686018427387904 then (if l0.all (fun r => r.all fun x => (Lit.int .i64 x).wf) = true then some (chkAll 0 l0 []) else none) else none
theorem group_Check.key : Go.Maps.Keyed Try.prog 3 := Go.Maps.int_keyed Try.underlying3
theorem group_Check.zero (w : World) : (zeroValue 3).run Try.prog w = .ok (.int .i64 0) w := by kernel_rfl
set_option maxHeartbeats 8000000 in
set_option maxRecDepth 100000 in
theorem group_Check.calls (A0 : Option Addr) (c0 : Nat) (l0 : List (List Int)) (r : Int) (w : World) (hr0 : Kd.C (Kd.slice 3 (Kd.int .i64)) w A0 l0.length l0) (hc0 : l0.length ≤ c0) (h : group_Check.f l0 = some r) :
    Calls Try.prog 29 #[.slice A0 l0.length c0] w fun e w' => e = .returned (.int .i64 r) ∧ Below w.heap.size w w' := by
  unfold group_Check.f at h
  split at h
  case isFalse => cases h
  rename_i ht
  split at h
  case isFalse => cases h
  rename_i hwf
  obtain rfl := Option.some.inj h
  clear h
  have hm : l0.length ≤ 9223372036854775807 := hr0.2.1
  have HR0 := Aside0.mk hr0
  have HT := Aside0.mk ht
  have HWF := Aside0.mk (show ∀ r ∈ l0, ∀ x ∈ r, (Lit.int .i64 x).wf = true from fun r hr x hx => List.all_eq_true.1 (List.all_eq_true.1 hwf r hr) x hx)
  clear hr0 hc0 ht hwf
  obtain ⟨R, hR⟩ : ∃ R : Int, R = chkAll 0 l0 [] := ⟨_, rfl⟩
  rw [← hR]
  have HRR := Aside0.mk hR
  clear hR
  have hmm := @run_makeMap Try.prog
  go_enter Try.func29, Try.ntmps29
  go_wp2
  go_loopw [13] (fun v13 wr => ∃ (i : Nat) (M : List (Int × Int)), i ≤ l0.length ∧ v13 = .int .i64 i ∧ Aside0 (M.length ≤ total (l0.take i)) ∧ Aside0 (wr.ownsMap Try.prog 3 (plainElem (H := Unit) Try.prog 3) w.heap.size M.length (MD M)) ∧ Aside0 (Below w.heap.size w wr) ∧ Aside0 (R = chkAll i (l0.drop i) M)) (fun i _ => l0.length - (intOf i).toNat)
  case atStart => exact ⟨0, [], Nat.zero_le _, rfl, ⟨Nat.zero_le _⟩, ⟨World.ownsMap_made _ _ _ _⟩, ⟨(Below.refl _ _).alloc (Nat.le_refl _) _⟩, ⟨HRR.out⟩⟩
  case round =>
    obtain ⟨i, M, hi, rfl, HM, HO, HB, HA⟩ := hrel
    by_cases hlt : i < l0.length
    · obtain ⟨ad, rfl, hcell⟩ := HR0.out.2.2 (by omega)
      obtain ⟨cs, hcs1, ⟨A1, c1, rfl, hle, hC1⟩, hcc⟩ := hcell i l0[i] (List.getElem?_eq_getElem hlt)
      have hc2 : wr.cell? (ad.add i) = some (.slice A1 l0[i].length c1) := by
        have := pw_cell_below HB.out (hcc 0 _ rfl)
        rwa [show (Kd.slice 3 (Kd.int .i64)).sz = 1 from rfl, Nat.mul_one, Nat.add_zero] at this
      have hrow : l0[i] ∈ l0 := List.getElem_mem _
      have hm1 : l0[i].length ≤ 9223372036854775807 := hC1.2.1
      have HC1 := Aside0.mk hC1
      have HWR := Aside0.mk (HWF.out _ hrow)
      have HA2 : Aside0 (R = chkFrom i (l0[i].drop 0) (l0.drop (i + 1)) M) := ⟨by
        rw [HA.out, List.drop_eq_getElem_cons hlt, List.drop_zero]
        rfl⟩
      have HT2 : Aside0 (total (l0.take i) + l0[i].length = total (l0.take (i + 1)) ∧ total (l0.take (i + 1)) ≤ total l0) := ⟨total_take l0 i hlt, total_take_le l0 (i + 1)⟩
      generalize hrw : l0[i] = row at *
      clear hcell hcs1 hle hC1 hcc hrow hrw HA
      obtain ⟨wo, rfl⟩ : ∃ wo : World, wo = wr := ⟨_, rfl⟩
      go_wp2_with fail
      go_loopw [20] (fun v20 wq => ∃ (j : Nat) (M : List (Int × Int)), j ≤ row.length ∧ v20 = .int .i64 j ∧ Aside0 (M.length ≤ total (l0.take i) + j) ∧ Aside0 (wq.ownsMap Try.prog 3 (plainElem (H := Unit) Try.prog 3) w.heap.size M.length (MD M)) ∧ Aside0 (Below w.heap.size w wq) ∧ Aside0 (R = chkFrom i (row.drop j) (l0.drop (i + 1)) M)) (fun j _ => row.length - (intOf j).toNat)
      case atStart => exact ⟨0, M, Nat.zero_le _, rfl, HM, HO, HB, HA2⟩
      case round =>
        clear HM HO HB HA2 hc2
        obtain ⟨j, M2, hj, rfl, HM, HO, HB, HA⟩ := hrel
        by_cases hjt : j < row.length
        · obtain ⟨ad1, rfl, hcell1⟩ := (Kd.reads_of_C (d := 0) HC1.out).at_ (j : Int) (by omega) (by omega)
          have hx1 : wr.cell? (ad1.add j) = some (.int .i64 (rd row j)) := pw_cell_below HB.out hcell1
          have hxm : rd row j ∈ row := by
            unfold rd
            rw [Int.toNat_natCast, List.getD_eq_getElem?_getD, List.getElem?_eq_getElem hjt]
            exact List.getElem_mem _
          have hxw := HWR.out _ hxm
          have hdr : row.drop j = rd row j :: row.drop (j + 1) := by
            rw [List.drop_eq_getElem_cons hjt]
            congr 1
            unfold rd
            rw [Int.toNat_natCast, List.getD_eq_getElem?_getD, List.getElem?_eq_getElem hjt]
            rfl
          have hA := HA.out
          rw [hdr] at hA
          have hst : R = if (M2.lookup (rd row j)).isSome = true ∧ (M2.lookup (rd row j)).getD 0 ≠ (i : Int) then 34 else chkFrom i (row.drop (j + 1)) (l0.drop (i + 1)) ((rd row j, (i : Int)) :: M2) := by
            rw [hA]
            unfold chkFrom
            simp only [chkRow]
            split
            · rename_i heq
              split at heq
              · rename_i hc
                rw [if_pos hc]
              · rename_i hc
                rw [if_neg hc, heq]
            · rename_i M' heq
              split at heq
              · cases heq
              · rename_i hc
                rw [if_neg hc, heq]
          generalize hxx : rd row (j : Int) = x at *
          have hkey := Go.Maps.keyOf_int_mk Try.underlying3 hxw
          obtain ⟨bv, hbv⟩ : ∃ b : Bool, b = (M2.lookup x).isSome := ⟨_, rfl⟩
          obtain ⟨cv, hcv⟩ : ∃ c : Int, c = (M2.lookup x).getD 0 := ⟨_, rfl⟩
          rw [← hbv, ← hcv] at hst
          have HBV := Aside0.mk hbv
          have HCV := Aside0.mk hcv
          have HST := Aside0.mk hst
          have HKEY := Aside0.mk hkey
          have HML := Aside0.mk (show M2.length < maxLen by have := HM.out; have := HT2.out; have := HT.out; unfold maxLen; omega)
          clear hcell1 hxm hxw hdr hA hst hkey hbv hcv hxx HA
          by_cases hbad : bv = true ∧ cv ≠ (i : Int)
          · obtain ⟨rfl, hci⟩ := hbad
            have hR : R = 34 := by rw [HST.out, if_pos ⟨rfl, hci⟩]
            subst hR
            have hci1 : (cv != (i : Int)) = true := by simpa using hci
            have hci2 : (cv == (i : Int)) = false := by simpa using hci
            go_wp2_with (first | (at_lookup; (refine wpList_lookup_own_ok_int _ rfl (.tmp 25) (.tmp 26) 81 rfl 3 3 .i64 group_Check.key Try.underlying81 Try.underlying3 (group_Check.zero _) w.heap.size M2.length (MD M2) rfl HO.out _ _ rfl HKEY.out ?_); intro c hat hwc; rw [MD_at, ← HCV.out] at hat; injection hat with hat; injection hat with _ hat; subst hat; rw [MD_has, ← HBV.out]; clear hwc))
            go_ret
            exact ⟨rfl, HB.out⟩
          · have HN := Aside0.mk (show R = chkFrom i (row.drop (j + 1)) (l0.drop (i + 1)) ((x, (i : Int)) :: M2) by rw [HST.out, if_neg hbad])
            cases bv with
            | false =>
              clear hbad HST
              go_wp2_with (first | (at_lookup; (refine wpList_lookup_own_ok_int _ rfl (.tmp 25) (.tmp 26) 81 rfl 3 3 .i64 group_Check.key Try.underlying81 Try.underlying3 (group_Check.zero _) w.heap.size M2.length (MD M2) rfl HO.out _ _ rfl HKEY.out ?_); intro c hat hwc; rw [MD_at, ← HCV.out] at hat; injection hat with hat; injection hat with _ hat; subst hat; rw [MD_has, ← HBV.out]; clear hwc) | (at_mapUpdate; refine wpList_mapUpdate_own _ rfl _ _ _ 81 rfl 3 3 group_Check.key Try.underlying81 _ w.heap.size M2.length (MD M2) rfl HO.out HML.out _ _ _ rfl rfl HKEY.out _ [] (plainElem_int Try.underlying3 (WalkArith.wf_i64 (by omega))) ?_; intro w1 hown1 hgrow1; have HO1 := Aside0.mk (show w1.ownsMap Try.prog 3 (plainElem (H := Unit) Try.prog 3) w.heap.size (M2.length + 1) (MD ((x, (i : Int)) :: M2)) from hown1); have HB1 := Aside0.mk (HB.out.grown hgrow1 (below_size HB.out) (fun k hk => by cases hk; exact Nat.le_refl _)); clear hown1 hgrow1))
              go_roundw
              case measure => simp [intOf]; omega
              case rel => exact ⟨j + 1, (x, (i : Int)) :: M2, by omega, by go_num, ⟨by have := HM.out; rw [List.length_cons]; omega⟩, ⟨HO1.out⟩, ⟨HB1.out⟩, ⟨HN.out⟩⟩
            | true =>
              have hci : cv = (i : Int) := by
                rcases Classical.em (cv = (i : Int)) with h | h
                · exact h
                · exact absurd ⟨rfl, h⟩ hbad
              have hci1 : (cv != (i : Int)) = false := by simpa using hci
              have hci2 : (cv == (i : Int)) = true := by simpa using hci
              clear hbad HST hci
              go_wp2_with (first | (at_lookup; (refine wpList_lookup_own_ok_int _ rfl (.tmp 25) (.tmp 26) 81 rfl 3 3 .i64 group_Check.key Try.underlying81 Try.underlying3 (group_Check.zero _) w.heap.size M2.length (MD M2) rfl HO.out _ _ rfl HKEY.out ?_); intro c hat hwc; rw [MD_at, ← HCV.out] at hat; injection hat with hat; injection hat with _ hat; subst hat; rw [MD_has, ← HBV.out]; clear hwc) | (at_mapUpdate; refine wpList_mapUpdate_own _ rfl _ _ _ 81 rfl 3 3 group_Check.key Try.underlying81 _ w.heap.size M2.length (MD M2) rfl HO.out HML.out _ _ _ rfl rfl HKEY.out _ [] (plainElem_int Try.underlying3 (WalkArith.wf_i64 (by omega))) ?_; intro w1 hown1 hgrow1; have HO1 := Aside0.mk (show w1.ownsMap Try.prog 3 (plainElem (H := Unit) Try.prog 3) w.heap.size (M2.length + 1) (MD ((x, (i : Int)) :: M2)) from hown1); have HB1 := Aside0.mk (HB.out.grown hgrow1 (below_size HB.out) (fun k hk => by cases hk; exact Nat.le_refl _)); clear hown1 hgrow1))
              go_roundw
              case measure => simp [intOf]; omega
              case rel => exact ⟨j + 1, (x, (i : Int)) :: M2, by omega, by go_num, ⟨by have := HM.out; rw [List.length_cons]; omega⟩, ⟨HO1.out⟩, ⟨HB1.out⟩, ⟨HN.out⟩⟩
        · obtain rfl : j = row.length := by omega
          have HN : Aside0 (R = chkAll (i + 1) (l0.drop (i + 1)) M2) := ⟨by
            rw [HA.out, List.drop_length]
            rfl⟩
          clear HA
          go_wp2
          go_roundw
          case measure => simp [intOf]; omega
          case rel => exact ⟨i + 1, M2, by omega, by go_num, ⟨by have := HM.out; have := HT2.out; omega⟩, HO, HB, HN⟩
    · obtain rfl : i = l0.length := by omega
      have hz : R = 0 := by
        rw [HA.out, List.drop_length]
        rfl
      subst hz
      go_wp2
      go_ret
      exact ⟨rfl, HB.out⟩

end Go.Proofs.Ythjlhoclmbnjgaa.P
