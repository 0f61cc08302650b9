-- printed by this session's program (wip/print), out of the translation; Lean checks it
import Derived.Test.YtojhnljjfmgjdaaP0
import Derived.Test.YtojhnljjfmgjdaaP33
namespace Go.Proofs.Ytojhnljjfmgjdaa.P
open Go.RowKit Go.Proofs.YtojhnljjfmgjdaaW.PrintWords Go.Proofs.YtojhnljjfmgjdaaW.PrintLast Go.Proofs.YtojhnljjfmgjdaaW.PrintMore
attribute [local go_sem] max2_int min2_int max_two min_two max_three min_three max_four min_four   -- for this text's walks alone
set_option linter.unusedVariables false
set_option linter.unusedSimpArgs false
open Go.Proofs.YtojhnljjfmgjdaaX

/-! ### strtab_Get: function 27, by hand -/
/-- The name that begins somewhere. -/
def getS (l : List Int) (a : Nat) : ByteArray × Bool := if l.length ≤ a then (⟨#[]⟩, false) else if Lib.indexByte (Lib.bytesOf (l.drop a)) 0 < 0 then (⟨#[]⟩, false) else if 200 < Lib.indexByte (Lib.bytesOf (l.drop a)) 0 then (⟨#[]⟩, false) else (strOfNums ((l.drop a).take (Lib.indexByte (Lib.bytesOf (l.drop a)) 0).toNat), true)
def strtab_Get.f (l0 : List Int) (a1 : Int) : Option (ByteArray × Bool) := if 0 ≤ a1 ∧ a1 < 4294967296 ∧ l0.length ≤ 140737488355328 then some (getS l0 a1.toNat) else none
set_option maxHeartbeats 8000000 in
set_option maxRecDepth 100000 in
theorem strtab_Get.calls (A0 : Option Addr) (c0 : Nat) (l0 : List Int) (a1 : Int) (r1 : ByteArray) (r2 : Bool) (w : World) (hr0 : Kd.C (Kd.int .u8) w A0 l0.length l0) (hc0 : l0.length ≤ c0) (h : strtab_Get.f l0 a1 = some (r1, r2)) :
    Calls Try.prog 27 #[.slice A0 l0.length c0, .int .u32 a1] w fun e w' => e = .returned (.tuple #[.string r1, .bool r2]) ∧ Drawn0 w w' := by
  unfold strtab_Get.f at h
  split at h
  case isFalse => cases h
  rename_i hb
  obtain ⟨b0, b1, b2⟩ := hb
  obtain ⟨a, rfl⟩ := Int.eq_ofNat_of_zero_le b0
  rw [Int.toNat_natCast] at h
  replace h := Option.some.inj h
  unfold getS at h
  have HR0 := Aside0.mk hr0
  have HC0 := Aside0.mk hc0
  clear hr0 hc0
  by_cases c1 : l0.length ≤ a
  · rw [if_pos c1] at h
    obtain ⟨rfl, rfl⟩ := Prod.mk.inj h
    have c1b : decide ((l0.length : Int) ≤ (a : Int)) = true := decide_eq_true (by omega)
    have c1c : decide (l0.length ≤ a) = true := decide_eq_true c1
    clear h c1
    go_enter Try.func27, Try.ntmps27
    go_wp2
    go_ret2
    exact ⟨rfl, Drawn0.refl _⟩
  · rw [if_neg c1] at h
    have c1b : decide ((l0.length : Int) ≤ (a : Int)) = false := decide_eq_false (by omega)
    have c1c : decide (l0.length ≤ a) = false := decide_eq_false c1
    obtain ⟨i0, hi0, _, hsz, _⟩ := info_parts info5
    obtain ⟨A10, hcut, hA, hC⟩ := print_drop_of (P := Try.prog) (Value.int .u8) 0 22 5 .u32 Try.underlying22 hi0 hsz A0 c0 l0 (a : Int) (by omega) (by omega) HC0.out
    have hRd := Kd.C_of_reads (h1 := fun _ => rfl) (hA _ (Kd.reads_of_C HR0.out))
    rw [Int.toNat_natCast] at hcut hRd hC
    obtain ⟨t, ht⟩ : ∃ t, t = Lib.indexByte (Lib.bytesOf (l0.drop a)) 0 := ⟨_, rfl⟩
    rw [← ht] at h
    have hlen : (l0.drop a).length = l0.length - a := List.length_drop
    have HI : Aside0 (Calls Try.prog 48 #[.slice A10 (l0.length - a) (c0 - a), .int .u8 0] w fun e w' => e = .returned (.int .i64 t) ∧ Drawn0 w w') := ⟨by
      have := bytes_IndexByte.calls A10 (c0 - a) (l0.drop a) 0 t w hRd hC (by unfold bytes_IndexByte.f; rw [ht]; rfl)
      rwa [hlen] at this⟩
    have hcut' : ∀ W : World, (Instr.slice 22 (.slice A0 l0.length c0) (some (.int .u32 (a : Int))) none none).run Try.prog W = .ok (.slice A10 (l0.length - a) (c0 - a)) W := fun W => by rw [hcut W, hlen]
    have HT := Aside0.mk ht
    clear hcut hRd hC hA ht
    by_cases c2 : t < 0
    · rw [if_pos c2] at h
      obtain ⟨rfl, rfl⟩ := Prod.mk.inj h
      have c2b : decide (t < 0) = true := decide_eq_true c2
      clear h c1 c2 hlen hi0 hsz
      go_enter Try.func27, Try.ntmps27
      go_wp2_with (go_at_call 48; (with_reducible refine HI.out.mono ?_); rintro e w' ⟨rfl, ⟨⟨nd, rfl⟩⟩⟩)
      go_ret2
      exact ⟨rfl, ⟨⟨_, rfl⟩⟩⟩
    · rw [if_neg c2] at h
      have c2b : decide (t < 0) = false := decide_eq_false c2
      by_cases c3 : 200 < t
      · rw [if_pos c3] at h
        obtain ⟨rfl, rfl⟩ := Prod.mk.inj h
        have c3b : decide (200 < t) = true := decide_eq_true c3
        clear h c1 c2 c3 hlen hi0 hsz
        go_enter Try.func27, Try.ntmps27
        go_wp2_with (go_at_call 48; (with_reducible refine HI.out.mono ?_); rintro e w' ⟨rfl, ⟨⟨nd, rfl⟩⟩⟩)
        go_ret2
        exact ⟨rfl, ⟨⟨_, rfl⟩⟩⟩
      · rw [if_neg c3] at h
        have c3b : decide (200 < t) = false := decide_eq_false c3
        obtain ⟨m, rfl⟩ := Int.eq_ofNat_of_zero_le (show 0 ≤ t by omega)
        rw [Int.toNat_natCast] at h
        have hml : m < l0.length - a := by
          have := indexByte_lt _ _ _ HT.out.symm
          rw [Lib.bytesOf_length, hlen] at this
          exact this
        obtain ⟨A11, hcut2, hA2, hC2⟩ := print_mid_of (P := Try.prog) (Value.int .u8) 0 22 5 .u32 .i64 Try.underlying22 hi0 hsz A0 c0 l0 (a : Int) ((a : Int) + m) (by omega) (by omega) (by omega) HC0.out
        have hRd2 := Kd.C_of_reads (h1 := fun _ => rfl) (hA2 _ (Kd.reads_of_C HR0.out))
        have e2 : (l0.take ((a : Int) + m).toNat).drop (a : Int).toNat = (l0.drop a).take m := by
          rw [show ((a : Int) + m).toNat = a + m by omega, Int.toNat_natCast, List.drop_take, show a + m - a = m by omega]
        have e3 : ((l0.drop a).take m).length = m := by rw [List.length_take, hlen]; omega
        rw [e2, e3] at hRd2
        have hcv := fun (nd : Nat) => Kd.C_string (P := Try.prog) (A := A11) (c := c0 - a) Try.underlying22 Try.underlying5 Try.underlying9 (show Kd.C (Kd.int .u8) (w.drewN nd) A11 ((l0.drop a).take m).length ((l0.drop a).take m) from by rw [e3]; exact Kd.C_drewN hRd2 nd)
        rw [e3] at hcv
        have hcut2' : ∀ W : World, (Instr.slice 22 (.slice A0 l0.length c0) (some (.int .u32 (a : Int))) (some (.int .i64 ((a : Int) + m))) none).run Try.prog W = .ok (.slice A11 m (c0 - a)) W := fun W => by rw [hcut2 W, e2, e3, Int.toNat_natCast]
        obtain ⟨rfl, rfl⟩ := Prod.mk.inj h
        have hm2 : m ≤ 200 := by omega
        have ham : (a : Int) + m ≤ l0.length := by omega
        clear h c1 c2 c3 hlen hi0 hsz hcut2 hA2 hC2 hRd2 e2 e3 HT
        go_enter Try.func27, Try.ntmps27
        go_wp2_with (go_at_call 48; (with_reducible refine HI.out.mono ?_); rintro e w' ⟨rfl, ⟨⟨nd, rfl⟩⟩⟩)
        go_ret2
        exact ⟨rfl, ⟨⟨_, rfl⟩⟩⟩

end Go.Proofs.Ytojhnljjfmgjdaa.P
