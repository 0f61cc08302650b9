-- printed by this session's program (wip/print), out of the translation; Lean checks it
import Derived.Test.YtojhnljjfmgjdaaP0
namespace Go.Proofs.Ytojhnljjfmgjdaa.P
open Go.RowKit Go.Proofs.YtojhnljjfmgjdaaW.PrintWords Go.Proofs.YtojhnljjfmgjdaaW.PrintLast Go.Proofs.YtojhnljjfmgjdaaW.PrintMore
attribute [local go_sem] max2_int min2_int max_two min_two max_three min_three max_four min_four   -- for this text's walks alone
set_option linter.unusedVariables false
set_option linter.unusedSimpArgs false
open Go.Proofs.YtojhnljjfmgjdaaX

/-! ### strings_Cut: function 49, by hand -/
set_option maxHeartbeats 8000000 in
set_option maxRecDepth 100000 in
theorem sl_IndexByte (s : ByteArray) (c : Int) (w : World) : Calls Try.prog 58 #[.string s, .int .u8 c] w fun e w' => e = .returned (.int .i64 (Lib.indexByte s.data.toList c.toNat.toUInt8)) ∧ w = w' := by
  go_enter Try.func58, Try.ntmps58
  go_wp2
  rw [run_callFunc_extern Try.func62 (by kernel_rfl) (by kernel_rfl) (by kernel_rfl) (e := Extern.BytealgIndexByte.indexByte) (by kernel_rfl), Lib.run_indexByteString]
  simp only [Result.andThen]
  rw [Oper.upon_value]
  go_wp2
  go_ret
  exact ⟨rfl, rfl⟩
set_option maxHeartbeats 8000000 in
set_option maxRecDepth 100000 in
theorem sl_Index (s : ByteArray) (w : World) : Calls Try.prog 57 #[.string s, .string ⟨#[0]⟩] w fun e w' => e = .returned (.int .i64 (Lib.indexByte s.data.toList 0)) ∧ w = w' := by
  go_enter Try.func57, Try.ntmps57
  go_wp2_with (go_at_call 58; refine (sl_IndexByte _ _ _).mono ?_; rintro e w' ⟨rfl, rfl⟩)
  · have h : ([0] == s.toList) = true := by assumption
    go_ret
    refine ⟨?_, rfl⟩
    have e : s.data.toList = [0] := by rw [← Lib.toList_data]; exact (beq_iff_eq.1 h).symm
    rw [e]
    simp [Lib.indexByte]
  · go_ret
    exact ⟨rfl, rfl⟩
/-- What stands ahead of the first nought, what behind it, and whether there is one. -/
def cut0 (s : ByteArray) : ByteArray × ByteArray × Bool := if Lib.indexByte s.data.toList 0 < 0 then (s, ⟨#[]⟩, false) else (s.extract 0 (Lib.indexByte s.data.toList 0).toNat, s.extract ((Lib.indexByte s.data.toList 0).toNat + 1) s.size, true)
set_option maxHeartbeats 8000000 in
set_option maxRecDepth 100000 in
theorem sl_Cut (s : ByteArray) (w : World) (hs : s.size ≤ 140737488355328) : Calls Try.prog 55 #[.string s, .string ⟨#[0]⟩] w fun e w' => e = .returned (.tuple #[.string (cut0 s).1, .string (cut0 s).2.1, .bool (cut0 s).2.2]) ∧ Drawn0 w w' := by
  obtain ⟨i, hi⟩ : ∃ i, i = Lib.indexByte s.data.toList 0 := ⟨_, rfl⟩
  have HI : Aside0 (Calls Try.prog 57 #[.string s, .string ⟨#[0]⟩] w fun e w' => e = .returned (.int .i64 i) ∧ w = w') := ⟨by rw [hi]; exact sl_Index s w⟩
  unfold cut0
  rw [← hi]
  by_cases h : i < 0
  · rw [if_pos h]
    have hb : decide (i < 0) = true := decide_eq_true h
    have hb2 : decide (0 ≤ i) = false := decide_eq_false (by omega)
    clear hi h
    go_enter Try.func55, Try.ntmps55
    go_wp2_with (go_at_call 57; (with_reducible refine HI.out.mono ?_); rintro e w' ⟨rfl, rfl⟩)
    go_ret3
    exact ⟨rfl, by repeat (first | exact Drawn0.refl _ | apply Drawn0.step)⟩
  · rw [if_neg h]
    obtain ⟨m, rfl⟩ := Int.eq_ofNat_of_zero_le (show 0 ≤ i by omega)
    have hm : m < s.size := by
      have := indexByte_lt _ _ _ hi.symm
      rwa [Array.length_toList] at this
    have hb2 : decide (0 ≤ (m : Int)) = true := decide_eq_true (by omega)
    rw [Int.toNat_natCast]
    have hm1 : (m : Int) ≤ s.size := by omega
    have hm2 : (m : Int) + 1 ≤ s.size := by omega
    have hm0 : 0 ≤ (m : Int) + 1 := by omega
    have hs2 : (s.size : Int) ≤ 140737488355328 := by omega
    have ht1 : ((m : Int) + 1).toNat = m + 1 := by omega
    have hwr : IntKind.i64.wrap ((m : Int) + 1) = (m : Int) + 1 := IntWalk.i64_in _ ⟨by omega, by omega⟩
    clear hi h
    go_enter Try.func55, Try.ntmps55
    go_wp2_with (go_at_call 57; (with_reducible refine HI.out.mono ?_); rintro e w' ⟨rfl, rfl⟩)
    go_quiet (fail)
    go_wp2
    go_ret3
    exact ⟨rfl, ⟨⟨_, rfl⟩⟩⟩
def strings_Cut.f (a0 a1 : ByteArray) : Option (ByteArray × ByteArray × Bool) := if a1 = ⟨#[0]⟩ ∧ a0.size ≤ 140737488355328 then some (cut0 a0) else none
set_option maxHeartbeats 8000000 in
set_option maxRecDepth 100000 in
theorem strings_Cut.calls0 (s : ByteArray) (w : World) (hs : s.size ≤ 140737488355328) : Calls Try.prog 49 #[.string s, .string ⟨#[0]⟩] w fun e w' => e = .returned (.tuple #[.string (cut0 s).1, .string (cut0 s).2.1, .bool (cut0 s).2.2]) ∧ Drawn0 w w' := by
  have HC := Aside0.mk (fun w => sl_Cut s w hs)
  clear hs
  go_enter Try.func49, Try.ntmps49
  go_wp2_with (go_at_call 55; (with_reducible refine (HC.out _).mono ?_); rintro e w' ⟨rfl, ⟨⟨nd, rfl⟩⟩⟩)
  go_ret3
  exact ⟨rfl, ⟨⟨_, rfl⟩⟩⟩

end Go.Proofs.Ytojhnljjfmgjdaa.P
