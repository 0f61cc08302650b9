/- Lemmas: le.U16; strings of bytes; bytes' low bits. -/
import Derived.Test.YtojhnljjfmgjdaaQ1
import Derived.Test.YtojhnljjfmgjdaaP13
import Derived.Test.YtojhnljjfmgjdaaP14
set_option linter.unusedVariables false
namespace Go.Proofs.Ytojhnljjfmgjdaa.Q
open Go.RowKit Go.Proofs.Ytojhnljjfmgjdaa.P Go.Proofs.YtojhnljjfmgjdaaX Go.Proofs.YtojhnljjfmgjdaaW.PrintWords Go.Proofs.YtojhnljjfmgjdaaW.PrintLast Go.Proofs.YtojhnljjfmgjdaaW.PrintMore
theorem U16_eq (k : Nat) (l : List Int) (o : Int) (hb : Byt l) (ho : 0 ≤ o) (hl : l.length ≤ 140737488355328) (hk : 2 < k) : le_U16.f k l o = some (num l o 2) := by
  have hbd := num_bound hb o 2
  unfold le_U16.f
  have h_ := le_get_eq k l o 2 hb ho (by omega) hl hk
  rw [show (((2 : Nat) : Int)) = 2 from rfl] at h_
  rw [h_]
  simp only [Option.bind_some]
  rw [show (if o + (2 : Int) ≤ l.length then (lev ((l.drop o.toNat).take 2), true) else (0, false)) = num l o 2 from rfl, u16_in hbd.1 (by simpa using hbd.2)]
theorem str_list (xs : List Int) : (strOfNums xs).data.toList = xs.map fun n => UInt8.ofNat n.toNat := rfl
theorem str_inj {a b : List Int} (ha : Byt a) (hb : Byt b) : strOfNums a = strOfNums b ↔ a = b := by
  constructor
  · intro h
    have h2 : (a.map fun n => UInt8.ofNat n.toNat) = b.map fun n => UInt8.ofNat n.toNat := by rw [← str_list, ← str_list, h]
    have h3 : (a.map fun n => UInt8.ofNat n.toNat).map (fun c => (c.toNat : Int)) = (b.map fun n => UInt8.ofNat n.toNat).map (fun c => (c.toNat : Int)) := by rw [h2]
    have inv : ∀ l : List Int, Byt l → (l.map fun n => UInt8.ofNat n.toNat).map (fun c => (c.toNat : Int)) = l := by
      intro l hl
      rw [List.map_map]
      conv => rhs; rw [← List.map_id l]
      apply List.map_congr_left
      intro x hx
      have := hl x hx
      simp only [Function.comp, UInt8.toNat_ofNat', id]
      rw [Nat.mod_eq_of_lt (by omega)]
      omega
    rwa [inv a ha, inv b hb] at h3
  · rintro rfl; rfl
theorem toList_data (s : ByteArray) : s.toList = s.data.toList := by
  first | rfl | exact ByteArray.toList_eq s | simp [ByteArray.toList_eq_data_toList] | exact Go.Lib.toList_data s
theorem str_eq {a b : List Int} (ha : Byt a) (hb : Byt b) : ((strOfNums a).toList == (strOfNums b).toList) = decide (a = b) := by
  rw [toList_data, toList_data, Bool.eq_iff_iff]
  simp only [beq_iff_eq, decide_eq_true_eq]
  rw [← str_inj ha hb]
  constructor
  · intro h
    apply ByteArray.ext
    exact Array.toList_inj.1 h
  · rintro h; rw [h]
theorem Equal_eq {a b : List Int} (ha : Byt a) (hb : Byt b) : bytes_Equal.f a b = some (decide (a = b)) := by
  unfold bytes_Equal.f
  rw [str_eq ha hb]
theorem and15 {x : Int} (h0 : 0 ≤ x) (h1 : x ≤ 255) : Go.bits .and .u8 x 15 = x % 16 := by
  have h : ∀ n : Fin 256, Go.bits .and .u8 (n.val : Int) 15 = (n.val : Int) % 16 := by decide +kernel
  obtain ⟨n, rfl⟩ := Int.eq_ofNat_of_zero_le h0
  exact h ⟨n, by omega⟩
theorem Byt.rep (n : Nat) : Byt (List.replicate n 0) := fun x hx => by rw [(List.mem_replicate.1 hx).2]; omega
end Go.Proofs.Ytojhnljjfmgjdaa.Q
