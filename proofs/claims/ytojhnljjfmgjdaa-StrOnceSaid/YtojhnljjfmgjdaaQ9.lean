/- Lemmas: layer 9's example; the name that begins somewhere, by the reference. -/
import Derived.Test.YtojhnljjfmgjdaaQ1u
import Derived.Test.YtojhnljjfmgjdaaP56
import Derived.Test.YtojhnljjfmgjdaaP57
import Derived.Test.YtojhnljjfmgjdaaP34
set_option linter.unusedVariables false
namespace Go.Proofs.Ytojhnljjfmgjdaa.Q
open Go.RowKit Go.Proofs.Ytojhnljjfmgjdaa.P Go.Proofs.YtojhnljjfmgjdaaX Go.Proofs.YtojhnljjfmgjdaaW.PrintWords Go.Proofs.YtojhnljjfmgjdaaW.PrintLast Go.Proofs.YtojhnljjfmgjdaaW.PrintMore
theorem known9 : dovetaillaw9_known.f = some true := by decide +kernel
/-- The name from a on, when there is none up to i. -/
def nameFrom (l : List Int) (a i : Nat) : ByteArray × Bool :=
  if Lib.indexByte (Lib.bytesOf (l.drop i)) 0 < 0 then (⟨#[]⟩, false) else if 200 < ((i - a : Nat) : Int) + Lib.indexByte (Lib.bytesOf (l.drop i)) 0 then (⟨#[]⟩, false) else (strOfNums ((l.take (i + (Lib.indexByte (Lib.bytesOf (l.drop i)) 0).toNat)).drop a), true)
theorem nameFrom_eq (l : List Int) (a : Nat) : nameFrom l a a = getS l a := by
  unfold nameFrom getS
  by_cases h : l.length ≤ a
  · rw [if_pos h, List.drop_of_length_le h, if_pos (by decide)]
  · rw [if_neg h, Nat.sub_self]
    by_cases h1 : Lib.indexByte (Lib.bytesOf (l.drop a)) 0 < 0
    · rw [if_pos h1, if_pos h1]
    · rw [if_neg h1, if_neg h1]
      by_cases h2 : 200 < Lib.indexByte (Lib.bytesOf (l.drop a)) 0
      · rw [if_pos (by omega), if_pos h2]
      · rw [if_neg (by omega), if_neg h2, List.drop_take, show a + (Lib.indexByte (Lib.bytesOf (l.drop a)) 0).toNat - a = (Lib.indexByte (Lib.bytesOf (l.drop a)) 0).toNat by omega]
theorem index_cons (x : Int) (l : List Int) (h0 : 0 ≤ x) (h1 : x ≤ 255) : Lib.indexByte (Lib.bytesOf (x :: l)) 0 = if x = 0 then 0 else if Lib.indexByte (Lib.bytesOf l) 0 = -1 then -1 else Lib.indexByte (Lib.bytesOf l) 0 + 1 := by
  have e : Lib.bytesOf (x :: l) = UInt8.ofNat x.toNat :: Lib.bytesOf l := rfl
  rw [e]
  conv => lhs; rw [Lib.indexByte]
  by_cases h : x = 0
  · subst h
    rw [if_pos rfl, if_pos (by decide)]
  · have hne : (UInt8.ofNat x.toNat == 0) = false := by
      rw [beq_eq_false_iff_ne]
      intro e2
      have := congrArg UInt8.toNat e2
      rw [UInt8.toNat_ofNat', Nat.mod_eq_of_lt (by omega)] at this
      have h2 : (0 : UInt8).toNat = 0 := rfl
      rw [h2] at this
      omega
    rw [if_neg h, hne]
    simp only [Bool.false_eq_true, if_false, beq_iff_eq]
theorem nameFrom_step (l : List Int) (a i : Nat) (hb : Byt l) (h : i < l.length) (ha : a ≤ i) : nameFrom l a i = if rd l i = 0 then (if 200 < ((i - a : Nat) : Int) then (⟨#[]⟩, false) else (strOfNums ((l.take i).drop a), true)) else nameFrom l a (i + 1) := by
  have hx := hb.at_ i
  have hd : l.drop i = rd l i :: l.drop (i + 1) := by
    rw [List.drop_eq_getElem_cons h, rd_at l i h]
  unfold nameFrom
  rw [hd, index_cons _ _ hx.1 hx.2]
  by_cases h0 : rd l i = 0
  · rw [if_pos h0, if_pos h0, if_neg (by omega)]
    simp
  · rw [if_neg h0, if_neg h0]
    have hge := Lib.indexByte_ge (Lib.bytesOf (l.drop (i + 1))) 0
    generalize Lib.indexByte (Lib.bytesOf (l.drop (i + 1))) 0 = t at *
    by_cases ht : t = -1
    · subst ht
      rw [if_pos rfl, if_pos (by decide), if_pos (by decide)]
    · rw [if_neg ht, if_neg (show ¬ (t + 1 < 0) by omega), if_neg (show ¬ (t < 0) by omega)]
      by_cases h2 : 200 < ((i + 1 - a : Nat) : Int) + t
      · rw [if_pos (show 200 < ((i - a : Nat) : Int) + (t + 1) by omega), if_pos h2]
      · rw [if_neg (show ¬ 200 < ((i - a : Nat) : Int) + (t + 1) by omega), if_neg h2, show i + (t + 1).toNat = i + 1 + t.toNat by omega]
theorem wU (x : Nat) (h : x ≤ 4294968000) : IntKind.u64.wrap (x : Int) = x := u64_in (by omega) (by omega)
theorem name_l0 (d : Nat) : ∀ (k : Nat) (l : List Int) (a i : Nat), Byt l → l.length ≤ 600 → a ≤ 4294967295 → a ≤ i → (i + d = l.length ∨ (d = 0 ∧ l.length ≤ i)) → i ≤ 4294967300 → d < k →
    dovetailref9_Name.l0 k l a i = some (nameFrom l a i) := by
  induction d with
  | zero =>
    intro k l a i hb hl h32 ha hi hi2 hk
    obtain ⟨k, rfl⟩ : ∃ m, k = m + 1 := ⟨k - 1, by omega⟩
    simp only [dovetailref9_Name.l0]
    rw [wU l.length (by omega), if_neg (by omega)]
    unfold nameFrom
    rw [List.drop_of_length_le (by omega), if_pos (by decide)]
  | succ d ih =>
    intro k l a i hb hl h32 ha hi hi2 hk
    obtain ⟨k, rfl⟩ : ∃ m, k = m + 1 := ⟨k - 1, by omega⟩
    have hlt : i < l.length := by omega
    have E : Aside0 (IntKind.u64.wrap ((i : Int) - (a : Int)) = ((i - a : Nat) : Int)) := ⟨by rw [show (i : Int) - (a : Int) = ((i - a : Nat) : Int) by omega]; exact wU _ (by omega)⟩
    have E2 : Aside0 (IntKind.u64.wrap ((i : Int) + 1) = ((i + 1 : Nat) : Int)) := ⟨by rw [show (i : Int) + 1 = ((i + 1 : Nat) : Int) by omega]; exact wU _ (by omega)⟩
    have hn := ih k l a (i + 1) hb hl h32 (by omega) (by omega) (by omega) (by omega)
    rw [nameFrom_step l a i hb hlt ha]
    simp only [dovetailref9_Name.l0]
    rw [wU l.length (by omega), wU a (by omega), E.out, E2.out, if_pos (by omega), if_pos (by omega), if_pos (by omega)]
    by_cases h0 : rd l i = 0
    · rw [if_pos h0, if_pos h0]
      by_cases h2 : ((i - a : Nat) : Int) > 200
      · rw [if_pos h2, if_pos h2]
      · rw [if_neg h2, if_neg h2, if_pos (by omega), if_pos (by omega), if_pos (by omega), Int.toNat_natCast, Int.toNat_natCast]
    · rw [if_neg h0, if_neg h0]
      exact hn
theorem name_eq (k : Nat) (l : List Int) (a : Nat) (hb : Byt l) (hl : l.length ≤ 600) (ha : a ≤ 4294967295) (hk : 601 < k) : dovetailref9_Name.f k l a = some (getS l a) := by
  unfold dovetailref9_Name.f
  rw [wU a (by omega), ← nameFrom_eq]
  exact name_l0 (l.length - a) k l a a hb hl ha (Nat.le_refl _) (by omega) (by omega) (by omega)
end Go.Proofs.Ytojhnljjfmgjdaa.Q
