/- Lemmas for relocations: widths, types, the bytes of relocations, and what rela.Parse and the reference's Relas tell, in closed form. -/
import Derived.Test.YthjlhoclmbnjgaaQ1
import Derived.KernelRfl
import Derived.Test.YthjlhoclmbnjgaaP37
import Derived.Test.YthjlhoclmbnjgaaP40
import Derived.Test.YthjlhoclmbnjgaaP43
import Derived.Test.YthjlhoclmbnjgaaP49
import Derived.Test.YthjlhoclmbnjgaaP36
import Derived.Test.YthjlhoclmbnjgaaP39
import Derived.Test.YthjlhoclmbnjgaaP41
set_option linter.unusedVariables false
namespace Go.Proofs.Ythjlhoclmbnjgaa.Q
open Go.RowKit Go.Proofs.Ythjlhoclmbnjgaa.P Go.Proofs.YthjlhoclmbnjgaaX Go.Proofs.YthjlhoclmbnjgaaW.PrintWords Go.Proofs.YthjlhoclmbnjgaaW.PrintLast Go.Proofs.YthjlhoclmbnjgaaW.PrintMore

/-- A type's width. -/
def wid (t : Int) : Int := if t = 2 ∨ t = 18 ∨ t = 19 then 8 else if t = 51 then 0 else 4
theorem wid_bound (t : Int) : 0 ≤ wid t ∧ wid t ≤ 8 := by unfold wid; split <;> (try split) <;> omega
theorem width_eq (k : Nat) (t : Int) (hk : 0 < k) : rela_Width.f k t = some (wid t) := by
  obtain ⟨k, rfl⟩ : ∃ m, k = m + 1 := ⟨k - 1, by omega⟩
  unfold rela_Width.f wid
  simp only [rela_Width.j0, beq_iff_eq]
  (repeat' split) <;> first | rfl | omega
theorem refWidth_eq (k : Nat) (t : Int) (hk : 0 < k) : dovetailref9_Width.f k t = some (wid t) := by
  obtain ⟨k, rfl⟩ : ∃ m, k = m + 1 := ⟨k - 1, by omega⟩
  unfold dovetailref9_Width.f wid
  simp only [dovetailref9_Width.j0, beq_iff_eq]
  (repeat' split) <;> first | rfl | omega
theorem known_eq (k : Nat) (t : Int) (hk : 0 < k) : rela_Known.f k t = dovetailref9_Known.f t := by
  obtain ⟨k, rfl⟩ : ∃ m, k = m + 1 := ⟨k - 1, by omega⟩
  unfold rela_Known.f dovetailref9_Known.f
  simp only [rela_Known.j0, beq_iff_eq]
  by_cases h1 : t = 1
  · simp [h1]
  by_cases h2 : t = 2
  · simp [h2]
  by_cases h51 : t = 51
  · simp [h51]
  simp only [h1, h2, h51, if_false, if_true]
  by_cases a16 : t = 16
  · simp [a16]
  by_cases a17 : t = 17
  · simp [a17]
  by_cases a18 : t = 18
  · simp [a18]
  by_cases a19 : t = 19
  · simp [a19]
  by_cases a23 : t = 23
  · simp [a23]
  by_cases a24 : t = 24
  · simp [a24]
  by_cases a25 : t = 25
  · simp [a25]
  by_cases a26 : t = 26
  · simp [a26]
  by_cases a27 : t = 27
  · simp [a27]
  by_cases a28 : t = 28
  · simp [a28]
  simp only [a16, a17, a18, a19, a23, a24, a25, a26, a27, a28, if_false]
  (repeat' split) <;> first | omega | rfl | (congr 1; apply decide_eq_false; omega)
theorem ite_some {α : Type} {c : Prop} [Decidable c] {a : α} {x : Option α} (h : ∃ b, x = some b) : ∃ b, (if c then some a else x) = some b := by
  split
  · exact ⟨_, rfl⟩
  · exact h
theorem refKnown_some (t : Int) : ∃ b, dovetailref9_Known.f t = some b := by
  unfold dovetailref9_Known.f
  repeat (first | (with_reducible refine ite_some ?_))
  exact ⟨_, rfl⟩
theorem known13 (k : Nat) (hk : 40 ≤ k) : dovetaillaw13_known.f k = some true :=
  up (f := fun k => dovetaillaw13_known.f k) dovetaillaw13_known.mono hk (by kernel_rfl)

/-- A relocation's bytes. -/
def encR (r : S74) : List Int := leb 8 r.f0 ++ leb 4 r.f1 ++ leb 4 r.f2 ++ leb 8 r.f3
theorem encR_length (r : S74) : (encR r).length = 24 := by simp [encR, leb_length]
theorem encR_byt (r : S74) : Byt (encR r) := (((leb_byt _ _).append (leb_byt _ _)).append (leb_byt _ _)).append (leb_byt _ _)
theorem flatMap_encR_length (l : List S74) : (l.flatMap encR).length = 24 * l.length := by
  induction l with
  | nil => rfl
  | cons x l ih => simp [encR_length, ih]; omega
theorem rd_S (l : List S74) (i : Nat) (h : i < l.length) : rd_T74 l i = l[i] := by
  unfold rd_T74
  rw [Int.toNat_natCast, List.getD_eq_getElem?_getD, List.getElem?_eq_getElem h]
  rfl
theorem Put64_one (t : List Int) (x : Int) (h : t.length + 8 < 140737488355328) : le_Put64.f t [x] = some (t ++ leb 8 x) := by
  unfold le_Put64.f
  rw [if_neg (by simp), if_pos (by simpa using h)]
  simp
theorem Put32_two (t : List Int) (x y : Int) (h : t.length + 8 < 140737488355328) : le_Put32.f t [x, y] = some (t ++ leb 4 x ++ leb 4 y) := by
  unfold le_Put32.f
  rw [if_neg (by simp), if_pos (by simpa using h)]
  simp [leb_wrap]
theorem rela_Bytes_l0 (d : Nat) : ∀ (k : Nat) (acc : List Int) (l : List S74) (i : Nat), i + d = l.length → d < k → acc.length + 24 * d < 140737488355328 → l.length ≤ 140737488355328 →
    rela_Bytes.l0 k acc l l.length i = some (acc ++ (l.drop i).flatMap encR) := by
  induction d with
  | zero =>
    intro k acc l i hi hk hl hll
    obtain ⟨k, rfl⟩ : ∃ m, k = m + 1 := ⟨k - 1, by omega⟩
    simp only [rela_Bytes.l0]
    rw [if_neg (by omega), List.drop_eq_nil_of_le (by omega)]
    simp
  | succ d ih =>
    intro k acc l i hi hk hl hll
    obtain ⟨k, rfl⟩ : ∃ m, k = m + 1 := ⟨k - 1, by omega⟩
    have hlt : i < l.length := by omega
    simp only [rela_Bytes.l0]
    rw [if_pos (by omega), if_pos (by omega), if_pos (by omega), rd_S l i hlt, Put64_one _ _ (by omega)]
    simp only [Option.bind_some]
    rw [Put32_two _ _ _ (by rw [List.length_append, leb_length]; omega)]
    simp only [Option.bind_some]
    rw [Put64_one _ _ (by simp only [List.length_append, leb_length]; omega)]
    simp only [Option.bind_some]
    rw [leb_wrap 8 (by omega), w64_in (by omega) (by omega)]
    have := ih k (acc ++ leb 8 l[i].f0 ++ leb 4 l[i].f1 ++ leb 4 l[i].f2 ++ leb 8 l[i].f3) l (i + 1) (by omega) (by omega) (by simp only [List.length_append, leb_length]; omega) hll
    simp only [List.append_assoc] at this ⊢
    rw [show ((i : Int) + 1) = ((i + 1 : Nat) : Int) by omega, this, List.drop_eq_getElem_cons hlt, List.flatMap_cons]
    simp only [encR, List.append_assoc]
theorem rela_Bytes_eq (k : Nat) (l : List S74) (hk : l.length < k) (hl : 24 * l.length < 140737488355328) : rela_Bytes.f k l = some (l.flatMap encR) := by
  unfold rela_Bytes.f
  have := rela_Bytes_l0 l.length k [] l 0 (by omega) hk (by simpa using hl) (by omega)
  simpa using this

/-! ### reading -/
/-- The relocation at a place. -/
def recR (l : List Int) (o : Nat) : S74 := ⟨lev ((l.drop o).take 8), lev ((l.drop (o + 8)).take 4), lev ((l.drop (o + 12)).take 4), wrap64 (lev ((l.drop (o + 16)).take 8))⟩
/-- What is read from the i-th on, d of them. -/
def scanR (l : List Int) (n syms : Int) : Nat → Nat → List S74 → List S74 × Int
  | 0, _, acc => (acc, 0)
  | d + 1, i, acc => if syms ≤ (recR l (24 * i)).f2 ∨ ¬ ((recR l (24 * i)).f0 + wid (recR l (24 * i)).f1 ≤ n) then ([], 33) else scanR l n syms d (i + 1) (acc ++ [recR l (24 * i)])
/-- What rela.Parse tells. -/
def readR (l : List Int) (n syms : Int) : List S74 × Int := if l.length % 24 = 0 ∧ l.length / 24 ≤ 2000 then scanR l n syms (l.length / 24) 0 [] else ([], 33)
theorem num_in (l : List Int) (o n : Nat) (h : o + n ≤ l.length) : num l o n = (lev ((l.drop o).take n), true) := by
  unfold num
  rw [if_pos (by omega), Int.toNat_natCast]
theorem part_bound {l : List Int} (hb : Byt l) (o n : Nat) : 0 ≤ lev ((l.drop o).take n) ∧ lev ((l.drop o).take n) < 256 ^ n := by
  have h := lev_bound ((hb.drop o).take n)
  have := pow256_mono (show ((l.drop o).take n).length ≤ n by rw [List.length_take]; omega)
  omega
theorem U64_at (k : Nat) (l : List Int) (o : Nat) (hb : Byt l) (hl : l.length ≤ 140737488355328) (hk : 8 < k) (h : o + 8 ≤ l.length) : le_U64.f k l o = some (lev ((l.drop o).take 8), true) := by
  rw [U64_eq k l o hb (by omega) hl hk, num_in l o 8 h]
theorem U32_at (k : Nat) (l : List Int) (o : Nat) (hb : Byt l) (hl : l.length ≤ 140737488355328) (hk : 4 < k) (h : o + 4 ≤ l.length) : le_U32.f k l o = some (lev ((l.drop o).take 4), true) := by
  rw [U32_eq k l o hb (by omega) hl hk, num_in l o 4 h]
theorem span_Within_eq (a b c : Int) (hc : c < 18446744073709551616) (ha : 0 ≤ a) (hb : 0 ≤ b) : span_Within.f a b c = some (decide (a + b ≤ c)) := by
  unfold span_Within.f
  by_cases h : b ≤ c
  · rw [if_pos h, u64_in (by omega) (by omega)]
    congr 1
    apply decide_eq_decide.2
    omega
  · rw [if_neg h]
    congr 1
    symm
    apply decide_eq_false
    omega
theorem parse_l0 (d : Nat) : ∀ (k : Nat) (l : List Int) (n syms : Int) (acc : List S74) (i : Nat), Byt l → l.length = 24 * (i + d) → i + d ≤ 2000 → n < 18446744073709551616 → syms < 9223372036854775808 → acc.length ≤ i → d + 20 < k →
    rela_Parse.l0 k l n syms acc ((24 * i : Nat) : Int) = some (scanR l n syms d i acc) := by
  induction d with
  | zero =>
    intro k l n syms acc i hb hl h2 hn hs ha hk
    obtain ⟨k, rfl⟩ : ∃ m, k = m + 1 := ⟨k - 1, by omega⟩
    simp only [rela_Parse.l0]
    rw [u64_in (x := (l.length : Int)) (by omega) (by omega), if_neg (by omega)]
    rfl
  | succ d ih =>
    intro k l n syms acc i hb hl h2 hn hs ha hk
    obtain ⟨k, rfl⟩ : ∃ m, k = m + 1 := ⟨k - 1, by omega⟩
    have e8 : IntKind.u64.wrap (((24 * i : Nat) : Int) + 8) = ((24 * i + 8 : Nat) : Int) := by rw [u64_in (by omega) (by omega)]; omega
    have e12 : IntKind.u64.wrap (((24 * i : Nat) : Int) + 12) = ((24 * i + 12 : Nat) : Int) := by rw [u64_in (by omega) (by omega)]; omega
    have e16 : IntKind.u64.wrap (((24 * i : Nat) : Int) + 16) = ((24 * i + 16 : Nat) : Int) := by rw [u64_in (by omega) (by omega)]; omega
    have e24 : IntKind.u64.wrap (((24 * i : Nat) : Int) + 24) = ((24 * (i + 1) : Nat) : Int) := by rw [u64_in (by omega) (by omega)]; omega
    have b0 := part_bound hb (24 * i) 8
    have b2 := part_bound hb (24 * i + 12) 4
    have hw := wid_bound (recR l (24 * i)).f1
    simp only [rela_Parse.l0]
    rw [u64_in (x := (l.length : Int)) (by omega) (by omega), if_pos (by omega), e8, e12, e16, e24, U64_at k l (24 * i) hb (by omega) (by omega) (by omega)]
    simp only [Option.bind_some]
    rw [U32_at k l (24 * i + 8) hb (by omega) (by omega) (by omega)]
    simp only [Option.bind_some]
    rw [U32_at k l (24 * i + 12) hb (by omega) (by omega) (by omega)]
    simp only [Option.bind_some]
    rw [U64_at k l (24 * i + 16) hb (by omega) (by omega) (by omega)]
    simp only [Option.bind_some]
    rw [width_eq k _ (by omega)]
    simp only [Option.bind_some, scanR]
    have hf2 : (recR l (24 * i)).f2 = lev ((l.drop (24 * i + 12)).take 4) := rfl
    rw [← hf2] at b2 ⊢
    by_cases hs0 : syms < 0
    · rw [if_pos hs0, if_pos (.inl (by omega))]
    · rw [if_neg hs0, u64_in (x := (recR l (24 * i)).f2) b2.1 (by have := b2.2; simp at this; omega), u64_in (x := syms) (by omega) (by omega)]
      by_cases hs1 : syms ≤ (recR l (24 * i)).f2
      · rw [if_pos (by omega), if_pos (.inl hs1)]
      · rw [if_neg (by omega)]
        have hf1 : (recR l (24 * i)).f1 = lev ((l.drop (24 * i + 8)).take 4) := rfl
        have hf0 : (recR l (24 * i)).f0 = lev ((l.drop (24 * i)).take 8) := rfl
        rw [← hf1, ← hf0, u64_in (x := wid (recR l (24 * i)).f1) hw.1 (by omega), span_Within_eq _ _ _ hn (by rw [hf0]; exact b0.1) hw.1]
        simp only [Option.bind_some]
        by_cases hin : (recR l (24 * i)).f0 + wid (recR l (24 * i)).f1 ≤ n
        · rw [if_pos (decide_eq_true hin), if_pos (by omega), if_neg (by rintro (h | h) <;> contradiction)]
          exact ih k l n syms _ (i + 1) hb (by omega) (by omega) hn hs (by rw [List.length_append, List.length_singleton]; omega) (by omega)
        · rw [if_neg (by simpa using hin), if_pos (.inr hin)]
theorem parse_eq (k : Nat) (l : List Int) (n syms : Int) (hb : Byt l) (hl : l.length ≤ 140737488355328) (hn : n < 18446744073709551616) (hs : syms < 9223372036854775808) (hk : 2100 ≤ k) : rela_Parse.f k l n syms = some (readR l n syms) := by
  obtain ⟨k, rfl⟩ : ∃ m, k = m + 1 := ⟨k - 1, by omega⟩
  unfold rela_Parse.f readR
  by_cases h : (l.length : Int) % 24 = 0
  · rw [if_pos h, w64_in (by omega) (by omega)]
    simp only [rela_Parse.j0]
    by_cases h2 : (l.length : Int) / 24 > 2000
    · rw [decide_eq_true h2, if_pos rfl, if_neg (by omega)]
    · rw [decide_eq_false h2, if_neg (by decide), if_pos (by omega)]
      exact parse_l0 (l.length / 24) k l n syms [] 0 hb (by omega) (by omega) hn hs (by simp) (by omega)
  · rw [if_neg h, if_neg (by omega)]
    simp only [rela_Parse.j0, if_true]
/-! ### what was written is read -/
theorem recR_enc (r : S74) (pre post : List Int) (h0 : 0 ≤ r.f0 ∧ r.f0 ≤ 18446744073709551615) (h1 : 0 ≤ r.f1 ∧ r.f1 ≤ 4294967295) (h2 : 0 ≤ r.f2 ∧ r.f2 ≤ 4294967295) (h3 : -9223372036854775808 ≤ r.f3 ∧ r.f3 ≤ 9223372036854775807) :
    recR (pre ++ encR r ++ post) pre.length = r := by
  have cut : ∀ (a : List Int) (v : Int) (n : Nat) (b : List Int), ((a ++ (leb n v ++ b)).drop a.length).take n = leb n v := by
    intro a v n b
    rw [List.drop_left, List.take_append_of_le_length (by rw [leb_length]; omega), List.take_of_length_le (by rw [leb_length]; omega)]
  unfold recR
  have e0 : ((pre ++ encR r ++ post).drop pre.length).take 8 = leb 8 r.f0 := by
    rw [show pre ++ encR r ++ post = pre ++ (leb 8 r.f0 ++ (leb 4 r.f1 ++ leb 4 r.f2 ++ leb 8 r.f3 ++ post)) by simp [encR]]
    exact cut _ _ _ _
  have e1 : ((pre ++ encR r ++ post).drop (pre.length + 8)).take 4 = leb 4 r.f1 := by
    rw [show pre ++ encR r ++ post = (pre ++ leb 8 r.f0) ++ (leb 4 r.f1 ++ (leb 4 r.f2 ++ leb 8 r.f3 ++ post)) by simp [encR], show pre.length + 8 = (pre ++ leb 8 r.f0).length by simp [leb_length]]
    exact cut _ _ _ _
  have e2 : ((pre ++ encR r ++ post).drop (pre.length + 12)).take 4 = leb 4 r.f2 := by
    rw [show pre ++ encR r ++ post = (pre ++ leb 8 r.f0 ++ leb 4 r.f1) ++ (leb 4 r.f2 ++ (leb 8 r.f3 ++ post)) by simp [encR], show pre.length + 12 = (pre ++ leb 8 r.f0 ++ leb 4 r.f1).length by simp [leb_length]]
    exact cut _ _ _ _
  have e3 : ((pre ++ encR r ++ post).drop (pre.length + 16)).take 8 = leb 8 r.f3 := by
    rw [show pre ++ encR r ++ post = (pre ++ leb 8 r.f0 ++ leb 4 r.f1 ++ leb 4 r.f2) ++ (leb 8 r.f3 ++ post) by simp [encR], show pre.length + 16 = (pre ++ leb 8 r.f0 ++ leb 4 r.f1 ++ leb 4 r.f2).length by simp [leb_length]]
    exact cut _ _ _ _
  rw [e0, e1, e2, e3, lev_leb 8 _ h0.1 (by show _ < (18446744073709551616 : Int); omega), lev_leb 4 _ h1.1 (by show _ < (4294967296 : Int); omega), lev_leb 4 _ h2.1 (by show _ < (4294967296 : Int); omega)]
  have e4 : leb 8 r.f3 = leb 8 (IntKind.u64.wrap r.f3) := (leb_wrap 8 (by omega) _).symm
  have hw : 0 ≤ IntKind.u64.wrap r.f3 ∧ IntKind.u64.wrap r.f3 < 18446744073709551616 := by rw [u64_eq]; omega
  rw [e4, lev_leb 8 _ hw.1 (by show _ < (18446744073709551616 : Int); exact hw.2)]
  have e5 : wrap64 (IntKind.u64.wrap r.f3) = r.f3 := by rw [u64_eq]; unfold wrap64; omega
  rw [e5]
end Go.Proofs.Ythjlhoclmbnjgaa.Q
