/- Lemmas: symbols: what symtab.Parse tells (scanS), symbol by symbol. -/
import Derived.Test.YtojhnljjfmgjdaaQ1u
import Derived.Test.YtojhnljjfmgjdaaP37
import Derived.Test.YtojhnljjfmgjdaaP35
import Derived.Test.YtojhnljjfmgjdaaP36
import Derived.Test.YtojhnljjfmgjdaaP34
set_option linter.unusedVariables false
namespace Go.Proofs.Ytojhnljjfmgjdaa.Q
open Go.RowKit Go.Proofs.Ytojhnljjfmgjdaa.P Go.Proofs.YtojhnljjfmgjdaaX Go.Proofs.YtojhnljjfmgjdaaW.PrintWords Go.Proofs.YtojhnljjfmgjdaaW.PrintLast Go.Proofs.YtojhnljjfmgjdaaW.PrintMore
/-- The symbol that 24 bytes tell. -/
def symOf (b : List Int) : S45 := ⟨(num b 0 4).1, rd b 4 / 16, rd b 4 % 16, rd b 5, (num b 6 2).1, (num b 8 8).1, (num b 16 8).1⟩
theorem symbol_eq (k : Nat) (b : List Int) (hb : Byt b) (hl : b.length = 24) (hk : 8 < k) : symtab_symbol.f k b = some ((symOf b).f0, (symOf b).f1, (symOf b).f2, (symOf b).f3, (symOf b).f4, (symOf b).f5, (symOf b).f6) := by
  unfold symtab_symbol.f
  have h4 := hb.at_ 4
  have h5 := hb.at_ 5
  have h2 := num_bound hb 6 2
  have e2 : (num b 6 2).1 < 65536 := by have := h2.2; simpa using this
  rw [U32_eq k b 0 hb (by omega) (by omega) (by omega), U16_eq k b 6 hb (by omega) (by omega) (by omega), U64_eq k b 8 hb (by omega) (by omega) hk, U64_eq k b 16 hb (by omega) (by omega) hk]
  simp only [Option.bind_some]
  rw [if_pos (by omega), if_pos (by omega), and15 h4.1 h4.2, w64_in (x := rd b 4 / 16) (by omega) (by omega), w64_in (x := rd b 4 % 16) (by omega) (by omega), w64_in (x := rd b 5) (by omega) (by omega), w64_in (x := (num b 6 2).1) (by omega) (by omega)]
  rfl
/-- May a symbol be so? -/
def rightB (s : S45) (nm : ByteArray) (i loc : Int) : Bool :=
  if i < loc then decide (s.f1 = 0 ∧ s.f2 ≤ 4 ∧ s.f3 ≤ 3) else decide ((s.f1 = 1 ∨ s.f1 = 2) ∧ s.f2 < 3 ∧ s.f3 ≤ 3 ∧ nm.toList ≠ [])
theorem right_eq (s : S45) (nm : ByteArray) (i loc : Int) : symtab_right.f s.f0 s.f1 s.f2 s.f3 s.f4 s.f5 s.f6 nm i loc = some (rightB s nm i loc) := by
  unfold symtab_right.f rightB
  by_cases h0 : i < loc
  · rw [if_pos h0, if_pos h0]
    by_cases h1 : s.f1 = 0
    · rw [if_pos h1]
      by_cases h2 : s.f2 ≤ 4
      · rw [if_pos h2]; simp [h1, h2]
      · rw [if_neg h2]; simp [h2]
    · rw [if_neg h1]; simp [h1]
  · rw [if_neg h0, if_neg h0]
    by_cases h1 : s.f1 = 1
    · rw [if_pos h1]
      by_cases h2 : s.f2 < 3
      · rw [if_pos h2]
        by_cases h3 : s.f3 ≤ 3
        · rw [if_pos h3]
          simp [h1, h2, h3]
          cases nm.toList <;> simp
        · rw [if_neg h3]; simp [h3]
      · rw [if_neg h2]; simp [h2]
    · rw [if_neg h1]
      by_cases h1' : s.f1 = 2
      · rw [if_pos h1']
        by_cases h2 : s.f2 < 3
        · rw [if_pos h2]
          by_cases h3 : s.f3 ≤ 3
          · rw [if_pos h3]
            simp [h1', h2, h3]
            cases nm.toList <;> simp
          · rw [if_neg h3]; simp [h3]
        · rw [if_neg h2]; simp [h2]
      · rw [if_neg h1']; simp [h1, h1']
/-- One symbol, read and asked. -/
def stepS (b names : List Int) (i loc : Int) : Option (S45 × ByteArray) :=
  if (getS names (symOf b).f0.toNat).2 = true ∧ rightB (symOf b) (getS names (symOf b).f0.toNat).1 i loc = true then some (symOf b, (getS names (symOf b).f0.toNat).1) else none
def chunkS (l : List Int) (i : Nat) : List Int := (l.take (24 * (i + 1))).drop (24 * i)
theorem chunkS_length (l : List Int) (i : Nat) (h : 24 * (i + 1) ≤ l.length) : (chunkS l i).length = 24 := by
  unfold chunkS; rw [List.length_drop, List.length_take]; omega
/-- The symbols from the i-th on. -/
def scanS (l names : List Int) (loc : Int) : Nat → Nat → List S45 → List ByteArray → List S45 × List ByteArray × Int
  | 0, _, acc, nms => (acc, nms, 0)
  | d + 1, i, acc, nms => match stepS (chunkS l i) names i loc with
    | none => ([], [], 32)
    | some (s, nm) => scanS l names loc d (i + 1) (acc ++ [s]) (nms ++ [nm])
theorem w24 (i : Nat) (h : i ≤ 501) : wrap64 ((i : Int) * 24) = ((24 * i : Nat) : Int) := by unfold wrap64; omega
theorem w1 (i : Nat) (h : i ≤ 501) : wrap64 ((i : Int) + 1) = ((i + 1 : Nat) : Int) := by unfold wrap64; omega
theorem parse_l0 (d : Nat) : ∀ (k : Nat) (l names : List Int) (loc : Int) (n i : Nat) (acc : List S45) (nms : List ByteArray), Byt l → l.length = 24 * n → n ≤ 500 → i + d = n → d + 12 < k → acc.length ≤ i → nms.length ≤ i → names.length ≤ 140737488355328 → 0 ≤ loc → loc < 4294967296 →
    symtab_Parse.l0 k l names loc n acc nms i = some (scanS l names loc d i acc nms) := by
  induction d with
  | zero =>
    intro k l names loc n i acc nms hb hl hn hi hk ha hm hnl h0 h1
    obtain ⟨k, rfl⟩ : ∃ m, k = m + 1 := ⟨k - 1, by omega⟩
    simp only [symtab_Parse.l0, scanS]
    rw [if_neg (by omega)]
  | succ d ih =>
    intro k l names loc n i acc nms hb hl hn hi hk ha hm hnl h0 h1
    obtain ⟨k, rfl⟩ : ∃ m, k = m + 1 := ⟨k - 1, by omega⟩
    have E : Aside0 (wrap64 ((i : Int) * 24) = ((24 * i : Nat) : Int) ∧ wrap64 ((i : Int) + 1) = ((i + 1 : Nat) : Int) ∧ wrap64 (((i + 1 : Nat) : Int) * 24) = ((24 * (i + 1) : Nat) : Int)) := ⟨⟨w24 i (by omega), w1 i (by omega), w24 (i + 1) (by omega)⟩⟩
    have hc : (l.take ((24 * (i + 1) : Nat) : Int).toNat).drop ((24 * i : Nat) : Int).toNat = chunkS l i := by rw [Int.toNat_natCast, Int.toNat_natCast]; rfl
    have hcb : Byt (chunkS l i) := (hb.take _).drop _
    have hcl := chunkS_length l i (by omega)
    have hf0 : 0 ≤ (symOf (chunkS l i)).f0 ∧ (symOf (chunkS l i)).f0 < 4294967296 := by
      have := num_bound hcb 0 4
      exact ⟨this.1, by have h := this.2; simpa [symOf] using h⟩
    simp only [symtab_Parse.l0, scanS]
    rw [if_pos (by omega), E.out.1, E.out.2.1, E.out.2.2, if_pos (by omega), if_pos (by omega), if_pos (by omega), hc, symbol_eq k _ hcb hcl (by omega)]
    simp only [Option.bind_some]
    unfold strtab_Get.f
    rw [if_pos ⟨hf0.1, hf0.2, hnl⟩]
    simp only [Option.bind_some]
    rw [show wrap64 loc = loc from w64_in (by clear ih; omega) (by clear ih; omega), right_eq]
    simp only [Option.bind_some]
    unfold stepS
    by_cases hg : (getS names (symOf (chunkS l i)).f0.toNat).2 = true
    · rw [if_pos hg]
      by_cases hr : rightB (symOf (chunkS l i)) (getS names (symOf (chunkS l i)).f0.toNat).1 i loc = true
      · rw [if_pos hr, if_pos (by omega), if_pos (by omega), if_pos ⟨hg, hr⟩]
        exact ih k l names loc n (i + 1) _ _ hb hl hn (by omega) (by omega) (by simp; omega) (by simp; omega) hnl h0 h1
      · rw [if_neg hr, if_neg (fun h => hr h.2)]
    · rw [if_neg hg, if_neg (fun h => hg h.1)]
/-- The table's symbols, or none. -/
def parseS (l names : List Int) (loc : Int) : List S45 × List ByteArray × Int :=
  if l.length % 24 = 0 ∧ 1 ≤ l.length / 24 ∧ l.length / 24 ≤ 500 ∧ 1 ≤ loc ∧ loc ≤ (l.length / 24 : Nat) ∧ l.take 24 = List.replicate 24 0 then scanS l names loc (l.length / 24 - 1) 1 [⟨0, 0, 0, 0, 0, 0, 0⟩] [⟨#[]⟩] else ([], [], 32)
theorem parseS_eq (k : Nat) (l names : List Int) (loc : Int) (hb : Byt l) (hll : l.length ≤ 140737488355328) (hnl : names.length ≤ 140737488355328) (h0 : 0 ≤ loc) (h1 : loc < 4294967296) (hk : 520 < k) : symtab_Parse.f k l names loc = some (parseS l names loc) := by
  obtain ⟨k, rfl⟩ : ∃ m, k = m + 1 := ⟨k - 1, by omega⟩
  unfold symtab_Parse.f parseS
  have ed : ((l.length : Int) / 24) = ((l.length / 24 : Nat) : Int) := by omega
  have e0 : wrap64 ((l.length : Int) / 24) = ((l.length / 24 : Nat) : Int) := by rw [w64_in (by omega) (by omega), ed]
  rw [e0]
  by_cases c1 : (l.length : Int) % 24 = 0
  · rw [if_pos c1]
    by_cases c2 : ((l.length / 24 : Nat) : Int) < 1
    · rw [if_pos c2, if_neg (by omega)]
      simp [symtab_Parse.j0]
    · rw [if_neg c2]
      by_cases c3 : ((l.length / 24 : Nat) : Int) > 500
      · rw [if_pos c3, if_neg (by omega)]
        simp [symtab_Parse.j0]
      · rw [if_neg c3]
        by_cases c4 : loc < 1
        · rw [if_pos c4, if_neg (by omega)]
          simp [symtab_Parse.j0]
        · rw [if_neg c4, u64_in (x := loc) (by omega) (by omega), u64_in (x := ((l.length / 24 : Nat) : Int)) (by omega) (by omega)]
          by_cases c5 : loc > ((l.length / 24 : Nat) : Int)
          · rw [decide_eq_true c5, if_neg (by omega)]
            simp [symtab_Parse.j0]
          · rw [decide_eq_false c5]
            simp only [symtab_Parse.j0]
            rw [if_neg (by decide), if_pos (by omega), if_pos (by decide), Equal_eq (hb.take 24) (Byt.rep 24)]
            simp only [Option.bind_some]
            by_cases c6 : l.take 24 = List.replicate 24 0
            · rw [if_pos (by simpa using c6), if_pos ⟨by omega, by omega, by omega, by omega, by omega, c6⟩]
              have := parse_l0 (l.length / 24 - 1) k l names loc (l.length / 24) 1 [⟨0, 0, 0, 0, 0, 0, 0⟩] [⟨#[]⟩] hb (by omega) (by omega) (by omega) (by omega) (by simp) (by simp) hnl h0 h1
              exact this
            · rw [if_neg (by simpa using c6), if_neg (fun h => c6 h.2.2.2.2.2)]
  · rw [if_neg c1, if_neg (by omega)]
    simp [symtab_Parse.j0]
end Go.Proofs.Ytojhnljjfmgjdaa.Q
