/- Lemmas: symbols' bytes by the reference (small numbers), and what is read of them. -/
import Derived.Test.YtojhnljjfmgjdaaQ7
import Derived.Test.YtojhnljjfmgjdaaP41
set_option linter.unusedVariables false
namespace Go.Proofs.Ytojhnljjfmgjdaa.Q
open Go.RowKit Go.Proofs.Ytojhnljjfmgjdaa.P Go.Proofs.YtojhnljjfmgjdaaX Go.Proofs.YtojhnljjfmgjdaaW.PrintWords Go.Proofs.YtojhnljjfmgjdaaW.PrintLast Go.Proofs.YtojhnljjfmgjdaaW.PrintMore
theorem refPut_f (k : Nat) (x0 : List Int) (v : Int) (n : Nat) (hn : n ≤ 8) (hk : n < k) (hl : x0.length + n ≤ 140737488355328) : dovetailref1_Put.f k x0 v n = some (x0 ++ leb n v) := refPut_eq k x0 v n hn hk hl
/-- The byte of binding and type. -/
theorem bt_byte : ∀ (b t : Fin 16), (Go.bits .or .i64 (wrap64 ((Go.bits .and .i64 (b.val : Int) 15) * 16)) (Go.bits .and .i64 (t.val : Int) 15)) % 256 = 16 * (b.val : Int) + t.val := by decide +kernel
/-- A symbol's bytes. -/
def encS (s : S45) : List Int := leb 4 s.f0 ++ [16 * s.f1 + s.f2, s.f3] ++ leb 2 s.f4 ++ leb 8 s.f5 ++ leb 8 s.f6
/-- Numbers that have room. -/
structure Room (s : S45) : Prop where
  h0 : 0 ≤ s.f0 ∧ s.f0 < 4294967296
  h1 : 0 ≤ s.f1 ∧ s.f1 < 16
  h2 : 0 ≤ s.f2 ∧ s.f2 < 16
  h3 : 0 ≤ s.f3 ∧ s.f3 < 256
  h4 : 0 ≤ s.f4 ∧ s.f4 < 65536
  h5 : 0 ≤ s.f5 ∧ s.f5 < 18446744073709551616
  h6 : 0 ≤ s.f6 ∧ s.f6 < 18446744073709551616
theorem encS_length (s : S45) : (encS s).length = 24 := by simp [encS, leb_length]
theorem encS_byt {s : S45} (h : Room s) : Byt (encS s) := by
  unfold encS
  refine (((Byt.append (leb_byt 4 _) ?_).append (leb_byt 2 _)).append (leb_byt 8 _)).append (leb_byt 8 _)
  have := h.h1; have := h.h2; have := h.h3
  exact Byt.cons (by omega) (by omega) (Byt.cons (by omega) (by omega) Byt.nil)
theorem num_mid (a b c : List Int) (o : Int) (n : Nat) (ho : o = a.length) (hn : b.length = n) : (num (a ++ b ++ c) o n).1 = lev b := by
  subst ho
  unfold num
  rw [if_pos (by simp; omega), Int.toNat_natCast, List.append_assoc, List.drop_left, List.take_append_of_le_length (by omega), List.take_of_length_le (by omega)]
theorem symOf_enc {s : S45} (h : Room s) : symOf (encS s) = s := by
  obtain ⟨h0, h1, h2, h3, h4, h5, h6⟩ := h
  have e0 : (num (encS s) 0 4).1 = s.f0 := by
    have := num_mid [] (leb 4 s.f0) ([16 * s.f1 + s.f2, s.f3] ++ leb 2 s.f4 ++ leb 8 s.f5 ++ leb 8 s.f6) 0 4 rfl (leb_length _ _)
    rw [List.nil_append] at this
    rw [show encS s = leb 4 s.f0 ++ ([16 * s.f1 + s.f2, s.f3] ++ leb 2 s.f4 ++ leb 8 s.f5 ++ leb 8 s.f6) from by simp [encS], this]
    exact lev_leb 4 _ h0.1 (by have := h0.2; simpa using this)
  have e4 : (num (encS s) 6 2).1 = s.f4 := by
    have := num_mid (leb 4 s.f0 ++ [16 * s.f1 + s.f2, s.f3]) (leb 2 s.f4) (leb 8 s.f5 ++ leb 8 s.f6) 6 2 (by simp [leb_length]) (leb_length _ _)
    rw [show encS s = leb 4 s.f0 ++ [16 * s.f1 + s.f2, s.f3] ++ leb 2 s.f4 ++ (leb 8 s.f5 ++ leb 8 s.f6) from by simp [encS], this]
    exact lev_leb 2 _ h4.1 (by have := h4.2; simpa using this)
  have e5 : (num (encS s) 8 8).1 = s.f5 := by
    have := num_mid (leb 4 s.f0 ++ [16 * s.f1 + s.f2, s.f3] ++ leb 2 s.f4) (leb 8 s.f5) (leb 8 s.f6) 8 8 (by simp [leb_length]) (leb_length _ _)
    rw [show encS s = leb 4 s.f0 ++ [16 * s.f1 + s.f2, s.f3] ++ leb 2 s.f4 ++ leb 8 s.f5 ++ leb 8 s.f6 from rfl, this]
    exact lev_leb 8 _ h5.1 (by have := h5.2; simpa using this)
  have e6 : (num (encS s) 16 8).1 = s.f6 := by
    have := num_mid (leb 4 s.f0 ++ [16 * s.f1 + s.f2, s.f3] ++ leb 2 s.f4 ++ leb 8 s.f5) (leb 8 s.f6) [] 16 8 (by simp [leb_length]) (leb_length _ _)
    rw [List.append_nil] at this
    rw [show encS s = leb 4 s.f0 ++ [16 * s.f1 + s.f2, s.f3] ++ leb 2 s.f4 ++ leb 8 s.f5 ++ leb 8 s.f6 from rfl, this]
    exact lev_leb 8 _ h6.1 (by have := h6.2; simpa using this)
  have r4 : rd (encS s) 4 = 16 * s.f1 + s.f2 := by unfold encS leb leb leb leb leb rd; rfl
  have r5 : rd (encS s) 5 = s.f3 := by unfold encS leb leb leb leb leb rd; rfl
  unfold symOf
  rw [e0, e4, e5, e6, r4, r5, show (16 * s.f1 + s.f2) / 16 = s.f1 by omega, show (16 * s.f1 + s.f2) % 16 = s.f2 by omega]
theorem rdT_at (l : List S45) (i : Nat) (h : i < l.length) : rd_T45 l (i : Int) = l[i] := by
  unfold rd_T45
  simp [h]
theorem symBytes_l0 (l : List S45) (hr : ∀ s ∈ l, Room s) (hl : l.length ≤ 1000) (d : Nat) : ∀ (k i : Nat) (acc : List Int), i + d = l.length → d + 12 ≤ k → acc.length = 24 * i → dovetailref9_SymBytes.l0 k l acc i = some (acc ++ (l.drop i).flatMap encS) := by
  induction d with
  | zero =>
    intro k i acc hi hk ha
    obtain ⟨k, rfl⟩ : ∃ m, k = m + 1 := ⟨k - 1, by omega⟩
    rw [dovetailref9_SymBytes.l0, if_neg (by omega), List.drop_of_length_le (by omega)]
    simp
  | succ d ih =>
    intro k i acc hi hk ha
    obtain ⟨k, rfl⟩ : ∃ m, k = m + 1 := ⟨k - 1, by omega⟩
    have hlt : i < l.length := by omega
    have hs := hr l[i] (List.getElem_mem _)
    have E : Aside0 (wrap64 ((i : Int) + 1) = ((i + 1 : Nat) : Int)) := ⟨by clear ih; unfold wrap64; omega⟩
    have hd : (l.drop i).flatMap encS = encS l[i] ++ (l.drop (i + 1)).flatMap encS := by rw [List.drop_eq_getElem_cons hlt, List.flatMap_cons]
    rw [dovetailref9_SymBytes.l0, if_pos (by omega), if_pos (by omega), rdT_at l i hlt, hd, E.out]
    generalize l[i] = s at *
    obtain ⟨b, hb⟩ := Int.eq_ofNat_of_zero_le hs.h1.1
    obtain ⟨t, ht⟩ := Int.eq_ofNat_of_zero_le hs.h2.1
    have hbt := bt_byte ⟨b, by have := hs.h1.2; omega⟩ ⟨t, by have := hs.h2.2; omega⟩
    simp only at hbt
    rw [← hb, ← ht] at hbt
    have p1 := refPut_f k acc (IntKind.u64.wrap s.f0) 4 (by omega) (by omega) (by omega)
    rw [show (((4 : Nat) : Int)) = 4 from rfl] at p1
    have u0 : Aside0 (IntKind.u64.wrap s.f0 = s.f0) := ⟨u64_in hs.h0.1 (by have := hs.h0.2; omega)⟩
    have u4 : Aside0 (IntKind.u64.wrap s.f4 = s.f4) := ⟨u64_in hs.h4.1 (by have := hs.h4.2; omega)⟩
    rw [p1]
    simp only [Option.bind_some]
    rw [hbt, show s.f3 % 256 = s.f3 from Int.emod_eq_of_lt hs.h3.1 hs.h3.2, if_pos (by simp [leb_length]; omega), u0.out, u4.out]
    have p2 := refPut_f k (acc ++ leb 4 s.f0 ++ [16 * s.f1 + s.f2, s.f3]) s.f4 2 (by omega) (by omega) (by simp [leb_length]; omega)
    rw [show (((2 : Nat) : Int)) = 2 from rfl] at p2
    rw [p2]
    simp only [Option.bind_some]
    have p3 := refPut_f k (acc ++ leb 4 s.f0 ++ [16 * s.f1 + s.f2, s.f3] ++ leb 2 s.f4) s.f5 8 (by omega) (by omega) (by simp [leb_length]; omega)
    rw [show (((8 : Nat) : Int)) = 8 from rfl] at p3
    rw [p3]
    simp only [Option.bind_some]
    have p4 := refPut_f k (acc ++ leb 4 s.f0 ++ [16 * s.f1 + s.f2, s.f3] ++ leb 2 s.f4 ++ leb 8 s.f5) s.f6 8 (by omega) (by omega) (by simp [leb_length]; omega)
    rw [show (((8 : Nat) : Int)) = 8 from rfl] at p4
    rw [p4]
    simp only [Option.bind_some]
    have e : acc ++ leb 4 s.f0 ++ [16 * s.f1 + s.f2, s.f3] ++ leb 2 s.f4 ++ leb 8 s.f5 ++ leb 8 s.f6 = acc ++ encS s := by simp [encS]
    rw [e, ih k (i + 1) (acc ++ encS s) (by omega) (by omega) (by rw [List.length_append, encS_length]; omega), List.append_assoc]
theorem symBytes_eq (l : List S45) (hr : ∀ s ∈ l, Room s) (hl : l.length ≤ 1000) (k : Nat) (hk : l.length + 12 ≤ k) : dovetailref9_SymBytes.f k l = some (l.flatMap encS) := by
  unfold dovetailref9_SymBytes.f
  have := symBytes_l0 l hr hl l.length k 0 [] (by omega) hk rfl
  simpa using this
theorem flat_length (l : List S45) : (l.flatMap encS).length = 24 * l.length := by
  induction l with
  | nil => rfl
  | cons s l ih => rw [List.flatMap_cons, List.length_append, encS_length, ih, List.length_cons]; omega
theorem flat_byt (l : List S45) (hr : ∀ s ∈ l, Room s) : Byt (l.flatMap encS) := fun x hx => by
  obtain ⟨s, hs, hx⟩ := List.mem_flatMap.1 hx
  exact encS_byt (hr s hs) x hx
theorem chunk_flat (l : List S45) : ∀ (i : Nat) (h : i < l.length), chunkS (l.flatMap encS) i = encS l[i] := by
  induction l with
  | nil => intro i h; simp at h
  | cons s l ih =>
    intro i h
    unfold chunkS
    rw [List.flatMap_cons]
    cases i with
    | zero =>
      rw [List.take_append_of_le_length (by rw [encS_length]; omega), List.take_of_length_le (by rw [encS_length]; omega)]
      simp
    | succ i =>
      have := ih i (by simpa using h)
      unfold chunkS at this
      rw [List.take_append, List.drop_append, encS_length, List.take_of_length_le (by rw [encS_length]; omega), List.drop_of_length_le (by rw [encS_length]; omega), List.nil_append, encS_length]
      rw [show 24 * (i + 1 + 1) - 24 = 24 * (i + 1) by omega, show 24 * (i + 1) - 24 = 24 * i by omega, this]
      rfl
/-- What is read of symbols' bytes. -/
def okAt (l : List S45) (names : List Int) (loc : Int) (i : Nat) (h : i < l.length) : Prop := (getS names l[i].f0.toNat).2 = true ∧ rightB l[i] (getS names l[i].f0.toNat).1 i loc = true
theorem scan_yes (l : List S45) (hr : ∀ s ∈ l, Room s) (names : List Int) (loc : Int) (d : Nat) : ∀ (i : Nat) (acc : List S45) (nms : List ByteArray), i + d = l.length → (∀ j (h : j < l.length), i ≤ j → okAt l names loc j h) →
    (scanS (l.flatMap encS) names loc d i acc nms).1 = acc ++ l.drop i ∧ (scanS (l.flatMap encS) names loc d i acc nms).2.2 = 0 := by
  induction d with
  | zero => intro i acc nms hi _; simp only [scanS]; rw [List.drop_of_length_le (by omega)]; simp
  | succ d ih =>
    intro i acc nms hi hok
    have hlt : i < l.length := by omega
    have hs : stepS (chunkS (l.flatMap encS) i) names i loc = some (l[i], (getS names l[i].f0.toNat).1) := by
      unfold stepS
      rw [chunk_flat l i hlt, symOf_enc (hr _ (List.getElem_mem _))]
      exact if_pos (hok i hlt (Nat.le_refl _))
    simp only [scanS]
    rw [hs]
    have := ih (i + 1) (acc ++ [l[i]]) (nms ++ [(getS names l[i].f0.toNat).1]) (by omega) (fun j h hj => hok j h (by omega))
    simp only at this ⊢
    rw [this.1, this.2]
    refine ⟨?_, rfl⟩
    rw [List.drop_eq_getElem_cons hlt]
    simp
theorem scan_no (l : List S45) (hr : ∀ s ∈ l, Room s) (names : List Int) (loc : Int) (d : Nat) : ∀ (i : Nat) (acc : List S45) (nms : List ByteArray), i + d = l.length → (∃ j, ∃ h : j < l.length, i ≤ j ∧ ¬ okAt l names loc j h) →
    scanS (l.flatMap encS) names loc d i acc nms = ([], [], 32) := by
  induction d with
  | zero => intro i acc nms hi hno; obtain ⟨j, h, hj, _⟩ := hno; omega
  | succ d ih =>
    intro i acc nms hi hno
    have hlt : i < l.length := by omega
    by_cases hok : okAt l names loc i hlt
    · have hs : stepS (chunkS (l.flatMap encS) i) names i loc = some (l[i], (getS names l[i].f0.toNat).1) := by
        unfold stepS
        rw [chunk_flat l i hlt, symOf_enc (hr _ (List.getElem_mem _))]
        exact if_pos hok
      simp only [scanS]
      rw [hs]
      refine ih (i + 1) _ _ (by omega) ?_
      obtain ⟨j, h, hj, hn⟩ := hno
      by_cases e : j = i
      · subst e; exact absurd hok hn
      · exact ⟨j, h, by omega, hn⟩
    · have hs : stepS (chunkS (l.flatMap encS) i) names i loc = none := by
        unfold stepS
        rw [chunk_flat l i hlt, symOf_enc (hr _ (List.getElem_mem _))]
        exact if_neg hok
      simp only [scanS]
      rw [hs]
end Go.Proofs.Ytojhnljjfmgjdaa.Q
