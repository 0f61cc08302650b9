/- Lemmas: what le.get, le.U16, U32, U64, le.Cut and the reference's Num and Cut tell, in closed form (lev: the value of bytes, the lowest first). -/
import Derived.Test.YthjlhoclmbnjgaaP6
import Derived.Test.YthjlhoclmbnjgaaP8
import Derived.Test.YthjlhoclmbnjgaaP14
import Derived.Test.YthjlhoclmbnjgaaP16
import Derived.Test.YthjlhoclmbnjgaaP22
import Derived.OpenShut
set_option linter.unusedVariables false
namespace Go.Proofs.Ythjlhoclmbnjgaa.Q
open Go.RowKit Go.Proofs.Ythjlhoclmbnjgaa.P Go.Proofs.YthjlhoclmbnjgaaX Go.Proofs.YthjlhoclmbnjgaaW.PrintWords Go.Proofs.YthjlhoclmbnjgaaW.PrintLast Go.Proofs.YthjlhoclmbnjgaaW.PrintMore

/-! ### numbers -/
theorem u64_in {x : Int} (h0 : 0 ≤ x) (h1 : x < 18446744073709551616) : IntKind.u64.wrap x = x := Int.emod_eq_of_lt h0 (show x < 18446744073709551616 from h1)
theorem u32_in {x : Int} (h0 : 0 ≤ x) (h1 : x < 4294967296) : IntKind.u32.wrap x = x := Int.emod_eq_of_lt h0 (show x < 4294967296 from h1)
theorem u16_in {x : Int} (h0 : 0 ≤ x) (h1 : x < 65536) : IntKind.u16.wrap x = x := Int.emod_eq_of_lt h0 (show x < 65536 from h1)
theorem u64_eq (x : Int) : IntKind.u64.wrap x = x % 18446744073709551616 := rfl
theorem w64_in {x : Int} (h0 : -9223372036854775808 ≤ x) (h1 : x < 9223372036854775808) : wrap64 x = x := by unfold wrap64; omega
theorem shl64 {x y : Int} (h0 : 0 ≤ y) (h1 : y ≤ 64) : shl .u64 x y = IntKind.u64.wrap (x * 2 ^ y.toNat) := (shl_small rfl (show y ≤ 64 from h1)).symm
theorem shr64 {x y : Int} (h0 : 0 ≤ y) (h1 : y ≤ 64) : shr .u64 x y = x / 2 ^ y.toNat := (shr_small rfl (show y ≤ 64 from h1)).symm
/-- Bytes. -/
def Byt (l : List Int) : Prop := ∀ x ∈ l, 0 ≤ x ∧ x ≤ 255
theorem Byt.of_wf {l : List Int} (h : ∀ x ∈ l, (Lit.int .u8 x).wf = true) : Byt l := fun x hx => bounds_u8 (h x hx)
theorem Byt.append {a b : List Int} (ha : Byt a) (hb : Byt b) : Byt (a ++ b) := fun x hx => (List.mem_append.1 hx).elim (ha x) (hb x)
theorem Byt.take {l : List Int} (h : Byt l) (n : Nat) : Byt (l.take n) := fun x hx => h x (List.mem_of_mem_take hx)
theorem Byt.drop {l : List Int} (h : Byt l) (n : Nat) : Byt (l.drop n) := fun x hx => h x (List.mem_of_mem_drop hx)
theorem Byt.nil : Byt [] := fun x hx => by simp at hx
theorem Byt.cons {x : Int} {l : List Int} (h0 : 0 ≤ x) (h1 : x ≤ 255) (h : Byt l) : Byt (x :: l) := fun y hy => by
  rcases List.mem_cons.1 hy with rfl | hy
  · exact ⟨h0, h1⟩
  · exact h y hy
theorem Byt.at_ {l : List Int} (h : Byt l) (i : Int) : 0 ≤ rd l i ∧ rd l i ≤ 255 := by
  unfold rd
  rw [List.getD_eq_getElem?_getD]
  cases hx : l[i.toNat]? with
  | none => simp
  | some x => exact h x (List.mem_of_getElem? hx)
theorem leb_byt (n : Nat) : ∀ v, Byt (leb n v) := by
  induction n with
  | zero => intro v; exact Byt.nil
  | succ n ih => intro v; exact Byt.cons (by omega) (by omega) (ih _)

/-! ### the value of bytes -/
def lev : List Int → Int
  | [] => 0
  | x :: l => x + 256 * lev l
theorem lev_bound {l : List Int} (h : Byt l) : 0 ≤ lev l ∧ lev l < 256 ^ l.length := by
  induction l with
  | nil => simp [lev]
  | cons x l ih =>
    have hx := h x (by simp)
    have := ih (fun y hy => h y (by simp [hy]))
    simp only [lev, List.length_cons, Int.pow_succ]
    omega
theorem lev_snoc (l : List Int) (x : Int) : lev (l ++ [x]) = lev l + x * 256 ^ l.length := by
  induction l with
  | nil => simp [lev]
  | cons y l ih =>
    simp only [List.cons_append, lev, ih, List.length_cons, Int.pow_succ]
    rw [Int.mul_add, Int.add_assoc, Int.mul_left_comm, Int.mul_comm 256 (256 ^ l.length)]
theorem lev_leb (n : Nat) : ∀ v : Int, 0 ≤ v → v < 256 ^ n → lev (leb n v) = v := by
  induction n with
  | zero => intro v h0 h1; simp at h1; simp [leb, lev]; omega
  | succ n ih =>
    intro v h0 h1
    rw [Int.pow_succ] at h1
    simp only [leb, lev]
    rw [ih (v / 256) (by omega) (by omega)]
    omega
theorem leb_lev (l : List Int) (h : Byt l) : leb l.length (lev l) = l := by
  induction l with
  | nil => rfl
  | cons x l ih =>
    have hx := h x (by simp)
    simp only [List.length_cons, leb, lev]
    rw [show (x + 256 * lev l) % 256 = x by omega, show (x + 256 * lev l) / 256 = lev l by omega, ih (fun y hy => h y (by simp [hy]))]
theorem pow256 (n : Nat) : (256 : Int) ^ n = 2 ^ (8 * n) := by rw [Int.pow_mul]; rfl
theorem pow256_mono {m n : Nat} (h : m ≤ n) : (256 : Int) ^ m ≤ 256 ^ n := by
  have h1 := Nat.pow_le_pow_right (show 0 < 256 by omega) h
  rw [show (256 : Int) = ((256 : Nat) : Int) from rfl, ← Int.natCast_pow, ← Int.natCast_pow]
  exact Int.ofNat_le.2 h1
theorem pow256_le {n : Nat} (h : n ≤ 8) : (256 : Int) ^ n ≤ 18446744073709551616 := by
  have : (256 : Int) ^ n ≤ 256 ^ 8 := pow256_mono h
  exact this
/-- The bytes from i on. -/
theorem take_rd (l : List Int) (o i : Nat) (h : o + i < l.length) : (l.drop o).take (i + 1) = (l.drop o).take i ++ [rd l ((o : Int) + i)] := by
  rw [List.take_succ_eq_append_getElem (by rw [List.length_drop]; omega)]
  congr 2
  rw [List.getElem_drop]
  unfold rd
  rw [show ((o : Int) + i).toNat = o + i by omega, List.getD_eq_getElem?_getD, List.getElem?_eq_getElem (by omega)]
  rfl

/-! ### le.get -/
theorem le_get_l0 (d : Nat) : ∀ (k : Nat) (l : List Int) (o i n : Nat), Byt l → i + d = n → n ≤ 8 → o + n ≤ l.length → l.length ≤ 140737488355328 → d < k →
    le_get.l0 k l o (lev ((l.drop o).take i)) n i = some (lev ((l.drop o).take n), true) := by
  induction d with
  | zero =>
    intro k l o i n hb hi h8 hl hll hk
    obtain ⟨k, rfl⟩ : ∃ m, k = m + 1 := ⟨k - 1, by omega⟩
    simp only [le_get.l0]
    rw [if_neg (by omega), show i = n by omega]
  | succ d ih =>
    intro k l o i n hb hi h8 hl hll hk
    obtain ⟨k, rfl⟩ : ∃ m, k = m + 1 := ⟨k - 1, by omega⟩
    have e1 : IntKind.u64.wrap (i : Int) = i := u64_in (by omega) (by omega)
    have e2 : IntKind.u64.wrap ((o : Int) + i) = o + i := u64_in (by omega) (by omega)
    have e3 : IntKind.u64.wrap (wrap64 (8 * i)) = 8 * i := by rw [w64_in (by omega) (by omega), u64_in (by omega) (by omega)]
    have hr := hb.at_ ((o : Int) + i)
    have e4 : IntKind.u64.wrap (rd l ((o : Int) + i)) = rd l ((o : Int) + i) := u64_in (by omega) (by omega)
    have hlt : ((l.drop o).take i).length = i := by rw [List.length_take, List.length_drop]; omega
    have hbd := lev_bound ((hb.drop o).take i)
    rw [hlt] at hbd
    have hp : (256 : Int) ^ (i + 1) ≤ 18446744073709551616 := pow256_le (by omega)
    have hp0 : (0 : Int) < 256 ^ i := Int.pow_pos (by omega)
    have hm : rd l ((o : Int) + i) * 256 ^ i ≤ 255 * 256 ^ i := Int.mul_le_mul_of_nonneg_right hr.2 (by omega)
    have hm0 : 0 ≤ rd l ((o : Int) + i) * 256 ^ i := Int.mul_nonneg hr.1 (by omega)
    rw [Int.pow_succ] at hp
    have e5 : shl .u64 (rd l ((o : Int) + i)) (8 * i) = rd l ((o : Int) + i) * 256 ^ i := by
      rw [shl64 (by omega) (by omega), show (8 * (i : Int)).toNat = 8 * i by omega, ← pow256, u64_in (by omega) (by omega)]
    have e6 : Go.bits .or .u64 (lev ((l.drop o).take i)) (rd l ((o : Int) + i) * 256 ^ i) = lev ((l.drop o).take (i + 1)) := by
      have hor : ∀ a b : Int, Go.bits .or .u64 a b = Go.bits .or .u64 b a := by
        intro a b
        unfold Go.bits
        simp only [BitVec.or_comm]
      rw [take_rd l o i (by omega), lev_snoc, hlt, hor, bits_join .u64 64 (by decide) (fun n h0 h1 => u64_in h0 h1) (8 * i) _ _ hm0 (by rw [← pow256]; exact Int.mul_emod_left _ _) (by show _ < (18446744073709551616 : Int); omega) hbd.1 (by rw [← pow256]; exact hbd.2) (by show _ < (18446744073709551616 : Int); omega)]
      omega
    simp only [le_get.l0]
    rw [if_pos (by omega), e1, e2, e3, if_pos (by omega), if_pos (by omega), if_pos (by omega), e4, e5, e6, w64_in (by omega) (by omega)]
    exact ih k l o (i + 1) n hb (by omega) h8 hl hll (by omega)
theorem le_within_eq (o n : Int) (m : Nat) (ho : 0 ≤ o) (hn : 0 ≤ n) (hm : m ≤ 140737488355328) : le_within.f o n m = some (decide (o + n ≤ m)) := by
  unfold le_within.f
  rw [u64_in (x := (m : Int)) (by omega) (by omega)]
  by_cases h : n ≤ m
  · rw [if_pos h, u64_in (by omega) (by omega)]
    congr 1
    apply decide_eq_decide.2
    omega
  · rw [if_neg h]
    congr 1
    symm
    apply decide_eq_false
    omega
theorem le_get_eq (k : Nat) (l : List Int) (o : Int) (n : Nat) (hb : Byt l) (ho : 0 ≤ o) (h8 : n ≤ 8) (hl : l.length ≤ 140737488355328) (hk : n < k) :
    le_get.f k l o n = some (if o + n ≤ l.length then (lev ((l.drop o.toNat).take n), true) else (0, false)) := by
  obtain ⟨o, rfl⟩ := Int.eq_ofNat_of_zero_le ho
  unfold le_get.f
  rw [u64_in (by omega) (by omega), le_within_eq _ _ _ ho (by omega) hl]
  simp only [Option.bind_some]
  by_cases h : (o : Int) + n ≤ l.length
  · rw [if_pos (decide_eq_true h), if_pos h]
    have := le_get_l0 n k l o 0 n hb (by omega) h8 (by omega) hl hk
    simpa [lev] using this
  · rw [if_neg (by simpa using h), if_neg h]
/-- What a number of n bytes at o is. -/
def num (l : List Int) (o : Int) (n : Nat) : Int × Bool := if o + n ≤ l.length then (lev ((l.drop o.toNat).take n), true) else (0, false)
theorem num_bound {l : List Int} (hb : Byt l) (o : Int) (n : Nat) : 0 ≤ (num l o n).1 ∧ (num l o n).1 < 256 ^ n := by
  unfold num
  split
  · have := lev_bound ((hb.drop o.toNat).take n)
    have hle : (256 : Int) ^ ((l.drop o.toNat).take n).length ≤ 256 ^ n := pow256_mono (by rw [List.length_take]; omega)
    exact ⟨this.1, by omega⟩
  · exact ⟨Int.le_refl _, Int.pow_pos (by omega)⟩
theorem U32_eq (k : Nat) (l : List Int) (o : Int) (hb : Byt l) (ho : 0 ≤ o) (hl : l.length ≤ 140737488355328) (hk : 4 < k) : le_U32.f k l o = some (num l o 4) := by
  have hbd := num_bound hb o 4
  unfold le_U32.f
  have h_ := le_get_eq k l o 4 hb ho (by omega) hl hk
  rw [show (((4 : Nat) : Int)) = 4 from rfl] at h_
  rw [h_]
  simp only [Option.bind_some]
  rw [show (if o + (4 : Int) ≤ l.length then (lev ((l.drop o.toNat).take 4), true) else (0, false)) = num l o 4 from rfl]
  have : (num l o 4).1 % 4294967296 = (num l o 4).1 := Int.emod_eq_of_lt hbd.1 (by simpa using hbd.2)
  rw [this]
theorem U64_eq (k : Nat) (l : List Int) (o : Int) (hb : Byt l) (ho : 0 ≤ o) (hl : l.length ≤ 140737488355328) (hk : 8 < k) : le_U64.f k l o = some (num l o 8) := by
  unfold le_U64.f
  have h_ := le_get_eq k l o 8 hb ho (by omega) hl hk
  rw [show (((8 : Nat) : Int)) = 8 from rfl] at h_
  rw [h_]
  rfl

/-! ### the reference's Num -/
theorem Num_l0 (d : Nat) : ∀ (k : Nat) (l : List Int) (o : Nat) (i n : Nat) (hb : Byt l), i = d → d ≤ n → n ≤ 8 → o + n ≤ l.length → l.length ≤ 140737488355328 → d < k →
    dovetailref1_Num.l0 k l o (lev ((l.drop (o + d)).take (n - d))) ((d : Int) - 1) = some (lev ((l.drop o).take n), true) := by
  induction d with
  | zero =>
    intro k l o i n hb hi h1 h8 hl hll hk
    obtain ⟨k, rfl⟩ : ∃ m, k = m + 1 := ⟨k - 1, by omega⟩
    simp only [dovetailref1_Num.l0]
    rw [if_neg (by omega)]
    simp
  | succ d ih =>
    intro k l o i n hb hi h1 h8 hl hll hk
    obtain ⟨k, rfl⟩ : ∃ m, k = m + 1 := ⟨k - 1, by omega⟩
    have e1 : IntKind.u64.wrap (((d + 1 : Nat) : Int) - 1) = d := by rw [u64_in (by omega) (by omega)]; omega
    have e2 : IntKind.u64.wrap ((o : Int) + d) = o + d := u64_in (by omega) (by omega)
    have hr := hb.at_ ((o : Int) + d)
    have e4 : IntKind.u64.wrap (rd l ((o : Int) + d)) = rd l ((o : Int) + d) := u64_in (by omega) (by omega)
    have hlt : ((l.drop (o + (d + 1))).take (n - (d + 1))).length = n - (d + 1) := by rw [List.length_take, List.length_drop]; omega
    have hbd := lev_bound ((hb.drop (o + (d + 1))).take (n - (d + 1)))
    rw [hlt] at hbd
    have hp : (256 : Int) ^ (n - (d + 1) + 1) ≤ 18446744073709551616 := pow256_le (by omega)
    rw [Int.pow_succ] at hp
    have e5 : (l.drop (o + d)).take (n - d) = rd l ((o : Int) + d) :: (l.drop (o + (d + 1))).take (n - (d + 1)) := by
      rw [show n - d = (n - (d + 1)) + 1 by omega, List.drop_eq_getElem_cons (show o + d < l.length by omega), List.take_succ_cons, show o + (d + 1) = o + d + 1 by omega]
      congr 1
      unfold rd
      rw [show ((o : Int) + d).toNat = o + d by omega, List.getD_eq_getElem?_getD, List.getElem?_eq_getElem (by omega)]
      rfl
    generalize hg : lev ((l.drop (o + (d + 1))).take (n - (d + 1))) = L at *
    generalize hx : rd l ((o : Int) + d) = x at *
    generalize (256 : Int) ^ (n - (d + 1)) = B at *
    have e6 : IntKind.u64.wrap (L * 256) = L * 256 := u64_in (by omega) (by omega)
    have e7 : Go.bits .or .u64 (L * 256) x = x + 256 * L := by
      rw [bits_join .u64 64 (by decide) (fun n h0 h1 => u64_in h0 h1) 8 _ _ (by omega) (by show (L * 256) % 256 = 0; omega) (by show _ < (18446744073709551616 : Int); omega) hr.1 (by show x < (256 : Int); omega) (by show _ < (18446744073709551616 : Int); omega)]
      omega
    simp only [dovetailref1_Num.l0]
    rw [if_pos (by omega), e1, e2, if_pos (by omega), if_pos (by omega), hx, e4, e6, e7, w64_in (by omega) (by omega)]
    have := ih k l o d n hb rfl (by omega) h8 hl hll (by omega)
    rw [e5] at this
    rw [show (((d + 1 : Nat) : Int) - 1 - 1) = (d : Int) - 1 by omega]
    simpa [lev, hg] using this
theorem Num_eq (k : Nat) (l : List Int) (o : Int) (n : Nat) (hb : Byt l) (ho : 0 ≤ o) (h8 : n ≤ 8) (hl : l.length ≤ 140737488355328) (hk : n + 1 < k) :
    dovetailref1_Num.f k l o n = some (num l o n) := by
  obtain ⟨o, rfl⟩ := Int.eq_ofNat_of_zero_le ho
  obtain ⟨k, rfl⟩ : ∃ m, k = m + 1 := ⟨k - 1, by omega⟩
  unfold dovetailref1_Num.f
  rw [u64_in (x := (l.length : Int)) (by omega) (by omega)]
  by_cases h : (o : Int) > l.length
  · rw [if_pos h]
    simp only [dovetailref1_Num.j0, num, if_true]
    rw [if_neg (by omega)]
  · rw [if_neg h, u64_in (x := (l.length : Int) - o) (by omega) (by omega), u64_in (x := (n : Int)) (by omega) (by omega)]
    by_cases h2 : (l.length : Int) - o < n
    · rw [decide_eq_true h2]
      simp only [dovetailref1_Num.j0, num, if_true]
      rw [if_neg (by omega)]
    · rw [decide_eq_false h2]
      simp only [dovetailref1_Num.j0, num]
      rw [if_neg (by decide), if_pos (by omega), w64_in (by omega) (by omega)]
      have := Num_l0 n k l o n n hb rfl (Nat.le_refl _) h8 (by omega) hl (by omega)
      simpa [lev] using this
theorem up {α : Type} {f : Nat → Option α} (h : ∀ k, LeO (f k) (f (k + 1))) {k m : Nat} (hk : k ≤ m) {r : α} (e : f k = some r) : f m = some r := by
  obtain ⟨d, rfl⟩ : ∃ d, m = k + d := ⟨m - k, by omega⟩
  clear hk
  induction d with
  | zero => exact e
  | succ d ih => exact h _ _ ih
theorem leb_snoc (i : Nat) : ∀ v, leb (i + 1) v = leb i v ++ [v / 2 ^ (8 * i) % 256] := by
  induction i with
  | zero => intro v; simp [leb]
  | succ i ih =>
    intro v
    rw [show leb (i + 1 + 1) v = v % 256 :: leb (i + 1) (v / 256) from rfl, ih (v / 256)]
    rw [show leb (i + 1) v = v % 256 :: leb i (v / 256) from rfl, List.cons_append]
    congr 3
    rw [show 8 * (i + 1) = 8 + 8 * i by omega, Int.pow_add, ← Int.ediv_ediv_of_nonneg (by exact Int.pow_nonneg (by omega))]
    rfl
theorem leb_mod (n : Nat) : ∀ (v : Int) (j : Nat), leb n (v % 2 ^ (8 * (n + j))) = leb n v := by
  induction n with
  | zero => intro v j; rfl
  | succ n ih =>
    intro v j
    simp only [leb]
    have hp : (2 : Int) ^ (8 * (n + 1 + j)) = 256 * 2 ^ (8 * (n + j)) := by
      rw [show 8 * (n + 1 + j) = 8 + 8 * (n + j) by omega, Int.pow_add]
      rfl
    have h1 : v % 2 ^ (8 * (n + 1 + j)) % 256 = v % 256 := by
      rw [hp]
      exact Int.emod_emod_of_dvd v (Int.dvd_mul_right _ _)
    have h2 : v % 2 ^ (8 * (n + 1 + j)) / 256 = v / 256 % 2 ^ (8 * (n + j)) := by
      rw [hp]
      have hpos : (0 : Int) < 2 ^ (8 * (n + j)) := Int.pow_pos (by omega)
      generalize (2 : Int) ^ (8 * (n + j)) = B at *
      rw [Int.emod_def v (256 * B), Int.emod_def (v / 256) B, Int.mul_assoc, Int.sub_mul_ediv_left v _ (by omega : (256 : Int) ≠ 0), Int.ediv_ediv_of_nonneg (by omega)]
    rw [h1, h2, ih (v / 256) j]
theorem leb_wrap (n : Nat) (hn : n ≤ 8) (v : Int) : leb n (IntKind.u64.wrap v) = leb n v := by
  obtain ⟨j, hj⟩ : ∃ j, n + j = 8 := ⟨8 - n, by omega⟩
  have := leb_mod n v j
  rw [hj] at this
  exact this
theorem refPut_l0 (d : Nat) : ∀ (k : Nat) (x0 : List Int) (v n i : Int), 0 ≤ i → n ≤ 8 → n - i = d → d < k → x0.length + d ≤ 140737488355328 →
    dovetailref1_Put.l0 k x0 v n i = some (x0 ++ leb d (v / 2 ^ (8 * i).toNat)) := by
  induction d with
  | zero =>
    intro k x0 v n i h0 h8 hd hk hl
    obtain ⟨k, rfl⟩ : ∃ m, k = m + 1 := ⟨k - 1, by omega⟩
    simp only [dovetailref1_Put.l0, leb]
    rw [if_neg (by omega), List.append_nil]
  | succ d ih =>
    intro k x0 v n i h0 h8 hd hk hl
    obtain ⟨k, rfl⟩ : ∃ m, k = m + 1 := ⟨k - 1, by omega⟩
    have e1 : wrap64 (8 * i) = 8 * i := w64_in (by omega) (by omega)
    have e2 : wrap64 (i + 1) = i + 1 := w64_in (by omega) (by omega)
    have e3 : shr .u64 v (8 * i) = v / 2 ^ (8 * i).toNat := shr64 (by omega) (by omega)
    have e4 : v / 2 ^ (8 * (i + 1)).toNat = v / 2 ^ (8 * i).toNat / 256 := by
      rw [show (8 * (i + 1)).toNat = (8 * i).toNat + 8 by omega, Int.pow_add, ← Int.ediv_ediv_of_nonneg (by exact Int.pow_nonneg (by omega))]
      rfl
    simp only [dovetailref1_Put.l0]
    rw [if_pos (by omega), e1, if_pos (by omega), if_pos (by omega), e2, e3, ih k _ v n (i + 1) (by omega) h8 (by omega) (by omega) (by simp; omega), e4]
    simp [leb]
theorem refPut_eq (k : Nat) (x0 : List Int) (v : Int) (n : Nat) (hn : n ≤ 8) (hk : n < k) (hl : x0.length + n ≤ 140737488355328) : dovetailref1_Put.f k x0 v n = some (x0 ++ leb n v) := by
  unfold dovetailref1_Put.f
  rw [refPut_l0 n k x0 v n 0 (by omega) (by omega) (by omega) hk hl]
  simp
theorem rd_at (l : List Int) (i : Nat) (h : i < l.length) : rd l i = l[i] := by
  unfold rd
  rw [Int.toNat_natCast, List.getD_eq_getElem?_getD, List.getElem?_eq_getElem h]
  rfl
theorem flatMap_leb_length (n : Nat) (l : List Int) : (l.flatMap (leb n)).length = n * l.length := by
  have := flat_len n (fun x => x) l
  simpa using this
theorem flatMap_leb_byt (n : Nat) (l : List Int) : Byt (l.flatMap (leb n)) := by
  intro x hx
  obtain ⟨a, _, ha⟩ := List.mem_flatMap.1 hx
  exact leb_byt n a x ha
end Go.Proofs.Ythjlhoclmbnjgaa.Q
