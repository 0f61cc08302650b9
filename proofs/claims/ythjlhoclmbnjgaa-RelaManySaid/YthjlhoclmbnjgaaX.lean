/- Words of this session's own: lemmas over lists and the kit's laws, used by the texts of this claim. -/
import Derived.Test.YthjlhoclmbnjgaaWWords
import Derived.Test.YthjlhoclmbnjgaaWLast
import Derived.Test.YthjlhoclmbnjgaaWTab
import Derived.Test.YthjlhoclmbnjgaaWFour
import Derived.Test.YthjlhoclmbnjgaaWQPut
import Derived.Test.YthjlhoclmbnjgaaWApart
import Derived.Test.YthjlhoclmbnjgaaWArr
import Derived.Test.YthjlhoclmbnjgaaWZeros
import Derived.Test.YthjlhoclmbnjgaaWFoot
import Derived.Test.YthjlhoclmbnjgaaWKept
import Derived.Test.YthjlhoclmbnjgaaWShare
import Derived.Test.YthjlhoclmbnjgaaWN
import Derived.Test.YthjlhoclmbnjgaaWFootNe
import Derived.Test.YthjlhoclmbnjgaaWAt
import Derived.Test.YthjlhoclmbnjgaaWEqStruct
import Derived.Test.YthjlhoclmbnjgaaWRepsOne
import Derived.Test.YthjlhoclmbnjgaaWInv
import Derived.Test.YthjlhoclmbnjgaaWInvWords
import Derived.Test.YthjlhoclmbnjgaaWGuard
import Derived.Test.YthjlhoclmbnjgaaWNEv
import Derived.Test.YthjlhoclmbnjgaaWMore
import Derived.WalkSpells
import Derived.Deep.RegionLaw
import Derived.Laws.CopyOwn
import Derived.Maps.OwnSet
import Derived.Maps.Views
import Derived.Deep.Slices
import Derived.ChangeArms
namespace Go.Proofs.YthjlhoclmbnjgaaX
open Go.RowKit Go.Proofs.YthjlhoclmbnjgaaW.PrintWords Go.Proofs.YthjlhoclmbnjgaaW.PrintLast Go.Proofs.YthjlhoclmbnjgaaW.PrintMore
set_option linter.unusedVariables false
set_option linter.unusedSimpArgs false
section
variable {P : Program} {ops : Array Oper} {rest : List Oper} {o : Oper} {a : Act} {Q : Exit → Act → World → Prop}
/-- An append of one element to a slice that is full, whoever's it is: a new row. -/
theorem C_append_full {α : Type} (enc : α → Value) (d : α) {h1 : ∀ x : α, (enc x).oneCell' = true} {W : World} (hgd : o.guard = none) (s x : Operand) (t e : TypeId) (z : Value) (bytes : Nat)
    (ho : o.op = .call { callee := .builtin .append, args := #[s, x], argTypes := #[t, t] })
    (ht : P.underlying t = some (.slice e)) (hinfo : (P.info? e).map (fun i => (i.zero, i.size, i.bytes)) = some (some z, 1, bytes)) (hz : z.cells.size = 1)
    (A : Option Addr) (xs : List α) (p : α) (hs : a.eval s = .slice A xs.length xs.length) (hx : a.eval x = .slice (some ⟨W.heap.size, 0, none⟩) 1 1)
    (HR : (Kd.scalar enc h1).C W A xs.length xs) (hb : 0 < bytes) (hl : (xs.length + 1) * bytes ≤ 140737488355328)
    (h : ∀ v1 w1, (Kd.scalar enc h1).R e w1 W.heap.size (fun _ => True) v1 (xs ++ [p]) → Below W.heap.size W w1 → wpList P ops Q rest (a.put o.dst v1) w1) :
    wpList P ops Q (o :: rest) a (W.alloc (.cells #[enc p] e)) := by
  obtain ⟨i0, hi, hzz⟩ := Option.map_eq_some_iff.1 hinfo
  simp only [Prod.mk.injEq] at hzz
  obtain ⟨hz0, hz1, hz2⟩ := hzz
  have HR' := Kd.reads_of_C (d := d) (Kd.C_alloc HR (.cells #[enc p] e))
  have hsmall : xs.length + 1 ≤ 140737488355328 := Nat.le_trans (Nat.le_mul_of_pos_right _ hb) hl
  refine wpList_append_grows (W.alloc (.cells #[enc p] e)) hgd s x t ho e i0 z 1 bytes ht hi hz0 hz1 hz2 hz (by omega) A xs.length xs.length (encs enc xs) hs ?_ (by rw [encs_length, Nat.mul_one]) ?_
    ⟨W.heap.size, 0, none⟩ 1 1 [enc p] hx rfl ?_ ?_ (by omega) (by unfold maxLen; omega) hl ?_
  · rintro rfl
    have : xs.length = 0 := by
      rcases Nat.eq_zero_or_pos xs.length with h0 | h0
      · exact h0
      · obtain ⟨_, he, _⟩ := HR'.2.2 h0
        cases he
    exact ⟨this, this⟩
  · rintro b rfl j u hj
    have hlt : j < xs.length := by
      have := (List.getElem?_eq_some_iff.1 hj).1
      rwa [encs_length] at this
    obtain ⟨ad, he, hc⟩ := HR'.2.2 (by omega)
    injection he with he
    subst he
    rw [hc j hlt, ← hj, encs_get (d := d) xs j hlt]
  · intro j u hj
    rw [add_plain, World.cell?_alloc_at _ _ _ _ rfl]
    simpa using hj
  · intro u hu
    rw [List.mem_singleton.1 hu]
    exact h1 _
  · intro v' w' hown hg
    have hown' : w'.ownsRow W.heap.size e 1 v' (xs ++ [p]).length (encs enc (xs ++ [p])) := by
      rw [encs_append, List.length_append]
      exact own_weaken hown (by simp)
    refine h v' w' (Kd.R_of_own hown' (fun _ _ => trivial)) ?_
    exact ((Below.refl _ _).alloc (Nat.le_refl _) _).grown hg (by simp) (fun k hk => by cases hk)
end


/-- A number's bytes, the lowest first. -/
def leb : Nat → Int → List Int
  | 0, _ => []
  | n + 1, v => v % 256 :: leb n (v / 256)
theorem leb_length (n : Nat) : ∀ v, (leb n v).length = n := by
  induction n with
  | zero => intro v; rfl
  | succ n ih => intro v; simp [leb, ih]
theorem take_flat {α : Type} (f : Int → List α) (l : List Int) (j : Nat) (h : j < l.length) : (l.take (j + 1)).flatMap f = (l.take j).flatMap f ++ f (rd l j) := by
  rw [List.take_succ_eq_append_getElem h, List.flatMap_append]
  simp [rd, h]
theorem flat_len (n : Nat) (g : Int → Int) (l : List Int) : (l.flatMap fun x => leb n (g x)).length = n * l.length := by
  induction l with
  | nil => rfl
  | cons x l ih => simp [leb_length, ih, Nat.mul_add]; omega

theorem splice_take {α : Type} (L X cs : List α) (p m : Nat) (h : L.take m = X) (hX : X.length = m) (hp : p + cs.length ≤ m) : (splice L p cs).take m = X.take p ++ cs ++ X.drop (p + cs.length) := by
  have hL : L = X ++ L.drop m := by rw [← h, List.take_append_drop]
  have e1 : L.take p = X.take p := by rw [hL, List.take_append_of_le_length (by omega)]
  have e2 : L.drop (p + cs.length) = X.drop (p + cs.length) ++ L.drop m := by
    conv => lhs; rw [hL]
    rw [List.drop_append_of_le_length (by omega)]
  have e3 : (X.take p ++ cs ++ X.drop (p + cs.length)).length = m := by simp; omega
  unfold splice
  rw [e1, e2, ← List.append_assoc, ← List.append_assoc, List.take_append_of_le_length (by omega), List.take_of_length_le (by omega)]/-! ### a map of numbers, filled pair by pair -/
/-- The map that has been filled with these pairs, the newest first. -/
def MD (M : List (Int × Int)) : DataW Unit := M.foldr (fun p D => D.put (.int .i64 p.1) (.lit (.int .i64 p.2))) (.map [])
theorem MD_isMap (M : List (Int × Int)) : Go.Maps.IsMap (MD M) := by
  induction M with
  | nil => exact Go.Maps.isMap_empty
  | cons p M ih => exact ih.put _ _
theorem MD_has (M : List (Int × Int)) (m : Int) : Go.Maps.has (MD M) (.int .i64 m) = (M.lookup m).isSome := by
  induction M with
  | nil => rfl
  | cons p M ih =>
    obtain ⟨a, b⟩ := p
    show Go.Maps.has ((MD M).put (.int .i64 a) (.lit (.int .i64 b))) (.int .i64 m) = _
    rw [List.lookup_cons]
    by_cases h : m = a
    · subst h
      rw [Go.Maps.has_put_same (MD_isMap M) (by trivial), beq_self_eq_true]
      rfl
    · rw [Go.Maps.has_put_other (by simp; omega), ih, beq_eq_false_iff_ne.2 h]
theorem MD_at (M : List (Int × Int)) (m : Int) : (MD M).atKey (.int .i64 m) (.lit (.int .i64 0)) = .lit (.int .i64 ((M.lookup m).getD 0)) := by
  induction M with
  | nil => rfl
  | cons p M ih =>
    obtain ⟨a, b⟩ := p
    show ((MD M).put (.int .i64 a) (.lit (.int .i64 b))).atKey (.int .i64 m) _ = _
    rw [List.lookup_cons]
    by_cases h : m = a
    · subst h
      rw [Go.Maps.atKey_put_same (MD_isMap M) (by trivial), beq_self_eq_true]
      rfl
    · rw [Go.Maps.atKey_put_other (by simp; omega), ih, beq_eq_false_iff_ne.2 h]
/-- One list's numbers, held against what was there. -/
def chkRow (i : Int) : List Int → List (Int × Int) → Option (List (Int × Int))
  | [], M => some M
  | m :: ms, M => if (M.lookup m).isSome = true ∧ (M.lookup m).getD 0 ≠ i then none else chkRow i ms ((m, i) :: M)
def chkAll : Nat → List (List Int) → List (Int × Int) → Int
  | _, [], _ => 0
  | i, r :: rs, M => match chkRow i r M with
    | none => 34
    | some M' => chkAll (i + 1) rs M'
/-- What is left of a list's numbers, and of the lists. -/
def chkFrom (i : Nat) (ms : List Int) (rs : List (List Int)) (M : List (Int × Int)) : Int := match chkRow i ms M with
  | none => 34
  | some M' => chkAll (i + 1) rs M'
def total (l : List (List Int)) : Nat := (l.map List.length).sum
theorem total_take (l : List (List Int)) (i : Nat) (h : i < l.length) : total (l.take i) + l[i].length = total (l.take (i + 1)) := by
  unfold total
  rw [List.take_succ_eq_append_getElem h, List.map_append, List.sum_append]
  simp
theorem total_take_le (l : List (List Int)) (i : Nat) : total (l.take i) ≤ total l := by
  unfold total
  conv => rhs; rw [← List.take_append_drop i l, List.map_append, List.sum_append]
  omega
/-! ### what came in, opened by its kind -/
/-- Whatever can be read as data of type t reads, cell by cell, as an a of kind d that is ok. -/
def Opn {α : Type} (P : Program) (t : TypeId) (d : Kd α) (ok : α → Prop) : Prop :=
  ∀ {H : Type} (enc : TypeId × Value → H) (W : World) (base : Nat) (spare : Nat → Bool) (held : Bool) (fuel : Nat) (cs : List Value) (x : DataW H × List MemPlace), DataW.trod enc P W base spare held fuel t cs = some x → ∃ a : α, d.K W a cs ∧ ok a
theorem Opn.int {P : Program} {t : TypeId} {k : IntKind} (ht : P.underlying t = some (.int k)) : Opn P t (Kd.int k) (fun n => (Lit.int k n).wf = true) := by
  intro H enc W base spare held fuel cs x h
  obtain ⟨n, rfl, _, hw⟩ := DataW.trod_int ht h
  exact ⟨n, rfl, hw⟩
theorem Opn.bool {P : Program} {t : TypeId} (ht : P.underlying t = some .bool) : Opn P t Kd.bool (fun _ => True) := by
  intro H enc W base spare held fuel cs x h
  obtain ⟨n, rfl, _⟩ := DataW.trod_bool ht h
  exact ⟨n, rfl, trivial⟩
theorem Opn.string {P : Program} {t : TypeId} (ht : P.underlying t = some .string) : Opn P t Kd.string (fun s => s.size ≤ maxLen) := by
  intro H enc W base spare held fuel cs x h
  obtain ⟨n, rfl, _, hs⟩ := DataW.trod_string ht h
  exact ⟨n, rfl, hs⟩
theorem Opn.slice {α : Type} [Inhabited α] {P : Program} {t e : TypeId} {d : Kd α} {ok : α → Prop} (ht : P.underlying t = some (.slice e)) (hc : P.cellsOf e = d.sz) (hd : Opn P e d ok) : Opn P t (Kd.slice e d) (fun xs => ∀ x ∈ xs, ok x) := by
  intro H enc W base spare held fuel cs x h
  rcases Go.Deep.open_slice ht h with ⟨rfl, _⟩ | ⟨a, len, cap, m, n, D, Pl, rfl, hb, hl, hm, hmm, rfl, hx⟩
  · exact ⟨[], ⟨none, 0, rfl, Nat.le_refl _, Kd.C_nil d W⟩, fun x hx => by simp at hx⟩
  · have hlm : len ≤ m := by rw [hmm]; split <;> omega
    obtain ⟨f, hf⟩ := Go.Deep.choose_lt (n := len) (p := fun i y => ∃ cs', W.cells? base (a.add (i * P.cellsOf e)) (P.cellsOf e) = some cs' ∧ d.K W y cs' ∧ ok y) (fun i hi => by
      obtain ⟨cs', h1, h2⟩ := hx i (by omega)
      obtain ⟨y, hy, hok⟩ := hd enc W base spare held n cs' _ h2
      exact ⟨y, cs', h1, hy, hok⟩)
    have hlen : ((List.range len).map f).length = len := by simp
    refine ⟨(List.range len).map f, ⟨some a, cap, by rw [hlen], by rw [hlen]; exact hl, ?_⟩, ?_⟩
    · rw [hlen]
      refine ⟨hlen, by have := hm; unfold maxLen at this; omega, fun _ => ⟨a, rfl, fun j p hj => ?_⟩⟩
      have hjl : j < len := by
        have := (List.getElem?_eq_some_iff.1 hj).1
        simpa using this
      have hp : p = f j := by
        rw [List.getElem?_map, List.getElem?_range hjl] at hj
        simpa using hj.symm
      subst hp
      obtain ⟨cs', h1, h2, _⟩ := hf j hjl
      obtain ⟨_, h4, h5⟩ := World.cells?_some h1
      refine ⟨cs', d.K_len h2, h2, fun i u hu => ?_⟩
      have hi : i < P.cellsOf e := by rw [← h4]; exact (List.getElem?_eq_some_iff.1 hu).1
      have := h5 i hi
      rw [Go.Deep.add_add, hu, hc] at this
      exact this
    · intro x hx
      obtain ⟨i, hi, rfl⟩ := List.mem_map.1 hx
      obtain ⟨_, _, _, h3⟩ := hf i (by simpa using hi)
      exact h3
/-- The fields from offset o on. -/
def OpnFs {α : Type} (P : Program) (o : Nat) (fs : List Field) (d : Kd α) (ok : α → Prop) : Prop :=
  ∀ {H : Type} (enc : TypeId × Value → H) (W : World) (base : Nat) (spare : Nat → Bool) (held : Bool) (fuel : Nat) (cs : List Value), cs.length = o + d.sz → (∀ f ∈ fs, ∃ y, DataW.trod enc P W base spare held fuel f.type ((cs.drop f.offset).take (P.cellsOf f.type)) = some y) → ∃ a : α, d.K W a (cs.drop o) ∧ ok a
theorem OpnFs.one {α : Type} {P : Program} {o : Nat} {f : Field} {d : Kd α} {ok : α → Prop} (ho : f.offset = o) (hc : P.cellsOf f.type = d.sz) (hd : Opn P f.type d ok) : OpnFs P o [f] d ok := by
  intro H enc W base spare held fuel cs hl h
  obtain ⟨y, hy⟩ := h f (by simp)
  rw [ho, hc, List.take_of_length_le (by rw [List.length_drop]; omega)] at hy
  exact hd enc W base spare held fuel _ y hy
theorem OpnFs.cons {α β : Type} {P : Program} {o : Nat} {f : Field} {fs : List Field} {d : Kd α} {d' : Kd β} {ok : α → Prop} {ok' : β → Prop} (ho : f.offset = o) (hc : P.cellsOf f.type = d.sz) (hd : Opn P f.type d ok) (hr : OpnFs P (o + d.sz) fs d' ok') :
    OpnFs P o (f :: fs) (Kd.pair d d') (fun x => ok x.1 ∧ ok' x.2) := by
  intro H enc W base spare held fuel cs hl h
  obtain ⟨y, hy⟩ := h f (by simp)
  have hsz : (Kd.pair d d').sz = d.sz + d'.sz := rfl
  rw [ho, hc] at hy
  obtain ⟨a, ha, hok⟩ := hd enc W base spare held fuel _ y hy
  obtain ⟨b, hb, hok'⟩ := hr enc W base spare held fuel cs (by omega) (fun f hf => h f (by simp [hf]))
  refine ⟨(a, b), ⟨(cs.drop o).take d.sz, (cs.drop o).drop d.sz, (List.take_append_drop _ _).symm, ha, ?_⟩, hok, hok'⟩
  rw [List.drop_drop]
  exact hb
theorem Opn.struct {α : Type} {P : Program} {t : TypeId} {fs : List Field} {d : Kd α} {ok : α → Prop} (ht : P.underlying t = some (.struct fs.toArray)) (hc : P.cellsOf t = d.sz) (hd : OpnFs P 0 fs d ok) : Opn P t d ok := by
  intro H enc W base spare held fuel cs x h
  obtain ⟨xs, n, _, _, hl, hxs, hf⟩ := DataW.trod_struct ht h
  have := hd enc W base spare held n cs (by omega) (fun f hm => by
    obtain ⟨i, hi, rfl⟩ := List.getElem_of_mem hm
    have h1 := hf i fs[i] (by simp)
    have hi' : i < xs.length := by rw [hxs]; simpa using hi
    rw [List.getElem?_eq_getElem hi'] at h1
    exact ⟨_, h1⟩)
  simpa using this
theorem Opn.iso {α β : Type} {P : Program} {t : TypeId} {d : Kd α} {ok : α → Prop} {f : β → α} (g : α → β) (hg : ∀ a, f (g a) = a) (hd : Opn P t d ok) : Opn P t (Kd.iso d f) (fun b => ok (f b)) := by
  intro H enc W base spare held fuel cs x h
  obtain ⟨a, ha, hok⟩ := hd enc W base spare held fuel cs x h
  refine ⟨g a, ?_, ?_⟩
  · show d.K W (f (g a)) cs
    rw [hg]
    exact ha
  · show ok (f (g a))
    rw [hg]
    exact hok
end Go.Proofs.YthjlhoclmbnjgaaX
