-- printed by this session's program (wip/print), out of the translation; Lean checks it
import Derived.Test.YtojhnljjfmgjdaaP0
import Derived.Test.YtojhnljjfmgjdaaP54
namespace Go.Proofs.Ytojhnljjfmgjdaa.P
open Go.RowKit Go.Proofs.YtojhnljjfmgjdaaW.PrintWords Go.Proofs.YtojhnljjfmgjdaaW.PrintLast Go.Proofs.YtojhnljjfmgjdaaW.PrintMore
attribute [local go_sem] max2_int min2_int max_two min_two max_three min_three max_four min_four   -- for this text's walks alone
set_option linter.unusedVariables false
set_option linter.unusedSimpArgs false
open Go.Proofs.YtojhnljjfmgjdaaX

/-! ### strtab_Build: function 29, by hand -/
/-- A name's bytes, up to the first nought. -/
def cutL (s : ByteArray) : List UInt8 := (cut0 s).1.data.toList
def bldStep (st : List Int × List (List UInt8 × Int) × List Int) (s : ByteArray) : List Int × List (List UInt8 × Int) × List Int :=
  match st.2.1.lookup (cutL s) with
  | some o => (st.1, st.2.1, st.2.2 ++ [o])
  | none => (st.1 ++ bytesOf (cut0 s).1 ++ [0], (cutL s, (st.1.length : Int)) :: st.2.1, st.2.2 ++ [(st.1.length : Int)])
def bldAll (l : List ByteArray) : List Int × List (List UInt8 × Int) × List Int := l.foldl bldStep ([0], [([], 0)], [])
def bldSize (l : List ByteArray) : Nat := (l.map fun s => s.size + 1).sum
theorem bldSize_take (l : List ByteArray) (i : Nat) (h : i < l.length) : bldSize (l.take i) + l[i].size + 1 = bldSize (l.take (i + 1)) := by
  unfold bldSize
  rw [List.take_succ_eq_append_getElem h, List.map_append, List.sum_append]
  simp
  omega
theorem bldSize_le (l : List ByteArray) (i : Nat) : bldSize (l.take i) ≤ bldSize l := by
  unfold bldSize
  conv => rhs; rw [← List.take_append_drop i l, List.map_append, List.sum_append]
  omega
theorem bldAll_take (l : List ByteArray) (i : Nat) (h : i < l.length) : bldAll (l.take (i + 1)) = bldStep (bldAll (l.take i)) l[i] := by
  unfold bldAll
  rw [List.take_succ_eq_append_getElem h, List.foldl_append]
  rfl
theorem cut0_size (s : ByteArray) : (cut0 s).1.size ≤ s.size := by
  unfold cut0
  split
  · exact Nat.le_refl _
  · simp [ByteArray.size_extract]
    omega
def strtab_Build.f (l0 : List ByteArray) : Option (List Int × List Int) := if bldSize l0 < 4294967000 then some ((bldAll l0).1, (bldAll l0).2.2) else none
theorem strtab_Build.key : Go.Maps.Keyed Try.prog 9 := Go.Maps.string_keyed Try.underlying9
theorem strtab_Build.zero (w : World) : (zeroValue 43).run Try.prog w = .ok (.int .u32 0) w := by kernel_rfl
structure BldSt (w wr : World) (v4 v6 : Value) (st : List Int × List (List UInt8 × Int) × List Int) (B i sz : Nat) : Prop where
  tab : wr.ownsRow w.heap.size 5 1 v4 st.1.length (nums .u8 st.1)
  out : wr.ownsRow w.heap.size 43 1 v6 st.2.2.length (nums .u32 st.2.2)
  map : wr.ownsMap Try.prog 9 (plainElem (H := Unit) Try.prog 43) B st.2.1.length (MS st.2.1)
  mge : w.heap.size ≤ B
  bel : Below w.heap.size w wr
  l1 : st.1.length ≤ sz + 1
  l2 : st.2.1.length ≤ i + 1
  l3 : st.2.2.length ≤ i
theorem BldSt.old {w wr w8 : World} {v4 v6 v1 : Value} {tab out : List Int} {M : List (List UInt8 × Int)} {B i sz nd : Nat} {o : Int} (h : BldSt w wr v4 v6 (tab, M, out) B i sz) (hO : w8.ownsRow w.heap.size 43 1 v1 (out ++ [o]).length (nums .u32 (out ++ [o]))) (hB : Below w.heap.size w w8) (hG : (wr.drewN nd).grownBy w8 v6.ownBlock) (sz' : Nat) (hsz : sz ≤ sz') : BldSt w w8 v4 v1 (tab, M, out ++ [o]) B (i + 1) sz' :=
  ⟨own_other (w := wr.drewN nd) h.tab hG (own_type_ne h.tab h.out (by decide)), hO, World.ownsMap.kept (w := wr.drewN nd) h.map hG (map_ne_row h.map h.out), h.mge, hB, by have : tab.length ≤ sz + 1 := h.l1; show tab.length ≤ sz' + 1; omega, by have : M.length ≤ i + 1 := h.l2; show M.length ≤ i + 1 + 1; omega, by have : out.length ≤ i := h.l3; show (out ++ [o]).length ≤ i + 1; rw [List.length_append, List.length_singleton]; omega⟩
theorem bldSize_ge (l : List ByteArray) : l.length ≤ bldSize l := by
  unfold bldSize
  induction l with
  | nil => simp
  | cons a l ih => simp only [List.map_cons, List.sum_cons, List.length_cons]; omega
set_option maxHeartbeats 16000000 in
set_option maxRecDepth 100000 in
theorem strtab_Build.calls (A0 : Option Addr) (c0 : Nat) (l0 : List ByteArray) (r1 r2 : List Int) (w : World) (hr0 : Kd.C Kd.string w A0 l0.length l0) (hc0 : l0.length ≤ c0) (h : strtab_Build.f l0 = some (r1, r2)) :
    Calls Try.prog 29 #[.slice A0 l0.length c0] w fun e w' => ∃ v0_ v1_ : Value, e = .returned (.tuple #[v0_, v1_]) ∧ Kd.R (Kd.int .u8) 5 w' w.heap.size (fun _ => True) v0_ r1 ∧ Kd.R (Kd.int .u32) 43 w' w.heap.size (fun _ => True) v1_ r2 ∧ Below w.heap.size w w' := by
  unfold strtab_Build.f at h
  split at h
  case isFalse => cases h
  rename_i hsz
  have h := Option.some.inj h
  have hm : l0.length ≤ 9223372036854775807 := hr0.2.1
  have HR0 := Aside0.mk hr0
  have HSZ := Aside0.mk hsz
  have HH := Aside0.mk h
  clear hr0 hc0 hsz h
  have hmm := @run_makeMap Try.prog
  have HM0 : Aside0 (((w.alloc (.cells #[.int .u8 0] 5)).alloc (.map #[] 0)).ownsMap Try.prog 9 (plainElem (H := Unit) Try.prog 43) (w.heap.size + 1) 0 (MS [])) := ⟨by
    have := World.ownsMap_made (w.alloc (.cells #[.int .u8 0] 5)) Try.prog 9 (plainElem (H := Unit) Try.prog 43)
    rw [show (w.alloc (.cells #[.int .u8 0] 5)).heap.size = w.heap.size + 1 from by simp] at this
    exact this⟩
  have HT0 : Aside0 (((w.alloc (.cells #[.int .u8 0] 5)).alloc (.map #[] 0)).ownsRow w.heap.size 5 1 (.slice (some ⟨w.heap.size, 0, none⟩) 1 1) 1 (nums .u8 [0])) := ⟨(own_lit w w.heap.size 5 .u8 [0] (Nat.le_refl _) (by decide)).alloc _⟩
  obtain ⟨w1, hrun, hown1, hgrow1⟩ := HM0.out.update strtab_Build.key Try.underlying83 (by decide) (key := .string ⟨#[]⟩) (val := .int .u32 0) (kl := .string []) (d := .lit (.int .u32 0)) (ps := []) (Go.WideMaps.keyOf_string_mk Try.underlying9 (by decide)) (plainElem_int Try.underlying43 (by decide))
  have HM := Aside0.mk hown1
  have HG := Aside0.mk hgrow1
  clear hown1 hgrow1
  have HST : Aside0 (BldSt w w1 (.slice (some ⟨w.heap.size, 0, none⟩) 1 1) (.slice none 0 0) (bldAll (l0.take 0)) (w.heap.size + 1) 0 (bldSize (l0.take 0))) := ⟨⟨HT0.out.kept HG.out (.inr (by show some w.heap.size ≠ some (w.heap.size + 1); intro e; have := Option.some.inj e; omega)), own_nil _ _ _ _, HM.out, by omega, (below_alloc (below_alloc (Below.refl _ _) _) _).grown HG.out (by simp; omega) (fun k hk => by have := Option.some.inj hk; omega), by simp [bldAll], by simp [bldAll], by simp [bldAll]⟩⟩
  clear HM0 HT0 HM HG
  go_enter Try.func29, Try.ntmps29
  go_wp2_with fail
  go_loopw [4, 6, 16] (fun v4 v6 v16 wr => ∃ i : Nat, i ≤ l0.length ∧ v16 = .int .i64 i ∧ Aside0 (BldSt w wr v4 v6 (bldAll (l0.take i)) (w.heap.size + 1) i (bldSize (l0.take i)))) (fun _ _ i _ => l0.length - (intOf i).toNat)
  case atStart => exact ⟨0, Nat.zero_le _, rfl, HST⟩
  case round =>
    clear HST
    obtain ⟨i, hi, rfl, HS⟩ := hrel
    by_cases hlt : i < l0.length
    · obtain ⟨ad, rfl, hc⟩ := (Kd.reads_of_C (d := (⟨#[]⟩ : ByteArray)) HR0.out).2.2 (by omega)
      have hcell := pw_cell_below HS.out.bel (hc i hlt)
      rw [List.getD_eq_getElem?_getD, List.getElem?_eq_getElem hlt, Option.getD_some] at hcell
      have hz1 := bldSize_take l0 i hlt
      have hz2 := bldSize_le l0 (i + 1)
      have hst := bldAll_take l0 i hlt
      have HB : Aside0 (l0[i].size ≤ 4294967000 ∧ (bldAll (l0.take i)).1.length ≤ 4294967000 ∧ bldSize (l0.take i) + l0[i].size + 1 = bldSize (l0.take (i + 1))) := ⟨by have := HSZ.out; have := HS.out.l1; omega, by have := HSZ.out; have := HS.out.l1; omega, hz1⟩
      have HN := Aside0.mk hst
      clear hc hz1 hz2 hst
      generalize l0[i] = s at *
      have HCut := Aside0.mk (strings_Cut.calls0 s wr (by have := HB.out.1; omega))
      have HKey := Aside0.mk (Go.WideMaps.keyOf_string_mk Try.underlying9 (s := (cut0 s).1) (by have := HB.out.1; have := cut0_size s; unfold maxLen; omega))
      obtain ⟨st, hst⟩ : ∃ st, st = bldAll (l0.take i) := ⟨_, rfl⟩
      rw [← hst] at HS HN HB
      have HC2 : Aside0 ((cut0 s).1.size ≤ s.size) := ⟨cut0_size s⟩
      have HI : Aside0 (i < l0.length ∧ l0.length ≤ 4294967000) := ⟨hlt, by have := HSZ.out; have := bldSize_ge l0; omega⟩
      obtain ⟨tab, M, out⟩ := st
      have hlen : (tab.length : Int) < 4294967296 := by have := HB.out.2.1; simp only at this; omega
      have hlen0 : 0 ≤ (tab.length : Int) := by omega
      obtain ⟨A4, c4, e4⟩ := own_slice HS.out.tab
      subst e4
      cases hlk : M.lookup (cutL s) with
      | some o =>
        have hN : bldAll (l0.take (i + 1)) = (tab, M, out ++ [o]) := by rw [HN.out]; unfold bldStep; simp only [hlk]
        have HN2 := Aside0.mk hN
        have HLK := Aside0.mk hlk
        clear hN hlk HN hst
        go_wp2_with (first
          | (go_at_call 49; (with_reducible refine HCut.out.mono ?_); rintro e w' ⟨rfl, ⟨⟨nd, rfl⟩⟩⟩)
          | (at_lookup; (refine wpList_lookup_own_ok_int _ rfl (.tmp 27) (.tmp 28) 83 rfl 9 43 .u32 strtab_Build.key Try.underlying83 Try.underlying43 (strtab_Build.zero _) (w.heap.size + 1) M.length (MS M) rfl HS.out.map _ _ rfl HKey.out ?_); intro c hat hwc; rw [show (cut0 s).1.data.toList = cutL s from rfl, MS_at, HLK.out, Option.getD_some] at hat; injection hat with hat; injection hat with _ hat; subst hat; rw [show (cut0 s).1.data.toList = cutL s from rfl, MS_has, HLK.out]; clear hwc)
          | (at_builtin; refine print_append_num (w0 := w) w.heap.size rfl (.tmp 45) (.tmp 47) 57 43 .u32 4 rfl Try.underlying57 info43 (by decide) u6 out o rfl rfl HS.out.out (pw_below_drewN HS.out.bel nd) (below_size (pw_below_drewN HS.out.bel nd)) (by have : out.length ≤ i := HS.out.l3; have := HI.out; omega) ?_; intro v1 w8 hown hB hg hat; have HE := Aside0.mk (BldSt.old HS.out hown hB hg); clear hown hB hg hat))
        go_roundw
        case measure => have := HI.out; simp [intOf]; omega
        case rel => exact ⟨i + 1, by have := HI.out; omega, by go_num, ⟨by rw [HN2.out]; exact HE.out _ (by have := HB.out.2.2; omega)⟩⟩
      | none =>
        have hN : bldAll (l0.take (i + 1)) = (tab ++ bytesOf (cut0 s).1 ++ [0], (cutL s, (tab.length : Int)) :: M, out ++ [(tab.length : Int)]) := by rw [HN.out]; unfold bldStep; simp only [hlk]
        have HN2 := Aside0.mk hN
        have HLK := Aside0.mk hlk
        have HW : Aside0 ((Lit.int .u32 (tab.length : Int)).wf = true) := ⟨WalkArith.wf_u32 ⟨hlen0, by omega⟩⟩
        clear hN hlk HN hst
        go_wp2_with (first
          | (go_at_call 49; (with_reducible refine HCut.out.mono ?_); rintro e w' ⟨rfl, ⟨⟨nd, rfl⟩⟩⟩)
          | (at_lookup; (refine wpList_lookup_own_ok_int _ rfl (.tmp 27) (.tmp 28) 83 rfl 9 43 .u32 strtab_Build.key Try.underlying83 Try.underlying43 (strtab_Build.zero _) (w.heap.size + 1) M.length (MS M) rfl HS.out.map _ _ rfl HKey.out ?_); intro c hat hwc; rw [show (cut0 s).1.data.toList = cutL s from rfl, MS_at, HLK.out] at hat; injection hat with hat; injection hat with _ hat; subst hat; rw [show (cut0 s).1.data.toList = cutL s from rfl, MS_has, HLK.out]; clear hwc)
          | (at_mapUpdate; refine wpList_mapUpdate_own _ rfl _ _ _ 83 rfl 9 43 strtab_Build.key Try.underlying83 _ (w.heap.size + 1) M.length (MS M) rfl HS.out.map (by have : M.length ≤ i + 1 := HS.out.l2; have := HI.out; unfold maxLen; omega) _ _ _ rfl rfl HKey.out _ [] (plainElem_int Try.underlying43 HW.out) ?_; intro w5 hown5 hgrow5; have HM5 := Aside0.mk (show w5.ownsMap Try.prog 9 (plainElem (H := Unit) Try.prog 43) (w.heap.size + 1) (M.length + 1) (MS ((cutL s, (tab.length : Int)) :: M)) from hown5); have HT5 := Aside0.mk (own_other (w := wr.drewN nd) HS.out.tab hgrow5 (.inr (fun e => map_ne_row HS.out.map HS.out.tab e.symm))); have HO5 := Aside0.mk (own_other (w := wr.drewN nd) HS.out.out hgrow5 (.inr (fun e => map_ne_row HS.out.map HS.out.out e.symm))); have HB5 := Aside0.mk ((pw_below_drewN HS.out.bel nd).grown hgrow5 (below_size (pw_below_drewN HS.out.bel nd)) (fun k hk => by cases hk; exact HS.out.mge)); clear hown5 hgrow5)
          | ((with_reducible refine gate_dst (N := 42) rfl ?_); at_builtin; refine print_append_str (w0 := w) w.heap.size rfl (.tmp 40) (.tmp 41) 22 9 5 rfl Try.underlying22 Try.underlying9 info5 _ tab (cut0 s).1 rfl rfl HT5.out HB5.out (below_size HB5.out) (by have : tab.length ≤ 4294967000 := HB.out.2.1; have := HB.out.1; have := HC2.out; omega) ?_; intro v41 w6 hown hB hg; have HT6 := Aside0.mk hown; have HB6 := Aside0.mk hB; have HO6 := Aside0.mk (own_other HO5.out hg (own_type_ne HO5.out HT5.out (by decide))); have HM6 := Aside0.mk (HM5.out.kept hg (map_ne_row HM5.out HT5.out)); clear hown hB hg)
          | ((with_reducible refine gate_dst (N := 44) rfl ?_); at_builtin; refine print_append_num (w0 := w) w.heap.size rfl (.tmp 42) (.tmp 43) 22 5 .u8 1 rfl Try.underlying22 info5 (by decide) v41 (tab ++ bytesOf (cut0 s).1) 0 rfl rfl HT6.out HB6.out (below_size HB6.out) (by have : tab.length ≤ 4294967000 := HB.out.2.1; have := HB.out.1; have := HC2.out; rw [List.length_append, bytesOf_length]; omega) ?_; intro v42 w7 hown hB hg hat; have HT7 := Aside0.mk hown; have HB7 := Aside0.mk hB; have HO7 := Aside0.mk (own_other HO6.out hg (own_type_ne HO6.out HT6.out (by decide))); have HM7 := Aside0.mk (HM6.out.kept hg (map_ne_row HM6.out HT6.out)); clear hown hB hg hat)
          | ((with_reducible refine gate_dst (N := 48) rfl ?_); at_builtin; refine print_append_num (w0 := w) w.heap.size rfl (.tmp 45) (.tmp 47) 57 43 .u32 4 rfl Try.underlying57 info43 (by decide) u6 out (tab.length : Int) rfl rfl HO7.out HB7.out (below_size HB7.out) (by have : out.length ≤ i := HS.out.l3; have := HI.out; omega) ?_; intro v61 w8 hown hB hg hat; have HT8 := Aside0.mk (own_other HT7.out hg (own_type_ne HT7.out HO7.out (by decide))); have HM8 := Aside0.mk (HM7.out.kept hg (map_ne_row HM7.out HO7.out)); have HO8 := Aside0.mk hown; have HB8 := Aside0.mk hB; clear hown hB hg hat))
        go_roundw
        case measure => have := HI.out; simp [intOf]; omega
        case rel => exact ⟨i + 1, by have := HI.out; omega, by go_num, ⟨by rw [HN2.out]; exact ⟨HT8.out, HO8.out, HM8.out, HS.out.mge, HB8.out, by have := HB.out.2.2; have := HC2.out; have : tab.length ≤ bldSize (l0.take i) + 1 := HS.out.l1; rw [List.length_append, List.length_append, bytesOf_length, List.length_singleton]; omega, by have : M.length ≤ i + 1 := HS.out.l2; rw [List.length_cons]; omega, by have : out.length ≤ i := HS.out.l3; rw [List.length_append, List.length_singleton]; omega⟩⟩⟩
    · obtain rfl : i = l0.length := by omega
      rw [List.take_length] at HS
      have e := HH.out
      go_wp2
      go_ret2
      exact ⟨_, _, rfl, by rw [← (Prod.mk.inj e).1]; exact Kd.R_of_own HS.out.tab (fun _ _ => trivial), by rw [← (Prod.mk.inj e).2]; exact Kd.R_of_own HS.out.out (fun _ _ => trivial), HS.out.bel⟩

end Go.Proofs.Ytojhnljjfmgjdaa.P
