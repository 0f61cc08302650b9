/-
  No cell of these rows narrows 'for every input' (looked for: loops, veiled, ifaces, maps, wideKeys, modest, calm, conditions, laid).
  DERIVED. THE GIVEN ROWS OF THIS SEAT. 12 by the template 'for every input the law returns true; each argument reads behind the call as it read before'; 0 by the template 'total and deterministic' (their statements: YtojhnljjfmgjdaaTotals.lean).
  GIVEN WITH THE SEED: the statements are not yours to turn. If you find one false, say at which input.
  Laid BY PROGRAM, IN A SANDBOX (cutbox-rows.mjs): the forced cells as the released guide's own fill.sh prints them over the translation 9b115618cc864f35… (all of the seat's roots in one cut). By AI agents, Wed Nov 11 2026. No macro, syntax, notation, axiom, sorry.
-/
import Derived.Test.YtojhnljjfmgjdaaChecked
import GoSem.Claim
import GoSem.ClaimJoined
import GoSem.ClaimMapViews
import Derived.JoinedTies
import Derived.KernelRfl
namespace Go.Proofs.Ytojhnljjfmgjdaa
/- THE CELL 'sum', in the pinned program and in every row, IS THE sha256 OF THE DUMP (.gsa) THAT YtojhnljjfmgjdaaProg.lean LOADS. Nothing in Lean hashes anything: it is a label: what it is worth is what the hold of that sum in a sandbox is worth. -/
noncomputable def Try.pinned : Pinned := { name := "ytojhnljjfmgjdaa", sum := "9b115618cc864f358ac26c731a5b66eb1c5b5fd725534ce0e5a3f92ed87e1da1", checked := Try.checked }
namespace Rows
def none {H : Type} : Left H := { results := [], args := [] }

/-- 'dovetaillaw10.HeadReads': WHATEVER THE INPUT: true; the input reads as it did. -/
def headReadsSpec : ChangeSpec := { name := "headReads", fn := fun _ => fun
  | [d] => { results := [.lit (.bool true)], args := [d] }
  | _ => none }
def headReadsRow : OpenClaim := { program := "ytojhnljjfmgjdaa", sum := "9b115618cc864f358ac26c731a5b66eb1c5b5fd725534ce0e5a3f92ed87e1da1", func := "dovetail/dovetaillaw10.HeadReads", spec := "headReads", apart := false }
def HeadReadsSaid : Prop := headReadsRow.holds Try.pinned (OpenSpec.ofChange headReadsSpec)

/-- ITS FALSE NEIGHBOUR: 'it returns false'. Refute it at one input. -/
def headReadsWrong : ChangeSpec := { name := "headReads", fn := fun _ => fun
  | [d] => { results := [.lit (.bool false)], args := [d] }
  | _ => none }
def HeadReadsWrongFalsely : Prop := headReadsRow.holds Try.pinned (OpenSpec.ofChange headReadsWrong)

/-- 'dovetaillaw10.HeadSpoilt': WHATEVER THE INPUT: true; the input reads as it did. -/
def headSpoiltSpec : ChangeSpec := { name := "headSpoilt", fn := fun _ => fun
  | [d1, d2, d3, d4, d5, d6, d7] => { results := [.lit (.bool true)], args := [d1, d2, d3, d4, d5, d6, d7] }
  | _ => none }
def headSpoiltRow : OpenClaim := { program := "ytojhnljjfmgjdaa", sum := "9b115618cc864f358ac26c731a5b66eb1c5b5fd725534ce0e5a3f92ed87e1da1", func := "dovetail/dovetaillaw10.HeadSpoilt", spec := "headSpoilt", apart := false }
def HeadSpoiltSaid : Prop := headSpoiltRow.holds Try.pinned (OpenSpec.ofChange headSpoiltSpec)

/-- ITS FALSE NEIGHBOUR: 'it returns false'. Refute it at one input. -/
def headSpoiltWrong : ChangeSpec := { name := "headSpoilt", fn := fun _ => fun
  | [d1, d2, d3, d4, d5, d6, d7] => { results := [.lit (.bool false)], args := [d1, d2, d3, d4, d5, d6, d7] }
  | _ => none }
def HeadSpoiltWrongFalsely : Prop := headSpoiltRow.holds Try.pinned (OpenSpec.ofChange headSpoiltWrong)

/-- 'dovetaillaw10.HeadBounds': WHATEVER THE INPUT: true; the input reads as it did. -/
def headBoundsSpec : ChangeSpec := { name := "headBounds", fn := fun _ => fun
  | [d1, d2] => { results := [.lit (.bool true)], args := [d1, d2] }
  | _ => none }
def headBoundsRow : OpenClaim := { program := "ytojhnljjfmgjdaa", sum := "9b115618cc864f358ac26c731a5b66eb1c5b5fd725534ce0e5a3f92ed87e1da1", func := "dovetail/dovetaillaw10.HeadBounds", spec := "headBounds", apart := false }
def HeadBoundsSaid : Prop := headBoundsRow.holds Try.pinned (OpenSpec.ofChange headBoundsSpec)

/-- ITS FALSE NEIGHBOUR: 'it returns false'. Refute it at one input. -/
def headBoundsWrong : ChangeSpec := { name := "headBounds", fn := fun _ => fun
  | [d1, d2] => { results := [.lit (.bool false)], args := [d1, d2] }
  | _ => none }
def HeadBoundsWrongFalsely : Prop := headBoundsRow.holds Try.pinned (OpenSpec.ofChange headBoundsWrong)

/-- 'dovetaillaw10.HeadFields': WHATEVER THE INPUT: true; the input reads as it did. -/
def headFieldsSpec : ChangeSpec := { name := "headFields", fn := fun _ => fun
  | [d1, d2] => { results := [.lit (.bool true)], args := [d1, d2] }
  | _ => none }
def headFieldsRow : OpenClaim := { program := "ytojhnljjfmgjdaa", sum := "9b115618cc864f358ac26c731a5b66eb1c5b5fd725534ce0e5a3f92ed87e1da1", func := "dovetail/dovetaillaw10.HeadFields", spec := "headFields", apart := false }
def HeadFieldsSaid : Prop := headFieldsRow.holds Try.pinned (OpenSpec.ofChange headFieldsSpec)

/-- ITS FALSE NEIGHBOUR: 'it returns false'. Refute it at one input. -/
def headFieldsWrong : ChangeSpec := { name := "headFields", fn := fun _ => fun
  | [d1, d2] => { results := [.lit (.bool false)], args := [d1, d2] }
  | _ => none }
def HeadFieldsWrongFalsely : Prop := headFieldsRow.holds Try.pinned (OpenSpec.ofChange headFieldsWrong)

/-- 'dovetaillaw10.HeadKinds': WHATEVER THE INPUT: true; the input reads as it did. -/
def headKindsSpec : ChangeSpec := { name := "headKinds", fn := fun _ => fun
  | [d1, d2, d3, d4] => { results := [.lit (.bool true)], args := [d1, d2, d3, d4] }
  | _ => none }
def headKindsRow : OpenClaim := { program := "ytojhnljjfmgjdaa", sum := "9b115618cc864f358ac26c731a5b66eb1c5b5fd725534ce0e5a3f92ed87e1da1", func := "dovetail/dovetaillaw10.HeadKinds", spec := "headKinds", apart := false }
def HeadKindsSaid : Prop := headKindsRow.holds Try.pinned (OpenSpec.ofChange headKindsSpec)

/-- ITS FALSE NEIGHBOUR: 'it returns false'. Refute it at one input. -/
def headKindsWrong : ChangeSpec := { name := "headKinds", fn := fun _ => fun
  | [d1, d2, d3, d4] => { results := [.lit (.bool false)], args := [d1, d2, d3, d4] }
  | _ => none }
def HeadKindsWrongFalsely : Prop := headKindsRow.holds Try.pinned (OpenSpec.ofChange headKindsWrong)

/-- 'dovetaillaw12.SymOrder': WHATEVER THE INPUT: true; the input reads as it did. -/
def symOrderSpec : ChangeSpec := { name := "symOrder", fn := fun _ => fun
  | [d1, d2] => { results := [.lit (.bool true)], args := [d1, d2] }
  | _ => none }
def symOrderRow : OpenClaim := { program := "ytojhnljjfmgjdaa", sum := "9b115618cc864f358ac26c731a5b66eb1c5b5fd725534ce0e5a3f92ed87e1da1", func := "dovetail/dovetaillaw12.SymOrder", spec := "symOrder", inPlace := ["internal/bytealg.IndexByte"], apart := false }
def SymOrderSaid : Prop := symOrderRow.holds Try.pinned (OpenSpec.ofChange symOrderSpec)

/-- ITS FALSE NEIGHBOUR: 'it returns false'. Refute it at one input. -/
def symOrderWrong : ChangeSpec := { name := "symOrder", fn := fun _ => fun
  | [d1, d2] => { results := [.lit (.bool false)], args := [d1, d2] }
  | _ => none }
def SymOrderWrongFalsely : Prop := symOrderRow.holds Try.pinned (OpenSpec.ofChange symOrderWrong)

/-- 'dovetaillaw12.SymMany': WHATEVER THE INPUT: true; the input reads as it did. -/
def symManySpec : ChangeSpec := { name := "symMany", fn := fun _ => fun
  | [d1, d2] => { results := [.lit (.bool true)], args := [d1, d2] }
  | _ => none }
def symManyRow : OpenClaim := { program := "ytojhnljjfmgjdaa", sum := "9b115618cc864f358ac26c731a5b66eb1c5b5fd725534ce0e5a3f92ed87e1da1", func := "dovetail/dovetaillaw12.SymMany", spec := "symMany", inPlace := ["internal/bytealg.IndexByte"], apart := false }
def SymManySaid : Prop := symManyRow.holds Try.pinned (OpenSpec.ofChange symManySpec)

/-- ITS FALSE NEIGHBOUR: 'it returns false'. Refute it at one input. -/
def symManyWrong : ChangeSpec := { name := "symMany", fn := fun _ => fun
  | [d1, d2] => { results := [.lit (.bool false)], args := [d1, d2] }
  | _ => none }
def SymManyWrongFalsely : Prop := symManyRow.holds Try.pinned (OpenSpec.ofChange symManyWrong)

/-- 'dovetaillaw12.SymFields': WHATEVER THE INPUT: true; the input reads as it did. -/
def symFieldsSpec : ChangeSpec := { name := "symFields", fn := fun _ => fun
  | [d1, d2, d3, d4, d5, d6, d7] => { results := [.lit (.bool true)], args := [d1, d2, d3, d4, d5, d6, d7] }
  | _ => none }
def symFieldsRow : OpenClaim := { program := "ytojhnljjfmgjdaa", sum := "9b115618cc864f358ac26c731a5b66eb1c5b5fd725534ce0e5a3f92ed87e1da1", func := "dovetail/dovetaillaw12.SymFields", spec := "symFields", inPlace := ["internal/bytealg.IndexByte"], apart := false }
def SymFieldsSaid : Prop := symFieldsRow.holds Try.pinned (OpenSpec.ofChange symFieldsSpec)

/-- ITS FALSE NEIGHBOUR: 'it returns false'. Refute it at one input. -/
def symFieldsWrong : ChangeSpec := { name := "symFields", fn := fun _ => fun
  | [d1, d2, d3, d4, d5, d6, d7] => { results := [.lit (.bool false)], args := [d1, d2, d3, d4, d5, d6, d7] }
  | _ => none }
def SymFieldsWrongFalsely : Prop := symFieldsRow.holds Try.pinned (OpenSpec.ofChange symFieldsWrong)

/-- 'dovetaillaw9.StrGets': WHATEVER THE INPUT: true; the input reads as it did. -/
def strGetsSpec : ChangeSpec := { name := "strGets", fn := fun _ => fun
  | [d1, d2] => { results := [.lit (.bool true)], args := [d1, d2] }
  | _ => none }
def strGetsRow : OpenClaim := { program := "ytojhnljjfmgjdaa", sum := "9b115618cc864f358ac26c731a5b66eb1c5b5fd725534ce0e5a3f92ed87e1da1", func := "dovetail/dovetaillaw9.StrGets", spec := "strGets", inPlace := ["internal/bytealg.IndexByteString", "internal/bytealg.IndexString", "internal/bytealg.IndexByte"], named := ["internal/bytealg.MaxLen"], apart := false }
def StrGetsSaid : Prop := strGetsRow.holds Try.pinned (OpenSpec.ofChange strGetsSpec)

/-- ITS FALSE NEIGHBOUR: 'it returns false'. Refute it at one input. -/
def strGetsWrong : ChangeSpec := { name := "strGets", fn := fun _ => fun
  | [d1, d2] => { results := [.lit (.bool false)], args := [d1, d2] }
  | _ => none }
def StrGetsWrongFalsely : Prop := strGetsRow.holds Try.pinned (OpenSpec.ofChange strGetsWrong)

/-- 'dovetaillaw9.StrBuilds': WHATEVER THE INPUT: true; the input reads as it did. -/
def strBuildsSpec : ChangeSpec := { name := "strBuilds", fn := fun _ => fun
  | [d] => { results := [.lit (.bool true)], args := [d] }
  | _ => none }
def strBuildsRow : OpenClaim := { program := "ytojhnljjfmgjdaa", sum := "9b115618cc864f358ac26c731a5b66eb1c5b5fd725534ce0e5a3f92ed87e1da1", func := "dovetail/dovetaillaw9.StrBuilds", spec := "strBuilds", inPlace := ["internal/bytealg.IndexByteString", "internal/bytealg.IndexString", "internal/bytealg.IndexByte"], named := ["internal/bytealg.MaxLen"], apart := false }
def StrBuildsSaid : Prop := strBuildsRow.holds Try.pinned (OpenSpec.ofChange strBuildsSpec)

/-- ITS FALSE NEIGHBOUR: 'it returns false'. Refute it at one input. -/
def strBuildsWrong : ChangeSpec := { name := "strBuilds", fn := fun _ => fun
  | [d] => { results := [.lit (.bool false)], args := [d] }
  | _ => none }
def StrBuildsWrongFalsely : Prop := strBuildsRow.holds Try.pinned (OpenSpec.ofChange strBuildsWrong)

/-- 'dovetaillaw9.StrOnce': WHATEVER THE INPUT: true; the input reads as it did. -/
def strOnceSpec : ChangeSpec := { name := "strOnce", fn := fun _ => fun
  | [d1, d2] => { results := [.lit (.bool true)], args := [d1, d2] }
  | _ => none }
def strOnceRow : OpenClaim := { program := "ytojhnljjfmgjdaa", sum := "9b115618cc864f358ac26c731a5b66eb1c5b5fd725534ce0e5a3f92ed87e1da1", func := "dovetail/dovetaillaw9.StrOnce", spec := "strOnce", inPlace := ["internal/bytealg.IndexByteString", "internal/bytealg.IndexString", "internal/bytealg.IndexByte"], named := ["internal/bytealg.MaxLen"], apart := false }
def StrOnceSaid : Prop := strOnceRow.holds Try.pinned (OpenSpec.ofChange strOnceSpec)

/-- ITS FALSE NEIGHBOUR: 'it returns false'. Refute it at one input. -/
def strOnceWrong : ChangeSpec := { name := "strOnce", fn := fun _ => fun
  | [d1, d2] => { results := [.lit (.bool false)], args := [d1, d2] }
  | _ => none }
def StrOnceWrongFalsely : Prop := strOnceRow.holds Try.pinned (OpenSpec.ofChange strOnceWrong)

/-- 'dovetaillaw9.StrLong': WHATEVER THE INPUT: true; the input reads as it did. -/
def strLongSpec : ChangeSpec := { name := "strLong", fn := fun _ => fun
  | [d1, d2] => { results := [.lit (.bool true)], args := [d1, d2] }
  | _ => none }
def strLongRow : OpenClaim := { program := "ytojhnljjfmgjdaa", sum := "9b115618cc864f358ac26c731a5b66eb1c5b5fd725534ce0e5a3f92ed87e1da1", func := "dovetail/dovetaillaw9.StrLong", spec := "strLong", inPlace := ["internal/bytealg.IndexByteString", "internal/bytealg.IndexString", "internal/bytealg.IndexByte"], named := ["internal/bytealg.MaxLen"], apart := false }
def StrLongSaid : Prop := strLongRow.holds Try.pinned (OpenSpec.ofChange strLongSpec)

/-- ITS FALSE NEIGHBOUR: 'it returns false'. Refute it at one input. -/
def strLongWrong : ChangeSpec := { name := "strLong", fn := fun _ => fun
  | [d1, d2] => { results := [.lit (.bool false)], args := [d1, d2] }
  | _ => none }
def StrLongWrongFalsely : Prop := strLongRow.holds Try.pinned (OpenSpec.ofChange strLongWrong)

/- THE SECOND FORM. 'bulk': how many values and letters a reading holds, each counted each time it is reached (what is shared counts as often as it is met; a slice's spare places count too). A statement '..UptoSaid' is the law's where the arguments, and the package variables that the reading takes, are together of bulk at most 1048576: NARROWER than '..Said'. Prove '..Said' where nothing that the law and all that it calls make is longer than what came in: it says more and counts as full. Else prove '..UptoSaid'. A law counts once. -/
mutual
def uptoBulk {H : Type} : DataW H → Nat
  | .lit (.string bytes) => bytes.length + 1
  | .lit _ => 1
  | .nil => 1
  | .ptr d => uptoBulk d + 1
  | .slice elems spare => uptoBulkAll elems + uptoBulkAll spare + 1
  | .agg parts => uptoBulkAll parts + 1
  | .iface _ d => uptoBulk d + 1
  | .map entries => uptoBulkEntries entries + 1
  | .held _ => 1
def uptoBulkAll {H : Type} : List (DataW H) → Nat
  | [] => 0
  | d :: r => uptoBulk d + uptoBulkAll r
def uptoBulkEntries {H : Type} : List (Lit × DataW H) → Nat
  | [] => 0
  | x :: r => uptoBulkEntry x + uptoBulkEntries r
def uptoBulkEntry {H : Type} : Lit × DataW H → Nat
  | (.string bytes, d) => bytes.length + uptoBulk d + 1
  | (_, d) => uptoBulk d + 1
 end
def uptoSmall : (H : Type) → List (DataW H) → Bool := fun _ ds => decide (uptoBulkAll ds ≤ 1048576)
def OpenSpec.upto (s : _root_.Go.ChangeSpec) : _root_.Go.OpenSpec := { _root_.Go.OpenSpec.ofChange s with cond := some uptoSmall }

/-- 'dovetaillaw10.HeadReads', WHERE WHAT IT READS IS OF BULK AT MOST 1048576: true; the input reads as it did. -/
def headReadsUptoRow : OpenClaim := { program := "ytojhnljjfmgjdaa", sum := "9b115618cc864f358ac26c731a5b66eb1c5b5fd725534ce0e5a3f92ed87e1da1", func := "dovetail/dovetaillaw10.HeadReads", spec := "headReads", apart := false, narrowed := true }
def HeadReadsUptoSaid : Prop := headReadsUptoRow.holds Try.pinned (OpenSpec.upto headReadsSpec)

/-- 'dovetaillaw10.HeadSpoilt', WHERE WHAT IT READS IS OF BULK AT MOST 1048576: true; the input reads as it did. -/
def headSpoiltUptoRow : OpenClaim := { program := "ytojhnljjfmgjdaa", sum := "9b115618cc864f358ac26c731a5b66eb1c5b5fd725534ce0e5a3f92ed87e1da1", func := "dovetail/dovetaillaw10.HeadSpoilt", spec := "headSpoilt", apart := false, narrowed := true }
def HeadSpoiltUptoSaid : Prop := headSpoiltUptoRow.holds Try.pinned (OpenSpec.upto headSpoiltSpec)

/-- 'dovetaillaw10.HeadBounds', WHERE WHAT IT READS IS OF BULK AT MOST 1048576: true; the input reads as it did. -/
def headBoundsUptoRow : OpenClaim := { program := "ytojhnljjfmgjdaa", sum := "9b115618cc864f358ac26c731a5b66eb1c5b5fd725534ce0e5a3f92ed87e1da1", func := "dovetail/dovetaillaw10.HeadBounds", spec := "headBounds", apart := false, narrowed := true }
def HeadBoundsUptoSaid : Prop := headBoundsUptoRow.holds Try.pinned (OpenSpec.upto headBoundsSpec)

/-- 'dovetaillaw10.HeadFields', WHERE WHAT IT READS IS OF BULK AT MOST 1048576: true; the input reads as it did. -/
def headFieldsUptoRow : OpenClaim := { program := "ytojhnljjfmgjdaa", sum := "9b115618cc864f358ac26c731a5b66eb1c5b5fd725534ce0e5a3f92ed87e1da1", func := "dovetail/dovetaillaw10.HeadFields", spec := "headFields", apart := false, narrowed := true }
def HeadFieldsUptoSaid : Prop := headFieldsUptoRow.holds Try.pinned (OpenSpec.upto headFieldsSpec)

/-- 'dovetaillaw10.HeadKinds', WHERE WHAT IT READS IS OF BULK AT MOST 1048576: true; the input reads as it did. -/
def headKindsUptoRow : OpenClaim := { program := "ytojhnljjfmgjdaa", sum := "9b115618cc864f358ac26c731a5b66eb1c5b5fd725534ce0e5a3f92ed87e1da1", func := "dovetail/dovetaillaw10.HeadKinds", spec := "headKinds", apart := false, narrowed := true }
def HeadKindsUptoSaid : Prop := headKindsUptoRow.holds Try.pinned (OpenSpec.upto headKindsSpec)

/-- 'dovetaillaw12.SymOrder', WHERE WHAT IT READS IS OF BULK AT MOST 1048576: true; the input reads as it did. -/
def symOrderUptoRow : OpenClaim := { program := "ytojhnljjfmgjdaa", sum := "9b115618cc864f358ac26c731a5b66eb1c5b5fd725534ce0e5a3f92ed87e1da1", func := "dovetail/dovetaillaw12.SymOrder", spec := "symOrder", inPlace := ["internal/bytealg.IndexByte"], apart := false, narrowed := true }
def SymOrderUptoSaid : Prop := symOrderUptoRow.holds Try.pinned (OpenSpec.upto symOrderSpec)

/-- 'dovetaillaw12.SymMany', WHERE WHAT IT READS IS OF BULK AT MOST 1048576: true; the input reads as it did. -/
def symManyUptoRow : OpenClaim := { program := "ytojhnljjfmgjdaa", sum := "9b115618cc864f358ac26c731a5b66eb1c5b5fd725534ce0e5a3f92ed87e1da1", func := "dovetail/dovetaillaw12.SymMany", spec := "symMany", inPlace := ["internal/bytealg.IndexByte"], apart := false, narrowed := true }
def SymManyUptoSaid : Prop := symManyUptoRow.holds Try.pinned (OpenSpec.upto symManySpec)

/-- 'dovetaillaw12.SymFields', WHERE WHAT IT READS IS OF BULK AT MOST 1048576: true; the input reads as it did. -/
def symFieldsUptoRow : OpenClaim := { program := "ytojhnljjfmgjdaa", sum := "9b115618cc864f358ac26c731a5b66eb1c5b5fd725534ce0e5a3f92ed87e1da1", func := "dovetail/dovetaillaw12.SymFields", spec := "symFields", inPlace := ["internal/bytealg.IndexByte"], apart := false, narrowed := true }
def SymFieldsUptoSaid : Prop := symFieldsUptoRow.holds Try.pinned (OpenSpec.upto symFieldsSpec)

/-- 'dovetaillaw9.StrGets', WHERE WHAT IT READS IS OF BULK AT MOST 1048576: true; the input reads as it did. -/
def strGetsUptoRow : OpenClaim := { program := "ytojhnljjfmgjdaa", sum := "9b115618cc864f358ac26c731a5b66eb1c5b5fd725534ce0e5a3f92ed87e1da1", func := "dovetail/dovetaillaw9.StrGets", spec := "strGets", inPlace := ["internal/bytealg.IndexByteString", "internal/bytealg.IndexString", "internal/bytealg.IndexByte"], named := ["internal/bytealg.MaxLen"], apart := false, narrowed := true }
def StrGetsUptoSaid : Prop := strGetsUptoRow.holds Try.pinned (OpenSpec.upto strGetsSpec)

/-- 'dovetaillaw9.StrBuilds', WHERE WHAT IT READS IS OF BULK AT MOST 1048576: true; the input reads as it did. -/
def strBuildsUptoRow : OpenClaim := { program := "ytojhnljjfmgjdaa", sum := "9b115618cc864f358ac26c731a5b66eb1c5b5fd725534ce0e5a3f92ed87e1da1", func := "dovetail/dovetaillaw9.StrBuilds", spec := "strBuilds", inPlace := ["internal/bytealg.IndexByteString", "internal/bytealg.IndexString", "internal/bytealg.IndexByte"], named := ["internal/bytealg.MaxLen"], apart := false, narrowed := true }
def StrBuildsUptoSaid : Prop := strBuildsUptoRow.holds Try.pinned (OpenSpec.upto strBuildsSpec)

/-- 'dovetaillaw9.StrOnce', WHERE WHAT IT READS IS OF BULK AT MOST 1048576: true; the input reads as it did. -/
def strOnceUptoRow : OpenClaim := { program := "ytojhnljjfmgjdaa", sum := "9b115618cc864f358ac26c731a5b66eb1c5b5fd725534ce0e5a3f92ed87e1da1", func := "dovetail/dovetaillaw9.StrOnce", spec := "strOnce", inPlace := ["internal/bytealg.IndexByteString", "internal/bytealg.IndexString", "internal/bytealg.IndexByte"], named := ["internal/bytealg.MaxLen"], apart := false, narrowed := true }
def StrOnceUptoSaid : Prop := strOnceUptoRow.holds Try.pinned (OpenSpec.upto strOnceSpec)

/-- 'dovetaillaw9.StrLong', WHERE WHAT IT READS IS OF BULK AT MOST 1048576: true; the input reads as it did. -/
def strLongUptoRow : OpenClaim := { program := "ytojhnljjfmgjdaa", sum := "9b115618cc864f358ac26c731a5b66eb1c5b5fd725534ce0e5a3f92ed87e1da1", func := "dovetail/dovetaillaw9.StrLong", spec := "strLong", inPlace := ["internal/bytealg.IndexByteString", "internal/bytealg.IndexString", "internal/bytealg.IndexByte"], named := ["internal/bytealg.MaxLen"], apart := false, narrowed := true }
def StrLongUptoSaid : Prop := strLongUptoRow.holds Try.pinned (OpenSpec.upto strLongSpec)

end Rows
end Go.Proofs.Ytojhnljjfmgjdaa
