/-
  No cell of these rows narrows 'for every input' (looked for: loops, veiled, ifaces, maps, wideKeys, modest, calm, conditions, laid).
  DERIVED. THE GIVEN ROWS OF THIS SEAT. 12 by the template 'for every input the law returns true; each argument reads behind the call as it read before'; 0 by the template 'total and deterministic' (their statements: YthjlhoclmbnjgaaTotals.lean).
  GIVEN WITH THE SEED: the statements are not yours to turn. If you find one false, say at which input.
  Laid BY PROGRAM, IN A SANDBOX (cutbox-rows.mjs): the forced cells as the released guide's own fill.sh prints them over the translation 93d3744fea0be8b4… (all of the seat's roots in one cut). By AI agents, Wed Nov 11 2026. No macro, syntax, notation, axiom, sorry.
-/
import Derived.Test.YthjlhoclmbnjgaaChecked
import GoSem.Claim
import GoSem.ClaimJoined
import GoSem.ClaimMapViews
import Derived.JoinedTies
import Derived.KernelRfl
namespace Go.Proofs.Ythjlhoclmbnjgaa
/- THE CELL 'sum', in the pinned program and in every row, IS THE sha256 OF THE DUMP (.gsa) THAT YthjlhoclmbnjgaaProg.lean LOADS. Nothing in Lean hashes anything: it is a label: what it is worth is what the hold of that sum in a sandbox is worth. -/
noncomputable def Try.pinned : Pinned := { name := "ythjlhoclmbnjgaa", sum := "93d3744fea0be8b4161a362060a1b2f71b8d560be3efdf918a3de409777b83f8", checked := Try.checked }
namespace Rows
def none {H : Type} : Left H := { results := [], args := [] }

/-- 'dovetaillaw1.LeSets': WHATEVER THE INPUT: true; the input reads as it did. -/
def leSetsSpec : ChangeSpec := { name := "leSets", fn := fun _ => fun
  | [d1, d2, d3, d4] => { results := [.lit (.bool true)], args := [d1, d2, d3, d4] }
  | _ => none }
def leSetsRow : OpenClaim := { program := "ythjlhoclmbnjgaa", sum := "93d3744fea0be8b4161a362060a1b2f71b8d560be3efdf918a3de409777b83f8", func := "dovetail/dovetaillaw1.LeSets", spec := "leSets", apart := false }
def LeSetsSaid : Prop := leSetsRow.holds Try.pinned (OpenSpec.ofChange leSetsSpec)

/-- ITS FALSE NEIGHBOUR: 'it returns false'. Refute it at one input. -/
def leSetsWrong : ChangeSpec := { name := "leSets", fn := fun _ => fun
  | [d1, d2, d3, d4] => { results := [.lit (.bool false)], args := [d1, d2, d3, d4] }
  | _ => none }
def LeSetsWrongFalsely : Prop := leSetsRow.holds Try.pinned (OpenSpec.ofChange leSetsWrong)

/-- 'dovetaillaw1.LeReads': WHATEVER THE INPUT: true; the input reads as it did. -/
def leReadsSpec : ChangeSpec := { name := "leReads", fn := fun _ => fun
  | [d1, d2, d3] => { results := [.lit (.bool true)], args := [d1, d2, d3] }
  | _ => none }
def leReadsRow : OpenClaim := { program := "ythjlhoclmbnjgaa", sum := "93d3744fea0be8b4161a362060a1b2f71b8d560be3efdf918a3de409777b83f8", func := "dovetail/dovetaillaw1.LeReads", spec := "leReads", apart := false }
def LeReadsSaid : Prop := leReadsRow.holds Try.pinned (OpenSpec.ofChange leReadsSpec)

/-- ITS FALSE NEIGHBOUR: 'it returns false'. Refute it at one input. -/
def leReadsWrong : ChangeSpec := { name := "leReads", fn := fun _ => fun
  | [d1, d2, d3] => { results := [.lit (.bool false)], args := [d1, d2, d3] }
  | _ => none }
def LeReadsWrongFalsely : Prop := leReadsRow.holds Try.pinned (OpenSpec.ofChange leReadsWrong)

/-- 'dovetaillaw1.LeEdges': WHATEVER THE INPUT: true; the input reads as it did. -/
def leEdgesSpec : ChangeSpec := { name := "leEdges", fn := fun _ => fun
  | [d1, d2] => { results := [.lit (.bool true)], args := [d1, d2] }
  | _ => none }
def leEdgesRow : OpenClaim := { program := "ythjlhoclmbnjgaa", sum := "93d3744fea0be8b4161a362060a1b2f71b8d560be3efdf918a3de409777b83f8", func := "dovetail/dovetaillaw1.LeEdges", spec := "leEdges", apart := false }
def LeEdgesSaid : Prop := leEdgesRow.holds Try.pinned (OpenSpec.ofChange leEdgesSpec)

/-- ITS FALSE NEIGHBOUR: 'it returns false'. Refute it at one input. -/
def leEdgesWrong : ChangeSpec := { name := "leEdges", fn := fun _ => fun
  | [d1, d2] => { results := [.lit (.bool false)], args := [d1, d2] }
  | _ => none }
def LeEdgesWrongFalsely : Prop := leEdgesRow.holds Try.pinned (OpenSpec.ofChange leEdgesWrong)

/-- 'dovetaillaw1.LeTogether': WHATEVER THE INPUT: true; the input reads as it did. -/
def leTogetherSpec : ChangeSpec := { name := "leTogether", fn := fun _ => fun
  | [d1, d2] => { results := [.lit (.bool true)], args := [d1, d2] }
  | _ => none }
def leTogetherRow : OpenClaim := { program := "ythjlhoclmbnjgaa", sum := "93d3744fea0be8b4161a362060a1b2f71b8d560be3efdf918a3de409777b83f8", func := "dovetail/dovetaillaw1.LeTogether", spec := "leTogether", apart := false }
def LeTogetherSaid : Prop := leTogetherRow.holds Try.pinned (OpenSpec.ofChange leTogetherSpec)

/-- ITS FALSE NEIGHBOUR: 'it returns false'. Refute it at one input. -/
def leTogetherWrong : ChangeSpec := { name := "leTogether", fn := fun _ => fun
  | [d1, d2] => { results := [.lit (.bool false)], args := [d1, d2] }
  | _ => none }
def LeTogetherWrongFalsely : Prop := leTogetherRow.holds Try.pinned (OpenSpec.ofChange leTogetherWrong)

/-- 'dovetaillaw1.LeWrites': WHATEVER THE INPUT: true; the input reads as it did. -/
def leWritesSpec : ChangeSpec := { name := "leWrites", fn := fun _ => fun
  | [d1, d2, d3, d4] => { results := [.lit (.bool true)], args := [d1, d2, d3, d4] }
  | _ => none }
def leWritesRow : OpenClaim := { program := "ythjlhoclmbnjgaa", sum := "93d3744fea0be8b4161a362060a1b2f71b8d560be3efdf918a3de409777b83f8", func := "dovetail/dovetaillaw1.LeWrites", spec := "leWrites", apart := false }
def LeWritesSaid : Prop := leWritesRow.holds Try.pinned (OpenSpec.ofChange leWritesSpec)

/-- ITS FALSE NEIGHBOUR: 'it returns false'. Refute it at one input. -/
def leWritesWrong : ChangeSpec := { name := "leWrites", fn := fun _ => fun
  | [d1, d2, d3, d4] => { results := [.lit (.bool false)], args := [d1, d2, d3, d4] }
  | _ => none }
def LeWritesWrongFalsely : Prop := leWritesRow.holds Try.pinned (OpenSpec.ofChange leWritesWrong)

/-- 'dovetaillaw14.GroupChecks': WHATEVER THE INPUT: true; the input reads as it did. -/
def groupChecksSpec : ChangeSpec := { name := "groupChecks", fn := fun _ => fun
  | [d] => { results := [.lit (.bool true)], args := [d] }
  | _ => none }
def groupChecksRow : OpenClaim := { program := "ythjlhoclmbnjgaa", sum := "93d3744fea0be8b4161a362060a1b2f71b8d560be3efdf918a3de409777b83f8", func := "dovetail/dovetaillaw14.GroupChecks", spec := "groupChecks", apart := false }
def GroupChecksSaid : Prop := groupChecksRow.holds Try.pinned (OpenSpec.ofChange groupChecksSpec)

/-- ITS FALSE NEIGHBOUR: 'it returns false'. Refute it at one input. -/
def groupChecksWrong : ChangeSpec := { name := "groupChecks", fn := fun _ => fun
  | [d] => { results := [.lit (.bool false)], args := [d] }
  | _ => none }
def GroupChecksWrongFalsely : Prop := groupChecksRow.holds Try.pinned (OpenSpec.ofChange groupChecksWrong)

/-- 'dovetaillaw14.GroupRises': WHATEVER THE INPUT: true; the input reads as it did. -/
def groupRisesSpec : ChangeSpec := { name := "groupRises", fn := fun _ => fun
  | [d1, d2] => { results := [.lit (.bool true)], args := [d1, d2] }
  | _ => none }
def groupRisesRow : OpenClaim := { program := "ythjlhoclmbnjgaa", sum := "93d3744fea0be8b4161a362060a1b2f71b8d560be3efdf918a3de409777b83f8", func := "dovetail/dovetaillaw14.GroupRises", spec := "groupRises", apart := false }
def GroupRisesSaid : Prop := groupRisesRow.holds Try.pinned (OpenSpec.ofChange groupRisesSpec)

/-- ITS FALSE NEIGHBOUR: 'it returns false'. Refute it at one input. -/
def groupRisesWrong : ChangeSpec := { name := "groupRises", fn := fun _ => fun
  | [d1, d2] => { results := [.lit (.bool false)], args := [d1, d2] }
  | _ => none }
def GroupRisesWrongFalsely : Prop := groupRisesRow.holds Try.pinned (OpenSpec.ofChange groupRisesWrong)

/-- 'dovetaillaw14.GroupApart': WHATEVER THE INPUT: true; the input reads as it did. -/
def groupApartSpec : ChangeSpec := { name := "groupApart", fn := fun _ => fun
  | [d1, d2, d3] => { results := [.lit (.bool true)], args := [d1, d2, d3] }
  | _ => none }
def groupApartRow : OpenClaim := { program := "ythjlhoclmbnjgaa", sum := "93d3744fea0be8b4161a362060a1b2f71b8d560be3efdf918a3de409777b83f8", func := "dovetail/dovetaillaw14.GroupApart", spec := "groupApart", apart := false }
def GroupApartSaid : Prop := groupApartRow.holds Try.pinned (OpenSpec.ofChange groupApartSpec)

/-- ITS FALSE NEIGHBOUR: 'it returns false'. Refute it at one input. -/
def groupApartWrong : ChangeSpec := { name := "groupApart", fn := fun _ => fun
  | [d1, d2, d3] => { results := [.lit (.bool false)], args := [d1, d2, d3] }
  | _ => none }
def GroupApartWrongFalsely : Prop := groupApartRow.holds Try.pinned (OpenSpec.ofChange groupApartWrong)

/-- 'dovetaillaw13.RelaReads': WHATEVER THE INPUT: true; the input reads as it did. -/
def relaReadsSpec : ChangeSpec := { name := "relaReads", fn := fun _ => fun
  | [d1, d2, d3, d4] => { results := [.lit (.bool true)], args := [d1, d2, d3, d4] }
  | _ => none }
def relaReadsRow : OpenClaim := { program := "ythjlhoclmbnjgaa", sum := "93d3744fea0be8b4161a362060a1b2f71b8d560be3efdf918a3de409777b83f8", func := "dovetail/dovetaillaw13.RelaReads", spec := "relaReads", apart := false }
def RelaReadsSaid : Prop := relaReadsRow.holds Try.pinned (OpenSpec.ofChange relaReadsSpec)

/-- ITS FALSE NEIGHBOUR: 'it returns false'. Refute it at one input. -/
def relaReadsWrong : ChangeSpec := { name := "relaReads", fn := fun _ => fun
  | [d1, d2, d3, d4] => { results := [.lit (.bool false)], args := [d1, d2, d3, d4] }
  | _ => none }
def RelaReadsWrongFalsely : Prop := relaReadsRow.holds Try.pinned (OpenSpec.ofChange relaReadsWrong)

/-- 'dovetaillaw13.RelaTypes': WHATEVER THE INPUT: true; the input reads as it did. -/
def relaTypesSpec : ChangeSpec := { name := "relaTypes", fn := fun _ => fun
  | [d] => { results := [.lit (.bool true)], args := [d] }
  | _ => none }
def relaTypesRow : OpenClaim := { program := "ythjlhoclmbnjgaa", sum := "93d3744fea0be8b4161a362060a1b2f71b8d560be3efdf918a3de409777b83f8", func := "dovetail/dovetaillaw13.RelaTypes", spec := "relaTypes", apart := false }
def RelaTypesSaid : Prop := relaTypesRow.holds Try.pinned (OpenSpec.ofChange relaTypesSpec)

/-- ITS FALSE NEIGHBOUR: 'it returns false'. Refute it at one input. -/
def relaTypesWrong : ChangeSpec := { name := "relaTypes", fn := fun _ => fun
  | [d] => { results := [.lit (.bool false)], args := [d] }
  | _ => none }
def RelaTypesWrongFalsely : Prop := relaTypesRow.holds Try.pinned (OpenSpec.ofChange relaTypesWrong)

/-- 'dovetaillaw13.RelaEdges': WHATEVER THE INPUT: true; the input reads as it did. -/
def relaEdgesSpec : ChangeSpec := { name := "relaEdges", fn := fun _ => fun
  | [d1, d2, d3] => { results := [.lit (.bool true)], args := [d1, d2, d3] }
  | _ => none }
def relaEdgesRow : OpenClaim := { program := "ythjlhoclmbnjgaa", sum := "93d3744fea0be8b4161a362060a1b2f71b8d560be3efdf918a3de409777b83f8", func := "dovetail/dovetaillaw13.RelaEdges", spec := "relaEdges", apart := false }
def RelaEdgesSaid : Prop := relaEdgesRow.holds Try.pinned (OpenSpec.ofChange relaEdgesSpec)

/-- ITS FALSE NEIGHBOUR: 'it returns false'. Refute it at one input. -/
def relaEdgesWrong : ChangeSpec := { name := "relaEdges", fn := fun _ => fun
  | [d1, d2, d3] => { results := [.lit (.bool false)], args := [d1, d2, d3] }
  | _ => none }
def RelaEdgesWrongFalsely : Prop := relaEdgesRow.holds Try.pinned (OpenSpec.ofChange relaEdgesWrong)

/-- 'dovetaillaw13.RelaMany': WHATEVER THE INPUT: true; the input reads as it did. -/
def relaManySpec : ChangeSpec := { name := "relaMany", fn := fun _ => fun
  | [d1, d2, d3] => { results := [.lit (.bool true)], args := [d1, d2, d3] }
  | _ => none }
def relaManyRow : OpenClaim := { program := "ythjlhoclmbnjgaa", sum := "93d3744fea0be8b4161a362060a1b2f71b8d560be3efdf918a3de409777b83f8", func := "dovetail/dovetaillaw13.RelaMany", spec := "relaMany", apart := false }
def RelaManySaid : Prop := relaManyRow.holds Try.pinned (OpenSpec.ofChange relaManySpec)

/-- ITS FALSE NEIGHBOUR: 'it returns false'. Refute it at one input. -/
def relaManyWrong : ChangeSpec := { name := "relaMany", fn := fun _ => fun
  | [d1, d2, d3] => { results := [.lit (.bool false)], args := [d1, d2, d3] }
  | _ => none }
def RelaManyWrongFalsely : Prop := relaManyRow.holds Try.pinned (OpenSpec.ofChange relaManyWrong)

/- THE SECOND FORM. 'bulk': how many values and letters a reading holds, each counted each time it is reached (what is shared counts as often as it is met; a slice's spare places count too). A statement '..UptoSaid' is the law's where the arguments, and the package variables that the reading takes, are together of bulk at most 1048576: NARROWER than '..Said'. Prove '..Said' where nothing that the law and all that it calls make is longer than what came in: it says more and counts as full. Else prove '..UptoSaid'. A law counts once. -/
mutual
def uptoBulk {H : Type} : DataW H → Nat
  | .lit (.string bytes) => bytes.length + 1
  | .lit _ => 1
  | .nil => 1
  | .ptr d => uptoBulk d + 1
  | .slice elems spare => uptoBulkAll elems + uptoBulkAll spare + 1
  | .agg parts => uptoBulkAll parts + 1
  | .iface _ d => uptoBulk d + 1
  | .map entries => uptoBulkEntries entries + 1
  | .held _ => 1
def uptoBulkAll {H : Type} : List (DataW H) → Nat
  | [] => 0
  | d :: r => uptoBulk d + uptoBulkAll r
def uptoBulkEntries {H : Type} : List (Lit × DataW H) → Nat
  | [] => 0
  | x :: r => uptoBulkEntry x + uptoBulkEntries r
def uptoBulkEntry {H : Type} : Lit × DataW H → Nat
  | (.string bytes, d) => bytes.length + uptoBulk d + 1
  | (_, d) => uptoBulk d + 1
 end
def uptoSmall : (H : Type) → List (DataW H) → Bool := fun _ ds => decide (uptoBulkAll ds ≤ 1048576)
def OpenSpec.upto (s : _root_.Go.ChangeSpec) : _root_.Go.OpenSpec := { _root_.Go.OpenSpec.ofChange s with cond := some uptoSmall }

/-- 'dovetaillaw1.LeSets', WHERE WHAT IT READS IS OF BULK AT MOST 1048576: true; the input reads as it did. -/
def leSetsUptoRow : OpenClaim := { program := "ythjlhoclmbnjgaa", sum := "93d3744fea0be8b4161a362060a1b2f71b8d560be3efdf918a3de409777b83f8", func := "dovetail/dovetaillaw1.LeSets", spec := "leSets", apart := false, narrowed := true }
def LeSetsUptoSaid : Prop := leSetsUptoRow.holds Try.pinned (OpenSpec.upto leSetsSpec)

/-- 'dovetaillaw1.LeReads', WHERE WHAT IT READS IS OF BULK AT MOST 1048576: true; the input reads as it did. -/
def leReadsUptoRow : OpenClaim := { program := "ythjlhoclmbnjgaa", sum := "93d3744fea0be8b4161a362060a1b2f71b8d560be3efdf918a3de409777b83f8", func := "dovetail/dovetaillaw1.LeReads", spec := "leReads", apart := false, narrowed := true }
def LeReadsUptoSaid : Prop := leReadsUptoRow.holds Try.pinned (OpenSpec.upto leReadsSpec)

/-- 'dovetaillaw1.LeEdges', WHERE WHAT IT READS IS OF BULK AT MOST 1048576: true; the input reads as it did. -/
def leEdgesUptoRow : OpenClaim := { program := "ythjlhoclmbnjgaa", sum := "93d3744fea0be8b4161a362060a1b2f71b8d560be3efdf918a3de409777b83f8", func := "dovetail/dovetaillaw1.LeEdges", spec := "leEdges", apart := false, narrowed := true }
def LeEdgesUptoSaid : Prop := leEdgesUptoRow.holds Try.pinned (OpenSpec.upto leEdgesSpec)

/-- 'dovetaillaw1.LeTogether', WHERE WHAT IT READS IS OF BULK AT MOST 1048576: true; the input reads as it did. -/
def leTogetherUptoRow : OpenClaim := { program := "ythjlhoclmbnjgaa", sum := "93d3744fea0be8b4161a362060a1b2f71b8d560be3efdf918a3de409777b83f8", func := "dovetail/dovetaillaw1.LeTogether", spec := "leTogether", apart := false, narrowed := true }
def LeTogetherUptoSaid : Prop := leTogetherUptoRow.holds Try.pinned (OpenSpec.upto leTogetherSpec)

/-- 'dovetaillaw1.LeWrites', WHERE WHAT IT READS IS OF BULK AT MOST 1048576: true; the input reads as it did. -/
def leWritesUptoRow : OpenClaim := { program := "ythjlhoclmbnjgaa", sum := "93d3744fea0be8b4161a362060a1b2f71b8d560be3efdf918a3de409777b83f8", func := "dovetail/dovetaillaw1.LeWrites", spec := "leWrites", apart := false, narrowed := true }
def LeWritesUptoSaid : Prop := leWritesUptoRow.holds Try.pinned (OpenSpec.upto leWritesSpec)

/-- 'dovetaillaw14.GroupChecks', WHERE WHAT IT READS IS OF BULK AT MOST 1048576: true; the input reads as it did. -/
def groupChecksUptoRow : OpenClaim := { program := "ythjlhoclmbnjgaa", sum := "93d3744fea0be8b4161a362060a1b2f71b8d560be3efdf918a3de409777b83f8", func := "dovetail/dovetaillaw14.GroupChecks", spec := "groupChecks", apart := false, narrowed := true }
def GroupChecksUptoSaid : Prop := groupChecksUptoRow.holds Try.pinned (OpenSpec.upto groupChecksSpec)

/-- 'dovetaillaw14.GroupRises', WHERE WHAT IT READS IS OF BULK AT MOST 1048576: true; the input reads as it did. -/
def groupRisesUptoRow : OpenClaim := { program := "ythjlhoclmbnjgaa", sum := "93d3744fea0be8b4161a362060a1b2f71b8d560be3efdf918a3de409777b83f8", func := "dovetail/dovetaillaw14.GroupRises", spec := "groupRises", apart := false, narrowed := true }
def GroupRisesUptoSaid : Prop := groupRisesUptoRow.holds Try.pinned (OpenSpec.upto groupRisesSpec)

/-- 'dovetaillaw14.GroupApart', WHERE WHAT IT READS IS OF BULK AT MOST 1048576: true; the input reads as it did. -/
def groupApartUptoRow : OpenClaim := { program := "ythjlhoclmbnjgaa", sum := "93d3744fea0be8b4161a362060a1b2f71b8d560be3efdf918a3de409777b83f8", func := "dovetail/dovetaillaw14.GroupApart", spec := "groupApart", apart := false, narrowed := true }
def GroupApartUptoSaid : Prop := groupApartUptoRow.holds Try.pinned (OpenSpec.upto groupApartSpec)

/-- 'dovetaillaw13.RelaReads', WHERE WHAT IT READS IS OF BULK AT MOST 1048576: true; the input reads as it did. -/
def relaReadsUptoRow : OpenClaim := { program := "ythjlhoclmbnjgaa", sum := "93d3744fea0be8b4161a362060a1b2f71b8d560be3efdf918a3de409777b83f8", func := "dovetail/dovetaillaw13.RelaReads", spec := "relaReads", apart := false, narrowed := true }
def RelaReadsUptoSaid : Prop := relaReadsUptoRow.holds Try.pinned (OpenSpec.upto relaReadsSpec)

/-- 'dovetaillaw13.RelaTypes', WHERE WHAT IT READS IS OF BULK AT MOST 1048576: true; the input reads as it did. -/
def relaTypesUptoRow : OpenClaim := { program := "ythjlhoclmbnjgaa", sum := "93d3744fea0be8b4161a362060a1b2f71b8d560be3efdf918a3de409777b83f8", func := "dovetail/dovetaillaw13.RelaTypes", spec := "relaTypes", apart := false, narrowed := true }
def RelaTypesUptoSaid : Prop := relaTypesUptoRow.holds Try.pinned (OpenSpec.upto relaTypesSpec)

/-- 'dovetaillaw13.RelaEdges', WHERE WHAT IT READS IS OF BULK AT MOST 1048576: true; the input reads as it did. -/
def relaEdgesUptoRow : OpenClaim := { program := "ythjlhoclmbnjgaa", sum := "93d3744fea0be8b4161a362060a1b2f71b8d560be3efdf918a3de409777b83f8", func := "dovetail/dovetaillaw13.RelaEdges", spec := "relaEdges", apart := false, narrowed := true }
def RelaEdgesUptoSaid : Prop := relaEdgesUptoRow.holds Try.pinned (OpenSpec.upto relaEdgesSpec)

/-- 'dovetaillaw13.RelaMany', WHERE WHAT IT READS IS OF BULK AT MOST 1048576: true; the input reads as it did. -/
def relaManyUptoRow : OpenClaim := { program := "ythjlhoclmbnjgaa", sum := "93d3744fea0be8b4161a362060a1b2f71b8d560be3efdf918a3de409777b83f8", func := "dovetail/dovetaillaw13.RelaMany", spec := "relaMany", apart := false, narrowed := true }
def RelaManyUptoSaid : Prop := relaManyUptoRow.holds Try.pinned (OpenSpec.upto relaManySpec)

end Rows
end Go.Proofs.Ythjlhoclmbnjgaa
