-- printed by this session's program (wip/print), out of the translation; Lean checks it
import Derived.Test.YthjlhoclmbnjgaaP52
namespace Go.Proofs.Ythjlhoclmbnjgaa.OpenRelaMany
open Go.RowKit Go.Proofs.Ythjlhoclmbnjgaa.P Go.Proofs.YthjlhoclmbnjgaaX Go.Proofs.YthjlhoclmbnjgaaW.PrintWords Go.Proofs.YthjlhoclmbnjgaaW.PrintLast Go.Proofs.YthjlhoclmbnjgaaW.PrintMore
set_option linter.unusedVariables false
def ok_74 (x : S74) : Prop := ((Lit.int .u64 x.f0).wf = true) ∧ ((Lit.int .u32 x.f1).wf = true) ∧ ((Lit.int .u32 x.f2).wf = true) ∧ ((Lit.int .i64 x.f3).wf = true)
instance : Inhabited S74 := ⟨⟨default, default, default, default⟩⟩
attribute [local irreducible] Opn OpnFs in
theorem opn_74 : Opn Try.prog 74 k74 ok_74 := by
  have h := Opn.struct (fs := _) Try.underlying74 (by kernel_rfl) (OpnFs.cons rfl (by kernel_rfl) (Opn.int Try.underlying23) (OpnFs.cons rfl (by kernel_rfl) (Opn.int Try.underlying31) (OpnFs.cons rfl (by kernel_rfl) (Opn.int Try.underlying31) (OpnFs.one rfl (by kernel_rfl) (Opn.int Try.underlying2)))))
  exact Opn.iso (β := S74) (f := fun x : S74 => (x.f0, x.f1, x.f2, x.f3)) (fun a => (⟨a.1, a.2.1, a.2.2.1, a.2.2.2⟩ : S74)) (fun _ => rfl) h
end Go.Proofs.Ythjlhoclmbnjgaa.OpenRelaMany
