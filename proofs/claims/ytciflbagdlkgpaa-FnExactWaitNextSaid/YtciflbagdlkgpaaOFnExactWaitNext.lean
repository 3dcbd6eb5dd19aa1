/- What the arguments of FnExactWaitNext read as, opened. -/
import Derived.Test.YtciflbagdlkgpaaHOpen
import Derived.Test.YtciflbagdlkgpaaPFnExactWaitNextx2
namespace Go.Proofs.Ytciflbagdlkgpaa.PFnExactWaitNext
open Go.RowKit Go.Proofs.YtciflbagdlkgpaaW.PrintWords Go.Proofs.Ytciflbagdlkgpaa
set_option linter.unusedVariables false

def ok55 (x : S55) : Prop := ((Lit.int .i64 x.f0).wf = true) ∧ ((Lit.int .i64 x.f1).wf = true)
theorem opens55 : HOpen.Opens Try.prog 55 k55 ok55 :=
  HOpen.opens_struct Try.underlying55 (by kernel_rfl) (HOpen.opensF_cons rfl rfl (HOpen.opens_int Try.underlying3 (by kernel_rfl)) (by decide) (HOpen.opensF_one rfl (HOpen.opens_int Try.underlying3 (by kernel_rfl)))) (fun y h => ⟨⟨y.1, y.2⟩, rfl, by exact h⟩)
end Go.Proofs.Ytciflbagdlkgpaa.PFnExactWaitNext
