/- What the arguments of FnExactHorizon read as, opened. -/
import Derived.Test.YtadbcjeelbkfcaaHOpen
import Derived.Test.YtadbcjeelbkfcaaPFnExactHorizonx4
namespace Go.Proofs.Ytadbcjeelbkfcaa.PFnExactHorizon
open Go.RowKit Go.Proofs.YtadbcjeelbkfcaaW.PrintWords Go.Proofs.Ytadbcjeelbkfcaa
set_option linter.unusedVariables false

def ok39 (x : S39) : Prop := ((Lit.int .i64 x.f0).wf = true) ∧ ((x.f1.length ≤ 9223372036854775807 ∧ ∀ y_x_f1 ∈ x.f1, (Lit.int .i64 y_x_f1).wf = true))
set_option maxRecDepth 100000 in
theorem opens39 : HOpen.Opens Try.prog 39 k39 ok39 :=
  HOpen.opens_struct Try.underlying39 (by kernel_rfl) (HOpen.opensF_cons rfl rfl (HOpen.opens_int Try.underlying3 (by kernel_rfl)) (by decide) (HOpen.opensF_one rfl (HOpen.opens_slice 3 Try.underlying30 (by kernel_rfl) (HOpen.opens_int Try.underlying3 (by kernel_rfl))))) (fun y h => ⟨⟨y.1, y.2⟩, rfl, by exact h⟩)
end Go.Proofs.Ytadbcjeelbkfcaa.PFnExactHorizon
