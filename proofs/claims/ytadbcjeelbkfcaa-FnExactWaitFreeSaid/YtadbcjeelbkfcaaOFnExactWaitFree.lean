/- What the arguments of FnExactWaitFree read as, opened. -/
import Derived.Test.YtadbcjeelbkfcaaHOpen
import Derived.Test.YtadbcjeelbkfcaaPFnExactWaitFreex4
namespace Go.Proofs.Ytadbcjeelbkfcaa.PFnExactWaitFree
open Go.RowKit Go.Proofs.YtadbcjeelbkfcaaW.PrintWords Go.Proofs.Ytadbcjeelbkfcaa
set_option linter.unusedVariables false

def ok115 (x : S115) : Prop := ((Lit.int .i64 x.f0).wf = true) ∧ ((Lit.int .i64 x.f1).wf = true)
set_option maxRecDepth 100000 in
theorem opens115 : HOpen.Opens Try.prog 115 k115 ok115 :=
  HOpen.opens_struct Try.underlying115 (by kernel_rfl) (HOpen.opensF_cons rfl rfl (HOpen.opens_int Try.underlying3 (by kernel_rfl)) (by decide) (HOpen.opensF_one rfl (HOpen.opens_int Try.underlying3 (by kernel_rfl)))) (fun y h => ⟨⟨y.1, y.2⟩, rfl, by exact h⟩)
end Go.Proofs.Ytadbcjeelbkfcaa.PFnExactWaitFree
