/- What the arguments of FnExactDeedsOk read as, opened. -/
import Derived.Test.YtjmlbkhcjgehdaaVH
import Derived.Test.YtjmlbkhcjgehdaaPFnExactDeedsOkx9
namespace Go.Proofs.Ytjmlbkhcjgehdaa.PFnExactDeedsOk
open Go.RowKit Go.Proofs.YtjmlbkhcjgehdaaW.PrintWords Go.Proofs.Ytjmlbkhcjgehdaa Go.Proofs.Ytjmlbkhcjgehdaa.HFl
set_option linter.unusedVariables false

def ok25 (x : S25) : Prop := ((Lit.int .i64 x.f0).wf = true) ∧ ((Lit.int .i64 x.f1).wf = true) ∧ (x.f2 < 2 ^ 64) ∧ ((x.f3.length ≤ 9223372036854775807 ∧ ∀ y_x_f3 ∈ x.f3, (Lit.int .u8 y_x_f3).wf = true))
set_option maxRecDepth 100000 in
theorem opens25 : HOpen.Opens Try.prog 25 k25 ok25 :=
  HOpen.opens_struct Try.underlying25 (by kernel_rfl) (HOpen.opensF_cons rfl rfl (HOpen.opens_int Try.underlying3 (by kernel_rfl)) (by decide) (HOpen.opensF_cons rfl rfl (HOpen.opens_int Try.underlying3 (by kernel_rfl)) (by decide) (HOpen.opensF_cons rfl rfl (HOpen.opens_float Try.underlying22 (by kernel_rfl)) (by decide) (HOpen.opensF_one rfl (HOpen.opens_slice 5 Try.underlying23 (by kernel_rfl) (HOpen.opens_int Try.underlying5 (by kernel_rfl))))))) (fun y h => ⟨⟨y.1, y.2.1, y.2.2.1, y.2.2.2⟩, rfl, by exact h⟩)
def ok34 (x : S34) : Prop := (ok25 x.f0) ∧ (ok25 x.f1)
set_option maxRecDepth 100000 in
theorem opens34 : HOpen.Opens Try.prog 34 k34 ok34 :=
  HOpen.opens_struct Try.underlying34 (by kernel_rfl) (HOpen.opensF_cons rfl rfl opens25 (by decide) (HOpen.opensF_one rfl opens25)) (fun y h => ⟨⟨y.1, y.2⟩, rfl, by exact h⟩)
def ok117 (x : S117) : Prop := ((Lit.int .i64 x.f0).wf = true) ∧ ((Lit.int .i64 x.f1).wf = true) ∧ ((Lit.int .i64 x.f2).wf = true) ∧ ((x.f3.length ≤ 9223372036854775807 ∧ ∀ y_x_f3 ∈ x.f3, ok34 y_x_f3)) ∧ ((x.f4.length ≤ 9223372036854775807 ∧ ∀ y_x_f4 ∈ x.f4, ok25 y_x_f4))
set_option maxRecDepth 100000 in
theorem opens117 : HOpen.Opens Try.prog 117 k117 ok117 :=
  HOpen.opens_struct Try.underlying117 (by kernel_rfl) (HOpen.opensF_cons rfl rfl (HOpen.opens_int Try.underlying3 (by kernel_rfl)) (by decide) (HOpen.opensF_cons rfl rfl (HOpen.opens_int Try.underlying3 (by kernel_rfl)) (by decide) (HOpen.opensF_cons rfl rfl (HOpen.opens_int Try.underlying3 (by kernel_rfl)) (by decide) (HOpen.opensF_cons rfl rfl (HOpen.opens_slice 34 Try.underlying52 (by kernel_rfl) opens34) (by decide) (HOpen.opensF_one rfl (HOpen.opens_slice 25 Try.underlying53 (by kernel_rfl) opens25)))))) (fun y h => ⟨⟨y.1, y.2.1, y.2.2.1, y.2.2.2.1, y.2.2.2.2⟩, rfl, by exact h⟩)
end Go.Proofs.Ytjmlbkhcjgehdaa.PFnExactDeedsOk
