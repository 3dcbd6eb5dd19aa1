/- What the arguments of FnExactDeedsOk read as, opened. -/
import Derived.Test.YtjmlbkhcjgehdaaVH
import Derived.Test.YtjmlbkhcjgehdaaPFnExactDeedsOkx9
namespace Go.Proofs.Ytjmlbkhcjgehdaa.HOpen
open Go.ChangeShapes Go.WideShapes Go.Deep Go.RowKit Go.Proofs.YtjmlbkhcjgehdaaW.PrintWords
section
variable {P : Program} {t : TypeId}
theorem open_slice_arg {α : Type} {H : Type} {enc : TypeId × Value → H} {w : World} {base base2 : Nat} {spare : Nat → Bool} {held : Bool} {v : Value} {x : DataW H} {ps : List MemPlace} {e : TypeId} {E : Nat} {d : Kd α} {ok : List α → Prop} {r : Reach}
    (ht : P.underlying t = some (.slice e)) (h : Opens P t (Kd.slice E d) ok) (hv : Value.okWide P w r base2 t v) (hd : DataW.Trod enc P w base spare held t v x ps) : ∃ A c l, v = .slice A (List.length l) c ∧ l.length ≤ c ∧ d.C w A l.length l ∧ ok l := by
  obtain ⟨A, len, cap, rfl⟩ := okWide_slice ht hv
  obtain ⟨fuel, hf⟩ := hd
  obtain ⟨l, ⟨A2, c2, he, hl, hC⟩, o⟩ := h.2 hf
  obtain ⟨rfl, rfl, rfl⟩ : A = A2 ∧ len = l.length ∧ cap = c2 := by simpa [Value.cells] using he
  exact ⟨A, cap, l, rfl, hl, hC, o⟩
end
end Go.Proofs.Ytjmlbkhcjgehdaa.HOpen
namespace Go.Proofs.Ytjmlbkhcjgehdaa.PFnExactDeedsOk
open Go.RowKit Go.Proofs.YtjmlbkhcjgehdaaW.PrintWords Go.Proofs.Ytjmlbkhcjgehdaa Go.Proofs.Ytjmlbkhcjgehdaa.HFl
set_option linter.unusedVariables false

def ok25 (x : S25) : Prop := ((Lit.int .i64 x.f0).wf = true) ∧ ((Lit.int .i64 x.f1).wf = true) ∧ (x.f2 < 2 ^ 64) ∧ ((x.f3.length ≤ 9223372036854775807 ∧ ∀ y_x_f3 ∈ x.f3, (Lit.int .u8 y_x_f3).wf = true))
set_option maxRecDepth 100000 in
theorem opens25 : HOpen.Opens Try.prog 25 k25 ok25 :=
  HOpen.opens_struct Try.underlying25 (by kernel_rfl) (HOpen.opensF_cons rfl rfl (HOpen.opens_int Try.underlying3 (by kernel_rfl)) (by decide) (HOpen.opensF_cons rfl rfl (HOpen.opens_int Try.underlying3 (by kernel_rfl)) (by decide) (HOpen.opensF_cons rfl rfl (HOpen.opens_float Try.underlying22 (by kernel_rfl)) (by decide) (HOpen.opensF_one rfl (HOpen.opens_slice 5 Try.underlying23 (by kernel_rfl) (HOpen.opens_int Try.underlying5 (by kernel_rfl))))))) (fun y h => ⟨⟨y.1, y.2.1, y.2.2.1, y.2.2.2⟩, rfl, by exact h⟩)
def ok34 (x : S34) : Prop := (ok25 x.f0) ∧ (ok25 x.f1)
set_option maxRecDepth 100000 in
theorem opens34 : HOpen.Opens Try.prog 34 k34 ok34 :=
  HOpen.opens_struct Try.underlying34 (by kernel_rfl) (HOpen.opensF_cons rfl rfl opens25 (by decide) (HOpen.opensF_one rfl opens25)) (fun y h => ⟨⟨y.1, y.2⟩, rfl, by exact h⟩)
def ok117 (x : S117) : Prop := ((Lit.int .i64 x.f0).wf = true) ∧ ((Lit.int .i64 x.f1).wf = true) ∧ ((Lit.int .i64 x.f2).wf = true) ∧ ((x.f3.length ≤ 9223372036854775807 ∧ ∀ y_x_f3 ∈ x.f3, ok34 y_x_f3)) ∧ ((x.f4.length ≤ 9223372036854775807 ∧ ∀ y_x_f4 ∈ x.f4, ok25 y_x_f4))
set_option maxRecDepth 100000 in
theorem opens117 : HOpen.Opens Try.prog 117 k117 ok117 :=
  HOpen.opens_struct Try.underlying117 (by kernel_rfl) (HOpen.opensF_cons rfl rfl (HOpen.opens_int Try.underlying3 (by kernel_rfl)) (by decide) (HOpen.opensF_cons rfl rfl (HOpen.opens_int Try.underlying3 (by kernel_rfl)) (by decide) (HOpen.opensF_cons rfl rfl (HOpen.opens_int Try.underlying3 (by kernel_rfl)) (by decide) (HOpen.opensF_cons rfl rfl (HOpen.opens_slice 34 Try.underlying52 (by kernel_rfl) opens34) (by decide) (HOpen.opensF_one rfl (HOpen.opens_slice 25 Try.underlying53 (by kernel_rfl) opens25)))))) (fun y h => ⟨⟨y.1, y.2.1, y.2.2.1, y.2.2.2.1, y.2.2.2.2⟩, rfl, by exact h⟩)
end Go.Proofs.Ytjmlbkhcjgehdaa.PFnExactDeedsOk
