/- FnExactSpanOk: the row: whatever the arguments are, the call returns true and the arguments read behind it as before. No condition. -/
import Derived.Test.YtjmlbkhcjgehdaaOFnExactSpanOk
import Derived.Test.YtjmlbkhcjgehdaaRows
import Derived.Test.YtjmlbkhcjgehdaaHOpen
import Derived.Test.YtjmlbkhcjgehdaaPFnExactSpanOkx6
import Derived.Test.YtjmlbkhcjgehdaaPureFnExactSpanOk
import Derived.WalkKit
import Derived.ProofKit
import Derived.OpenShut
import Derived.ShutString
import Derived.ChangeOld
import Derived.Below
import Derived.SizedLaws
namespace Go.Proofs.Ytjmlbkhcjgehdaa.fnExactSpanOk
open Go.ChangeShapes Go.WideShapes Go.ChangeAt Go.RowKit Go.Proofs.YtjmlbkhcjgehdaaW.PrintWords Go.Proofs.Ytjmlbkhcjgehdaa Go.Proofs.Ytjmlbkhcjgehdaa.PFnExactSpanOk
open Go.ChangeMaps (open_string shut_string)
set_option linter.unusedVariables false
theorem own : ownKnob Try.prog.godebug = none := by kernel_rfl
theorem laidOut : laidOutB Try.prog = true := by kernel_rfl
set_option maxRecDepth 100000 in
theorem lifted (os : Os) (started : os.Started) (H : Type) (enc : TypeId × Value → H) :
    ReturnsInHanded {} Try.checked os 4 .any (Rows.fnExactSpanOkSpec.pre6 enc Try.prog Try.f4 Rows.fnExactSpanOkRow.domain false) (Rows.fnExactSpanOkSpec.post enc Try.prog Try.f4 false true false false) := by
  refine returnsInHanded_of_change_sized (C := Try.checked) own started (by kernel_rfl) Try.func4
    (ChangeSpec.witness6 (enc := enc) (C := Try.checked) false ⟨#[], #[.agg #[.int .i64 0, .int .i64 0, .float .f64 0, .slice none 0 0, .int .i64 0, .int .i64 0, .float .f64 0, .slice none 0 0]], []⟩ 8 (by kernel_rfl) (by kernel_rfl) (by kernel_rfl) (by kernel_rfl)) ?_
  intro W base args ds gs before hval0 hW hcnd hsz0 _
  have hval : ∀ (j : Nat) t v, Try.f4.params[j]? = some t → args[j]? = some v → Value.okWide Try.prog W .any base t v := hval0
  have hW' := hW
  obtain ⟨p, q, hA0, hV, rfl, hfz, hnd⟩ := hW
  have hA : DataW.TrodAll enc Try.prog W 0 (fun _ => true) true Try.f4.params.toList args.toList ds p := hA0
  rw [Try.params4] at hA hval
  obtain ⟨v0, vs0, d0, ds0, p0, q0, hargs, rfl, rfl, h0, r0⟩ := trodAll_cons hA
  obtain ⟨rfl, rfl, rfl⟩ := trodAll_nil r0
  obtain rfl : args = #[v0] := by cases args; simp_all
  obtain ⟨rfl, rfl⟩ := trodVars_none hV
  have k0 := h0
  have lt0 : ∀ x ∈ p0, x.block < W.heap.size := by obtain ⟨m, hm⟩ := k0; exact DataW.trod_lt m _ _ _ hm
  obtain ⟨cs0, x0, rfl, hk0, w0⟩ := HOpen.open_struct_arg Try.underlying34 opens34 (hval 0 34 v0 rfl rfl) h0
  obtain ⟨A0_3, c0_3, A0_7, c0_7, he0, hc0_3, hr0_3, hc0_7, hr0_7⟩ := k34_open hk0
  obtain rfl : cs0 = #[.int .i64 x0.f0.f0, .int .i64 x0.f0.f1, .float .f64 x0.f0.f2, .slice A0_3 x0.f0.f3.length c0_3, .int .i64 x0.f1.f0, .int .i64 x0.f1.f1, .float .f64 x0.f1.f2, .slice A0_7 x0.f1.f3.length c0_7] := by cases cs0; simp_all
  clear hA0 hval0 hsz0
  obtain ⟨k, h⟩ := Pure.FnExactSpanOk x0 w0
  refine (laws_FnExactSpanOk.calls k x0.f0.f0 x0.f0.f1 x0.f0.f2 A0_3 c0_3 x0.f0.f3 x0.f1.f0 x0.f1.f1 x0.f1.f2 A0_7 c0_7 x0.f1.f3 true W hr0_3 hc0_3 hr0_7 hc0_7 h rfl).mono fun e W' ⟨he, bel0⟩ => ?_
  have bel : Below W.heap.size W W' := bel0
  subst he
  exact ⟨_, rfl, _, _, _, [], _, [], hW', trodAll_mk1 (shut_bool Try.underlying4 _), (trodAll_cons_mk (Below.trod laidOut (by kernel_rfl) (of_decide_eq_true (by kernel_rfl)) k0 bel lt0) trodAll_mk0), rfl, bel.frame _, fun h => by cases h⟩
theorem over : Rows.fnExactSpanOkRow.holds Try.pinned (OpenSpec.ofChange Rows.fnExactSpanOkSpec) :=
  OpenClaim.holds_of_wide 4 Try.f4 rfl rfl rfl rfl rfl rfl rfl ⟨rfl, rfl, rfl, rfl, rfl⟩ rfl rfl rfl rfl rfl (by kernel_rfl) Try.func4 (by kernel_rfl)
    (of_decide_eq_true (by kernel_rfl)) (by unfold Func.isWrapper; first | (rw [if_pos (by decide +kernel)]; kernel_rfl) | (rw [if_neg (by decide +kernel)]; exact ⟨rfl, rfl⟩))
    (fun os started H enc _ => lifted os started H enc)
end Go.Proofs.Ytjmlbkhcjgehdaa.fnExactSpanOk
namespace Go.Proofs.Ytjmlbkhcjgehdaa
/-- The row. -/
theorem fnExactSpanOk_holds : Rows.FnExactSpanOkSaid := fnExactSpanOk.over
#print axioms fnExactSpanOk_holds
end Go.Proofs.Ytjmlbkhcjgehdaa
