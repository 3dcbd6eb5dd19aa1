/- FnExactOpOk: the row: whatever the arguments are, the call returns true and the arguments read behind it as before. No condition. -/
import Derived.Test.YtjmlbkhcjgehdaaOFnExactOpOk
import Derived.Test.YtjmlbkhcjgehdaaRows
import Derived.Test.YtjmlbkhcjgehdaaVH
import Derived.Test.YtjmlbkhcjgehdaaPFnExactOpOkx7
import Derived.Test.YtjmlbkhcjgehdaaPureFnExactOpOk
import Derived.WalkKit
import Derived.ProofKit
import Derived.OpenShut
import Derived.ShutString
import Derived.ChangeOld
import Derived.Below
import Derived.SizedLaws
namespace Go.Proofs.Ytjmlbkhcjgehdaa.fnExactOpOk
open Go.ChangeShapes Go.WideShapes Go.ChangeAt Go.RowKit Go.Proofs.YtjmlbkhcjgehdaaW.PrintWords Go.Proofs.Ytjmlbkhcjgehdaa Go.Proofs.Ytjmlbkhcjgehdaa.PFnExactOpOk
open Go.ChangeMaps (open_string shut_string)
set_option linter.unusedVariables false
theorem own : ownKnob Try.prog.godebug = none := by kernel_rfl
theorem laidOut : laidOutB Try.prog = true := by kernel_rfl
set_option maxRecDepth 100000 in
theorem lifted (os : Os) (started : os.Started) (H : Type) (enc : TypeId × Value → H) :
    ReturnsInHanded {} Try.checked os 5 .any (Rows.fnExactOpOkSpec.pre6 enc Try.prog Try.f5 Rows.fnExactOpOkRow.domain false) (Rows.fnExactOpOkSpec.post enc Try.prog Try.f5 false true false false) := by
  refine returnsInHanded_of_change_sized (C := Try.checked) own started (by kernel_rfl) Try.func5
    (ChangeSpec.witness6 (enc := enc) (C := Try.checked) false ⟨#[], #[.agg #[.int .i64 0, .int .i64 0, .int .i64 0, .int .i64 0, .int .i64 0, .int .i64 0, .float .f64 0, .slice none 0 0, .int .i64 0, .int .i64 0, .float .f64 0, .slice none 0 0, .int .i64 0, .int .i64 0, .float .f64 0, .slice none 0 0, .slice none 0 0]], []⟩ 8 (by kernel_rfl) (by kernel_rfl) (by kernel_rfl) (by kernel_rfl)) ?_
  intro W base args ds gs before hval0 hW hcnd hsz0 _
  have hval : ∀ (j : Nat) t v, Try.f5.params[j]? = some t → args[j]? = some v → Value.okWide Try.prog W .any base t v := hval0
  have hW' := hW
  obtain ⟨p, q, hA0, hV, rfl, hfz, hnd⟩ := hW
  have hA : DataW.TrodAll enc Try.prog W 0 (fun _ => true) true Try.f5.params.toList args.toList ds p := hA0
  rw [Try.params5] at hA hval
  obtain ⟨v0, vs0, d0, ds0, p0, q0, hargs, rfl, rfl, h0, r0⟩ := trodAll_cons hA
  obtain ⟨rfl, rfl, rfl⟩ := trodAll_nil r0
  obtain rfl : args = #[v0] := by cases args; simp_all
  obtain ⟨rfl, rfl⟩ := trodVars_none hV
  have k0 := h0
  have lt0 : ∀ x ∈ p0, x.block < W.heap.size := by obtain ⟨m, hm⟩ := k0; exact DataW.trod_lt m _ _ _ hm
  obtain ⟨cs0, x0, rfl, hk0, w0⟩ := HOpen.open_struct_arg Try.underlying44 opens44 (hval 0 44 v0 rfl rfl) h0
  obtain ⟨A0_7, c0_7, A0_11, c0_11, A0_15, c0_15, A0_16, c0_16, he0, hc0_7, hr0_7, hc0_11, hr0_11, hc0_15, hr0_15, hc0_16, hr0_16⟩ := k44_open hk0
  obtain rfl : cs0 = #[.int .i64 x0.f0, .int .i64 x0.f1, .int .i64 x0.f2, .int .i64 x0.f3, .int .i64 x0.f4.f0, .int .i64 x0.f4.f1, .float .f64 x0.f4.f2, .slice A0_7 x0.f4.f3.length c0_7, .int .i64 x0.f5.f0, .int .i64 x0.f5.f1, .float .f64 x0.f5.f2, .slice A0_11 x0.f5.f3.length c0_11, .int .i64 x0.f6.f0, .int .i64 x0.f6.f1, .float .f64 x0.f6.f2, .slice A0_15 x0.f6.f3.length c0_15, .slice A0_16 x0.f7.length c0_16] := by cases cs0; simp_all
  clear hA0 hval0 hsz0
  obtain ⟨k, h⟩ := Pure.FnExactOpOk x0 w0
  refine (laws_FnExactOpOk.calls k x0.f0 x0.f1 x0.f2 x0.f3 x0.f4.f0 x0.f4.f1 x0.f4.f2 A0_7 c0_7 x0.f4.f3 x0.f5.f0 x0.f5.f1 x0.f5.f2 A0_11 c0_11 x0.f5.f3 x0.f6.f0 x0.f6.f1 x0.f6.f2 A0_15 c0_15 x0.f6.f3 A0_16 c0_16 x0.f7 true W hr0_7 hc0_7 hr0_11 hc0_11 hr0_15 hc0_15 hr0_16 hc0_16 h rfl).mono fun e W' ⟨he, bel0⟩ => ?_
  have bel : Below W.heap.size W W' := bel0
  subst he
  exact ⟨_, rfl, _, _, _, [], _, [], hW', trodAll_mk1 (shut_bool Try.underlying4 _), (trodAll_cons_mk (Below.trod laidOut (by kernel_rfl) (of_decide_eq_true (by kernel_rfl)) k0 bel lt0) trodAll_mk0), rfl, bel.frame _, fun h => by cases h⟩
theorem over : Rows.fnExactOpOkRow.holds Try.pinned (OpenSpec.ofChange Rows.fnExactOpOkSpec) :=
  OpenClaim.holds_of_wide 5 Try.f5 rfl rfl rfl rfl rfl rfl rfl ⟨rfl, rfl, rfl, rfl, rfl⟩ rfl rfl rfl rfl rfl (by kernel_rfl) Try.func5 (by kernel_rfl)
    (of_decide_eq_true (by kernel_rfl)) (by unfold Func.isWrapper; first | (rw [if_pos (by decide +kernel)]; kernel_rfl) | (rw [if_neg (by decide +kernel)]; exact ⟨rfl, rfl⟩))
    (fun os started H enc _ => lifted os started H enc)
end Go.Proofs.Ytjmlbkhcjgehdaa.fnExactOpOk
namespace Go.Proofs.Ytjmlbkhcjgehdaa
/-- The row. -/
theorem fnExactOpOk_holds : Rows.FnExactOpOkSaid := fnExactOpOk.over
#print axioms fnExactOpOk_holds
end Go.Proofs.Ytjmlbkhcjgehdaa
