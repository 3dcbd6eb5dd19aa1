/- FnExactSnapOk: the row: whatever the arguments are, the call returns true and the arguments read behind it as before. No condition. -/
import Derived.Test.YtciflbagdlkgpaaOFnExactSnapOk
import Derived.Test.YtciflbagdlkgpaaRows
import Derived.Test.YtciflbagdlkgpaaHOpen
import Derived.Test.YtciflbagdlkgpaaPFnExactSnapOkx2
import Derived.Test.YtciflbagdlkgpaaPureFnExactSnapOk
import Derived.WalkKit
import Derived.ProofKit
import Derived.OpenShut
import Derived.ShutString
import Derived.ChangeOld
import Derived.Below
import Derived.SizedLaws
namespace Go.Proofs.Ytciflbagdlkgpaa.fnExactSnapOk
open Go.ChangeShapes Go.WideShapes Go.ChangeAt Go.RowKit Go.Proofs.YtciflbagdlkgpaaW.PrintWords Go.Proofs.Ytciflbagdlkgpaa Go.Proofs.Ytciflbagdlkgpaa.PFnExactSnapOk
open Go.ChangeMaps (open_string shut_string)
set_option linter.unusedVariables false
theorem own : ownKnob Try.prog.godebug = none := by kernel_rfl
theorem laidOut : laidOutB Try.prog = true := by kernel_rfl
set_option maxRecDepth 100000 in
theorem lifted (os : Os) (started : os.Started) (H : Type) (enc : TypeId × Value → H) :
    ReturnsInHanded {} Try.checked os 5 .any (Rows.fnExactSnapOkSpec.pre6 enc Try.prog Try.f5 Rows.fnExactSnapOkRow.domain false) (Rows.fnExactSnapOkSpec.post enc Try.prog Try.f5 false true false false) := by
  refine returnsInHanded_of_change_sized (C := Try.checked) own started (by kernel_rfl) Try.func5
    (ChangeSpec.witness6 (enc := enc) (C := Try.checked) false ⟨#[], #[.agg #[.int .i64 0, .slice none 0 0]], []⟩ 8 (by kernel_rfl) (by kernel_rfl) (by kernel_rfl) (by kernel_rfl)) ?_
  intro W base args ds gs before hval0 hW hcnd hsz0 _
  have hval : ∀ (j : Nat) t v, Try.f5.params[j]? = some t → args[j]? = some v → Value.okWide Try.prog W .any base t v := hval0
  have hW' := hW
  obtain ⟨p, q, hA0, hV, rfl, hfz, hnd⟩ := hW
  have hA : DataW.TrodAll enc Try.prog W 0 (fun _ => true) true Try.f5.params.toList args.toList ds p := hA0
  rw [Try.params5] at hA hval
  obtain ⟨v0, vs0, d0, ds0, p0, q0, hargs, rfl, rfl, h0, r0⟩ := trodAll_cons hA
  obtain ⟨rfl, rfl, rfl⟩ := trodAll_nil r0
  obtain rfl : args = #[v0] := by cases args; simp_all
  obtain ⟨rfl, rfl⟩ := trodVars_none hV
  have k0 := h0
  have lt0 : ∀ x ∈ p0, x.block < W.heap.size := by obtain ⟨m, hm⟩ := k0; exact DataW.trod_lt m _ _ _ hm
  obtain ⟨cs0, x0, rfl, hk0, w0⟩ := HOpen.open_struct_arg Try.underlying34 opens34 (hval 0 34 v0 rfl rfl) h0
  obtain ⟨A0_1, c0_1, he0, hc0_1, hr0_1⟩ := k34_open hk0
  obtain rfl : cs0 = #[.int .i64 x0.f0, .slice A0_1 x0.f1.length c0_1] := by cases cs0; simp_all
  clear hA0 hval0 hsz0
  obtain ⟨k, h⟩ := Pure.FnExactSnapOk x0 w0
  refine (laws_FnExactSnapOk.calls k x0.f0 A0_1 c0_1 x0.f1 true W hr0_1 hc0_1 h).mono fun e W' ⟨he, bel0⟩ => ?_
  have bel : Below W.heap.size W W' := bel0
  subst he
  exact ⟨_, rfl, _, _, _, [], _, [], hW', trodAll_mk1 (shut_bool Try.underlying4 _), (trodAll_cons_mk (Below.trod laidOut (by kernel_rfl) (of_decide_eq_true (by kernel_rfl)) k0 bel lt0) trodAll_mk0), rfl, bel.frame _, fun h => by cases h⟩
theorem over : Rows.fnExactSnapOkRow.holds Try.pinned (OpenSpec.ofChange Rows.fnExactSnapOkSpec) :=
  OpenClaim.holds_of_wide 5 Try.f5 rfl rfl rfl rfl rfl rfl rfl ⟨rfl, rfl, rfl, rfl, rfl⟩ rfl rfl rfl rfl rfl (by kernel_rfl) Try.func5 (by kernel_rfl)
    (of_decide_eq_true (by kernel_rfl)) (by unfold Func.isWrapper; first | (rw [if_pos (by decide +kernel)]; kernel_rfl) | (rw [if_neg (by decide +kernel)]; exact ⟨rfl, rfl⟩))
    (fun os started H enc _ => lifted os started H enc)
end Go.Proofs.Ytciflbagdlkgpaa.fnExactSnapOk
namespace Go.Proofs.Ytciflbagdlkgpaa
/-- The row. -/
theorem fnExactSnapOk_holds : Rows.FnExactSnapOkSaid := fnExactSnapOk.over
#print axioms fnExactSnapOk_holds
end Go.Proofs.Ytciflbagdlkgpaa
