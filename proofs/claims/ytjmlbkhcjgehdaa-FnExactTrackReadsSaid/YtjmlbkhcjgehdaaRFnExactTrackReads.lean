/- FnExactTrackReads: the row: whatever the arguments are, the call returns true and the arguments read behind it as before. No condition. -/
import Derived.Test.YtjmlbkhcjgehdaaOFnExactTrackReads
import Derived.Test.YtjmlbkhcjgehdaaRows
import Derived.Test.YtjmlbkhcjgehdaaVH
import Derived.Test.YtjmlbkhcjgehdaaPFnExactTrackReadsx8
import Derived.Test.YtjmlbkhcjgehdaaPureFnExactTrackReads
import Derived.WalkKit
import Derived.ProofKit
import Derived.OpenShut
import Derived.ShutString
import Derived.ChangeOld
import Derived.Below
import Derived.SizedLaws
namespace Go.Proofs.Ytjmlbkhcjgehdaa.fnExactTrackReads
open Go.ChangeShapes Go.WideShapes Go.ChangeAt Go.RowKit Go.Proofs.YtjmlbkhcjgehdaaW.PrintWords Go.Proofs.Ytjmlbkhcjgehdaa Go.Proofs.Ytjmlbkhcjgehdaa.PFnExactTrackReads
open Go.ChangeMaps (open_string shut_string)
set_option linter.unusedVariables false
theorem own : ownKnob Try.prog.godebug = none := by kernel_rfl
theorem laidOut : laidOutB Try.prog = true := by kernel_rfl
set_option maxRecDepth 100000 in
theorem lifted (os : Os) (started : os.Started) (H : Type) (enc : TypeId × Value → H) :
    ReturnsInHanded {} Try.checked os 6 .any (Rows.fnExactTrackReadsSpec.pre6 enc Try.prog Try.f6 Rows.fnExactTrackReadsRow.domain false) (Rows.fnExactTrackReadsSpec.post enc Try.prog Try.f6 false true false false) := by
  refine returnsInHanded_of_change_sized (C := Try.checked) own started (by kernel_rfl) Try.func6
    (ChangeSpec.witness6 (enc := enc) (C := Try.checked) false ⟨#[], #[.agg #[.int .i64 0, .int .i64 0, .int .i64 0, .bool false, .slice none 0 0, .slice none 0 0, .bool false, .bool false], .agg #[.int .i64 0, .int .i64 0, .float .f64 0, .slice none 0 0]], []⟩ 8 (by kernel_rfl) (by kernel_rfl) (by kernel_rfl) (by kernel_rfl)) ?_
  intro W base args ds gs before hval0 hW hcnd hsz0 _
  have hval : ∀ (j : Nat) t v, Try.f6.params[j]? = some t → args[j]? = some v → Value.okWide Try.prog W .any base t v := hval0
  have hW' := hW
  obtain ⟨p, q, hA0, hV, rfl, hfz, hnd⟩ := hW
  have hA : DataW.TrodAll enc Try.prog W 0 (fun _ => true) true Try.f6.params.toList args.toList ds p := hA0
  rw [Try.params6] at hA hval
  obtain ⟨v0, vs0, d0, ds0, p0, q0, hargs, rfl, rfl, h0, r0⟩ := trodAll_cons hA
  obtain ⟨v1, vs1, d1, ds1, p1, q1, rfl, rfl, rfl, h1, r1⟩ := trodAll_cons r0
  obtain ⟨rfl, rfl, rfl⟩ := trodAll_nil r1
  obtain rfl : args = #[v0, v1] := by cases args; simp_all
  obtain ⟨rfl, rfl⟩ := trodVars_none hV
  have k0 := h0
  have lt0 : ∀ x ∈ p0, x.block < W.heap.size := by obtain ⟨m, hm⟩ := k0; exact DataW.trod_lt m _ _ _ hm
  obtain ⟨cs0, x0, rfl, hk0, w0⟩ := HOpen.open_struct_arg Try.underlying55 opens55 (hval 0 55 v0 rfl rfl) h0
  obtain ⟨A0_4, c0_4, A0_5, c0_5, he0, hc0_4, hr0_4, hc0_5, hr0_5⟩ := k55_open hk0
  obtain rfl : cs0 = #[.int .i64 x0.f0, .int .i64 x0.f1, .int .i64 x0.f2, .bool x0.f3, .slice A0_4 x0.f4.length c0_4, .slice A0_5 x0.f5.length c0_5, .bool x0.f6, .bool x0.f7] := by cases cs0; simp_all
  have k1 := h1
  have lt1 : ∀ x ∈ p1, x.block < W.heap.size := by obtain ⟨m, hm⟩ := k1; exact DataW.trod_lt m _ _ _ hm
  obtain ⟨cs1, x1, rfl, hk1, w1⟩ := HOpen.open_struct_arg Try.underlying25 opens25 (hval 1 25 v1 rfl rfl) h1
  obtain ⟨A1_3, c1_3, he1, hc1_3, hr1_3⟩ := k25_open hk1
  obtain rfl : cs1 = #[.int .i64 x1.f0, .int .i64 x1.f1, .float .f64 x1.f2, .slice A1_3 x1.f3.length c1_3] := by cases cs1; simp_all
  clear hA0 hval0 hsz0
  obtain ⟨k, h⟩ := Pure.FnExactTrackReads x0 x1 w0 w1
  refine (laws_FnExactTrackReads.calls k x0.f0 x0.f1 x0.f2 x0.f3 A0_4 c0_4 x0.f4 A0_5 c0_5 x0.f5 x0.f6 x0.f7 x1.f0 x1.f1 x1.f2 A1_3 c1_3 x1.f3 true W hr0_4 hc0_4 hr0_5 hc0_5 hr1_3 hc1_3 h rfl).mono fun e W' ⟨he, bel0⟩ => ?_
  have bel : Below W.heap.size W W' := bel0
  subst he
  exact ⟨_, rfl, _, _, _, [], _, [], hW', trodAll_mk1 (shut_bool Try.underlying4 _), (trodAll_cons_mk (Below.trod laidOut (by kernel_rfl) (of_decide_eq_true (by kernel_rfl)) k0 bel lt0) (trodAll_cons_mk (Below.trod laidOut (by kernel_rfl) (of_decide_eq_true (by kernel_rfl)) k1 bel lt1) trodAll_mk0)), rfl, bel.frame _, fun h => by cases h⟩
theorem over : Rows.fnExactTrackReadsRow.holds Try.pinned (OpenSpec.ofChange Rows.fnExactTrackReadsSpec) :=
  OpenClaim.holds_of_wide 6 Try.f6 rfl rfl rfl rfl rfl rfl rfl ⟨rfl, rfl, rfl, rfl, rfl⟩ rfl rfl rfl rfl rfl (by kernel_rfl) Try.func6 (by kernel_rfl)
    (of_decide_eq_true (by kernel_rfl)) (by unfold Func.isWrapper; first | (rw [if_pos (by decide +kernel)]; kernel_rfl) | (rw [if_neg (by decide +kernel)]; exact ⟨rfl, rfl⟩))
    (fun os started H enc _ => lifted os started H enc)
end Go.Proofs.Ytjmlbkhcjgehdaa.fnExactTrackReads
namespace Go.Proofs.Ytjmlbkhcjgehdaa
/-- The row. -/
theorem fnExactTrackReads_holds : Rows.FnExactTrackReadsSaid := fnExactTrackReads.over
#print axioms fnExactTrackReads_holds
end Go.Proofs.Ytjmlbkhcjgehdaa
