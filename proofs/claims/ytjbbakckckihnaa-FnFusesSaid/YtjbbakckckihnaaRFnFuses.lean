/- FnFuses: the row: whatever the arguments are, the call returns true and the arguments read behind it as before. No condition. -/
import Derived.Test.YtjbbakckckihnaaRows
import Derived.Test.YtjbbakckckihnaaSxOpen
import Derived.Test.YtjbbakckckihnaaF15
import Derived.WalkKit
import Derived.ProofKit
import Derived.OpenShut
import Derived.ShutString
import Derived.ChangeOld
import Derived.Below
import Derived.SizedLaws
namespace Go.Proofs.Ytjbbakckckihnaa.fnFuses
open Go.ChangeShapes Go.WideShapes Go.ChangeAt Go.RowKit Go.Proofs.Ytjbbakckckihnaa.Sx Go.Proofs.Ytjbbakckckihnaa.Dk Go.Proofs.Ytjbbakckckihnaa
open Go.ChangeMaps (open_string shut_string)
set_option linter.unusedVariables false
def kD : Kn (List (List Int) × List (Int × List Int) × Int × Bool) := kPair (kRow 36 kB) (kPair (kRow 59 kW) (kPair kI64 kBool))
theorem opens36 : Opens Try.prog 36 kB (fun l => l.length ≤ 9223372036854775807 ∧ ∀ a ∈ l, (Lit.int .u8 a).wf = true) := opens_slice 5 Try.underlying36 (by kernel_rfl) (opens_u8 Try.underlying5 (by kernel_rfl))
theorem opens90 : Opens Try.prog 90 kW (fun x => (Lit.int .i64 x.1).wf = true ∧ (x.2.length ≤ 9223372036854775807 ∧ ∀ a ∈ x.2, (Lit.int .u8 a).wf = true)) :=
  (opens_struct0 Try.underlying90 (by kernel_rfl) (opensF_cons rfl rfl (opens_i64 Try.underlying3 (by kernel_rfl)) (by decide) (opensF_one rfl opens36))).mono fun _ h => h
theorem opens25 : Opens Try.prog 25 kD (fun x => (x.1.length ≤ 9223372036854775807 ∧ ∀ a ∈ x.1, a.length ≤ 9223372036854775807 ∧ ∀ b ∈ a, (Lit.int .u8 b).wf = true) ∧ (x.2.1.length ≤ 9223372036854775807 ∧ ∀ a ∈ x.2.1, (Lit.int .i64 a.1).wf = true ∧ (a.2.length ≤ 9223372036854775807 ∧ ∀ b ∈ a.2, (Lit.int .u8 b).wf = true)) ∧ (Lit.int .i64 x.2.2.1).wf = true ∧ True) :=
  (opens_struct0 Try.underlying25 (by kernel_rfl) (opensF_cons rfl rfl (opens_slice 36 Try.underlying22 (by kernel_rfl) opens36) (by decide) (opensF_cons rfl rfl (opens_slice 59 Try.underlying23 (by kernel_rfl) opens90) (by decide) (opensF_cons rfl rfl (opens_i64 Try.underlying3 (by kernel_rfl)) (by decide) (opensF_one rfl (opens_bool Try.underlying4 (by kernel_rfl))))))).mono fun _ h => h
theorem own : ownKnob Try.prog.godebug = none := by kernel_rfl
theorem laidOut : laidOutB Try.prog = true := by kernel_rfl
set_option maxRecDepth 100000 in
theorem lifted (os : Os) (started : os.Started) (H : Type) (enc : TypeId × Value → H) :
    ReturnsInHanded {} Try.checked os 8 .any (Rows.fnFusesSpec.pre6 enc Try.prog Try.f8 Rows.fnFusesRow.domain false) (Rows.fnFusesSpec.post enc Try.prog Try.f8 false true false false) := by
  refine returnsInHanded_of_change_sized (C := Try.checked) own started (by kernel_rfl) Try.func8
    (ChangeSpec.witness6 (enc := enc) (C := Try.checked) false ⟨#[], #[.slice none 0 0], []⟩ 8 (by kernel_rfl) (by kernel_rfl) (by kernel_rfl) (by kernel_rfl)) ?_
  intro W base args ds gs before hval0 hW hcnd hsz0 _
  have hval : ∀ (j : Nat) t v, Try.f8.params[j]? = some t → args[j]? = some v → Value.okWide Try.prog W .any base t v := hval0
  have hW' := hW
  obtain ⟨p, q, hA0, hV, rfl, hfz, hnd⟩ := hW
  have hA : DataW.TrodAll enc Try.prog W 0 (fun _ => true) true Try.f8.params.toList args.toList ds p := hA0
  rw [Try.params8] at hA hval
  obtain ⟨v0, vs0, d0, ds0, p0, q0, hargs, rfl, rfl, h0, r0⟩ := trodAll_cons hA
  obtain ⟨rfl, rfl, rfl⟩ := trodAll_nil r0
  obtain rfl : args = #[v0] := by cases args; simp_all
  obtain ⟨rfl, rfl⟩ := trodVars_none hV
  have k0 := h0
  have lt0 : ∀ x ∈ p0, x.block < W.heap.size := by obtain ⟨m, hm⟩ := k0; exact DataW.trod_lt m _ _ _ hm
  obtain ⟨D, dd, ys, rfl, hr2, w0⟩ := open_slice_arg Try.underlying36 opens36 (hval 0 36 v0 rfl rfl) h0
  clear hA0 hval0 hsz0
  refine (lawFuses_ok ys D dd W hr2 (fun b hb => by have := w0.2 b hb; simp only [Lit.wf, Bool.and_eq_true, decide_eq_true_eq] at this; exact this)).mono fun e W' ⟨he, bel0⟩ => ?_
  have bel : Below W.heap.size W W' := bel0
  subst he
  exact ⟨_, rfl, _, _, _, [], _, [], hW', trodAll_mk1 (shut_bool Try.underlying4 _), (trodAll_cons_mk (Below.trod laidOut (by kernel_rfl) (of_decide_eq_true (by kernel_rfl)) k0 bel lt0) trodAll_mk0), rfl, bel.frame _, fun h => by cases h⟩
theorem over : Rows.fnFusesRow.holds Try.pinned (OpenSpec.ofChange Rows.fnFusesSpec) :=
  OpenClaim.holds_of_wide 8 Try.f8 rfl rfl rfl rfl rfl rfl rfl ⟨rfl, rfl, rfl, rfl, rfl⟩ rfl rfl rfl rfl rfl (by kernel_rfl) Try.func8 (by kernel_rfl)
    (of_decide_eq_true (by kernel_rfl)) (by unfold Func.isWrapper; first | (rw [if_pos (by decide +kernel)]; kernel_rfl) | (rw [if_neg (by decide +kernel)]; exact ⟨rfl, rfl⟩))
    (fun os started H enc _ => lifted os started H enc)
end Go.Proofs.Ytjbbakckckihnaa.fnFuses
namespace Go.Proofs.Ytjbbakckckihnaa
/-- The row. -/
theorem fnFuses_holds : Rows.FnFusesSaid := fnFuses.over
#print axioms fnFuses_holds
end Go.Proofs.Ytjbbakckckihnaa
