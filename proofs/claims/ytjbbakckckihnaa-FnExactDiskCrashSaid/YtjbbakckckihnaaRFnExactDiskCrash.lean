/- FnExactDiskCrash: the row: whatever the arguments are, the call returns true and the arguments read behind it as before. No condition. -/
import Derived.Test.YtjbbakckckihnaaRows
import Derived.Test.YtjbbakckckihnaaSxOpen
import Derived.Test.YtjbbakckckihnaaF12
import Derived.WalkKit
import Derived.ProofKit
import Derived.OpenShut
import Derived.ShutString
import Derived.ChangeOld
import Derived.Below
import Derived.SizedLaws
namespace Go.Proofs.Ytjbbakckckihnaa.fnExactDiskCrash
open Go.ChangeShapes Go.WideShapes Go.ChangeAt Go.RowKit Go.Proofs.Ytjbbakckckihnaa.Sx Go.Proofs.Ytjbbakckckihnaa.Dk Go.Proofs.Ytjbbakckckihnaa
open Go.ChangeMaps (open_string shut_string)
set_option linter.unusedVariables false
def kD : Kn (List (List Int) × List (Int × List Int) × Int × Bool) := kPair (kRow 36 kB) (kPair (kRow 59 kW) (kPair kI64 kBool))
theorem opens36 : Opens Try.prog 36 kB (fun l => l.length ≤ 9223372036854775807 ∧ ∀ a ∈ l, (Lit.int .u8 a).wf = true) := opens_slice 5 Try.underlying36 (by kernel_rfl) (opens_u8 Try.underlying5 (by kernel_rfl))
theorem opens90 : Opens Try.prog 90 kW (fun x => (Lit.int .i64 x.1).wf = true ∧ (x.2.length ≤ 9223372036854775807 ∧ ∀ a ∈ x.2, (Lit.int .u8 a).wf = true)) :=
  (opens_struct0 Try.underlying90 (by kernel_rfl) (opensF_cons rfl rfl (opens_i64 Try.underlying3 (by kernel_rfl)) (by decide) (opensF_one rfl opens36))).mono fun _ h => h
theorem opens25 : Opens Try.prog 25 kD (fun x => (x.1.length ≤ 9223372036854775807 ∧ ∀ a ∈ x.1, a.length ≤ 9223372036854775807 ∧ ∀ b ∈ a, (Lit.int .u8 b).wf = true) ∧ (x.2.1.length ≤ 9223372036854775807 ∧ ∀ a ∈ x.2.1, (Lit.int .i64 a.1).wf = true ∧ (a.2.length ≤ 9223372036854775807 ∧ ∀ b ∈ a.2, (Lit.int .u8 b).wf = true)) ∧ (Lit.int .i64 x.2.2.1).wf = true ∧ True) :=
  (opens_struct0 Try.underlying25 (by kernel_rfl) (opensF_cons rfl rfl (opens_slice 36 Try.underlying22 (by kernel_rfl) opens36) (by decide) (opensF_cons rfl rfl (opens_slice 59 Try.underlying23 (by kernel_rfl) opens90) (by decide) (opensF_cons rfl rfl (opens_i64 Try.underlying3 (by kernel_rfl)) (by decide) (opensF_one rfl (opens_bool Try.underlying4 (by kernel_rfl))))))).mono fun _ h => h
theorem own : ownKnob Try.prog.godebug = none := by kernel_rfl
theorem laidOut : laidOutB Try.prog = true := by kernel_rfl
set_option maxRecDepth 100000 in
theorem lifted (os : Os) (started : os.Started) (H : Type) (enc : TypeId × Value → H) :
    ReturnsInHanded {} Try.checked os 5 .any (Rows.fnExactDiskCrashSpec.pre6 enc Try.prog Try.f5 Rows.fnExactDiskCrashRow.domain false) (Rows.fnExactDiskCrashSpec.post enc Try.prog Try.f5 false true false false) := by
  refine returnsInHanded_of_change_sized (C := Try.checked) own started (by kernel_rfl) Try.func5
    (ChangeSpec.witness6 (enc := enc) (C := Try.checked) false ⟨#[], #[.agg #[.slice none 0 0, .slice none 0 0, .int .i64 0, .bool false], .slice none 0 0], []⟩ 8 (by kernel_rfl) (by kernel_rfl) (by kernel_rfl) (by kernel_rfl)) ?_
  intro W base args ds gs before hval0 hW hcnd hsz0 _
  have hval : ∀ (j : Nat) t v, Try.f5.params[j]? = some t → args[j]? = some v → Value.okWide Try.prog W .any base t v := hval0
  have hW' := hW
  obtain ⟨p, q, hA0, hV, rfl, hfz, hnd⟩ := hW
  have hA : DataW.TrodAll enc Try.prog W 0 (fun _ => true) true Try.f5.params.toList args.toList ds p := hA0
  rw [Try.params5] at hA hval
  obtain ⟨v0, vs0, d0, ds0, p0, q0, hargs, rfl, rfl, h0, r0⟩ := trodAll_cons hA
  obtain ⟨v1, vs1, d1, ds1, p1, q1, rfl, rfl, rfl, h1, r1⟩ := trodAll_cons r0
  obtain ⟨rfl, rfl, rfl⟩ := trodAll_nil r1
  obtain rfl : args = #[v0, v1] := by cases args; simp_all
  obtain ⟨rfl, rfl⟩ := trodVars_none hV
  have k0 := h0
  have lt0 : ∀ x ∈ p0, x.block < W.heap.size := by obtain ⟨m, hm⟩ := k0; exact DataW.trod_lt m _ _ _ hm
  have k1 := h1
  have lt1 : ∀ x ∈ p1, x.block < W.heap.size := by obtain ⟨m, hm⟩ := k1; exact DataW.trod_lt m _ _ _ hm
  obtain ⟨cs0, ⟨xs, ws, f, dn⟩, rfl, hk0, w0⟩ := open_struct_arg Try.underlying25 opens25 (hval 0 25 v0 rfl rfl) h0
  obtain ⟨_, _, he0, ⟨_, rfl, hr0⟩, _, _, rfl, ⟨_, rfl, hr1⟩, _, _, rfl, rfl, rfl⟩ := hk0
  obtain ⟨A, c, rfl, _⟩ := id hr0
  obtain ⟨A1, c1, rfl, _⟩ := id hr1
  obtain rfl : cs0 = #[.slice A xs.length c, .slice A1 ws.length c1, .int .i64 f, .bool dn] := by cases cs0; simp_all
  simp only at hr0 hr1 w0
  obtain ⟨K, kk, ks, rfl, hr2, w1⟩ := open_slice_arg Try.underlying42 (opens_slice 4 Try.underlying42 (by kernel_rfl) (opens_bool Try.underlying4 (by kernel_rfl))) (hval 1 42 v1 rfl rfl) h1
  clear hA0 hval0 hsz0
  refine (lawCrash_ok xs ws f dn A c A1 c1 ks K kk W hr0 hr1 hr2 w0.1.1 (fun y hy => (w0.1.2 y hy).1) w0.2.1.1 (fun y hy => (w0.2.1.2 y hy).2.1)).mono fun e W' ⟨he, bel0⟩ => ?_
  have bel : Below W.heap.size W W' := bel0
  subst he
  exact ⟨_, rfl, _, _, _, [], _, [], hW', trodAll_mk1 (shut_bool Try.underlying4 _), (trodAll_cons_mk (Below.trod laidOut (by kernel_rfl) (of_decide_eq_true (by kernel_rfl)) k0 bel lt0) (trodAll_cons_mk (Below.trod laidOut (by kernel_rfl) (of_decide_eq_true (by kernel_rfl)) k1 bel lt1) trodAll_mk0)), rfl, bel.frame _, fun h => by cases h⟩
theorem over : Rows.fnExactDiskCrashRow.holds Try.pinned (OpenSpec.ofChange Rows.fnExactDiskCrashSpec) :=
  OpenClaim.holds_of_wide 5 Try.f5 rfl rfl rfl rfl rfl rfl rfl ⟨rfl, rfl, rfl, rfl, rfl⟩ rfl rfl rfl rfl rfl (by kernel_rfl) Try.func5 (by kernel_rfl)
    (of_decide_eq_true (by kernel_rfl)) (by unfold Func.isWrapper; first | (rw [if_pos (by decide +kernel)]; kernel_rfl) | (rw [if_neg (by decide +kernel)]; exact ⟨rfl, rfl⟩))
    (fun os started H enc _ => lifted os started H enc)
end Go.Proofs.Ytjbbakckckihnaa.fnExactDiskCrash
namespace Go.Proofs.Ytjbbakckckihnaa
/-- The row. -/
theorem fnExactDiskCrash_holds : Rows.FnExactDiskCrashSaid := fnExactDiskCrash.over
#print axioms fnExactDiskCrash_holds
end Go.Proofs.Ytjbbakckckihnaa
