/- FnExactHeapDead: the row: whatever the arguments are, the call returns true and the arguments read behind it as before. No condition. -/
import Derived.Test.YtgleoebogikooaaGreatRows
import Derived.Test.YtgleoebogikooaaGreatSxC
import Derived.Test.YtgleoebogikooaaGreatTd
import Derived.WalkKit
import Derived.ProofKit
import Derived.OpenShut
import Derived.ShutString
import Derived.ChangeOld
import Derived.Below
import Derived.SizedLaws
namespace Go.Proofs.YtgleoebogikooaaGreat.fnExactHeapDead
open Go.ChangeShapes Go.WideShapes Go.ChangeAt Go.RowKit Go.Proofs.YtgleoebogikooaaGreat.Sx Go.Proofs.YtgleoebogikooaaGreat.Dk Go.Proofs.YtgleoebogikooaaGreat
open Go.ChangeMaps (open_string shut_string)
set_option linter.unusedVariables false
set_option maxRecDepth 100000
def okB (l : List Int) : Prop := l.length ≤ 9223372036854775807 ∧ ∀ b ∈ l, (Lit.int .u8 b).wf = true
theorem opens40 : Opens Tryz.prog 44 (kRow 5 kU8) okB := opens_slice 5 Tryz.underlying44 (by kernel_rfl) (opens_u8 Tryz.underlying5 (by kernel_rfl))
theorem opens113 : Opens Tryz.prog 56 (kRow 44 (kRow 5 kU8)) (fun l => l.length ≤ 9223372036854775807 ∧ ∀ s ∈ l, okB s) := opens_slice 44 Tryz.underlying56 (by kernel_rfl) opens40
def okP (x : Pg) : Prop := x.slots.length ≤ 9223372036854775807 ∧ ∀ s ∈ x.slots, okB s
theorem opens149 : Opens Tryz.prog 79 kPg okP :=
  opens_struct Tryz.underlying79 (by kernel_rfl) (opensF_cons rfl rfl (opens_i64 Tryz.underlying3 (by kernel_rfl)) (by decide) (opensF_one rfl opens113)) (fun y oy => ⟨⟨y.1, y.2⟩, rfl, oy.2⟩)
theorem opens57 : Opens Tryz.prog 24 kHe (fun t => t.pages.length ≤ 9223372036854775807 ∧ ∀ n ∈ t.pages, okP n) :=
  opens_struct Tryz.underlying24 (by kernel_rfl) (opensF_one rfl (opens_slice 58 Tryz.underlying22 (by kernel_rfl) opens149)) (fun y oy => ⟨⟨y⟩, rfl, oy⟩)
theorem okH_w {t : He} (h : t.pages.length ≤ 9223372036854775807 ∧ ∀ n ∈ t.pages, okP n) : wHe t := ⟨h.1, fun p hp => ⟨(h.2 p hp).1, fun s hs => ((h.2 p hp).2 s hs).1⟩⟩
theorem okH_by {t : He} (h : t.pages.length ≤ 9223372036854775807 ∧ ∀ n ∈ t.pages, okP n) : ∀ p ∈ t.pages, ∀ s ∈ p.slots, byOk s := fun p hp s hs b hb => by
  have := ((h.2 p hp).2 s hs).2 b hb
  simp only [Lit.wf, Bool.and_eq_true, decide_eq_true_eq] at this
  have h1 : (IntKind.u8.min : Int) = 0 := rfl
  have h2 : (IntKind.u8.max : Int) = 255 := rfl
  omega
theorem own : ownKnob Tryz.prog.godebug = none := by kernel_rfl
theorem laidOut : laidOutB Tryz.prog = true := by kernel_rfl
set_option maxRecDepth 100000 in
theorem lifted (os : Os) (started : os.Started) (H : Type) (enc : TypeId × Value → H) :
    ReturnsInHanded {} Tryz.checked os 4 .any (Rows.fnExactHeapDeadSpec.pre6 enc Tryz.prog Tryz.f4 Rows.fnExactHeapDeadRow.domain false) (Rows.fnExactHeapDeadSpec.post enc Tryz.prog Tryz.f4 false true false false) := by
  refine returnsInHanded_of_change_sized (C := Tryz.checked) own started (by kernel_rfl) Tryz.func4
    (ChangeSpec.witness6 (enc := enc) (C := Tryz.checked) false ⟨#[], #[.agg #[.slice none 0 0], .slice none 0 0, .int .i64 0], []⟩ 8 (by kernel_rfl) (by kernel_rfl) (by kernel_rfl) (by kernel_rfl)) ?_
  intro W base args ds gs before hval0 hW hcnd hsz0 _
  have hval : ∀ (j : Nat) t v, Tryz.f4.params[j]? = some t → args[j]? = some v → Value.okWide Tryz.prog W .any base t v := hval0
  have hW' := hW
  obtain ⟨p, q, hA0, hV, rfl, hfz, hnd⟩ := hW
  have hA : DataW.TrodAll enc Tryz.prog W 0 (fun _ => true) true Tryz.f4.params.toList args.toList ds p := hA0
  rw [Tryz.params4] at hA hval
  obtain ⟨v0, vs0, d0, ds0, p0, q0, hargs, rfl, rfl, h0, r0⟩ := trodAll_cons hA
  obtain ⟨v1, vs1, d1, ds1, p1, q1, rfl, rfl, rfl, h1, r1⟩ := trodAll_cons r0
  obtain ⟨v2, vs2, d2, ds2, p2, q2, rfl, rfl, rfl, h2, r2⟩ := trodAll_cons r1
  obtain ⟨rfl, rfl, rfl⟩ := trodAll_nil r2
  obtain rfl : args = #[v0, v1, v2] := by cases args; simp_all
  obtain ⟨rfl, rfl⟩ := trodVars_none hV
  have k0 := h0
  have lt0 : ∀ x ∈ p0, x.block < W.heap.size := by obtain ⟨m, hm⟩ := k0; exact DataW.trod_lt m _ _ _ hm
  have k1 := h1
  have lt1 : ∀ x ∈ p1, x.block < W.heap.size := by obtain ⟨m, hm⟩ := k1; exact DataW.trod_lt m _ _ _ hm
  obtain ⟨cs0, t0, rfl, hk0, w0⟩ := open_struct_arg Tryz.underlying24 opens57 (hval 0 24 v0 rfl rfl) h0
  obtain ⟨A1, c1, l1, rfl, hk1, w1⟩ := open_slice_arg Tryz.underlying37 (opens_slice 3 Tryz.underlying37 (by kernel_rfl) (opens_i64 Tryz.underlying3 (by kernel_rfl))) (hval 1 37 v1 rfl rfl) h1
  obtain ⟨a2, rfl, rfl, rfl, w2⟩ := open_int Tryz.underlying3 (hval 2 3 v2 rfl rfl) h2
  clear hA0 hval0 hsz0
  refine (lawHeapDead_ok t0 cs0.toList l1 (.slice A1 l1.length c1) a2 W hk0 hk1 (okH_w w0) (okH_by w0)).mono fun e W' ⟨he, bel0⟩ => ?_
  have bel : Below W.heap.size W W' := bel0
  subst he
  exact ⟨_, rfl, _, _, _, [], _, [], hW', trodAll_mk1 (shut_bool Tryz.underlying4 _), (trodAll_cons_mk (Below.trod laidOut (by kernel_rfl) (of_decide_eq_true (by kernel_rfl)) k0 bel lt0) (trodAll_cons_mk (Below.trod laidOut (by kernel_rfl) (of_decide_eq_true (by kernel_rfl)) k1 bel lt1) (trodAll_cons_mk (shut_int Tryz.underlying3 w2) trodAll_mk0))), rfl, bel.frame _, fun h => by cases h⟩
theorem over : Rows.fnExactHeapDeadRow.holds Tryz.pinned (OpenSpec.ofChange Rows.fnExactHeapDeadSpec) :=
  OpenClaim.holds_of_wide 4 Tryz.f4 rfl rfl rfl rfl rfl rfl rfl ⟨rfl, rfl, rfl, rfl, rfl⟩ rfl rfl rfl rfl rfl (by kernel_rfl) Tryz.func4 (by kernel_rfl)
    (of_decide_eq_true (by kernel_rfl)) (by unfold Func.isWrapper; first | (rw [if_pos (by decide +kernel)]; kernel_rfl) | (rw [if_neg (by decide +kernel)]; exact ⟨rfl, rfl⟩))
    (fun os started H enc _ => lifted os started H enc)
end Go.Proofs.YtgleoebogikooaaGreat.fnExactHeapDead
namespace Go.Proofs.YtgleoebogikooaaGreat
/-- The row. -/
theorem fnExactHeapDead_holds : Rows.FnExactHeapDeadSaid := fnExactHeapDead.over
#print axioms fnExactHeapDead_holds
end Go.Proofs.YtgleoebogikooaaGreat
