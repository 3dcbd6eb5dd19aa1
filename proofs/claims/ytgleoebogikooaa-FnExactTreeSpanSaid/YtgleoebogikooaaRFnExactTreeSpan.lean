/- FnExactTreeSpan: the row: whatever the arguments are, the call returns true and the arguments read behind it as before. No condition. -/
import Derived.Test.YtgleoebogikooaaRows
import Derived.Test.YtgleoebogikooaaSxC
import Derived.Test.YtgleoebogikooaaL4
import Derived.WalkKit
import Derived.ProofKit
import Derived.OpenShut
import Derived.ShutString
import Derived.ChangeOld
import Derived.Below
import Derived.SizedLaws
namespace Go.Proofs.Ytgleoebogikooaa.fnExactTreeSpan
open Go.ChangeShapes Go.WideShapes Go.ChangeAt Go.RowKit Go.Proofs.Ytgleoebogikooaa.Sx Go.Proofs.Ytgleoebogikooaa.Dk Go.Proofs.Ytgleoebogikooaa
open Go.ChangeMaps (open_string shut_string)
set_option linter.unusedVariables false
set_option maxRecDepth 100000
theorem opens_fc {P : Program} {t : TypeId} (ht : P.underlying t = some (.float .f64)) (hc : P.cellsOf t = 1) : Opens P t kFc (fun _ => True) :=
  ⟨hc, fun {H enc w base spare held fuel cs x} h => by
    obtain ⟨b, hb, hw⟩ := (opens_float ht hc).2 h
    exact ⟨canonF b, ⟨b, hb, by simpa using hw, rfl⟩, trivial⟩⟩
def okI (x : It) : Prop := x.t.length ≤ 9223372036854775807 ∧ ∀ b ∈ x.t, 0 ≤ b ∧ b ≤ 255
theorem opens42 : Opens Try.prog 42 kIt okI :=
  opens_struct Try.underlying42 (by kernel_rfl) (opensF_cons rfl rfl (opens_i64 Try.underlying3 (by kernel_rfl)) (by decide) (opensF_cons rfl rfl (opens_i64 Try.underlying3 (by kernel_rfl)) (by decide) (opensF_cons rfl rfl (opens_fc Try.underlying39 (by kernel_rfl)) (by decide) (opensF_one rfl (opens_slice 5 Try.underlying40 (by kernel_rfl) (opens_u8 Try.underlying5 (by kernel_rfl)))))))
    (fun y oy => ⟨⟨y.1, y.2.1, y.2.2.1, y.2.2.2⟩, rfl, oy.2.2.2.1, fun b hb => by
      have := oy.2.2.2.2 b hb
      simp only [Lit.wf, Bool.and_eq_true, decide_eq_true_eq] at this
      exact this⟩)
theorem opens185 : Opens Try.prog 185 kEn (fun x => okI x.key) :=
  opens_struct Try.underlying185 (by kernel_rfl) (opensF_cons rfl rfl opens42 (by decide) (opensF_one rfl (opens_i64 Try.underlying3 (by kernel_rfl)))) (fun y oy => ⟨⟨y.1, y.2⟩, rfl, oy.1⟩)
def okN (x : Nd) : Prop := (x.entries.length ≤ 9223372036854775807 ∧ ∀ e ∈ x.entries, okI e.key) ∧ x.kids.length ≤ 9223372036854775807
theorem opens135 : Opens Try.prog 135 kNd okN :=
  opens_struct Try.underlying135 (by kernel_rfl) (opensF_cons rfl rfl (opens_bool Try.underlying4 (by kernel_rfl)) (by decide) (opensF_cons rfl rfl (opens_slice 101 Try.underlying133 (by kernel_rfl) opens185) (by decide) (opensF_one rfl (opens_slice 3 Try.underlying44 (by kernel_rfl) (opens_i64 Try.underlying3 (by kernel_rfl))))))
    (fun y oy => ⟨⟨y.1, y.2.1, y.2.2⟩, rfl, oy.2.1, oy.2.2.1⟩)
theorem opens24 : Opens Try.prog 24 kTr (fun t => t.nodes.length ≤ 9223372036854775807 ∧ ∀ n ∈ t.nodes, okN n) :=
  opens_struct Try.underlying24 (by kernel_rfl) (opensF_cons rfl rfl (opens_slice 96 Try.underlying22 (by kernel_rfl) opens135) (by decide) (opensF_one rfl (opens_i64 Try.underlying3 (by kernel_rfl)))) (fun y oy => ⟨⟨y.1, y.2⟩, rfl, oy.1⟩)
theorem okT_w {t : Tr} (h : t.nodes.length ≤ 9223372036854775807 ∧ ∀ n ∈ t.nodes, okN n) : wTr t := ⟨h.1, fun n hn => ⟨⟨(h.2 n hn).1.1, fun e he => ((h.2 n hn).1.2 e he).1⟩, (h.2 n hn).2⟩⟩
theorem okT_by {t : Tr} (h : t.nodes.length ≤ 9223372036854775807 ∧ ∀ n ∈ t.nodes, okN n) : byTr t := fun n hn e he b hb => by have := ((h.2 n hn).1.2 e he).2 b hb; omega
theorem own : ownKnob Try.prog.godebug = none := by kernel_rfl
theorem laidOut : laidOutB Try.prog = true := by kernel_rfl
set_option maxRecDepth 100000 in
theorem lifted (os : Os) (started : os.Started) (H : Type) (enc : TypeId × Value → H) :
    ReturnsInHanded {} Try.checked os 7 .any (Rows.fnExactTreeSpanSpec.pre6 enc Try.prog Try.f7 Rows.fnExactTreeSpanRow.domain false) (Rows.fnExactTreeSpanSpec.post enc Try.prog Try.f7 false true false false) := by
  refine returnsInHanded_of_change_sized (C := Try.checked) own started (by kernel_rfl) Try.func7
    (ChangeSpec.witness6 (enc := enc) (C := Try.checked) false ⟨#[], #[.agg #[.slice none 0 0, .int .i64 0], .agg #[.int .i64 0, .int .i64 0, .float .f64 0, .slice none 0 0], .agg #[.int .i64 0, .int .i64 0, .float .f64 0, .slice none 0 0]], []⟩ 8 (by kernel_rfl) (by kernel_rfl) (by kernel_rfl) (by kernel_rfl)) ?_
  intro W base args ds gs before hval0 hW hcnd hsz0 _
  have hval : ∀ (j : Nat) t v, Try.f7.params[j]? = some t → args[j]? = some v → Value.okWide Try.prog W .any base t v := hval0
  have hW' := hW
  obtain ⟨p, q, hA0, hV, rfl, hfz, hnd⟩ := hW
  have hA : DataW.TrodAll enc Try.prog W 0 (fun _ => true) true Try.f7.params.toList args.toList ds p := hA0
  rw [Try.params7] at hA hval
  obtain ⟨v0, vs0, d0, ds0, p0, q0, hargs, rfl, rfl, h0, r0⟩ := trodAll_cons hA
  obtain ⟨v1, vs1, d1, ds1, p1, q1, rfl, rfl, rfl, h1, r1⟩ := trodAll_cons r0
  obtain ⟨v2, vs2, d2, ds2, p2, q2, rfl, rfl, rfl, h2, r2⟩ := trodAll_cons r1
  obtain ⟨rfl, rfl, rfl⟩ := trodAll_nil r2
  obtain rfl : args = #[v0, v1, v2] := by cases args; simp_all
  obtain ⟨rfl, rfl⟩ := trodVars_none hV
  have k0 := h0
  have lt0 : ∀ x ∈ p0, x.block < W.heap.size := by obtain ⟨m, hm⟩ := k0; exact DataW.trod_lt m _ _ _ hm
  have k1 := h1
  have lt1 : ∀ x ∈ p1, x.block < W.heap.size := by obtain ⟨m, hm⟩ := k1; exact DataW.trod_lt m _ _ _ hm
  have k2 := h2
  have lt2 : ∀ x ∈ p2, x.block < W.heap.size := by obtain ⟨m, hm⟩ := k2; exact DataW.trod_lt m _ _ _ hm
  obtain ⟨cs0, t0, rfl, hk0, w0⟩ := open_struct_arg Try.underlying24 opens24 (hval 0 24 v0 rfl rfl) h0
  obtain ⟨cs1, t1, rfl, hk1, w1⟩ := open_struct_arg Try.underlying42 opens42 (hval 1 42 v1 rfl rfl) h1
  obtain ⟨cs2, t2, rfl, hk2, w2⟩ := open_struct_arg Try.underlying42 opens42 (hval 2 42 v2 rfl rfl) h2
  clear hA0 hval0 hsz0
  refine (lawTreeSpan_ok t0 cs0.toList t1 cs1.toList t2 cs2.toList W hk0 hk1 hk2 (okT_w w0) (okT_by w0) w1.1 w2.1 (fun b hb => by have := w1.2 b hb; omega) (fun b hb => by have := w2.2 b hb; omega)).mono fun e W' ⟨he, bel0⟩ => ?_
  have bel : Below W.heap.size W W' := bel0
  subst he
  exact ⟨_, rfl, _, _, _, [], _, [], hW', trodAll_mk1 (shut_bool Try.underlying4 _), (trodAll_cons_mk (Below.trod laidOut (by kernel_rfl) (of_decide_eq_true (by kernel_rfl)) k0 bel lt0) (trodAll_cons_mk (Below.trod laidOut (by kernel_rfl) (of_decide_eq_true (by kernel_rfl)) k1 bel lt1) (trodAll_cons_mk (Below.trod laidOut (by kernel_rfl) (of_decide_eq_true (by kernel_rfl)) k2 bel lt2) trodAll_mk0))), rfl, bel.frame _, fun h => by cases h⟩
theorem over : Rows.fnExactTreeSpanRow.holds Try.pinned (OpenSpec.ofChange Rows.fnExactTreeSpanSpec) :=
  OpenClaim.holds_of_wide 7 Try.f7 rfl rfl rfl rfl rfl rfl rfl ⟨rfl, rfl, rfl, rfl, rfl⟩ rfl rfl rfl rfl rfl (by kernel_rfl) Try.func7 (by kernel_rfl)
    (of_decide_eq_true (by kernel_rfl)) (by unfold Func.isWrapper; first | (rw [if_pos (by decide +kernel)]; kernel_rfl) | (rw [if_neg (by decide +kernel)]; exact ⟨rfl, rfl⟩))
    (fun os started H enc _ => lifted os started H enc)
end Go.Proofs.Ytgleoebogikooaa.fnExactTreeSpan
namespace Go.Proofs.Ytgleoebogikooaa
/-- The row. -/
theorem fnExactTreeSpan_holds : Rows.FnExactTreeSpanSaid := fnExactTreeSpan.over
#print axioms fnExactTreeSpan_holds
end Go.Proofs.Ytgleoebogikooaa
