/- FnExactTreeFind: the row: whatever the arguments are, the call returns true and the arguments read behind it as before. No condition. -/
import Derived.Test.YtgleoebogikooaaRows
import Derived.Test.YtgleoebogikooaaSxC
import Derived.Test.YtgleoebogikooaaL5
import Derived.WalkKit
import Derived.ProofKit
import Derived.OpenShut
import Derived.ShutString
import Derived.ChangeOld
import Derived.Below
import Derived.SizedLaws
namespace Go.Proofs.Ytgleoebogikooaa.fnExactTreeFind
open Go.ChangeShapes Go.WideShapes Go.ChangeAt Go.RowKit Go.Proofs.Ytgleoebogikooaa.Sx Go.Proofs.Ytgleoebogikooaa.Dk Go.Proofs.Ytgleoebogikooaa
open Go.ChangeMaps (open_string shut_string)
set_option linter.unusedVariables false
set_option maxRecDepth 100000
theorem opens_fc {P : Program} {t : TypeId} (ht : P.underlying t = some (.float .f64)) (hc : P.cellsOf t = 1) : Opens P t kFc (fun _ => True) :=
  ⟨hc, fun {H enc w base spare held fuel cs x} h => by
    obtain ⟨b, hb, hw⟩ := (opens_float ht hc).2 h
    exact ⟨canonF b, ⟨b, hb, by simpa using hw, rfl⟩, trivial⟩⟩
def okI (x : It) : Prop := x.t.length ≤ 9223372036854775807 ∧ ∀ b ∈ x.t, 0 ≤ b ∧ b ≤ 255
theorem opens42 : Opens Try.prog 42 kIt okI :=
  opens_struct Try.underlying42 (by kernel_rfl) (opensF_cons rfl rfl (opens_i64 Try.underlying3 (by kernel_rfl)) (by decide) (opensF_cons rfl rfl (opens_i64 Try.underlying3 (by kernel_rfl)) (by decide) (opensF_cons rfl rfl (opens_fc Try.underlying39 (by kernel_rfl)) (by decide) (opensF_one rfl (opens_slice 5 Try.underlying40 (by kernel_rfl) (opens_u8 Try.underlying5 (by kernel_rfl)))))))
    (fun y oy => ⟨⟨y.1, y.2.1, y.2.2.1, y.2.2.2⟩, rfl, oy.2.2.2.1, fun b hb => by
      have := oy.2.2.2.2 b hb
      simp only [Lit.wf, Bool.and_eq_true, decide_eq_true_eq] at this
      exact this⟩)
theorem opens185 : Opens Try.prog 185 kEn (fun x => okI x.key) :=
  opens_struct Try.underlying185 (by kernel_rfl) (opensF_cons rfl rfl opens42 (by decide) (opensF_one rfl (opens_i64 Try.underlying3 (by kernel_rfl)))) (fun y oy => ⟨⟨y.1, y.2⟩, rfl, oy.1⟩)
def okN (x : Nd) : Prop := (x.entries.length ≤ 9223372036854775807 ∧ ∀ e ∈ x.entries, okI e.key) ∧ x.kids.length ≤ 9223372036854775807
theorem opens135 : Opens Try.prog 135 kNd okN :=
  opens_struct Try.underlying135 (by kernel_rfl) (opensF_cons rfl rfl (opens_bool Try.underlying4 (by kernel_rfl)) (by decide) (opensF_cons rfl rfl (opens_slice 101 Try.underlying133 (by kernel_rfl) opens185) (by decide) (opensF_one rfl (opens_slice 3 Try.underlying44 (by kernel_rfl) (opens_i64 Try.underlying3 (by kernel_rfl))))))
    (fun y oy => ⟨⟨y.1, y.2.1, y.2.2⟩, rfl, oy.2.1, oy.2.2.1⟩)
theorem opens24 : Opens Try.prog 24 kTr (fun t => t.nodes.length ≤ 9223372036854775807 ∧ ∀ n ∈ t.nodes, okN n) :=
  opens_struct Try.underlying24 (by kernel_rfl) (opensF_cons rfl rfl (opens_slice 96 Try.underlying22 (by kernel_rfl) opens135) (by decide) (opensF_one rfl (opens_i64 Try.underlying3 (by kernel_rfl)))) (fun y oy => ⟨⟨y.1, y.2⟩, rfl, oy.1⟩)
theorem okT_w {t : Tr} (h : t.nodes.length ≤ 9223372036854775807 ∧ ∀ n ∈ t.nodes, okN n) : wTr t := ⟨h.1, fun n hn => ⟨⟨(h.2 n hn).1.1, fun e he => ((h.2 n hn).1.2 e he).1⟩, (h.2 n hn).2⟩⟩
theorem okT_by {t : Tr} (h : t.nodes.length ≤ 9223372036854775807 ∧ ∀ n ∈ t.nodes, okN n) : byTr t := fun n hn e he b hb => by have := ((h.2 n hn).1.2 e he).2 b hb; omega
theorem own : ownKnob Try.prog.godebug = none := by kernel_rfl
theorem laidOut : laidOutB Try.prog = true := by kernel_rfl
set_option maxRecDepth 100000 in
theorem lifted (os : Os) (started : os.Started) (H : Type) (enc : TypeId × Value → H) :
    ReturnsInHanded {} Try.checked os 6 .any (Rows.fnExactTreeFindSpec.pre6 enc Try.prog Try.f6 Rows.fnExactTreeFindRow.domain false) (Rows.fnExactTreeFindSpec.post enc Try.prog Try.f6 false true false false) := by
  refine returnsInHanded_of_change_sized (C := Try.checked) own started (by kernel_rfl) Try.func6
    (ChangeSpec.witness6 (enc := enc) (C := Try.checked) false ⟨#[], #[.agg #[.slice none 0 0, .int .i64 0], .agg #[.int .i64 0, .int .i64 0, .float .f64 0, .slice none 0 0]], []⟩ 8 (by kernel_rfl) (by kernel_rfl) (by kernel_rfl) (by kernel_rfl)) ?_
  intro W base args ds gs before hval0 hW hcnd hsz0 _
  have hval : ∀ (j : Nat) t v, Try.f6.params[j]? = some t → args[j]? = some v → Value.okWide Try.prog W .any base t v := hval0
  have hW' := hW
  obtain ⟨p, q, hA0, hV, rfl, hfz, hnd⟩ := hW
  have hA : DataW.TrodAll enc Try.prog W 0 (fun _ => true) true Try.f6.params.toList args.toList ds p := hA0
  rw [Try.params6] at hA hval
  obtain ⟨v0, vs0, d0, ds0, p0, q0, hargs, rfl, rfl, h0, r0⟩ := trodAll_cons hA
  obtain ⟨v1, vs1, d1, ds1, p1, q1, rfl, rfl, rfl, h1, r1⟩ := trodAll_cons r0
  obtain ⟨rfl, rfl, rfl⟩ := trodAll_nil r1
  obtain rfl : args = #[v0, v1] := by cases args; simp_all
  obtain ⟨rfl, rfl⟩ := trodVars_none hV
  have k0 := h0
  have lt0 : ∀ x ∈ p0, x.block < W.heap.size := by obtain ⟨m, hm⟩ := k0; exact DataW.trod_lt m _ _ _ hm
  have k1 := h1
  have lt1 : ∀ x ∈ p1, x.block < W.heap.size := by obtain ⟨m, hm⟩ := k1; exact DataW.trod_lt m _ _ _ hm
  obtain ⟨cs0, t0, rfl, hk0, w0⟩ := open_struct_arg Try.underlying24 opens24 (hval 0 24 v0 rfl rfl) h0
  obtain ⟨cs1, t1, rfl, hk1, w1⟩ := open_struct_arg Try.underlying42 opens42 (hval 1 42 v1 rfl rfl) h1
  clear hA0 hval0 hsz0
  refine (lawTreeFind_ok t0 cs0.toList t1 cs1.toList W hk0 hk1 (okT_w w0) (okT_by w0) w1.1 (fun b hb => by have := w1.2 b hb; omega)).mono fun e W' ⟨he, bel0⟩ => ?_
  have bel : Below W.heap.size W W' := bel0
  subst he
  exact ⟨_, rfl, _, _, _, [], _, [], hW', trodAll_mk1 (shut_bool Try.underlying4 _), (trodAll_cons_mk (Below.trod laidOut (by kernel_rfl) (of_decide_eq_true (by kernel_rfl)) k0 bel lt0) (trodAll_cons_mk (Below.trod laidOut (by kernel_rfl) (of_decide_eq_true (by kernel_rfl)) k1 bel lt1) trodAll_mk0)), rfl, bel.frame _, fun h => by cases h⟩
theorem over : Rows.fnExactTreeFindRow.holds Try.pinned (OpenSpec.ofChange Rows.fnExactTreeFindSpec) :=
  OpenClaim.holds_of_wide 6 Try.f6 rfl rfl rfl rfl rfl rfl rfl ⟨rfl, rfl, rfl, rfl, rfl⟩ rfl rfl rfl rfl rfl (by kernel_rfl) Try.func6 (by kernel_rfl)
    (of_decide_eq_true (by kernel_rfl)) (by unfold Func.isWrapper; first | (rw [if_pos (by decide +kernel)]; kernel_rfl) | (rw [if_neg (by decide +kernel)]; exact ⟨rfl, rfl⟩))
    (fun os started H enc _ => lifted os started H enc)
end Go.Proofs.Ytgleoebogikooaa.fnExactTreeFind
namespace Go.Proofs.Ytgleoebogikooaa
/-- The row. -/
theorem fnExactTreeFind_holds : Rows.FnExactTreeFindSaid := fnExactTreeFind.over
#print axioms fnExactTreeFind_holds
end Go.Proofs.Ytgleoebogikooaa
