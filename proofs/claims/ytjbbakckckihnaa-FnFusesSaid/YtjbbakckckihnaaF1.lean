/- Walks of functions of the program: what each call returns and what it leaves in memory. Conditions: those that each theorem names. -/
import Derived.Test.YtjbbakckckihnaaE7
namespace Go.Proofs.Ytjbbakckckihnaa.Dk
set_option linter.unusedVariables false
set_option linter.unusedSimpArgs false
open Go.Proofs.Ytjbbakckckihnaa.Sx Go.Proofs Go.RowKit
set_option maxRecDepth 100000
def takeR (f : Int) (dn : Bool) : (Int × Bool) × Bool := if dn = true then ((f, true), false) else if f = 0 then ((f, true), false) else if 0 < f then ((IntKind.i64.wrap (f - 1), false), true) else ((f, false), true)
theorem take_ok (V0 V1 : Value) (f : Int) (dn : Bool) (g : Nat) (S : Nat → Prop) (w : World) (h : sepL [blkA g [V0, V1, .int .i64 f, .bool dn] 29] w.heap S) (hS : ∀ b, S b → b < w.heap.size) :
    Calls Try.prog 72 #[.pointer (some ⟨g, 0, none⟩)] w fun e w' => e = .returned (.bool (takeR f dn).2) ∧ Mut w w' S [blkA g [V0, V1, .int .i64 (takeR f dn).1.1, .bool (takeR f dn).1.2] 29] := by
  have hgS : S g := by obtain ⟨S1, _, h1, _, _, ⟨hg, _⟩, _⟩ := h; exact h1 g hg
  have hst := start_ptr (cells := [.v V0, .v V1, .v (.int .i64 f), .bo dn]) h hS rfl
  refine enter (L0 := [g]) (args := [.one (.ptr 0 0)]) Try.func72 (c := bodyOf Try.f72) rfl rfl hst.1 hst.2 ?_
  clear hst
  refine go mixed 2000 [0, 6] 1 (St.mk Rg.no [KI.code [true, false, true], KI.code [true, true]] [(0, SV.one (SC.ptr 0 0)), (6, SV.one (SC.bo dn))] [LB.mk [SC.v V0, SC.v V1, SC.v (Value.int IntKind.i64 f), SC.bo dn] 29]) (by kernel_rfl) (by kernel_rfl) (by kernel_rfl) ?_
  refine split_at 6 (b := dn) (by kernel_rfl) (by kernel_rfl) ?_ ?_
  · intro h1
    refine go mixed 2000 [2] 1 (St.mk Rg.no [KI.code [true, false, true, false, true], KI.code [true, true]] [(2, SV.one (SC.v (Value.bool false)))] [LB.mk [SC.v V0, SC.v V1, SC.v (Value.int IntKind.i64 f), SC.bo dn] 29]) (by kernel_rfl) (by kernel_rfl) (by kernel_rfl) ?_
    refine ret_ok (vs := [SV.one (SC.v (Value.bool false))]) (by kernel_rfl) ?_
    intro L w1 hs
    subst h1
    rw [show takeR f true = ((f, true), false) from rfl]
    exact ⟨rfl, hs.outp (As := []) rfl rfl hgS⟩
  · intro h1
    subst h1
    refine go mixed 2000 [0, 11] 1 (St.mk Rg.no [KI.code [true, true, false, true], KI.code [true, true, true]] [(0, SV.one (SC.ptr 0 0)), (11, SV.one (SC.bo (f == 0)))] [LB.mk [SC.v V0, SC.v V1, SC.v (Value.int IntKind.i64 f), SC.bo false] 29]) (by kernel_rfl) (by kernel_rfl) (by kernel_rfl) ?_
    refine split_at 11 (b := f == 0) (by kernel_rfl) (by kernel_rfl) ?_ ?_
    · intro h2
      refine go mixed 2000 [2] 1 (St.mk Rg.no [KI.code [true, true, false, true, false, true, true], KI.code [true, true, true]] [(2, SV.one (SC.v (Value.bool false)))] [LB.mk [SC.v V0, SC.v V1, SC.v (Value.int IntKind.i64 f), SC.v (Value.bool true)] 29]) (by kernel_rfl) (by kernel_rfl) (by kernel_rfl) ?_
      refine ret_ok (vs := [SV.one (SC.v (Value.bool false))]) (by kernel_rfl) ?_
      intro L w1 hs
      have h2 : f = 0 := by simpa using h2
      rw [show takeR f false = ((f, true), false) by unfold takeR; simp [h2]]
      exact ⟨rfl, hs.outp (As := []) rfl rfl hgS⟩
    intro h2
    have h2 : ¬ f = 0 := by simpa using h2
    refine go mixed 2000 [0, 19] 1 (St.mk Rg.no [KI.code [true, true, true, false, true], KI.code [true, true, true, true]] [(0, SV.one (SC.ptr 0 0)), (19, SV.one (SC.bo (decide (f > 0))))] [LB.mk [SC.v V0, SC.v V1, SC.v (Value.int IntKind.i64 f), SC.bo false] 29]) (by kernel_rfl) (by kernel_rfl) (by kernel_rfl) ?_
    refine split_at 19 (b := decide (f > 0)) (by kernel_rfl) (by kernel_rfl) ?_ ?_
    · intro h3
      refine go mixed 2000 [2] 1 (St.mk Rg.no [KI.code [true, true, true, true, true]] [(2, SV.one (SC.v (Value.bool true)))] [LB.mk [SC.v V0, SC.v V1, SC.v (Value.int IntKind.i64 (IntKind.i64.wrap (f - 1))), SC.bo false] 29]) (by kernel_rfl) (by kernel_rfl) (by kernel_rfl) ?_
      refine ret_ok (vs := [SV.one (SC.v (Value.bool true))]) (by kernel_rfl) ?_
      intro L w1 hs
      have h3 : 0 < f := by simpa using h3
      rw [show takeR f false = ((IntKind.i64.wrap (f - 1), false), true) by unfold takeR; simp [h2, h3]]
      exact ⟨rfl, hs.outp (As := []) rfl rfl hgS⟩
    intro h3
    refine go mixed 2000 [2] 1 (St.mk Rg.no [KI.code [true, true, true, true, true]] [(2, SV.one (SC.v (Value.bool true)))] [LB.mk [SC.v V0, SC.v V1, SC.v (Value.int IntKind.i64 f), SC.bo false] 29]) (by kernel_rfl) (by kernel_rfl) (by kernel_rfl) ?_
    refine ret_ok (vs := [SV.one (SC.v (Value.bool true))]) (by kernel_rfl) ?_
    intro L w1 hs
    have h3 : ¬ 0 < f := by simpa using h3
    rw [show takeR f false = ((f, false), true) by unfold takeR; simp [h2, h3]]
    exact ⟨rfl, hs.outp (As := []) rfl rfl hgS⟩
end Go.Proofs.Ytjbbakckckihnaa.Dk
