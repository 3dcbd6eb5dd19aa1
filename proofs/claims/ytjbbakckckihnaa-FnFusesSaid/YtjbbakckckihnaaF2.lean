/- Walks of functions of the program: what each call returns and what it leaves in memory. Conditions: those that each theorem names. -/
import Derived.Test.YtjbbakckckihnaaProg
import Derived.Test.YtjbbakckckihnaaF1
namespace Go.Proofs.Ytjbbakckckihnaa.Dk
set_option linter.unusedVariables false
set_option linter.unusedSimpArgs false
open Go.Proofs.Ytjbbakckckihnaa.Sx Go.Proofs Go.RowKit
set_option maxRecDepth 100000
theorem l4call_ok (xs : List (List Int)) (ws : List (Int × List Int)) (f : Int) (dn : Bool) (A : Option Addr) (c : Nat) (A1 : Option Addr) (c1 : Nat) (w : World) (h : rdRow kB w.heap xs (.slice A xs.length c)) (h2 : rdRow kW w.heap ws (.slice A1 ws.length c1)) (hl : xs.length ≤ 1048576) (hl2 : ∀ y ∈ xs, y.length ≤ 1048576) (hl3 : ws.length ≤ 1048576) (hl4 : ∀ y ∈ ws, y.2.length ≤ 1048576) :
    Calls Try.prog 48 #[.agg #[.slice A xs.length c, .slice A1 ws.length c1, .int .i64 f, .bool dn]] w fun e w' => ∃ A' c' A1' c1', e = .returned (.tuple #[.agg #[.slice A' xs.length c', .slice A1' ws.length c1', .int .i64 (takeR f dn).1.1, .bool (takeR f dn).1.2], .bool (takeR f dn).2]) ∧ Fresh w w' [rowA 59 kW ws (.slice A1' ws.length c1'), rowA 36 kB xs (.slice A' xs.length c')] := by
  refine enter (args := [.agg [.v (.slice A xs.length c), .v (.slice A1 ws.length c1), .v (.int .i64 f), .bo dn]]) Try.func48 (c := bodyOf Try.f48) rfl rfl (start_LOK _) (start_old w) ?_
  refine go mixed 2000 [1, 2, 5] 2 (St.mk (Rg.sq [true, false] 1) [KI.code [true, true]] [(1, SV.one (SC.ptr 0 0)), (2, SV.one (SC.ptr 1 0)), (5, SV.agg [SC.v (Value.slice A xs.length c), SC.v (Value.slice A1 ws.length c1), SC.v (Value.int IntKind.i64 f), SC.bo dn])] [LB.mk [SC.v (Value.slice A xs.length c), SC.v (Value.slice A1 ws.length c1), SC.v (Value.int IntKind.i64 f), SC.bo dn] 29, LB.mk [SC.v (Value.slice none 0 0), SC.v (Value.slice none 0 0), SC.v (Value.int IntKind.i64 0), SC.v (Value.bool false)] 29]) (by kernel_rfl) (by kernel_rfl) (by kernel_rfl) ?_
  refine call_fresh true (by kernel_rfl : atC _ _ _ true = some (38, [SV.agg [SC.v (Value.slice A xs.length c), SC.v (Value.slice A1 ws.length c1), SC.v (Value.int IntKind.i64 f), SC.bo dn]], some 6, Rg.sq [true, false] 2)) (by kernel_rfl) fun L w1 hs => (l4copy_ok xs ws f dn A c A1 c1 w1 (rdRow_ext (hs.old 0 rfl) h) (rdRow_ext (hs.old 0 rfl) h2) hl hl2 hl3 hl4).mono ?_
  rintro e w2 ⟨A', c', A1', c1', rfl, hf⟩
  refine ⟨.agg [.v (.slice A' xs.length c'), .v (.slice A1' ws.length c1'), .v (.int .i64 f), .bo dn], _, rfl, hf, ?_⟩
  clear hs hf
  refine go mixed 2000 [1, 2, 4, 8] 3 (St.mk Rg.no [KI.code [true, true, false, true], KI.code [true, true, true]] [(1, SV.one (SC.ptr 0 0)), (2, SV.one (SC.ptr 1 0)), (4, SV.one (SC.ptr 2 0)), (8, SV.one (SC.bo dn))] [LB.mk [SC.v (Value.slice A xs.length c), SC.v (Value.slice A1 ws.length c1), SC.v (Value.int IntKind.i64 f), SC.bo dn] 29, LB.mk [SC.v (Value.slice none 0 0), SC.v (Value.slice none 0 0), SC.v (Value.int IntKind.i64 0), SC.v (Value.bool false)] 29, LB.mk [SC.v (Value.slice A' xs.length c'), SC.v (Value.slice A1' ws.length c1'), SC.v (Value.int IntKind.i64 f), SC.bo dn] 29]) (by kernel_rfl) (by kernel_rfl) (by kernel_rfl) ?_
  refine split_at 8 (b := dn) (by kernel_rfl) (by kernel_rfl) ?_ ?_
  · intro h1
    subst h1
    refine go mixed 2000 [2, 3] 2 (St.mk Rg.no [KI.code [true, true, false, true, false, true], KI.code [true, true, true]] [(2, SV.one (SC.ptr 1 0)), (3, SV.one (SC.v (Value.bool false)))] [LB.mk [SC.v (Value.slice A xs.length c), SC.v (Value.slice A1 ws.length c1), SC.v (Value.int IntKind.i64 f), SC.bo true] 29, LB.mk [SC.v (Value.slice A' xs.length c'), SC.v (Value.slice A1' ws.length c1'), SC.v (Value.int IntKind.i64 f), SC.bo true] 29]) (by kernel_rfl) (by kernel_rfl) (by kernel_rfl) ?_
    refine ret_ok (vs := [SV.agg [SC.v (Value.slice A' xs.length c'), SC.v (Value.slice A1' ws.length c1'), SC.v (Value.int IntKind.i64 f), SC.bo true], SV.one (SC.v (Value.bool false))]) (by kernel_rfl) ?_
    intro L w1 hs
    rw [show takeR f true = ((f, true), false) from rfl]
    exact ⟨_, _, _, _, rfl, hs.out (As := [_, _])⟩
  · intro h1
    subst h1
    refine go mixed 2000 [1, 2, 4, 12] 3 (St.mk Rg.no [KI.code [true, true, true, false, true], KI.code [true, true, true, true]] [(1, SV.one (SC.ptr 0 0)), (2, SV.one (SC.ptr 1 0)), (4, SV.one (SC.ptr 2 0)), (12, SV.one (SC.bo (f == 0)))] [LB.mk [SC.v (Value.slice A xs.length c), SC.v (Value.slice A1 ws.length c1), SC.v (Value.int IntKind.i64 f), SC.bo false] 29, LB.mk [SC.v (Value.slice none 0 0), SC.v (Value.slice none 0 0), SC.v (Value.int IntKind.i64 0), SC.v (Value.bool false)] 29, LB.mk [SC.v (Value.slice A' xs.length c'), SC.v (Value.slice A1' ws.length c1'), SC.v (Value.int IntKind.i64 f), SC.bo false] 29]) (by kernel_rfl) (by kernel_rfl) (by kernel_rfl) ?_
    refine split_at 12 (b := f == 0) (by kernel_rfl) (by kernel_rfl) ?_ ?_
    · intro h2
      have h2 : f = 0 := by simpa using h2
      refine go mixed 2000 [2, 3] 2 (St.mk Rg.no [KI.code [true, true, true, false, true, false, true, true], KI.code [true, true, true, true]] [(2, SV.one (SC.ptr 1 0)), (3, SV.one (SC.v (Value.bool false)))] [LB.mk [SC.v (Value.slice A xs.length c), SC.v (Value.slice A1 ws.length c1), SC.v (Value.int IntKind.i64 f), SC.bo false] 29, LB.mk [SC.v (Value.slice A' xs.length c'), SC.v (Value.slice A1' ws.length c1'), SC.v (Value.int IntKind.i64 f), SC.v (Value.bool true)] 29]) (by kernel_rfl) (by kernel_rfl) (by kernel_rfl) ?_
      refine ret_ok (vs := [SV.agg [SC.v (Value.slice A' xs.length c'), SC.v (Value.slice A1' ws.length c1'), SC.v (Value.int IntKind.i64 f), SC.v (Value.bool true)], SV.one (SC.v (Value.bool false))]) (by kernel_rfl) ?_
      intro L w1 hs
      rw [show takeR f false = ((f, true), false) by unfold takeR; simp [h2]]
      exact ⟨_, _, _, _, rfl, hs.out (As := [_, _])⟩
    intro h2
    have h2 : ¬ f = 0 := by simpa using h2
    refine go mixed 2000 [1, 2, 4, 17] 3 (St.mk Rg.no [KI.code [true, true, true, true, false, true], KI.code [true, true, true, true, true]] [(1, SV.one (SC.ptr 0 0)), (2, SV.one (SC.ptr 1 0)), (4, SV.one (SC.ptr 2 0)), (17, SV.one (SC.bo (decide (f > 0))))] [LB.mk [SC.v (Value.slice A xs.length c), SC.v (Value.slice A1 ws.length c1), SC.v (Value.int IntKind.i64 f), SC.bo false] 29, LB.mk [SC.v (Value.slice none 0 0), SC.v (Value.slice none 0 0), SC.v (Value.int IntKind.i64 0), SC.v (Value.bool false)] 29, LB.mk [SC.v (Value.slice A' xs.length c'), SC.v (Value.slice A1' ws.length c1'), SC.v (Value.int IntKind.i64 f), SC.bo false] 29]) (by kernel_rfl) (by kernel_rfl) (by kernel_rfl) ?_
    refine split_at 17 (b := decide (f > 0)) (by kernel_rfl) (by kernel_rfl) ?_ ?_
    · intro h3
      have h3 : 0 < f := by simpa using h3
      refine go mixed 2000 [2, 3] 2 (St.mk Rg.no [KI.code [true, true, true, true, true, true]] [(2, SV.one (SC.ptr 1 0)), (3, SV.one (SC.v (Value.bool true)))] [LB.mk [SC.v (Value.slice A xs.length c), SC.v (Value.slice A1 ws.length c1), SC.v (Value.int IntKind.i64 f), SC.bo false] 29, LB.mk [SC.v (Value.slice A' xs.length c'), SC.v (Value.slice A1' ws.length c1'), SC.v (Value.int IntKind.i64 (IntKind.i64.wrap (f - 1))), SC.bo false] 29]) (by kernel_rfl) (by kernel_rfl) (by kernel_rfl) ?_
      refine ret_ok (vs := [SV.agg [SC.v (Value.slice A' xs.length c'), SC.v (Value.slice A1' ws.length c1'), SC.v (Value.int IntKind.i64 (IntKind.i64.wrap (f - 1))), SC.bo false], SV.one (SC.v (Value.bool true))]) (by kernel_rfl) ?_
      intro L w1 hs
      rw [show takeR f false = ((IntKind.i64.wrap (f - 1), false), true) by unfold takeR; simp [h2, h3]]
      exact ⟨_, _, _, _, rfl, hs.out (As := [_, _])⟩
    intro h3
    have h3 : ¬ 0 < f := by simpa using h3
    refine go mixed 2000 [2, 3] 2 (St.mk Rg.no [KI.code [true, true, true, true, true, true]] [(2, SV.one (SC.ptr 1 0)), (3, SV.one (SC.v (Value.bool true)))] [LB.mk [SC.v (Value.slice A xs.length c), SC.v (Value.slice A1 ws.length c1), SC.v (Value.int IntKind.i64 f), SC.bo false] 29, LB.mk [SC.v (Value.slice A' xs.length c'), SC.v (Value.slice A1' ws.length c1'), SC.v (Value.int IntKind.i64 f), SC.bo false] 29]) (by kernel_rfl) (by kernel_rfl) (by kernel_rfl) ?_
    refine ret_ok (vs := [SV.agg [SC.v (Value.slice A' xs.length c'), SC.v (Value.slice A1' ws.length c1'), SC.v (Value.int IntKind.i64 f), SC.bo false], SV.one (SC.v (Value.bool true))]) (by kernel_rfl) ?_
    intro L w1 hs
    rw [show takeR f false = ((f, false), true) by unfold takeR; simp [h2, h3]]
    exact ⟨_, _, _, _, rfl, hs.out (As := [_, _])⟩
end Go.Proofs.Ytjbbakckckihnaa.Dk
