/- Walks of functions of the program: what each call returns and what it leaves in memory. Conditions: those that each theorem names. -/
import Derived.Test.YtjbbakckckihnaaE2
namespace Go.Proofs.Ytjbbakckckihnaa.Dk
set_option linter.unusedVariables false
set_option linter.unusedSimpArgs false
open Go.Proofs.Ytjbbakckckihnaa.Sx Go.Proofs Go.RowKit
set_option maxRecDepth 100000
def okS (s : List Int) : Bool := (s.length : Int) == 64
def okW (n : Nat) (y : Int × List Int) : Bool := (decide (0 ≤ y.1) && decide (y.1 ≤ (n : Int) - 1)) && ((y.2.length : Int) == 64)
def okD (xs : List (List Int)) (ws : List (Int × List Int)) (f : Int) : Bool := (((decide (1 ≤ (xs.length : Int)) && decide ((xs.length : Int) ≤ 512)) && decide ((ws.length : Int) ≤ 600)) && decide (f ≥ -1)) && xs.all okS && ws.all (okW xs.length)
theorem lit62_ok (w : World) (xs : List (List Int)) : Pred evB 62 #[] w xs okS := by
  intro w0 hb x hx v hv
  obtain ⟨Ai, ci, rfl, hrest⟩ := hv
  refine enter (args := [.one (.v (.slice Ai x.length ci))]) Try.func62 (c := bodyOf Try.f62) rfl rfl (start_LOK _) (start_old w0) ?_
  refine go mixed 2000 [2] 0 (St.mk Rg.no [KI.code [true, true]] [(2, SV.one (SC.bo ((↑x.length : Int) == 64)))] []) (by kernel_rfl) (by kernel_rfl) (by kernel_rfl) ?_
  refine ret_ok (vs := [SV.one (SC.bo ((↑x.length : Int) == 64))]) (by kernel_rfl) ?_
  intro L w1 hs
  exact ⟨rfl, hs.out0⟩
theorem isWrite_ok (xs : List (List Int)) (ws : List (Int × List Int)) (f : Int) (dn : Bool) (A : Option Addr) (c : Nat) (A1 : Option Addr) (c1 : Nat) (x : Int) (ys : List Int) (B : Option Addr) (d : Nat) (w : World) (hl : xs.length ≤ 9223372036854775807) :
    Calls Try.prog 49 #[.agg #[.slice A xs.length c, .slice A1 ws.length c1, .int .i64 f, .bool dn], .int .i64 x, .slice B ys.length d] w fun e w' => e = .returned (.bool (okW xs.length (x, ys))) ∧ Below w.heap.size w w' := by
  refine enter (args := [.agg [.v (.slice A xs.length c), .v (.slice A1 ws.length c1), .v (.int .i64 f), .bo dn], .one (.v (.int .i64 x)), .one (.v (.slice B ys.length d))]) Try.func49 (c := bodyOf Try.f49) rfl rfl (start_LOK _) (start_old w) ?_
  refine go mixed 2000 [2, 7, 11] 0 (St.mk (Rg.sq [true, false] 5) [KI.code [true, true]] [(2, SV.one (SC.v (Value.slice B ys.length d))), (7, SV.one (SC.v (Value.int IntKind.i64 x))), (11, SV.one (SC.v (Value.int IntKind.i64 (IntKind.i64.wrap ((↑xs.length : Int) - 1)))))] []) (by kernel_rfl) (by kernel_rfl) (by kernel_rfl) ?_
  rw [show IntKind.i64.wrap ((xs.length : Int) - 1) = (xs.length : Int) - 1 by rw [IntKind.wrap_i64]; omega]
  refine call_pure true (by kernel_rfl : atC _ _ _ true = some (60, [SV.one (SC.v (Value.int IntKind.i64 x)), SV.one (SC.v (Value.int IntKind.i64 0)), SV.one (SC.v (Value.int IntKind.i64 ((↑xs.length : Int) - 1)))], some 12, Rg.sq [true, false] 6)) (by kernel_rfl) (.one (.bo (decide (0 ≤ x) && decide (x ≤ (xs.length : Int) - 1)))) (fun L w1 hs => within_ok x 0 _ w1) ?_
  refine go mixed 2000 [2, 13] 0 (St.mk (Rg.sq [true, false] 7) [KI.code [true, true]] [(2, SV.one (SC.v (Value.slice B ys.length d))), (13, SV.one (SC.bo (decide (0 ≤ x) && decide (x ≤ (↑xs.length : Int) - 1))))] []) (by kernel_rfl) (by kernel_rfl) (by kernel_rfl) ?_
  refine split_at 13 (b := decide (0 ≤ x) && decide (x ≤ (↑xs.length : Int) - 1)) (by kernel_rfl) (by kernel_rfl) ?_ ?_
  · intro h1
    refine go mixed 2000 [6] 0 (St.mk Rg.no [KI.code [true, true]] [(6, SV.one (SC.bo ((↑ys.length : Int) == 64)))] []) (by kernel_rfl) (by kernel_rfl) (by kernel_rfl) ?_
    refine ret_ok (vs := [SV.one (SC.bo ((↑ys.length : Int) == 64))]) (by kernel_rfl) ?_
    intro L w1 hs
    exact ⟨by unfold okW; rw [h1]; rfl, hs.out0⟩
  intro h1
  refine go mixed 2000 [6] 0 (St.mk Rg.no [KI.code [true, true]] [(6, SV.one (SC.v (Value.bool false)))] []) (by kernel_rfl) (by kernel_rfl) (by kernel_rfl) ?_
  refine ret_ok (vs := [SV.one (SC.v (Value.bool false))]) (by kernel_rfl) ?_
  intro L w1 hs
  exact ⟨by unfold okW; rw [h1]; rfl, hs.out0⟩
theorem lit64_ok (xs : List (List Int)) (ws : List (Int × List Int)) (f : Int) (dn : Bool) (A : Option Addr) (c : Nat) (A1 : Option Addr) (c1 : Nat) (g : Nat) (w : World) (hg : w.heap[g]? = some (.cells #[.slice A xs.length c, .slice A1 ws.length c1, .int .i64 f, .bool dn] 29 (0, 0))) (hl : xs.length ≤ 9223372036854775807) : Pred evW 64 #[.pointer (some ⟨g, 0, none⟩)] w ws (okW xs.length) := by
  intro w0 hb x hx v hv
  obtain ⟨Ai, ci, rfl, hrow⟩ := hv
  have hg1 := (hb g (Array.getElem?_eq_some_iff.1 hg).1).trans hg
  have hcell : ∀ j, cellH w0.heap ⟨g, j, none⟩ = #[.slice A xs.length c, .slice A1 ws.length c1, .int .i64 f, .bool dn][j]? := fun j => by simp only [cellH, hg1, Option.isSome_none, Bool.false_eq_true, if_false]
  refine enter (args := [.agg [.v (.int .i64 x.1), .v (.slice Ai x.2.length ci)], .one (.v (.pointer (some ⟨g, 0, none⟩)))]) Try.func64 (c := bodyOf Try.f64) rfl rfl (start_LOK _) (start_old w0) ?_
  refine go mixed 2000 [1, 2] 1 (St.mk (Rg.sq [true, false] 0) [KI.code [true, true]] [(1, SV.one (SC.v (Value.pointer (some (Addr.mk g 0 none))))), (2, SV.one (SC.ptr 0 0))] [LB.mk [SC.v (Value.int IntKind.i64 x.fst), SC.v (Value.slice Ai x.snd.length ci)] 59]) (by kernel_rfl) (by kernel_rfl) (by kernel_rfl) ?_
  refine load_agg 0 (by kernel_rfl : atP _ _ _ 0 true = some (Op.load 29 (Operand.tmp 1), 29, some 4, Rg.sq [true, false] 1)) (n := 4) (by kernel_rfl) rfl ?_
  intro L w1 hs
  refine ⟨[.v (.slice A xs.length c), .v (.slice A1 ws.length c1), .v (.int .i64 f), .bo dn], rfl, fun j c hj => ?_, ?_⟩
  · rw [add_at, Nat.zero_add]
    match j, hj with
    | 0, hj => cases hj; exact cellH_ext (hs.old 0 rfl) (hcell 0)
    | 1, hj => cases hj; exact cellH_ext (hs.old 0 rfl) (hcell 1)
    | 2, hj => cases hj; exact cellH_ext (hs.old 0 rfl) (hcell 2)
    | 3, hj => cases hj; exact cellH_ext (hs.old 0 rfl) (hcell 3)
  clear hs
  refine go mixed 2000 [4, 6, 8] 0 (St.mk (Rg.sq [true, false] 5) [KI.code [true, true]] [(4, SV.agg [SC.v (Value.slice A xs.length c), SC.v (Value.slice A1 ws.length c1), SC.v (Value.int IntKind.i64 f), SC.bo dn]), (6, SV.one (SC.v (Value.int IntKind.i64 x.fst))), (8, SV.one (SC.v (Value.slice Ai x.snd.length ci)))] []) (by kernel_rfl) (by kernel_rfl) (by kernel_rfl) ?_
  refine call_pure true (by kernel_rfl : atC _ _ _ true = some (49, [SV.agg [SC.v (Value.slice A xs.length c), SC.v (Value.slice A1 ws.length c1), SC.v (Value.int IntKind.i64 f), SC.bo dn], SV.one (SC.v (Value.int IntKind.i64 x.fst)), SV.one (SC.v (Value.slice Ai x.snd.length ci))], some 9, Rg.sq [true, false] 6)) (by kernel_rfl) (.one (.bo (okW xs.length x))) (fun L w1 hs => isWrite_ok xs ws f dn A c A1 c1 x.1 x.2 Ai ci w1 hl) ?_
  refine go mixed 2000 [3] 0 (St.mk Rg.no [KI.code [true, true]] [(3, SV.one (SC.bo (okW xs.length x)))] []) (by kernel_rfl) (by kernel_rfl) (by kernel_rfl) ?_
  refine ret_ok (vs := [SV.one (SC.bo (okW xs.length x))]) (by kernel_rfl) ?_
  intro L w1 hs
  exact ⟨rfl, hs.out0⟩
theorem implDiskOk_ok (xs : List (List Int)) (ws : List (Int × List Int)) (f : Int) (dn : Bool) (A : Option Addr) (c : Nat) (A1 : Option Addr) (c1 : Nat) (w : World) (h : rdRow kB w.heap xs (.slice A xs.length c)) (h2 : rdRow kW w.heap ws (.slice A1 ws.length c1)) (hl : xs.length ≤ 1048576) (hl3 : ws.length ≤ 1048576) :
    Calls Try.prog 31 #[.agg #[.slice A xs.length c, .slice A1 ws.length c1, .int .i64 f, .bool dn]] w fun e w' => e = .returned (.bool (okD xs ws f)) ∧ Below w.heap.size w w' := by
  refine enter (args := [.agg [.v (.slice A xs.length c), .v (.slice A1 ws.length c1), .v (.int .i64 f), .bo dn]]) Try.func31 (c := bodyOf Try.f31) rfl rfl (start_LOK _) (start_old w) ?_
  refine go mixed 2000 [1, 5] 1 (St.mk (Rg.sq [true, false] 3) [KI.code [true, true]] [(1, SV.one (SC.ptr 0 0)), (5, SV.one (SC.v (Value.int IntKind.i64 (↑xs.length : Int))))] [LB.mk [SC.v (Value.slice A xs.length c), SC.v (Value.slice A1 ws.length c1), SC.v (Value.int IntKind.i64 f), SC.bo dn] 29]) (by kernel_rfl) (by kernel_rfl) (by kernel_rfl) ?_
  refine call_pure true (by kernel_rfl : atC _ _ _ true = some (60, [SV.one (SC.v (Value.int IntKind.i64 (↑xs.length : Int))), SV.one (SC.v (Value.int IntKind.i64 1)), SV.one (SC.v (Value.int IntKind.i64 512))], some 6, Rg.sq [true, false] 4)) (by kernel_rfl) (.one (.bo (decide (1 ≤ (xs.length : Int)) && decide ((xs.length : Int) ≤ 512)))) (fun L w1 hs => within_ok _ 1 512 w1) ?_
  refine go mixed 2000 [1, 7] 1 (St.mk (Rg.sq [true, false] 5) [KI.code [true, true]] [(1, SV.one (SC.ptr 0 0)), (7, SV.one (SC.bo (decide (1 ≤ (↑xs.length : Int)) && decide ((↑xs.length : Int) ≤ 512))))] [LB.mk [SC.v (Value.slice A xs.length c), SC.v (Value.slice A1 ws.length c1), SC.v (Value.int IntKind.i64 f), SC.bo dn] 29]) (by kernel_rfl) (by kernel_rfl) (by kernel_rfl) ?_
  refine split_at 7 (b := decide (1 ≤ (↑xs.length : Int)) && decide ((↑xs.length : Int) ≤ 512)) (by kernel_rfl) (by kernel_rfl) ?_ ?_
  · intro h3
    refine go mixed 2000 [1, 13] 1 (St.mk (Rg.sq [true, false] 11) [KI.code [true, true]] [(1, SV.one (SC.ptr 0 0)), (13, SV.one (SC.bo (decide ((↑ws.length : Int) ≤ 600))))] [LB.mk [SC.v (Value.slice A xs.length c), SC.v (Value.slice A1 ws.length c1), SC.v (Value.int IntKind.i64 f), SC.bo dn] 29]) (by kernel_rfl) (by kernel_rfl) (by kernel_rfl) ?_
    refine split_at 13 (b := decide ((↑ws.length : Int) ≤ 600)) (by kernel_rfl) (by kernel_rfl) ?_ ?_
    · intro h4
      refine go mixed 2000 [1, 18] 1 (St.mk (Rg.sq [true, false] 16) [KI.code [true, true]] [(1, SV.one (SC.ptr 0 0)), (18, SV.one (SC.bo (decide (f ≥ -1))))] [LB.mk [SC.v (Value.slice A xs.length c), SC.v (Value.slice A1 ws.length c1), SC.v (Value.int IntKind.i64 f), SC.bo dn] 29]) (by kernel_rfl) (by kernel_rfl) (by kernel_rfl) ?_
      refine split_at 18 (b := decide (f ≥ -1)) (by kernel_rfl) (by kernel_rfl) ?_ ?_
      · intro h5
        refine go mixed 2000 [1, 18, 20] 1 (St.mk (Rg.sq [true, false] 18) [KI.code [true, true]] [(1, SV.one (SC.ptr 0 0)), (18, SV.one (SC.v (Value.bool true))), (20, SV.one (SC.v (Value.slice A xs.length c)))] [LB.mk [SC.v (Value.slice A xs.length c), SC.v (Value.slice A1 ws.length c1), SC.v (Value.int IntKind.i64 f), SC.bo dn] 29]) (by kernel_rfl) (by kernel_rfl) (by kernel_rfl) ?_
        refine call_pure true (by kernel_rfl : atC _ _ _ true = some (61, [SV.one (SC.v (Value.slice A xs.length c)), SV.one (SC.v (Value.func (Fn.func 62) #[] #[]))], some 21, Rg.sq [true, false] 19)) (by kernel_rfl) (.one (.bo (xs.all okS))) (fun L w1 hs => areAllB_ok 62 (by kernel_rfl) [] okS xs A c w1 (rdRow_ext (hs.old 0 rfl) h) hl (lit62_ok w1 xs) (.inl rfl)) ?_
        refine go mixed 2000 [1, 23] 1 (St.mk (Rg.sq [true, false] 21) [KI.code [true, true]] [(1, SV.one (SC.ptr 0 0)), (23, SV.one (SC.bo (xs.all okS)))] [LB.mk [SC.v (Value.slice A xs.length c), SC.v (Value.slice A1 ws.length c1), SC.v (Value.int IntKind.i64 f), SC.bo dn] 29]) (by kernel_rfl) (by kernel_rfl) (by kernel_rfl) ?_
        refine split_at 23 (b := xs.all okS) (by kernel_rfl) (by kernel_rfl) ?_ ?_
        · intro h6
          refine go mixed 2000 [23, 25, 26] 1 (St.mk (Rg.sq [true, false] 24) [KI.code [true, true]] [(23, SV.one (SC.v (Value.bool true))), (25, SV.one (SC.v (Value.slice A1 ws.length c1))), (26, SV.one (SC.fn 64 [Cap.p 0 0]))] [LB.mk [SC.v (Value.slice A xs.length c), SC.v (Value.slice A1 ws.length c1), SC.v (Value.int IntKind.i64 f), SC.bo dn] 29]) (by kernel_rfl) (by kernel_rfl) (by kernel_rfl) ?_
          refine call_pure true (by kernel_rfl : atC _ _ _ true = some (63, [SV.one (SC.v (Value.slice A1 ws.length c1)), SV.one (SC.fn 64 [Cap.p 0 0])], some 27, Rg.sq [true, false] 25)) (by kernel_rfl) (.one (.bo (ws.all (okW xs.length)))) (fun L w1 hs => areAllW_ok 64 (by kernel_rfl) [.v (.pointer (some ⟨L.getD 0 0, 0, none⟩))] (okW xs.length) ws A1 c1 w1 (rdRow_ext (hs.old 0 rfl) h2) hl3 (lit64_ok xs ws f dn A c A1 c1 _ w1 (hs.2.1.2.2 0 _ rfl) (by omega)) (.inr ⟨_, rfl⟩)) ?_
          refine go mixed 2000 [2] 0 (St.mk Rg.no [KI.code [true, true]] [(2, SV.one (SC.bo (ws.all (okW xs.length))))] []) (by kernel_rfl) (by kernel_rfl) (by kernel_rfl) ?_
          refine ret_ok (vs := [SV.one (SC.bo (ws.all (okW xs.length)))]) (by kernel_rfl) ?_
          intro L w1 hs
          exact ⟨by unfold okD; rw [h3, h4, h5, h6]; rfl, hs.out0⟩
        intro h6
        refine go mixed 2000 [2] 0 (St.mk Rg.no [KI.code [true, true]] [(2, SV.one (SC.v (Value.bool false)))] []) (by kernel_rfl) (by kernel_rfl) (by kernel_rfl) ?_
        refine ret_ok (vs := [SV.one (SC.v (Value.bool false))]) (by kernel_rfl) ?_
        intro L w1 hs
        exact ⟨by unfold okD; rw [h3, h4, h5, h6]; rfl, hs.out0⟩
      intro h5
      refine go mixed 2000 [2] 0 (St.mk Rg.no [KI.code [true, true]] [(2, SV.one (SC.v (Value.bool false)))] []) (by kernel_rfl) (by kernel_rfl) (by kernel_rfl) ?_
      refine ret_ok (vs := [SV.one (SC.v (Value.bool false))]) (by kernel_rfl) ?_
      intro L w1 hs
      exact ⟨by unfold okD; rw [h3, h4, h5]; rfl, hs.out0⟩
    intro h4
    refine go mixed 2000 [2] 0 (St.mk Rg.no [KI.code [true, true]] [(2, SV.one (SC.v (Value.bool false)))] []) (by kernel_rfl) (by kernel_rfl) (by kernel_rfl) ?_
    refine ret_ok (vs := [SV.one (SC.v (Value.bool false))]) (by kernel_rfl) ?_
    intro L w1 hs
    exact ⟨by unfold okD; rw [h3, h4]; rfl, hs.out0⟩
  intro h3
  refine go mixed 2000 [2] 0 (St.mk Rg.no [KI.code [true, true]] [(2, SV.one (SC.v (Value.bool false)))] []) (by kernel_rfl) (by kernel_rfl) (by kernel_rfl) ?_
  refine ret_ok (vs := [SV.one (SC.v (Value.bool false))]) (by kernel_rfl) ?_
  intro L w1 hs
  exact ⟨by unfold okD; rw [h3]; rfl, hs.out0⟩
end Go.Proofs.Ytjbbakckckihnaa.Dk
