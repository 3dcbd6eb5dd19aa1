/- Walks of functions of the program: what each call returns and what it leaves in memory. Conditions: those that each theorem names. -/
import Derived.Test.YtjbbakckckihnaaE5
namespace Go.Proofs.Ytjbbakckckihnaa.Dk
set_option linter.unusedVariables false
set_option linter.unusedSimpArgs false
open Go.Proofs.Ytjbbakckckihnaa.Sx Go.Proofs Go.RowKit
set_option maxRecDepth 100000
structure DD where
  xs : List (List Int)
  ws : List (Int × List Int)
  f : Int
  dn : Bool
def DkRes (r : DD × Int) (w : World) (e : Ending) (w' : World) : Prop :=
  ∃ A' c' A1' c1', e = .returned (.tuple #[.agg #[.slice A' r.1.xs.length c', .slice A1' r.1.ws.length c1', .int .i64 r.1.f, .bool r.1.dn], .int .i64 r.2]) ∧ Fresh w w' [rowA 59 kW r.1.ws (.slice A1' r.1.ws.length c1'), rowA 36 kB r.1.xs (.slice A' r.1.xs.length c')]
def badD : DD × Int := (⟨[], [], 0, false⟩, 1)
def fuseR (xs : List (List Int)) (ws : List (Int × List Int)) (f : Int) (dn : Bool) (n : Int) : DD × Int := if okD xs ws f = true ∧ -1 ≤ n then (⟨xs, ws, n, dn⟩, 0) else badD
theorem fresh_empty {w w' : World} {A B : Option Addr} (hb : Below w.heap.size w w') : Fresh w w' [rowA 59 kW [] (.slice A 0 0), rowA 36 kB [] (.slice B 0 0)] :=
  ⟨hb, fun _ => False, fun _ h => h.elim, fun _ => False, fun _ => False, fun _ h => h, fun _ h => h, fun _ h _ => h, rowA_holds.2 (owRow_empty A), fun _ => False, fun _ => False, fun _ h => h, fun _ h => h, fun _ h _ => h, rowA_holds.2 (owRow_empty B), trivial⟩
theorem specFuse_ok (xs : List (List Int)) (ws : List (Int × List Int)) (f : Int) (dn : Bool) (A : Option Addr) (c : Nat) (A1 : Option Addr) (c1 : Nat) (n : Int) (w : World) (h : rdRow kB w.heap xs (.slice A xs.length c)) (h2 : rdRow kW w.heap ws (.slice A1 ws.length c1)) (hl : xs.length ≤ 1048576) (hl2 : ∀ y ∈ xs, y.length ≤ 1048576) (hl3 : ws.length ≤ 1048576) (hl4 : ∀ y ∈ ws, y.2.length ≤ 1048576) :
    Calls Try.prog 10 #[.agg #[.slice A xs.length c, .slice A1 ws.length c1, .int .i64 f, .bool dn], .int .i64 n] w (DkRes (fuseR xs ws f dn n) w) := by
  refine enter (args := [.agg [.v (.slice A xs.length c), .v (.slice A1 ws.length c1), .v (.int .i64 f), .bo dn], .one (.v (.int .i64 n))]) Try.func10 (c := bodyOf Try.f10) rfl rfl (start_LOK _) (start_old w) ?_
  refine go mixed 2000 [1, 2, 4, 7] 2 (St.mk (Rg.sq [true, false, false] 1) [KI.code [true, false, true], KI.code [true, true]] [(1, SV.one (SC.v (Value.int IntKind.i64 n))), (2, SV.one (SC.ptr 0 0)), (4, SV.one (SC.ptr 1 0)), (7, SV.agg [SC.v (Value.slice A xs.length c), SC.v (Value.slice A1 ws.length c1), SC.v (Value.int IntKind.i64 f), SC.bo dn])] [LB.mk [SC.v (Value.slice A xs.length c), SC.v (Value.slice A1 ws.length c1), SC.v (Value.int IntKind.i64 f), SC.bo dn] 29, LB.mk [SC.v (Value.slice none 0 0), SC.v (Value.slice none 0 0), SC.v (Value.int IntKind.i64 0), SC.v (Value.bool false)] 29]) (by kernel_rfl) (by kernel_rfl) (by kernel_rfl) ?_
  refine call_pure true (by kernel_rfl : atC _ _ _ true = some (32, [SV.agg [SC.v (Value.slice A xs.length c), SC.v (Value.slice A1 ws.length c1), SC.v (Value.int IntKind.i64 f), SC.bo dn]], some 8, Rg.sq [true, false, false] 2)) (by kernel_rfl) (.one (.bo (okD xs ws f))) (fun L w1 hs => specDiskOk_ok xs ws f dn A c A1 c1 w1 (rdRow_ext (hs.old 0 rfl) h) (rdRow_ext (hs.old 0 rfl) h2) hl hl3) ?_
  refine go mixed 2000 [1, 2, 4, 10] 2 (St.mk (Rg.sq [true, false, false] 4) [KI.code [true, false, true], KI.code [true, true]] [(1, SV.one (SC.v (Value.int IntKind.i64 n))), (2, SV.one (SC.ptr 0 0)), (4, SV.one (SC.ptr 1 0)), (10, SV.one (SC.bo !okD xs ws f))] [LB.mk [SC.v (Value.slice A xs.length c), SC.v (Value.slice A1 ws.length c1), SC.v (Value.int IntKind.i64 f), SC.bo dn] 29, LB.mk [SC.v (Value.slice none 0 0), SC.v (Value.slice none 0 0), SC.v (Value.int IntKind.i64 0), SC.v (Value.bool false)] 29]) (by kernel_rfl) (by kernel_rfl) (by kernel_rfl) ?_
  refine split_at 10 (b := !okD xs ws f) (by kernel_rfl) (by kernel_rfl) ?_ ?_
  · intro h1
    have hk : fuseR xs ws f dn n = badD := if_neg fun hk => by
      simp at h1; rw [hk.1] at h1; cases h1
    refine go mixed 2000 [4, 5] 2 (St.mk Rg.no [KI.code [true, false, true, false, true], KI.code [true, true]] [(4, SV.one (SC.ptr 1 0)), (5, SV.one (SC.v (Value.int IntKind.i64 1)))] [LB.mk [SC.v (Value.slice A xs.length c), SC.v (Value.slice A1 ws.length c1), SC.v (Value.int IntKind.i64 f), SC.bo dn] 29, LB.mk [SC.v (Value.slice none 0 0), SC.v (Value.slice none 0 0), SC.v (Value.int IntKind.i64 0), SC.bo false] 29]) (by kernel_rfl) (by kernel_rfl) (by kernel_rfl) ?_
    refine ret_ok (vs := [SV.agg [SC.v (Value.slice none 0 0), SC.v (Value.slice none 0 0), SC.v (Value.int IntKind.i64 0), SC.bo false], SV.one (SC.v (Value.int IntKind.i64 1))]) (by kernel_rfl) ?_
    intro L w1 hs
    rw [hk]
    exact ⟨none, 0, none, 0, rfl, fresh_empty hs.out0⟩
  intro h1
  refine go mixed 2000 [1, 2, 4, 13] 2 (St.mk Rg.no [KI.code [true, false, true], KI.code [true, true]] [(1, SV.one (SC.v (Value.int IntKind.i64 n))), (2, SV.one (SC.ptr 0 0)), (4, SV.one (SC.ptr 1 0)), (13, SV.one (SC.bo (decide (n < -1))))] [LB.mk [SC.v (Value.slice A xs.length c), SC.v (Value.slice A1 ws.length c1), SC.v (Value.int IntKind.i64 f), SC.bo dn] 29, LB.mk [SC.v (Value.slice none 0 0), SC.v (Value.slice none 0 0), SC.v (Value.int IntKind.i64 0), SC.v (Value.bool false)] 29]) (by kernel_rfl) (by kernel_rfl) (by kernel_rfl) ?_
  refine split_at 13 (b := decide (n < -1)) (by kernel_rfl) (by kernel_rfl) ?_ ?_
  · intro hn
    have hk : fuseR xs ws f dn n = badD := if_neg fun hk => by
      simp at hn; omega
    refine go mixed 2000 [4, 5] 2 (St.mk Rg.no [KI.code [true, false, true, false, true], KI.code [true, true]] [(4, SV.one (SC.ptr 1 0)), (5, SV.one (SC.v (Value.int IntKind.i64 1)))] [LB.mk [SC.v (Value.slice A xs.length c), SC.v (Value.slice A1 ws.length c1), SC.v (Value.int IntKind.i64 f), SC.bo dn] 29, LB.mk [SC.v (Value.slice none 0 0), SC.v (Value.slice none 0 0), SC.v (Value.int IntKind.i64 0), SC.bo false] 29]) (by kernel_rfl) (by kernel_rfl) (by kernel_rfl) ?_
    refine ret_ok (vs := [SV.agg [SC.v (Value.slice none 0 0), SC.v (Value.slice none 0 0), SC.v (Value.int IntKind.i64 0), SC.bo false], SV.one (SC.v (Value.int IntKind.i64 1))]) (by kernel_rfl) ?_
    intro L w1 hs
    rw [hk]
    exact ⟨none, 0, none, 0, rfl, fresh_empty hs.out0⟩
  intro hn
  have hk : fuseR xs ws f dn n = (⟨xs, ws, n, dn⟩, 0) := if_pos ⟨by simpa using h1, by simpa using hn⟩
  refine go mixed 2000 [1, 4, 15] 2 (St.mk (Rg.sq [true, true, false] 1) [KI.code [true, true, true]] [(1, SV.one (SC.v (Value.int IntKind.i64 n))), (4, SV.one (SC.ptr 1 0)), (15, SV.agg [SC.v (Value.slice A xs.length c), SC.v (Value.slice A1 ws.length c1), SC.v (Value.int IntKind.i64 f), SC.bo dn])] [LB.mk [SC.v (Value.slice A xs.length c), SC.v (Value.slice A1 ws.length c1), SC.v (Value.int IntKind.i64 f), SC.bo dn] 29, LB.mk [SC.v (Value.slice none 0 0), SC.v (Value.slice none 0 0), SC.v (Value.int IntKind.i64 0), SC.v (Value.bool false)] 29]) (by kernel_rfl) (by kernel_rfl) (by kernel_rfl) ?_
  refine call_fresh true (by kernel_rfl : atC _ _ _ true = some (38, [SV.agg [SC.v (Value.slice A xs.length c), SC.v (Value.slice A1 ws.length c1), SC.v (Value.int IntKind.i64 f), SC.bo dn]], some 16, Rg.sq [true, true, false] 2)) (by kernel_rfl) fun L w1 hs => (l4copy_ok xs ws f dn A c A1 c1 w1 (rdRow_ext (hs.old 0 rfl) h) (rdRow_ext (hs.old 0 rfl) h2) hl hl2 hl3 hl4).mono ?_
  rintro e w2 ⟨A', c', A1', c1', rfl, hf⟩
  refine ⟨.agg [.v (.slice A' xs.length c'), .v (.slice A1' ws.length c1'), .v (.int .i64 f), .bo dn], _, rfl, hf, ?_⟩
  clear hs hf
  refine go mixed 2000 [4, 5] 2 (St.mk Rg.no [KI.code [true, true, true, true, true]] [(4, SV.one (SC.ptr 1 0)), (5, SV.one (SC.v (Value.int IntKind.i64 0)))] [LB.mk [SC.v (Value.slice A xs.length c), SC.v (Value.slice A1 ws.length c1), SC.v (Value.int IntKind.i64 f), SC.bo dn] 29, LB.mk [SC.v (Value.slice A' xs.length c'), SC.v (Value.slice A1' ws.length c1'), SC.v (Value.int IntKind.i64 n), SC.bo dn] 29]) (by kernel_rfl) (by kernel_rfl) (by kernel_rfl) ?_
  refine ret_ok (vs := [SV.agg [SC.v (Value.slice A' xs.length c'), SC.v (Value.slice A1' ws.length c1'), SC.v (Value.int IntKind.i64 n), SC.bo dn], SV.one (SC.v (Value.int IntKind.i64 0))]) (by kernel_rfl) ?_
  intro L w1 hs
  rw [hk]
  exact ⟨_, _, _, _, rfl, hs.out (As := [_, _])⟩
theorem implFuse_ok (xs : List (List Int)) (ws : List (Int × List Int)) (f : Int) (dn : Bool) (A : Option Addr) (c : Nat) (A1 : Option Addr) (c1 : Nat) (n : Int) (w : World) (h : rdRow kB w.heap xs (.slice A xs.length c)) (h2 : rdRow kW w.heap ws (.slice A1 ws.length c1)) (hl : xs.length ≤ 1048576) (hl2 : ∀ y ∈ xs, y.length ≤ 1048576) (hl3 : ws.length ≤ 1048576) (hl4 : ∀ y ∈ ws, y.2.length ≤ 1048576) :
    Calls Try.prog 12 #[.agg #[.slice A xs.length c, .slice A1 ws.length c1, .int .i64 f, .bool dn], .int .i64 n] w (DkRes (fuseR xs ws f dn n) w) := by
  refine enter (args := [.agg [.v (.slice A xs.length c), .v (.slice A1 ws.length c1), .v (.int .i64 f), .bo dn], .one (.v (.int .i64 n))]) Try.func12 (c := bodyOf Try.f12) rfl rfl (start_LOK _) (start_old w) ?_
  refine go mixed 2000 [1, 2, 4, 7] 2 (St.mk (Rg.sq [true, false, false] 1) [KI.code [true, false, true], KI.code [true, true]] [(1, SV.one (SC.v (Value.int IntKind.i64 n))), (2, SV.one (SC.ptr 0 0)), (4, SV.one (SC.ptr 1 0)), (7, SV.agg [SC.v (Value.slice A xs.length c), SC.v (Value.slice A1 ws.length c1), SC.v (Value.int IntKind.i64 f), SC.bo dn])] [LB.mk [SC.v (Value.slice A xs.length c), SC.v (Value.slice A1 ws.length c1), SC.v (Value.int IntKind.i64 f), SC.bo dn] 29, LB.mk [SC.v (Value.slice none 0 0), SC.v (Value.slice none 0 0), SC.v (Value.int IntKind.i64 0), SC.v (Value.bool false)] 29]) (by kernel_rfl) (by kernel_rfl) (by kernel_rfl) ?_
  refine call_pure true (by kernel_rfl : atC _ _ _ true = some (31, [SV.agg [SC.v (Value.slice A xs.length c), SC.v (Value.slice A1 ws.length c1), SC.v (Value.int IntKind.i64 f), SC.bo dn]], some 8, Rg.sq [true, false, false] 2)) (by kernel_rfl) (.one (.bo (okD xs ws f))) (fun L w1 hs => implDiskOk_ok xs ws f dn A c A1 c1 w1 (rdRow_ext (hs.old 0 rfl) h) (rdRow_ext (hs.old 0 rfl) h2) hl hl3) ?_
  refine go mixed 2000 [1, 2, 4, 10] 2 (St.mk (Rg.sq [true, false, false] 4) [KI.code [true, false, true], KI.code [true, true]] [(1, SV.one (SC.v (Value.int IntKind.i64 n))), (2, SV.one (SC.ptr 0 0)), (4, SV.one (SC.ptr 1 0)), (10, SV.one (SC.bo !okD xs ws f))] [LB.mk [SC.v (Value.slice A xs.length c), SC.v (Value.slice A1 ws.length c1), SC.v (Value.int IntKind.i64 f), SC.bo dn] 29, LB.mk [SC.v (Value.slice none 0 0), SC.v (Value.slice none 0 0), SC.v (Value.int IntKind.i64 0), SC.v (Value.bool false)] 29]) (by kernel_rfl) (by kernel_rfl) (by kernel_rfl) ?_
  refine split_at 10 (b := !okD xs ws f) (by kernel_rfl) (by kernel_rfl) ?_ ?_
  · intro h1
    have hk : fuseR xs ws f dn n = badD := if_neg fun hk => by
      simp at h1; rw [hk.1] at h1; cases h1
    refine go mixed 2000 [4, 5] 2 (St.mk Rg.no [KI.code [true, false, true, false, true], KI.code [true, true]] [(4, SV.one (SC.ptr 1 0)), (5, SV.one (SC.v (Value.int IntKind.i64 1)))] [LB.mk [SC.v (Value.slice A xs.length c), SC.v (Value.slice A1 ws.length c1), SC.v (Value.int IntKind.i64 f), SC.bo dn] 29, LB.mk [SC.v (Value.slice none 0 0), SC.v (Value.slice none 0 0), SC.v (Value.int IntKind.i64 0), SC.bo false] 29]) (by kernel_rfl) (by kernel_rfl) (by kernel_rfl) ?_
    refine ret_ok (vs := [SV.agg [SC.v (Value.slice none 0 0), SC.v (Value.slice none 0 0), SC.v (Value.int IntKind.i64 0), SC.bo false], SV.one (SC.v (Value.int IntKind.i64 1))]) (by kernel_rfl) ?_
    intro L w1 hs
    rw [hk]
    exact ⟨none, 0, none, 0, rfl, fresh_empty hs.out0⟩
  intro h1
  refine go mixed 2000 [1, 2, 4, 13] 2 (St.mk Rg.no [KI.code [true, false, true], KI.code [true, true]] [(1, SV.one (SC.v (Value.int IntKind.i64 n))), (2, SV.one (SC.ptr 0 0)), (4, SV.one (SC.ptr 1 0)), (13, SV.one (SC.bo (decide (n < -1))))] [LB.mk [SC.v (Value.slice A xs.length c), SC.v (Value.slice A1 ws.length c1), SC.v (Value.int IntKind.i64 f), SC.bo dn] 29, LB.mk [SC.v (Value.slice none 0 0), SC.v (Value.slice none 0 0), SC.v (Value.int IntKind.i64 0), SC.v (Value.bool false)] 29]) (by kernel_rfl) (by kernel_rfl) (by kernel_rfl) ?_
  refine split_at 13 (b := decide (n < -1)) (by kernel_rfl) (by kernel_rfl) ?_ ?_
  · intro hn
    have hk : fuseR xs ws f dn n = badD := if_neg fun hk => by
      simp at hn; omega
    refine go mixed 2000 [4, 5] 2 (St.mk Rg.no [KI.code [true, false, true, false, true], KI.code [true, true]] [(4, SV.one (SC.ptr 1 0)), (5, SV.one (SC.v (Value.int IntKind.i64 1)))] [LB.mk [SC.v (Value.slice A xs.length c), SC.v (Value.slice A1 ws.length c1), SC.v (Value.int IntKind.i64 f), SC.bo dn] 29, LB.mk [SC.v (Value.slice none 0 0), SC.v (Value.slice none 0 0), SC.v (Value.int IntKind.i64 0), SC.bo false] 29]) (by kernel_rfl) (by kernel_rfl) (by kernel_rfl) ?_
    refine ret_ok (vs := [SV.agg [SC.v (Value.slice none 0 0), SC.v (Value.slice none 0 0), SC.v (Value.int IntKind.i64 0), SC.bo false], SV.one (SC.v (Value.int IntKind.i64 1))]) (by kernel_rfl) ?_
    intro L w1 hs
    rw [hk]
    exact ⟨none, 0, none, 0, rfl, fresh_empty hs.out0⟩
  intro hn
  have hk : fuseR xs ws f dn n = (⟨xs, ws, n, dn⟩, 0) := if_pos ⟨by simpa using h1, by simpa using hn⟩
  refine go mixed 2000 [1, 4, 15] 2 (St.mk (Rg.sq [true, true, false] 1) [KI.code [true, true, true]] [(1, SV.one (SC.v (Value.int IntKind.i64 n))), (4, SV.one (SC.ptr 1 0)), (15, SV.agg [SC.v (Value.slice A xs.length c), SC.v (Value.slice A1 ws.length c1), SC.v (Value.int IntKind.i64 f), SC.bo dn])] [LB.mk [SC.v (Value.slice A xs.length c), SC.v (Value.slice A1 ws.length c1), SC.v (Value.int IntKind.i64 f), SC.bo dn] 29, LB.mk [SC.v (Value.slice none 0 0), SC.v (Value.slice none 0 0), SC.v (Value.int IntKind.i64 0), SC.v (Value.bool false)] 29]) (by kernel_rfl) (by kernel_rfl) (by kernel_rfl) ?_
  refine call_fresh true (by kernel_rfl : atC _ _ _ true = some (41, [SV.agg [SC.v (Value.slice A xs.length c), SC.v (Value.slice A1 ws.length c1), SC.v (Value.int IntKind.i64 f), SC.bo dn]], some 16, Rg.sq [true, true, false] 2)) (by kernel_rfl) fun L w1 hs => (own_ok xs ws f dn A c A1 c1 w1 (rdRow_ext (hs.old 0 rfl) h) (rdRow_ext (hs.old 0 rfl) h2) hl hl2 hl3 hl4).mono ?_
  rintro e w2 ⟨A', c', A1', c1', rfl, hf⟩
  refine ⟨.agg [.v (.slice A' xs.length c'), .v (.slice A1' ws.length c1'), .v (.int .i64 f), .bo dn], _, rfl, hf, ?_⟩
  clear hs hf
  refine go mixed 2000 [4, 5] 2 (St.mk Rg.no [KI.code [true, true, true, true, true]] [(4, SV.one (SC.ptr 1 0)), (5, SV.one (SC.v (Value.int IntKind.i64 0)))] [LB.mk [SC.v (Value.slice A xs.length c), SC.v (Value.slice A1 ws.length c1), SC.v (Value.int IntKind.i64 f), SC.bo dn] 29, LB.mk [SC.v (Value.slice A' xs.length c'), SC.v (Value.slice A1' ws.length c1'), SC.v (Value.int IntKind.i64 n), SC.bo dn] 29]) (by kernel_rfl) (by kernel_rfl) (by kernel_rfl) ?_
  refine ret_ok (vs := [SV.agg [SC.v (Value.slice A' xs.length c'), SC.v (Value.slice A1' ws.length c1'), SC.v (Value.int IntKind.i64 n), SC.bo dn], SV.one (SC.v (Value.int IntKind.i64 0))]) (by kernel_rfl) ?_
  intro L w1 hs
  rw [hk]
  exact ⟨_, _, _, _, rfl, hs.out (As := [_, _])⟩
end Go.Proofs.Ytjbbakckckihnaa.Dk
