/- Walks of functions of the program: what each call returns and what it leaves in memory. Conditions: those that each theorem names. -/
import Derived.Test.YtjbbakckckihnaaProg
import Derived.Test.YtjbbakckckihnaaF2
namespace Go.Proofs.Ytjbbakckckihnaa.Dk
set_option linter.unusedVariables false
set_option linter.unusedSimpArgs false
open Go.Proofs.Ytjbbakckckihnaa.Sx Go.Proofs Go.RowKit
set_option maxRecDepth 100000
def WOk (xs : List (List Int)) (ws : List (Int × List Int)) (f x : Int) (ys : List Int) : Prop := okD xs ws f = true ∧ (0 ≤ x ∧ x < (xs.length : Int)) ∧ (ys.length : Int) = 64
instance (xs : List (List Int)) (ws : List (Int × List Int)) (f x : Int) (ys : List Int) : Decidable (WOk xs ws f x ys) := by unfold WOk; infer_instance
def writeIn (xs : List (List Int)) (ws : List (Int × List Int)) (f : Int) (dn : Bool) (x : Int) (ys : List Int) : DD × Int :=
  if 600 ≤ ws.length then (⟨xs, ws, f, dn⟩, 2)
  else if (takeR f dn).2 = true then (⟨xs, ws ++ [(x, ys)], (takeR f dn).1.1, (takeR f dn).1.2⟩, 0)
  else (⟨xs, ws, (takeR f dn).1.1, (takeR f dn).1.2⟩, 3)
def writeR (xs : List (List Int)) (ws : List (Int × List Int)) (f : Int) (dn : Bool) (x : Int) (ys : List Int) : DD × Int :=
  if WOk xs ws f x ys then writeIn xs ws f dn x ys else badD
theorem specWrite_ok (xs : List (List Int)) (ws : List (Int × List Int)) (f : Int) (dn : Bool) (A : Option Addr) (c : Nat) (A1 : Option Addr) (c1 : Nat) (x : Int) (ys : List Int) (D : Option Addr) (dd : Nat) (w : World) (h : rdRow kB w.heap xs (.slice A xs.length c)) (h2 : rdRow kW w.heap ws (.slice A1 ws.length c1)) (h3 : rdRow kU8 w.heap ys (.slice D ys.length dd)) (hl : xs.length ≤ 1048576) (hl2 : ∀ y ∈ xs, y.length ≤ 1048576) (hl3 : ws.length ≤ 1048576) (hl4 : ∀ y ∈ ws, y.2.length ≤ 1048576) :
    Calls Try.prog 16 #[.agg #[.slice A xs.length c, .slice A1 ws.length c1, .int .i64 f, .bool dn], .int .i64 x, .slice D ys.length dd] w (DkRes (writeR xs ws f dn x ys) w) := by
  refine enter (args := [.agg [.v (.slice A xs.length c), .v (.slice A1 ws.length c1), .v (.int .i64 f), .bo dn], .one (.v (.int .i64 x)), .one (.v (.slice D ys.length dd))]) Try.func16 (c := bodyOf Try.f16) rfl rfl (start_LOK _) (start_old w) ?_
  refine go mixed 2000 [1, 2, 3, 6, 10] 2 (St.mk (Rg.sq [true, false, false] 1) [KI.code [true, false, true], KI.code [true, true]] [(1, SV.one (SC.v (Value.int IntKind.i64 x))), (2, SV.one (SC.v (Value.slice D ys.length dd))), (3, SV.one (SC.ptr 0 0)), (6, SV.one (SC.ptr 1 0)), (10, SV.agg [SC.v (Value.slice A xs.length c), SC.v (Value.slice A1 ws.length c1), SC.v (Value.int IntKind.i64 f), SC.bo dn])] [LB.mk [SC.v (Value.slice A xs.length c), SC.v (Value.slice A1 ws.length c1), SC.v (Value.int IntKind.i64 f), SC.bo dn] 29, LB.mk [SC.v (Value.slice none 0 0), SC.v (Value.slice none 0 0), SC.v (Value.int IntKind.i64 0), SC.v (Value.bool false)] 29]) (by kernel_rfl) (by kernel_rfl) (by kernel_rfl) ?_
  refine call_pure true (by kernel_rfl : atC _ _ _ true = some (32, [SV.agg [SC.v (Value.slice A xs.length c), SC.v (Value.slice A1 ws.length c1), SC.v (Value.int IntKind.i64 f), SC.bo dn]], some 11, Rg.sq [true, false, false] 2)) (by kernel_rfl) (.one (.bo (okD xs ws f))) (fun L w1 hs => specDiskOk_ok xs ws f dn A c A1 c1 w1 (rdRow_ext (hs.old 0 rfl) h) (rdRow_ext (hs.old 0 rfl) h2) hl hl3) ?_
  refine go mixed 2000 [1, 2, 3, 6, 13] 2 (St.mk (Rg.sq [true, false, false] 4) [KI.code [true, false, true], KI.code [true, true]] [(1, SV.one (SC.v (Value.int IntKind.i64 x))), (2, SV.one (SC.v (Value.slice D ys.length dd))), (3, SV.one (SC.ptr 0 0)), (6, SV.one (SC.ptr 1 0)), (13, SV.one (SC.bo !okD xs ws f))] [LB.mk [SC.v (Value.slice A xs.length c), SC.v (Value.slice A1 ws.length c1), SC.v (Value.int IntKind.i64 f), SC.bo dn] 29, LB.mk [SC.v (Value.slice none 0 0), SC.v (Value.slice none 0 0), SC.v (Value.int IntKind.i64 0), SC.v (Value.bool false)] 29]) (by kernel_rfl) (by kernel_rfl) (by kernel_rfl) ?_
  refine split_at 13 (b := !okD xs ws f) (by kernel_rfl) (by kernel_rfl) ?_ ?_
  · intro h1
    have hk : writeR xs ws f dn x ys = badD := if_neg fun hk => by
      obtain ⟨k1, ⟨k2, k3⟩, k4⟩ := hk
      rw [k1] at h1
      cases h1
    refine go mixed 2000 [6, 7] 2 (St.mk Rg.no [KI.code [true, false, true, false, true], KI.code [true, true]] [(6, SV.one (SC.ptr 1 0)), (7, SV.one (SC.v (Value.int IntKind.i64 1)))] [LB.mk [SC.v (Value.slice A xs.length c), SC.v (Value.slice A1 ws.length c1), SC.v (Value.int IntKind.i64 f), SC.bo dn] 29, LB.mk [SC.v (Value.slice none 0 0), SC.v (Value.slice none 0 0), SC.v (Value.int IntKind.i64 0), SC.bo false] 29]) (by kernel_rfl) (by kernel_rfl) (by kernel_rfl) ?_
    refine ret_ok (vs := [SV.agg [SC.v (Value.slice none 0 0), SC.v (Value.slice none 0 0), SC.v (Value.int IntKind.i64 0), SC.bo false], SV.one (SC.v (Value.int IntKind.i64 1))]) (by kernel_rfl) ?_
    intro L w1 hs
    rw [hk]
    exact ⟨none, 0, none, 0, rfl, fresh_empty hs.out0⟩
  intro h1
  have e1 : okD xs ws f = true := by simpa using h1
  refine go mixed 2000 [1, 2, 3, 6, 17] 2 (St.mk (Rg.sq [true, false, false] 8) [KI.code [true, false, true], KI.code [true, true]] [(1, SV.one (SC.v (Value.int IntKind.i64 x))), (2, SV.one (SC.v (Value.slice D ys.length dd))), (3, SV.one (SC.ptr 0 0)), (6, SV.one (SC.ptr 1 0)), (17, SV.one (SC.bo (decide (x < 0))))] [LB.mk [SC.v (Value.slice A xs.length c), SC.v (Value.slice A1 ws.length c1), SC.v (Value.int IntKind.i64 f), SC.bo dn] 29, LB.mk [SC.v (Value.slice none 0 0), SC.v (Value.slice none 0 0), SC.v (Value.int IntKind.i64 0), SC.v (Value.bool false)] 29]) (by kernel_rfl) (by kernel_rfl) (by kernel_rfl) ?_
  refine split_at 17 (b := decide (x < 0)) (by kernel_rfl) (by kernel_rfl) ?_ ?_
  · intro h4
    have hk : writeR xs ws f dn x ys = badD := if_neg fun hk => by
      obtain ⟨k1, ⟨k2, k3⟩, k4⟩ := hk
      have h4 := of_decide_eq_true h4
      omega
    refine go mixed 2000 [6, 7] 2 (St.mk Rg.no [KI.code [true, false, true, false, true], KI.code [true, true]] [(6, SV.one (SC.ptr 1 0)), (7, SV.one (SC.v (Value.int IntKind.i64 1)))] [LB.mk [SC.v (Value.slice A xs.length c), SC.v (Value.slice A1 ws.length c1), SC.v (Value.int IntKind.i64 f), SC.bo dn] 29, LB.mk [SC.v (Value.slice none 0 0), SC.v (Value.slice none 0 0), SC.v (Value.int IntKind.i64 0), SC.bo false] 29]) (by kernel_rfl) (by kernel_rfl) (by kernel_rfl) ?_
    refine ret_ok (vs := [SV.agg [SC.v (Value.slice none 0 0), SC.v (Value.slice none 0 0), SC.v (Value.int IntKind.i64 0), SC.bo false], SV.one (SC.v (Value.int IntKind.i64 1))]) (by kernel_rfl) ?_
    intro L w1 hs
    rw [hk]
    exact ⟨none, 0, none, 0, rfl, fresh_empty hs.out0⟩
  intro h4
  have e2 := of_decide_eq_false h4
  refine go mixed 2000 [1, 2, 3, 6, 24] 2 (St.mk (Rg.sq [true, false, false] 15) [KI.code [true, false, true], KI.code [true, true]] [(1, SV.one (SC.v (Value.int IntKind.i64 x))), (2, SV.one (SC.v (Value.slice D ys.length dd))), (3, SV.one (SC.ptr 0 0)), (6, SV.one (SC.ptr 1 0)), (24, SV.one (SC.bo (decide (x ≥ (↑xs.length : Int)))))] [LB.mk [SC.v (Value.slice A xs.length c), SC.v (Value.slice A1 ws.length c1), SC.v (Value.int IntKind.i64 f), SC.bo dn] 29, LB.mk [SC.v (Value.slice none 0 0), SC.v (Value.slice none 0 0), SC.v (Value.int IntKind.i64 0), SC.v (Value.bool false)] 29]) (by kernel_rfl) (by kernel_rfl) (by kernel_rfl) ?_
  refine split_at 24 (b := decide (x ≥ (↑xs.length : Int))) (by kernel_rfl) (by kernel_rfl) ?_ ?_
  · intro h5
    have hk : writeR xs ws f dn x ys = badD := if_neg fun hk => by
      obtain ⟨k1, ⟨k2, k3⟩, k4⟩ := hk
      have h5 := of_decide_eq_true h5
      omega
    refine go mixed 2000 [6, 7] 2 (St.mk Rg.no [KI.code [true, false, true, false, true], KI.code [true, true]] [(6, SV.one (SC.ptr 1 0)), (7, SV.one (SC.v (Value.int IntKind.i64 1)))] [LB.mk [SC.v (Value.slice A xs.length c), SC.v (Value.slice A1 ws.length c1), SC.v (Value.int IntKind.i64 f), SC.bo dn] 29, LB.mk [SC.v (Value.slice none 0 0), SC.v (Value.slice none 0 0), SC.v (Value.int IntKind.i64 0), SC.bo false] 29]) (by kernel_rfl) (by kernel_rfl) (by kernel_rfl) ?_
    refine ret_ok (vs := [SV.agg [SC.v (Value.slice none 0 0), SC.v (Value.slice none 0 0), SC.v (Value.int IntKind.i64 0), SC.bo false], SV.one (SC.v (Value.int IntKind.i64 1))]) (by kernel_rfl) ?_
    intro L w1 hs
    rw [hk]
    exact ⟨none, 0, none, 0, rfl, fresh_empty hs.out0⟩
  intro h5
  have e3 := of_decide_eq_false h5
  refine go mixed 2000 [1, 2, 3, 6, 28] 2 (St.mk Rg.no [KI.code [true, false, true], KI.code [true, true]] [(1, SV.one (SC.v (Value.int IntKind.i64 x))), (2, SV.one (SC.v (Value.slice D ys.length dd))), (3, SV.one (SC.ptr 0 0)), (6, SV.one (SC.ptr 1 0)), (28, SV.one (SC.bo ((↑ys.length : Int) != 64)))] [LB.mk [SC.v (Value.slice A xs.length c), SC.v (Value.slice A1 ws.length c1), SC.v (Value.int IntKind.i64 f), SC.bo dn] 29, LB.mk [SC.v (Value.slice none 0 0), SC.v (Value.slice none 0 0), SC.v (Value.int IntKind.i64 0), SC.v (Value.bool false)] 29]) (by kernel_rfl) (by kernel_rfl) (by kernel_rfl) ?_
  refine split_at 28 (b := (↑ys.length : Int) != 64) (by kernel_rfl) (by kernel_rfl) ?_ ?_
  · intro h6
    have hk : writeR xs ws f dn x ys = badD := if_neg fun hk => by
      obtain ⟨k1, ⟨k2, k3⟩, k4⟩ := hk
      simp at h6
      omega
    refine go mixed 2000 [6, 7] 2 (St.mk Rg.no [KI.code [true, false, true, false, true], KI.code [true, true]] [(6, SV.one (SC.ptr 1 0)), (7, SV.one (SC.v (Value.int IntKind.i64 1)))] [LB.mk [SC.v (Value.slice A xs.length c), SC.v (Value.slice A1 ws.length c1), SC.v (Value.int IntKind.i64 f), SC.bo dn] 29, LB.mk [SC.v (Value.slice none 0 0), SC.v (Value.slice none 0 0), SC.v (Value.int IntKind.i64 0), SC.bo false] 29]) (by kernel_rfl) (by kernel_rfl) (by kernel_rfl) ?_
    refine ret_ok (vs := [SV.agg [SC.v (Value.slice none 0 0), SC.v (Value.slice none 0 0), SC.v (Value.int IntKind.i64 0), SC.bo false], SV.one (SC.v (Value.int IntKind.i64 1))]) (by kernel_rfl) ?_
    intro L w1 hs
    rw [hk]
    exact ⟨none, 0, none, 0, rfl, fresh_empty hs.out0⟩
  intro h6
  have e4 : ((ys.length : Int) = 64) := by simpa using h6
  have hR : writeR xs ws f dn x ys = writeIn xs ws f dn x ys := if_pos ⟨e1, ⟨by omega, by omega⟩, e4⟩
  clear h1 h4 h5 h6
  refine go mixed 2000 [1, 2, 3, 6, 33] 2 (St.mk Rg.no [KI.code [true, true, false, true], KI.code [true, true, true]] [(1, SV.one (SC.v (Value.int IntKind.i64 x))), (2, SV.one (SC.v (Value.slice D ys.length dd))), (3, SV.one (SC.ptr 0 0)), (6, SV.one (SC.ptr 1 0)), (33, SV.one (SC.bo (decide ((↑ws.length : Int) ≥ 600))))] [LB.mk [SC.v (Value.slice A xs.length c), SC.v (Value.slice A1 ws.length c1), SC.v (Value.int IntKind.i64 f), SC.bo dn] 29, LB.mk [SC.v (Value.slice none 0 0), SC.v (Value.slice none 0 0), SC.v (Value.int IntKind.i64 0), SC.v (Value.bool false)] 29]) (by kernel_rfl) (by kernel_rfl) (by kernel_rfl) ?_
  refine split_at 33 (b := decide ((↑ws.length : Int) ≥ 600)) (by kernel_rfl) (by kernel_rfl) ?_ ?_
  · intro h7
    have hk : writeR xs ws f dn x ys = (⟨xs, ws, f, dn⟩, 2) := hR.trans (if_pos (by have := of_decide_eq_true h7; omega))
    refine go mixed 2000 [6, 34] 2 (St.mk (Rg.sq [true, true, false, true, false, false] 1) [KI.code [true, true, false, true, false, true], KI.code [true, true, true]] [(6, SV.one (SC.ptr 1 0)), (34, SV.agg [SC.v (Value.slice A xs.length c), SC.v (Value.slice A1 ws.length c1), SC.v (Value.int IntKind.i64 f), SC.bo dn])] [LB.mk [SC.v (Value.slice A xs.length c), SC.v (Value.slice A1 ws.length c1), SC.v (Value.int IntKind.i64 f), SC.bo dn] 29, LB.mk [SC.v (Value.slice none 0 0), SC.v (Value.slice none 0 0), SC.v (Value.int IntKind.i64 0), SC.v (Value.bool false)] 29]) (by kernel_rfl) (by kernel_rfl) (by kernel_rfl) ?_
    refine call_fresh true (by kernel_rfl : atC _ _ _ true = some (38, [SV.agg [SC.v (Value.slice A xs.length c), SC.v (Value.slice A1 ws.length c1), SC.v (Value.int IntKind.i64 f), SC.bo dn]], some 35, Rg.sq [true, true, false, true, false, false] 2)) (by kernel_rfl) fun L w1 hs => (l4copy_ok xs ws f dn A c A1 c1 w1 (rdRow_ext (hs.old 0 rfl) h) (rdRow_ext (hs.old 0 rfl) h2) hl hl2 hl3 hl4).mono ?_
    rintro e w2 ⟨A', c', A1', c1', rfl, hf⟩
    refine ⟨.agg [.v (.slice A' xs.length c'), .v (.slice A1' ws.length c1'), .v (.int .i64 f), .bo dn], _, rfl, hf, ?_⟩
    clear hs hf
    refine go mixed 2000 [6, 7] 2 (St.mk Rg.no [KI.code [true, true, false, true, false, true], KI.code [true, true, true]] [(6, SV.one (SC.ptr 1 0)), (7, SV.one (SC.v (Value.int IntKind.i64 2)))] [LB.mk [SC.v (Value.slice A xs.length c), SC.v (Value.slice A1 ws.length c1), SC.v (Value.int IntKind.i64 f), SC.bo dn] 29, LB.mk [SC.v (Value.slice A' xs.length c'), SC.v (Value.slice A1' ws.length c1'), SC.v (Value.int IntKind.i64 f), SC.bo dn] 29]) (by kernel_rfl) (by kernel_rfl) (by kernel_rfl) ?_
    refine go mixed 2000 [6, 7] 2 (St.mk Rg.no [KI.code [true, true, false, true, false, true], KI.code [true, true, true]] [(6, SV.one (SC.ptr 1 0)), (7, SV.one (SC.v (Value.int IntKind.i64 2)))] [LB.mk [SC.v (Value.slice A xs.length c), SC.v (Value.slice A1 ws.length c1), SC.v (Value.int IntKind.i64 f), SC.bo dn] 29, LB.mk [SC.v (Value.slice A' xs.length c'), SC.v (Value.slice A1' ws.length c1'), SC.v (Value.int IntKind.i64 f), SC.bo dn] 29]) (by kernel_rfl) (by kernel_rfl) (by kernel_rfl) ?_
    refine ret_ok (vs := [SV.agg [SC.v (Value.slice A' xs.length c'), SC.v (Value.slice A1' ws.length c1'), SC.v (Value.int IntKind.i64 f), SC.bo dn], SV.one (SC.v (Value.int IntKind.i64 2))]) (by kernel_rfl) ?_
    intro L w1 hs
    rw [hk]
    exact ⟨_, _, _, _, rfl, hs.out (As := [_, _])⟩
  intro h7
  have e5 : ¬ 600 ≤ ws.length := by have := of_decide_eq_false h7; omega
  refine go mixed 2000 [1, 2, 6, 37] 2 (St.mk (Rg.sq [true, true, true, false] 1) [KI.code [true, true, true, true]] [(1, SV.one (SC.v (Value.int IntKind.i64 x))), (2, SV.one (SC.v (Value.slice D ys.length dd))), (6, SV.one (SC.ptr 1 0)), (37, SV.agg [SC.v (Value.slice A xs.length c), SC.v (Value.slice A1 ws.length c1), SC.v (Value.int IntKind.i64 f), SC.bo dn])] [LB.mk [SC.v (Value.slice A xs.length c), SC.v (Value.slice A1 ws.length c1), SC.v (Value.int IntKind.i64 f), SC.bo dn] 29, LB.mk [SC.v (Value.slice none 0 0), SC.v (Value.slice none 0 0), SC.v (Value.int IntKind.i64 0), SC.v (Value.bool false)] 29]) (by kernel_rfl) (by kernel_rfl) (by kernel_rfl) ?_
  refine call_fresh true (by kernel_rfl : atC _ _ _ true = some (48, [SV.agg [SC.v (Value.slice A xs.length c), SC.v (Value.slice A1 ws.length c1), SC.v (Value.int IntKind.i64 f), SC.bo dn]], some 38, Rg.sq [true, true, true, false] 2)) (by kernel_rfl) fun L w1 hs => (l4call_ok xs ws f dn A c A1 c1 w1 (rdRow_ext (hs.old 0 rfl) h) (rdRow_ext (hs.old 0 rfl) h2) hl hl2 hl3 hl4).mono ?_
  obtain ⟨⟨⟨f', dn'⟩, tk⟩, hT⟩ : ∃ r, takeR f dn = r := ⟨_, rfl⟩
  rw [hT]
  rintro e w2 ⟨A', c', A1', c1', rfl, hf⟩
  refine ⟨.one (.v (.tuple #[.agg #[.slice A' xs.length c', .slice A1' ws.length c1', .int .i64 f', .bool dn'], .bool tk])), _, rfl, hf, ?_⟩
  clear hs hf
  refine go mixed 2000 [1, 2, 6, 8, 42] 3 (St.mk Rg.no [KI.code [true, true, true, true, false, true], KI.code [true, true, true, true, true]] [(1, SV.one (SC.v (Value.int IntKind.i64 x))), (2, SV.one (SC.v (Value.slice D ys.length dd))), (6, SV.one (SC.ptr 1 0)), (8, SV.one (SC.ptr 2 0)), (42, SV.one (SC.bo !tk))] [LB.mk [SC.v (Value.slice A xs.length c), SC.v (Value.slice A1 ws.length c1), SC.v (Value.int IntKind.i64 f), SC.bo dn] 29, LB.mk [SC.v (Value.slice none 0 0), SC.v (Value.slice none 0 0), SC.v (Value.int IntKind.i64 0), SC.v (Value.bool false)] 29, LB.mk [SC.v (Value.slice A' xs.length c'), SC.v (Value.slice A1' ws.length c1'), SC.v (Value.int IntKind.i64 f'), SC.bo dn'] 29]) (by kernel_rfl) (by kernel_rfl) (by kernel_rfl) ?_
  refine split_at 42 (b := !tk) (by kernel_rfl) (by kernel_rfl) ?_ ?_
  · intro h8
    have hk : writeR xs ws f dn x ys = (⟨xs, ws, f', dn'⟩, 3) := by
      rw [hR]; unfold writeIn
      rw [if_neg e5, hT, if_neg (by simpa using h8)]
    refine go mixed 2000 [6, 7] 2 (St.mk Rg.no [KI.code [true, true, true, true, false, true, false, true], KI.code [true, true, true, true, true]] [(6, SV.one (SC.ptr 1 0)), (7, SV.one (SC.v (Value.int IntKind.i64 3)))] [LB.mk [SC.v (Value.slice A xs.length c), SC.v (Value.slice A1 ws.length c1), SC.v (Value.int IntKind.i64 f), SC.bo dn] 29, LB.mk [SC.v (Value.slice A' xs.length c'), SC.v (Value.slice A1' ws.length c1'), SC.v (Value.int IntKind.i64 f'), SC.bo dn'] 29]) (by kernel_rfl) (by kernel_rfl) (by kernel_rfl) ?_
    refine ret_ok (vs := [SV.agg [SC.v (Value.slice A' xs.length c'), SC.v (Value.slice A1' ws.length c1'), SC.v (Value.int IntKind.i64 f'), SC.bo dn'], SV.one (SC.v (Value.int IntKind.i64 3))]) (by kernel_rfl) ?_
    intro L w1 hs
    rw [hk]
    exact ⟨_, _, _, _, rfl, hs.out (As := [_, _])⟩
  intro h8
  have hk : writeR xs ws f dn x ys = (⟨xs, ws ++ [(x, ys)], f', dn'⟩, 0) := by
    rw [hR]; unfold writeIn
    rw [if_neg e5, hT, if_pos (by simpa using h8)]
  refine go mixed 2000 [6, 8, 45, 46, 47, 48] 4 (St.mk (Rg.dr [true, true, true, true, true, false] [true, true, true, true, true, false, false, false, false, false, false] 6 1) [KI.code [true, true, true, true, true, true]] [(6, SV.one (SC.ptr 1 0)), (8, SV.one (SC.ptr 2 0)), (45, SV.one (SC.v (Value.slice A1' ws.length c1'))), (46, SV.one (SC.v (Value.int IntKind.i64 x))), (47, SV.one (SC.sl 3 0 0 0)), (48, SV.one (SC.v (Value.slice D ys.length dd)))] [LB.mk [SC.v (Value.slice A xs.length c), SC.v (Value.slice A1 ws.length c1), SC.v (Value.int IntKind.i64 f), SC.bo dn] 29, LB.mk [SC.v (Value.slice none 0 0), SC.v (Value.slice none 0 0), SC.v (Value.int IntKind.i64 0), SC.v (Value.bool false)] 29, LB.mk [SC.v (Value.slice A' xs.length c'), SC.v (Value.slice A1' ws.length c1'), SC.v (Value.int IntKind.i64 f'), SC.bo dn'] 29, LB.mk [] 5]) (by kernel_rfl) (by kernel_rfl) (by kernel_rfl) ?_
  refine append_newK (f := Value.int .u8) (hf := fun _ => rfl) (by_ := 1) (e := 5) (by kernel_rfl : atB _ _ _ true = some (Op.call (Call.mk (Callee.builtin Builtin.append) #[Operand.tmp 47, Operand.tmp 48] #[36, 36]), 36, some 49, Rg.dr [true, true, true, true, true, false] [true, true, true, true, true, true, false, false, false, false, false] 5 1)) (by kernel_rfl) (fun L => ⟨_, rfl⟩) rfl ?_ ?_ ?_ ?_
  · intro L w1 hs
    exact rdRow_ext (hs.old 2 rfl) h3
  · simp [maxLen]; omega
  · omega
  intro Y y
  refine go mixed 2000 [6, 8, 45, 51] 5 (St.mk (Rg.dr [true, true, true, true, true, false] [true, true, true, true, true, true, true, true, false, false, false] 3 1) [KI.code [true, true, true, true, true, true]] [(6, SV.one (SC.ptr 1 0)), (8, SV.one (SC.ptr 2 0)), (45, SV.one (SC.v (Value.slice A1' ws.length c1'))), (51, SV.one (SC.sl 4 0 1 1))] [LB.mk [SC.v (Value.slice A xs.length c), SC.v (Value.slice A1 ws.length c1), SC.v (Value.int IntKind.i64 f), SC.bo dn] 29, LB.mk [SC.v (Value.slice none 0 0), SC.v (Value.slice none 0 0), SC.v (Value.int IntKind.i64 0), SC.v (Value.bool false)] 29, LB.mk [SC.v (Value.slice A' xs.length c'), SC.v (Value.slice A1' ws.length c1'), SC.v (Value.int IntKind.i64 f'), SC.bo dn'] 29, LB.mk [] 5, LB.mk [SC.v (Value.int IntKind.i64 x), SC.v (Value.slice Y ys.length y)] 59]) (by kernel_rfl) (by kernel_rfl) (by kernel_rfl) ?_
  refine h_val (f := Value.int .i64) (fun _ => rfl) x ?_
  refine h_pair (d := kI64) (d2 := kB) (c2 := [.slice Y ys.length y]) ?_
  refine h_swap ?_
  refine append_lit (d := kW) (y := (x, ys)) (by_ := 32) (news := [.int .i64 x, .slice Y ys.length y]) (by kernel_rfl : atB _ _ _ false = some (Op.call (Call.mk (Callee.builtin Builtin.append) #[Operand.tmp 45, Operand.tmp 51] #[27, 27]), 27, some 52, Rg.dr [true, true, true, true, true, false] [true, true, true, true, true, true, true, true, true, false, false] 2 0)) (by kernel_rfl) rfl rfl rfl rfl (by simp [maxLen]; omega) (by omega) ?_
  intro B' d'
  refine go mixed 2000 [6, 7] 2 (St.mk Rg.no [KI.code [true, true, true, true, true, true, true]] [(6, SV.one (SC.ptr 1 0)), (7, SV.one (SC.v (Value.int IntKind.i64 0)))] [LB.mk [SC.v (Value.slice A xs.length c), SC.v (Value.slice A1 ws.length c1), SC.v (Value.int IntKind.i64 f), SC.bo dn] 29, LB.mk [SC.v (Value.slice A' xs.length c'), SC.v (Value.slice B' (ws ++ [(x, ys)]).length d'), SC.v (Value.int IntKind.i64 f'), SC.bo dn'] 29]) (by kernel_rfl) (by kernel_rfl) (by kernel_rfl) ?_
  refine ret_ok (vs := [SV.agg [SC.v (Value.slice A' xs.length c'), SC.v (Value.slice B' (ws ++ [(x, ys)]).length d'), SC.v (Value.int IntKind.i64 f'), SC.bo dn'], SV.one (SC.v (Value.int IntKind.i64 0))]) (by kernel_rfl) ?_
  intro L w1 hs
  rw [hk]
  exact ⟨_, _, _, _, rfl, hs.out (As := [_, _])⟩
end Go.Proofs.Ytjbbakckckihnaa.Dk
