/- Walks of functions of the program: what each call returns and what it leaves in memory. Conditions: those that each theorem names. -/
import Derived.Test.YtjbbakckckihnaaProg
import Derived.Test.YtjbbakckckihnaaF3
namespace Go.Proofs.Ytjbbakckckihnaa.Dk
set_option linter.unusedVariables false
set_option linter.unusedSimpArgs false
open Go.Proofs.Ytjbbakckckihnaa.Sx Go.Proofs Go.RowKit
set_option maxRecDepth 100000
theorem writeM_ok (V0 : Value) (xs : List (List Int)) (ws : List (Int × List Int)) (f : Int) (dn : Bool) (A1 : Option Addr) (c1 : Nat) (x : Int) (ys : List Int) (D : Option Addr) (dd : Nat) (g : Nat) (S : Nat → Prop) (w : World)
    (h : sepL [blkA g [V0, .slice A1 ws.length c1, .int .i64 f, .bool dn] 29, rowA 59 kW ws (.slice A1 ws.length c1)] w.heap S) (hS : ∀ b, S b → b < w.heap.size)
    (hD : ∀ h' : Hp, (∀ b, b < w.heap.size → ¬ S b → h'[b]? = w.heap[b]?) → rdRow kU8 h' ys (.slice D ys.length dd)) (hl : ws.length ≤ 600) (hl2 : ys.length ≤ 1048576) :
    Calls Try.prog 50 #[.pointer (some ⟨g, 0, none⟩), .int .i64 x, .slice D ys.length dd] w fun e w' => ∃ A' c', e = .returned (.int .i64 (writeIn xs ws f dn x ys).2) ∧
      Mut w w' S [blkA g [V0, .slice A' (writeIn xs ws f dn x ys).1.ws.length c', .int .i64 (writeIn xs ws f dn x ys).1.f, .bool (writeIn xs ws f dn x ys).1.dn] 29, rowA 59 kW (writeIn xs ws f dn x ys).1.ws (.slice A' (writeIn xs ws f dn x ys).1.ws.length c')] := by
  have hgS : S g := by obtain ⟨S1, _, h1, _, _, ⟨hg, _⟩, _⟩ := h; exact h1 g hg
  have hst := start_ptr (cells := [.v V0, .v (.slice A1 ws.length c1), .v (.int .i64 f), .bo dn]) h hS rfl
  refine enter (L0 := [g]) (args := [.one (.ptr 0 0), .one (.v (.int .i64 x)), .one (.v (.slice D ys.length dd))]) Try.func50 (c := bodyOf Try.f50) rfl rfl hst.1 hst.2 ?_
  clear hst
  refine go mixed 2000 [0, 1, 2, 12] 1 (St.mk Rg.no [KI.code [true, false, true], KI.code [true, true]] [(0, SV.one (SC.ptr 0 0)), (1, SV.one (SC.v (Value.int IntKind.i64 x))), (2, SV.one (SC.v (Value.slice D ys.length dd))), (12, SV.one (SC.bo ((↑ws.length : Int) == 600)))] [LB.mk [SC.v V0, SC.v (Value.slice A1 ws.length c1), SC.v (Value.int IntKind.i64 f), SC.bo dn] 29]) (by kernel_rfl) (by kernel_rfl) (by kernel_rfl) ?_
  refine split_at 12 (b := (↑ws.length : Int) == 600) (by kernel_rfl) (by kernel_rfl) ?_ ?_
  · intro h7
    have hk : writeIn xs ws f dn x ys = (⟨xs, ws, f, dn⟩, 2) := if_pos (by simp at h7; omega)
    refine go mixed 2000 [6] 1 (St.mk Rg.no [KI.code [true, false, true, false, true], KI.code [true, true]] [(6, SV.one (SC.v (Value.int IntKind.i64 2)))] [LB.mk [SC.v V0, SC.v (Value.slice A1 ws.length c1), SC.v (Value.int IntKind.i64 f), SC.bo dn] 29]) (by kernel_rfl) (by kernel_rfl) (by kernel_rfl) ?_
    refine ret_ok (vs := [SV.one (SC.v (Value.int IntKind.i64 2))]) (by kernel_rfl) ?_
    intro L w1 hs
    rw [hk]
    exact ⟨_, _, rfl, hs.outp (As := [_]) rfl rfl hgS⟩
  intro h7
  have e5 : ¬ 600 ≤ ws.length := by simp at h7; omega
  refine go mixed 2000 [0, 1, 2, 13] 1 (St.mk (Rg.sq [true, true, false, false] 1) [KI.code [true, true, false, true], KI.code [true, true, true]] [(0, SV.one (SC.ptr 0 0)), (1, SV.one (SC.v (Value.int IntKind.i64 x))), (2, SV.one (SC.v (Value.slice D ys.length dd))), (13, SV.one (SC.ptr 0 0))] [LB.mk [SC.v V0, SC.v (Value.slice A1 ws.length c1), SC.v (Value.int IntKind.i64 f), SC.bo dn] 29]) (by kernel_rfl) (by kernel_rfl) (by kernel_rfl) ?_
  obtain ⟨⟨⟨f', dn'⟩, tk⟩, hT⟩ : ∃ r, takeR f dn = r := ⟨_, rfl⟩
  refine call_lb (A := []) (vals := [V0, .slice A1 ws.length c1, .int .i64 f, .bool dn]) (by kernel_rfl : atC _ _ _ false = some (72, [SV.one (SC.ptr 0 0)], some 14, Rg.sq [true, true, false, false] 2)) (by kernel_rfl) rfl rfl (fun L w1 S1 hs hA hS1 _ _ => (take_ok V0 (.slice A1 ws.length c1) f dn _ S1 w1 hA hS1).mono ?_)
  rw [hT]
  rintro e w2 ⟨rfl, hm⟩
  refine ⟨.one (.bo tk), [.v V0, .v (.slice A1 ws.length c1), .v (.int .i64 f'), .bo dn'], _, _, rfl, rfl, hm, ?_⟩
  clear hm hs hA hS1
  refine go mixed 2000 [0, 1, 2, 15] 1 (St.mk Rg.no [KI.code [true, true, false, true], KI.code [true, true, true]] [(0, SV.one (SC.ptr 0 0)), (1, SV.one (SC.v (Value.int IntKind.i64 x))), (2, SV.one (SC.v (Value.slice D ys.length dd))), (15, SV.one (SC.bo !tk))] [LB.mk [SC.v V0, SC.v (Value.slice A1 ws.length c1), SC.v (Value.int IntKind.i64 f'), SC.bo dn'] 29]) (by kernel_rfl) (by kernel_rfl) (by kernel_rfl) ?_
  refine split_at 15 (b := !tk) (by kernel_rfl) (by kernel_rfl) ?_ ?_
  · intro h8
    have hk : writeIn xs ws f dn x ys = (⟨xs, ws, f', dn'⟩, 3) := by
      unfold writeIn
      rw [if_neg e5, hT, if_neg (by simpa using h8)]
    refine go mixed 2000 [6] 1 (St.mk Rg.no [KI.code [true, true, false, true, false, true], KI.code [true, true, true]] [(6, SV.one (SC.v (Value.int IntKind.i64 3)))] [LB.mk [SC.v V0, SC.v (Value.slice A1 ws.length c1), SC.v (Value.int IntKind.i64 f'), SC.bo dn'] 29]) (by kernel_rfl) (by kernel_rfl) (by kernel_rfl) ?_
    refine ret_ok (vs := [SV.one (SC.v (Value.int IntKind.i64 3))]) (by kernel_rfl) ?_
    intro L w1 hs
    rw [hk]
    exact ⟨_, _, rfl, hs.outp (As := [_]) rfl rfl hgS⟩
  intro h8
  have hk : writeIn xs ws f dn x ys = (⟨xs, ws ++ [(x, ys)], f', dn'⟩, 0) := by
    unfold writeIn
    rw [if_neg e5, hT, if_pos (by simpa using h8)]
  refine go mixed 2000 [16, 20, 21, 22] 1 (St.mk (Rg.dr [true, true, true, false] [true, true, true, true, true, true, true, false, false, false, false, false, false, false] 7 2) [KI.code [true, true, true, true]] [(16, SV.one (SC.ptr 0 0)), (20, SV.one (SC.v (Value.slice A1 ws.length c1))), (21, SV.one (SC.v (Value.int IntKind.i64 x))), (22, SV.one (SC.v (Value.slice D ys.length dd)))] [LB.mk [SC.v V0, SC.v (Value.slice A1 ws.length c1), SC.v (Value.int IntKind.i64 f'), SC.bo dn'] 29]) (by kernel_rfl) (by kernel_rfl) (by kernel_rfl) ?_
  refine call_fresh true (by kernel_rfl : atC _ _ _ true = some (69, [SV.one (SC.v (Value.slice D ys.length dd))], some 23, Rg.dr [true, true, true, false] [true, true, true, true, true, true, true, true, false, false, false, false, false, false] 6 1)) (by kernel_rfl) fun L w1 hs => (clone_ok ys D dd w1 (hD _ (hs.oldx 1 rfl)) hl2).mono ?_
  rintro e w2 ⟨Y, y, rfl, hf⟩
  refine ⟨.one (.v (.slice Y ys.length y)), [rowA 5 kU8 ys (.slice Y ys.length y)], rfl, hf, ?_⟩
  clear hs hf
  refine go mixed 2000 [16, 20, 25] 2 (St.mk (Rg.dr [true, true, true, false] [true, true, true, true, true, true, true, true, true, true, false, false, false, false] 4 1) [KI.code [true, true, true, true]] [(16, SV.one (SC.ptr 0 0)), (20, SV.one (SC.v (Value.slice A1 ws.length c1))), (25, SV.one (SC.sl 1 0 1 1))] [LB.mk [SC.v V0, SC.v (Value.slice A1 ws.length c1), SC.v (Value.int IntKind.i64 f'), SC.bo dn'] 29, LB.mk [SC.v (Value.int IntKind.i64 x), SC.v (Value.slice Y ys.length y)] 59]) (by kernel_rfl) (by kernel_rfl) (by kernel_rfl) ?_
  refine h_val (f := Value.int .i64) (fun _ => rfl) x ?_
  refine h_pair (d := kI64) (d2 := kB) (c2 := [.slice Y ys.length y]) ?_
  refine h_swap ?_
  refine append_lit (d := kW) (y := (x, ys)) (by_ := 32) (news := [.int .i64 x, .slice Y ys.length y]) (by kernel_rfl : atB _ _ _ false = some (Op.call (Call.mk (Callee.builtin Builtin.append) #[Operand.tmp 20, Operand.tmp 25] #[27, 27]), 27, some 26, Rg.dr [true, true, true, false] [true, true, true, true, true, true, true, true, true, true, true, false, false, false] 3 0)) (by kernel_rfl) rfl rfl rfl rfl (by simp [maxLen]; omega) (by omega) ?_
  intro B' d'
  refine go mixed 2000 [6] 1 (St.mk Rg.no [KI.code [true, true, true, true, true]] [(6, SV.one (SC.v (Value.int IntKind.i64 0)))] [LB.mk [SC.v V0, SC.v (Value.slice B' (ws ++ [(x, ys)]).length d'), SC.v (Value.int IntKind.i64 f'), SC.bo dn'] 29]) (by kernel_rfl) (by kernel_rfl) (by kernel_rfl) ?_
  refine ret_ok (vs := [SV.one (SC.v (Value.int IntKind.i64 0))]) (by kernel_rfl) ?_
  intro L w1 hs
  rw [hk]
  exact ⟨_, _, rfl, hs.outp (As := [_]) rfl rfl hgS⟩
theorem implWrite_ok (xs : List (List Int)) (ws : List (Int × List Int)) (f : Int) (dn : Bool) (A : Option Addr) (c : Nat) (A1 : Option Addr) (c1 : Nat) (x : Int) (ys : List Int) (D : Option Addr) (dd : Nat) (w : World) (h : rdRow kB w.heap xs (.slice A xs.length c)) (h2 : rdRow kW w.heap ws (.slice A1 ws.length c1)) (h3 : rdRow kU8 w.heap ys (.slice D ys.length dd)) (hl : xs.length ≤ 1048576) (hl2 : ∀ y ∈ xs, y.length ≤ 1048576) (hl3 : ws.length ≤ 1048576) (hl4 : ∀ y ∈ ws, y.2.length ≤ 1048576) :
    Calls Try.prog 18 #[.agg #[.slice A xs.length c, .slice A1 ws.length c1, .int .i64 f, .bool dn], .int .i64 x, .slice D ys.length dd] w (DkRes (writeR xs ws f dn x ys) w) := by
  refine enter (args := [.agg [.v (.slice A xs.length c), .v (.slice A1 ws.length c1), .v (.int .i64 f), .bo dn], .one (.v (.int .i64 x)), .one (.v (.slice D ys.length dd))]) Try.func18 (c := bodyOf Try.f18) rfl rfl (start_LOK _) (start_old w) ?_
  refine go mixed 2000 [1, 2, 3, 6, 10] 2 (St.mk (Rg.sq [true, false, false] 1) [KI.code [true, false, true], KI.code [true, true]] [(1, SV.one (SC.v (Value.int IntKind.i64 x))), (2, SV.one (SC.v (Value.slice D ys.length dd))), (3, SV.one (SC.ptr 0 0)), (6, SV.one (SC.ptr 1 0)), (10, SV.agg [SC.v (Value.slice A xs.length c), SC.v (Value.slice A1 ws.length c1), SC.v (Value.int IntKind.i64 f), SC.bo dn])] [LB.mk [SC.v (Value.slice A xs.length c), SC.v (Value.slice A1 ws.length c1), SC.v (Value.int IntKind.i64 f), SC.bo dn] 29, LB.mk [SC.v (Value.slice none 0 0), SC.v (Value.slice none 0 0), SC.v (Value.int IntKind.i64 0), SC.v (Value.bool false)] 29]) (by kernel_rfl) (by kernel_rfl) (by kernel_rfl) ?_
  refine call_pure true (by kernel_rfl : atC _ _ _ true = some (31, [SV.agg [SC.v (Value.slice A xs.length c), SC.v (Value.slice A1 ws.length c1), SC.v (Value.int IntKind.i64 f), SC.bo dn]], some 11, Rg.sq [true, false, false] 2)) (by kernel_rfl) (.one (.bo (okD xs ws f))) (fun L w1 hs => implDiskOk_ok xs ws f dn A c A1 c1 w1 (rdRow_ext (hs.old 0 rfl) h) (rdRow_ext (hs.old 0 rfl) h2) hl hl3) ?_
  refine go mixed 2000 [1, 2, 3, 6, 13] 2 (St.mk (Rg.sq [true, false, false] 4) [KI.code [true, false, true], KI.code [true, true]] [(1, SV.one (SC.v (Value.int IntKind.i64 x))), (2, SV.one (SC.v (Value.slice D ys.length dd))), (3, SV.one (SC.ptr 0 0)), (6, SV.one (SC.ptr 1 0)), (13, SV.one (SC.bo !okD xs ws f))] [LB.mk [SC.v (Value.slice A xs.length c), SC.v (Value.slice A1 ws.length c1), SC.v (Value.int IntKind.i64 f), SC.bo dn] 29, LB.mk [SC.v (Value.slice none 0 0), SC.v (Value.slice none 0 0), SC.v (Value.int IntKind.i64 0), SC.v (Value.bool false)] 29]) (by kernel_rfl) (by kernel_rfl) (by kernel_rfl) ?_
  refine split_at 13 (b := !okD xs ws f) (by kernel_rfl) (by kernel_rfl) ?_ ?_
  · intro h1
    have hk : writeR xs ws f dn x ys = badD := if_neg fun hk => by
      obtain ⟨k1, ⟨k2, k3⟩, k4⟩ := hk
      rw [k1] at h1
      cases h1
    refine go mixed 2000 [6, 7] 2 (St.mk Rg.no [KI.code [true, false, true, false, true], KI.code [true, true]] [(6, SV.one (SC.ptr 1 0)), (7, SV.one (SC.v (Value.int IntKind.i64 1)))] [LB.mk [SC.v (Value.slice A xs.length c), SC.v (Value.slice A1 ws.length c1), SC.v (Value.int IntKind.i64 f), SC.bo dn] 29, LB.mk [SC.v (Value.slice none 0 0), SC.v (Value.slice none 0 0), SC.v (Value.int IntKind.i64 0), SC.bo false] 29]) (by kernel_rfl) (by kernel_rfl) (by kernel_rfl) ?_
    refine ret_ok (vs := [SV.agg [SC.v (Value.slice none 0 0), SC.v (Value.slice none 0 0), SC.v (Value.int IntKind.i64 0), SC.bo false], SV.one (SC.v (Value.int IntKind.i64 1))]) (by kernel_rfl) ?_
    intro L w1 hs
    rw [hk]
    exact ⟨none, 0, none, 0, rfl, fresh_empty hs.out0⟩
  intro h1
  have e1 : okD xs ws f = true := by simpa using h1
  refine go mixed 2000 [1, 2, 3, 6, 13, 14, 15, 16] 2 (St.mk (Rg.sq [true, false, false] 7) [KI.code [true, false, true], KI.code [true, true]] [(1, SV.one (SC.v (Value.int IntKind.i64 x))), (2, SV.one (SC.v (Value.slice D ys.length dd))), (3, SV.one (SC.ptr 0 0)), (6, SV.one (SC.ptr 1 0)), (13, SV.one (SC.v (Value.bool false))), (14, SV.agg [SC.v (Value.slice A xs.length c), SC.v (Value.slice A1 ws.length c1), SC.v (Value.int IntKind.i64 f), SC.bo dn]), (15, SV.one (SC.v (Value.int IntKind.i64 x))), (16, SV.one (SC.v (Value.slice D ys.length dd)))] [LB.mk [SC.v (Value.slice A xs.length c), SC.v (Value.slice A1 ws.length c1), SC.v (Value.int IntKind.i64 f), SC.bo dn] 29, LB.mk [SC.v (Value.slice none 0 0), SC.v (Value.slice none 0 0), SC.v (Value.int IntKind.i64 0), SC.v (Value.bool false)] 29]) (by kernel_rfl) (by kernel_rfl) (by kernel_rfl) ?_
  refine call_pure true (by kernel_rfl : atC _ _ _ true = some (49, [SV.agg [SC.v (Value.slice A xs.length c), SC.v (Value.slice A1 ws.length c1), SC.v (Value.int IntKind.i64 f), SC.bo dn], SV.one (SC.v (Value.int IntKind.i64 x)), SV.one (SC.v (Value.slice D ys.length dd))], some 17, Rg.sq [true, false, false] 8)) (by kernel_rfl) (.one (.bo (okW xs.length (x, ys)))) (fun L w1 hs => isWrite_ok xs ws f dn A c A1 c1 x ys D dd w1 (by omega)) ?_
  refine go mixed 2000 [1, 2, 3, 6, 19] 2 (St.mk Rg.no [KI.code [true, false, true], KI.code [true, true]] [(1, SV.one (SC.v (Value.int IntKind.i64 x))), (2, SV.one (SC.v (Value.slice D ys.length dd))), (3, SV.one (SC.ptr 0 0)), (6, SV.one (SC.ptr 1 0)), (19, SV.one (SC.bo !okW xs.length (x, ys)))] [LB.mk [SC.v (Value.slice A xs.length c), SC.v (Value.slice A1 ws.length c1), SC.v (Value.int IntKind.i64 f), SC.bo dn] 29, LB.mk [SC.v (Value.slice none 0 0), SC.v (Value.slice none 0 0), SC.v (Value.int IntKind.i64 0), SC.v (Value.bool false)] 29]) (by kernel_rfl) (by kernel_rfl) (by kernel_rfl) ?_
  refine split_at 19 (b := !okW xs.length (x, ys)) (by kernel_rfl) (by kernel_rfl) ?_ ?_
  · intro h4
    have hk : writeR xs ws f dn x ys = badD := if_neg fun hk => by
      obtain ⟨k1, ⟨k2, k3⟩, k4⟩ := hk
      have h4 : okW xs.length (x, ys) = false := by simpa using h4
      rw [show okW xs.length (x, ys) = true by unfold okW; simp only [Bool.and_eq_true, decide_eq_true_eq, beq_iff_eq]; omega] at h4
      cases h4
    refine go mixed 2000 [6, 7] 2 (St.mk Rg.no [KI.code [true, false, true, false, true], KI.code [true, true]] [(6, SV.one (SC.ptr 1 0)), (7, SV.one (SC.v (Value.int IntKind.i64 1)))] [LB.mk [SC.v (Value.slice A xs.length c), SC.v (Value.slice A1 ws.length c1), SC.v (Value.int IntKind.i64 f), SC.bo dn] 29, LB.mk [SC.v (Value.slice none 0 0), SC.v (Value.slice none 0 0), SC.v (Value.int IntKind.i64 0), SC.bo false] 29]) (by kernel_rfl) (by kernel_rfl) (by kernel_rfl) ?_
    refine ret_ok (vs := [SV.agg [SC.v (Value.slice none 0 0), SC.v (Value.slice none 0 0), SC.v (Value.int IntKind.i64 0), SC.bo false], SV.one (SC.v (Value.int IntKind.i64 1))]) (by kernel_rfl) ?_
    intro L w1 hs
    rw [hk]
    exact ⟨none, 0, none, 0, rfl, fresh_empty hs.out0⟩
  intro h4
  have e2 : okW xs.length (x, ys) = true := by simpa using h4
  unfold okW at e2
  simp only [Bool.and_eq_true, decide_eq_true_eq, beq_iff_eq] at e2
  have hR : writeR xs ws f dn x ys = writeIn xs ws f dn x ys := if_pos ⟨e1, ⟨by omega, by omega⟩, e2.2⟩
  have hl5 : ws.length ≤ 600 := by have := (okD_iff.1 e1).1; omega
  have hl6 : ys.length ≤ 1048576 := by omega
  clear h1 h4
  refine go mixed 2000 [1, 2, 6, 21] 2 (St.mk (Rg.sq [true, true, false] 1) [KI.code [true, true, true]] [(1, SV.one (SC.v (Value.int IntKind.i64 x))), (2, SV.one (SC.v (Value.slice D ys.length dd))), (6, SV.one (SC.ptr 1 0)), (21, SV.agg [SC.v (Value.slice A xs.length c), SC.v (Value.slice A1 ws.length c1), SC.v (Value.int IntKind.i64 f), SC.bo dn])] [LB.mk [SC.v (Value.slice A xs.length c), SC.v (Value.slice A1 ws.length c1), SC.v (Value.int IntKind.i64 f), SC.bo dn] 29, LB.mk [SC.v (Value.slice none 0 0), SC.v (Value.slice none 0 0), SC.v (Value.int IntKind.i64 0), SC.v (Value.bool false)] 29]) (by kernel_rfl) (by kernel_rfl) (by kernel_rfl) ?_
  refine call_fresh true (by kernel_rfl : atC _ _ _ true = some (41, [SV.agg [SC.v (Value.slice A xs.length c), SC.v (Value.slice A1 ws.length c1), SC.v (Value.int IntKind.i64 f), SC.bo dn]], some 22, Rg.sq [true, true, false] 2)) (by kernel_rfl) fun L w1 hs => (own_ok xs ws f dn A c A1 c1 w1 (rdRow_ext (hs.old 0 rfl) h) (rdRow_ext (hs.old 0 rfl) h2) hl hl2 hl3 hl4).mono ?_
  rintro e w2 ⟨A', c', A1', c1', rfl, hf⟩
  refine ⟨.agg [.v (.slice A' xs.length c'), .v (.slice A1' ws.length c1'), .v (.int .i64 f), .bo dn], _, rfl, hf, ?_⟩
  clear hs hf
  refine go mixed 2000 [6, 8, 23, 24] 3 (St.mk (Rg.sq [true, true, true, false] 2) [KI.code [true, true, true, true]] [(6, SV.one (SC.ptr 1 0)), (8, SV.one (SC.ptr 2 0)), (23, SV.one (SC.v (Value.int IntKind.i64 x))), (24, SV.one (SC.v (Value.slice D ys.length dd)))] [LB.mk [SC.v (Value.slice A xs.length c), SC.v (Value.slice A1 ws.length c1), SC.v (Value.int IntKind.i64 f), SC.bo dn] 29, LB.mk [SC.v (Value.slice none 0 0), SC.v (Value.slice none 0 0), SC.v (Value.int IntKind.i64 0), SC.v (Value.bool false)] 29, LB.mk [SC.v (Value.slice A' xs.length c'), SC.v (Value.slice A1' ws.length c1'), SC.v (Value.int IntKind.i64 f), SC.bo dn] 29]) (by kernel_rfl) (by kernel_rfl) (by kernel_rfl) ?_
  refine call_lb (A := [rowA 59 kW ws (.slice A1' ws.length c1')]) (vals := [.slice A' xs.length c', .slice A1' ws.length c1', .int .i64 f, .bool dn]) (by kernel_rfl : atC _ _ _ false = some (50, [SV.one (SC.ptr 2 0), SV.one (SC.v (Value.int IntKind.i64 x)), SV.one (SC.v (Value.slice D ys.length dd))], some 25, Rg.sq [true, true, true, false] 3)) (by kernel_rfl) rfl rfl (fun L w1 S1 hs hA hS1 hT _ => (writeM_ok _ xs ws f dn A1' c1' x ys D dd _ S1 w1 hA hS1 (old_reads hT 1 rfl h3 hs.1.1.size) hl5 hl6).mono ?_)
  rintro e w2 ⟨B, b, rfl, hm⟩
  generalize hR' : writeIn xs ws f dn x ys = r at hm hR
  refine ⟨.one (.v (.int .i64 r.2)), [.v (.slice A' xs.length c'), .v (.slice B r.1.ws.length b), .v (.int .i64 r.1.f), .bo r.1.dn], _, _, rfl, rfl, hm, ?_⟩
  clear hm hs hA hS1 hT
  have hx : r.1.xs = xs := by rw [← hR']; unfold writeIn; split; rfl; split <;> rfl
  refine go mixed 2000 [6, 7] 2 (St.mk Rg.no [KI.code [true, true, true, true, true]] [(6, SV.one (SC.ptr 1 0)), (7, SV.one (SC.v (Value.int IntKind.i64 r.snd)))] [LB.mk [SC.v (Value.slice A xs.length c), SC.v (Value.slice A1 ws.length c1), SC.v (Value.int IntKind.i64 f), SC.bo dn] 29, LB.mk [SC.v (Value.slice A' xs.length c'), SC.v (Value.slice B r.fst.ws.length b), SC.v (Value.int IntKind.i64 r.fst.f), SC.bo r.fst.dn] 29]) (by kernel_rfl) (by kernel_rfl) (by kernel_rfl) ?_
  refine ret_ok (vs := [SV.agg [SC.v (Value.slice A' xs.length c'), SC.v (Value.slice B r.fst.ws.length b), SC.v (Value.int IntKind.i64 r.fst.f), SC.bo r.fst.dn], SV.one (SC.v (Value.int IntKind.i64 r.snd))]) (by kernel_rfl) ?_
  intro L w1 hs
  rw [hR]
  have := hs.out (As := [_, _])
  rw [← hx] at this ⊢
  exact ⟨_, _, _, _, rfl, this⟩
end Go.Proofs.Ytjbbakckckihnaa.Dk
