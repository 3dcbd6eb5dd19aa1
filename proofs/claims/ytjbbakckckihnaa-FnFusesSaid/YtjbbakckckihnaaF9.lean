/- Walks of functions of the program: what each call returns and what it leaves in memory. Conditions: those that each theorem names. -/
import Derived.Test.YtjbbakckckihnaaProg
import Derived.Test.YtjbbakckckihnaaF8
namespace Go.Proofs.Ytjbbakckckihnaa.Dk
set_option linter.unusedVariables false
set_option linter.unusedSimpArgs false
open Go.Proofs.Ytjbbakckckihnaa.Sx Go.Proofs Go.RowKit
set_option maxRecDepth 100000
def syncIn (xs : List (List Int)) (ws : List (Int × List Int)) (f : Int) (dn : Bool) : DD × Int :=
  if (takeR f dn).2 = true then (⟨stl (keepI [] true) ws xs ws.length, [], (takeR f dn).1.1, (takeR f dn).1.2⟩, 0) else (⟨xs, ws, (takeR f dn).1.1, (takeR f dn).1.2⟩, 3)
theorem lit73_ok (w : World) (S : Nat → Prop) (n : Nat) : ClPred 73 #[] w S n (keepI [] true) := by
  intro w0 hb i hi
  refine enter (args := [.one (.v (.int .i64 (i : Int)))]) Try.func73 (c := bodyOf Try.f73) rfl rfl (start_LOK _) (start_old w0) ?_
  refine go mixed 2000 [2] 0 (St.mk Rg.no [KI.code [true, true]] [(2, SV.one (SC.v (Value.bool true)))] []) (by kernel_rfl) (by kernel_rfl) (by kernel_rfl) ?_
  refine ret_ok (vs := [SV.one (SC.v (Value.bool true))]) (by kernel_rfl) ?_
  intro L w1 hs
  exact ⟨rfl, hs.out0⟩
theorem lit53_ok (b : Nat) (ks : List Bool) (K : Option Addr) (kk : Nat) (w : World) (hb : w.heap[b]? = some (.cells #[.slice K ks.length kk] 42 (0, 0))) (h3 : rdRow kBool w.heap ks (.slice K ks.length kk)) (i : Nat) :
    Calls Try.prog 53 #[.int .i64 (i : Int), .pointer (some ⟨b, 0, none⟩)] w fun e w' => e = .returned (.bool (keepI ks false i)) ∧ Below w.heap.size w w' := by
  have hcell : cellH w.heap ⟨b, 0, none⟩ = some (.slice K ks.length kk) := by simp only [cellH, hb, Option.isSome_none, Bool.false_eq_true, if_false]; rfl
  refine enter (args := [.one (.v (.int .i64 (i : Int))), .one (.v (.pointer (some ⟨b, 0, none⟩)))]) Try.func53 (c := bodyOf Try.f53) rfl rfl (start_LOK _) (start_old w) ?_
  refine go mixed 2000 [0, 1, 4] 0 (St.mk (Rg.sq [true, false] 1) [KI.code [true, true]] [(0, SV.one (SC.v (Value.int IntKind.i64 (↑i : Int)))), (1, SV.one (SC.v (Value.pointer (some (Addr.mk b 0 none))))), (4, SV.one (SC.v (Value.int IntKind.i64 (↑i : Int))))] []) (by kernel_rfl) (by kernel_rfl) (by kernel_rfl) ?_
  refine load_one 1 (by kernel_rfl : atP _ _ _ 1 true = some (Op.load 42 (Operand.tmp 1), 42, some 5, Rg.sq [true, false] 2)) (n := 1) (by kernel_rfl) rfl ?_
  intro L w1 hs
  refine ⟨.v (.slice K ks.length kk), cellH_ext (hs.old 0 rfl) hcell, ?_⟩
  clear hs
  refine go mixed 2000 [0, 1, 8] 0 (St.mk (Rg.sq [true, false] 5) [KI.code [true, true]] [(0, SV.one (SC.v (Value.int IntKind.i64 (↑i : Int)))), (1, SV.one (SC.v (Value.pointer (some (Addr.mk b 0 none))))), (8, SV.one (SC.bo (decide ((↑i : Int) < (↑ks.length : Int)))))] []) (by kernel_rfl) (by kernel_rfl) (by kernel_rfl) ?_
  refine split_at 8 (b := decide ((↑i : Int) < (↑ks.length : Int))) (by kernel_rfl) (by kernel_rfl) ?_ ?_
  · intro h5
    have hlk : i < ks.length := by simpa using h5
    refine go mixed 2000 [0, 1, 8] 0 (St.mk (Rg.sq [true, false] 5) [KI.code [true, true]] [(0, SV.one (SC.v (Value.int IntKind.i64 (↑i : Int)))), (1, SV.one (SC.v (Value.pointer (some (Addr.mk b 0 none))))), (8, SV.one (SC.v (Value.bool true)))] []) (by kernel_rfl) (by kernel_rfl) (by kernel_rfl) ?_
    refine load_one 5 (by kernel_rfl : atP _ _ _ 5 true = some (Op.load 42 (Operand.tmp 1), 42, some 9, Rg.sq [true, false] 6)) (n := 1) (by kernel_rfl) rfl ?_
    intro L w1 hs
    refine ⟨.v (.slice K ks.length kk), cellH_ext (hs.old 0 rfl) hcell, ?_⟩
    clear hs
    refine go mixed 2000 [8, 9, 10] 0 (St.mk (Rg.sq [true, false] 7) [KI.code [true, true]] [(8, SV.one (SC.v (Value.bool true))), (9, SV.one (SC.v (Value.slice K ks.length kk))), (10, SV.one (SC.v (Value.int IntKind.i64 (↑i : Int))))] []) (by kernel_rfl) (by kernel_rfl) (by kernel_rfl) ?_
    refine index_at 7 (by kernel_rfl : atP _ _ _ 7 false = some (Op.indexAddr 42 (Operand.tmp 9) (Operand.tmp 10), 0, some 11, Rg.sq [true, false] 8)) (sz := 1) (by kernel_rfl) rfl rfl rfl hlk (fun L w1 hs => rd_some (rdRow_ext (hs.old 0 rfl) h3) hlk) ?_
    intro a_1 ha_; cases ha_
    refine go mixed 2000 [8, 11] 0 (St.mk (Rg.sq [true, false] 8) [KI.code [true, true]] [(8, SV.one (SC.v (Value.bool true))), (11, SV.one (SC.v (Value.pointer (some (a_1.add (i * 1))))))] []) (by kernel_rfl) (by kernel_rfl) (by kernel_rfl) ?_
    refine load_one 8 (by kernel_rfl : atP _ _ _ 8 true = some (Op.load 4 (Operand.tmp 11), 4, some 12, Rg.sq [true, false] 9)) (n := 1) (by kernel_rfl) rfl ?_
    intro L w1 hs
    refine ⟨.bo (ks[i]), rd_sc (rdRow_ext (hs.old 0 rfl) h3) hlk, ?_⟩
    clear hs
    refine go mixed 2000 [3] 0 (St.mk Rg.no [KI.code [true, true]] [(3, SV.one (SC.bo ks[i]))] []) (by kernel_rfl) (by kernel_rfl) (by kernel_rfl) ?_
    refine ret_ok (vs := [SV.one (SC.bo ks[i])]) (by kernel_rfl) ?_
    intro L w1 hs
    exact ⟨by unfold keepI; rw [Bool.false_or, List.getD_eq_getElem?_getD, List.getElem?_eq_getElem hlk]; rfl, hs.out0⟩
  intro h5
  have hlk : ¬ i < ks.length := by simpa using h5
  refine go mixed 2000 [3] 0 (St.mk Rg.no [KI.code [true, true]] [(3, SV.one (SC.v (Value.bool false)))] []) (by kernel_rfl) (by kernel_rfl) (by kernel_rfl) ?_
  refine ret_ok (vs := [SV.one (SC.v (Value.bool false))]) (by kernel_rfl) ?_
  intro L w1 hs
  exact ⟨by unfold keepI; rw [Bool.false_or, List.getD_eq_getElem?_getD, List.getElem?_eq_none (by omega)]; rfl, hs.out0⟩
theorem syncM_ok (xs : List (List Int)) (ws : List (Int × List Int)) (f : Int) (dn : Bool) (A : Option Addr) (c : Nat) (A1 : Option Addr) (c1 : Nat) (g : Nat) (S : Nat → Prop) (w : World)
    (h : sepL [blkA g [.slice A xs.length c, .slice A1 ws.length c1, .int .i64 f, .bool dn] 29, rowA 59 kW ws (.slice A1 ws.length c1), rowA 36 kB xs (.slice A xs.length c)] w.heap S) (hS : ∀ b, S b → b < w.heap.size)
    (hl : xs.length ≤ 1048576) (hl2 : ∀ y ∈ xs, y.length ≤ 1048576) (hl3 : ws.length ≤ 1048576) (hl4 : ∀ y ∈ ws, y.2.length ≤ 1048576) (hne : 0 < xs.length) (hat : ∀ y ∈ ws, 0 ≤ y.1 ∧ y.1 < (xs.length : Int)) :
    Calls Try.prog 54 #[.pointer (some ⟨g, 0, none⟩)] w fun e w' => ∃ A' c' A1' c1', e = .returned (.int .i64 (syncIn xs ws f dn).2) ∧
      Mut w w' S [blkA g [.slice A' (syncIn xs ws f dn).1.xs.length c', .slice A1' (syncIn xs ws f dn).1.ws.length c1', .int .i64 (syncIn xs ws f dn).1.f, .bool (syncIn xs ws f dn).1.dn] 29, rowA 59 kW (syncIn xs ws f dn).1.ws (.slice A1' (syncIn xs ws f dn).1.ws.length c1'), rowA 36 kB (syncIn xs ws f dn).1.xs (.slice A' (syncIn xs ws f dn).1.xs.length c')] := by
  have hgS : S g := by obtain ⟨S1, _, h1, _, _, ⟨hg, _⟩, _⟩ := h; exact h1 g hg
  have hst := start_ptr (cells := [.v (.slice A xs.length c), .v (.slice A1 ws.length c1), .v (.int .i64 f), .bo dn]) h hS rfl
  refine enter (L0 := [g]) (args := [.one (.ptr 0 0)]) Try.func54 (c := bodyOf Try.f54) rfl rfl hst.1 hst.2 ?_
  clear hst
  refine go mixed 2000 [0, 3] 1 (St.mk (Rg.sq [true, false, false] 1) [KI.code [true, false, true], KI.code [true, true]] [(0, SV.one (SC.ptr 0 0)), (3, SV.one (SC.ptr 0 0))] [LB.mk [SC.v (Value.slice A xs.length c), SC.v (Value.slice A1 ws.length c1), SC.v (Value.int IntKind.i64 f), SC.bo dn] 29]) (by kernel_rfl) (by kernel_rfl) (by kernel_rfl) ?_
  obtain ⟨⟨⟨f', dn'⟩, tk⟩, hT⟩ : ∃ r, takeR f dn = r := ⟨_, rfl⟩
  refine call_lb (A := []) (vals := [.slice A xs.length c, .slice A1 ws.length c1, .int .i64 f, .bool dn]) (by kernel_rfl : atC _ _ _ false = some (72, [SV.one (SC.ptr 0 0)], some 4, Rg.sq [true, false, false] 2)) (by kernel_rfl) rfl rfl (fun L w1 S1 hs hA hS1 _ _ => (take_ok (.slice A xs.length c) (.slice A1 ws.length c1) f dn _ S1 w1 hA hS1).mono ?_)
  rw [hT]
  rintro e w2 ⟨rfl, hm⟩
  refine ⟨.one (.bo tk), [.v (.slice A xs.length c), .v (.slice A1 ws.length c1), .v (.int .i64 f'), .bo dn'], _, _, rfl, rfl, hm, ?_⟩
  clear hm hs hA hS1
  refine go mixed 2000 [0, 5] 1 (St.mk Rg.no [KI.code [true, false, true], KI.code [true, true]] [(0, SV.one (SC.ptr 0 0)), (5, SV.one (SC.bo !tk))] [LB.mk [SC.v (Value.slice A xs.length c), SC.v (Value.slice A1 ws.length c1), SC.v (Value.int IntKind.i64 f'), SC.bo dn'] 29]) (by kernel_rfl) (by kernel_rfl) (by kernel_rfl) ?_
  refine split_at 5 (b := !tk) (by kernel_rfl) (by kernel_rfl) ?_ ?_
  · intro h8
    have hk : syncIn xs ws f dn = (⟨xs, ws, f', dn'⟩, 3) := by unfold syncIn; rw [hT]; exact if_neg (by simpa using h8)
    refine go mixed 2000 [2] 1 (St.mk Rg.no [KI.code [true, false, true, false, true], KI.code [true, true]] [(2, SV.one (SC.v (Value.int IntKind.i64 3)))] [LB.mk [SC.v (Value.slice A xs.length c), SC.v (Value.slice A1 ws.length c1), SC.v (Value.int IntKind.i64 f'), SC.bo dn'] 29]) (by kernel_rfl) (by kernel_rfl) (by kernel_rfl) ?_
    refine ret_ok (vs := [SV.one (SC.v (Value.int IntKind.i64 3))]) (by kernel_rfl) ?_
    intro L w1 hs
    rw [hk]
    exact ⟨_, _, _, _, rfl, hs.outp (As := [_, _]) rfl rfl hgS⟩
  intro h8
  have hk : syncIn xs ws f dn = (⟨stl (keepI [] true) ws xs ws.length, [], f', dn'⟩, 0) := by unfold syncIn; rw [hT]; exact if_pos (by simpa using h8)
  refine go mixed 2000 [6] 1 (St.mk (Rg.sq [true, true, false] 1) [KI.code [true, true, true]] [(6, SV.one (SC.ptr 0 0))] [LB.mk [SC.v (Value.slice A xs.length c), SC.v (Value.slice A1 ws.length c1), SC.v (Value.int IntKind.i64 f'), SC.bo dn'] 29]) (by kernel_rfl) (by kernel_rfl) (by kernel_rfl) ?_
  refine call_lb (A := [rowA 59 kW ws (.slice A1 ws.length c1), rowA 36 kB xs (.slice A xs.length c)]) (vals := [.slice A xs.length c, .slice A1 ws.length c1, .int .i64 f', .bool dn']) (by kernel_rfl : atC _ _ _ false = some (52, [SV.one (SC.ptr 0 0), SV.one (SC.v (Value.func (Fn.func 73) #[] #[]))], some 7, Rg.sq [true, true, false] 2)) (by kernel_rfl) rfl rfl (fun L w1 S1 hs hA hS1 _ _ => (settle0_ok 73 (by kernel_rfl) (keepI [] true) xs ws f' dn' A c A1 c1 _ S1 w1 hA hS1 (lit73_ok _ _ _) hl hl2 hl3 hl4 hne hat).mono ?_)
  rintro e w2 ⟨B, b, rfl, hm⟩
  refine ⟨.one (.v (.tuple #[])), [.v (.slice B xs.length b), .v (.slice none 0 0), .v (.int .i64 f'), .bo dn'], _, _, rfl, rfl, hm, ?_⟩
  clear hm hs hA hS1
  refine h_nil 59 kW ?_
  refine go mixed 2000 [2] 1 (St.mk Rg.no [KI.code [true, true, true, true]] [(2, SV.one (SC.v (Value.int IntKind.i64 0)))] [LB.mk [SC.v (Value.slice B xs.length b), SC.v (Value.slice none 0 0), SC.v (Value.int IntKind.i64 f'), SC.bo dn'] 29]) (by kernel_rfl) (by kernel_rfl) (by kernel_rfl) ?_
  refine ret_ok (vs := [SV.one (SC.v (Value.int IntKind.i64 0))]) (by kernel_rfl) ?_
  intro L w1 hs
  rw [hk]
  have := hs.outp (As := [_, _]) rfl rfl hgS
  exact ⟨B, b, none, 0, rfl, by simp only [stl_len]; exact this⟩
theorem implSync_ok (xs : List (List Int)) (ws : List (Int × List Int)) (f : Int) (dn : Bool) (A : Option Addr) (c : Nat) (A1 : Option Addr) (c1 : Nat) (w : World) (h : rdRow kB w.heap xs (.slice A xs.length c)) (h2 : rdRow kW w.heap ws (.slice A1 ws.length c1)) (hl : xs.length ≤ 1048576) (hl2 : ∀ y ∈ xs, y.length ≤ 1048576) (hl3 : ws.length ≤ 1048576) (hl4 : ∀ y ∈ ws, y.2.length ≤ 1048576) :
    Calls Try.prog 27 #[.agg #[.slice A xs.length c, .slice A1 ws.length c1, .int .i64 f, .bool dn]] w (DkRes (syncR xs ws f dn) w) := by
  refine enter (args := [.agg [.v (.slice A xs.length c), .v (.slice A1 ws.length c1), .v (.int .i64 f), .bo dn]]) Try.func27 (c := bodyOf Try.f27) rfl rfl (start_LOK _) (start_old w) ?_
  refine go mixed 2000 [1, 2, 6] 2 (St.mk (Rg.sq [true, false, false] 1) [KI.code [true, false, true], KI.code [true, true]] [(1, SV.one (SC.ptr 0 0)), (2, SV.one (SC.ptr 1 0)), (6, SV.agg [SC.v (Value.slice A xs.length c), SC.v (Value.slice A1 ws.length c1), SC.v (Value.int IntKind.i64 f), SC.bo dn])] [LB.mk [SC.v (Value.slice A xs.length c), SC.v (Value.slice A1 ws.length c1), SC.v (Value.int IntKind.i64 f), SC.bo dn] 29, LB.mk [SC.v (Value.slice none 0 0), SC.v (Value.slice none 0 0), SC.v (Value.int IntKind.i64 0), SC.v (Value.bool false)] 29]) (by kernel_rfl) (by kernel_rfl) (by kernel_rfl) ?_
  refine call_pure true (by kernel_rfl : atC _ _ _ true = some (31, [SV.agg [SC.v (Value.slice A xs.length c), SC.v (Value.slice A1 ws.length c1), SC.v (Value.int IntKind.i64 f), SC.bo dn]], some 7, Rg.sq [true, false, false] 2)) (by kernel_rfl) (.one (.bo (okD xs ws f))) (fun L w1 hs => implDiskOk_ok xs ws f dn A c A1 c1 w1 (rdRow_ext (hs.old 0 rfl) h) (rdRow_ext (hs.old 0 rfl) h2) hl hl3) ?_
  refine go mixed 2000 [1, 2, 8] 2 (St.mk Rg.no [KI.code [true, false, true], KI.code [true, true]] [(1, SV.one (SC.ptr 0 0)), (2, SV.one (SC.ptr 1 0)), (8, SV.one (SC.bo !okD xs ws f))] [LB.mk [SC.v (Value.slice A xs.length c), SC.v (Value.slice A1 ws.length c1), SC.v (Value.int IntKind.i64 f), SC.bo dn] 29, LB.mk [SC.v (Value.slice none 0 0), SC.v (Value.slice none 0 0), SC.v (Value.int IntKind.i64 0), SC.v (Value.bool false)] 29]) (by kernel_rfl) (by kernel_rfl) (by kernel_rfl) ?_
  refine split_at 8 (b := !okD xs ws f) (by kernel_rfl) (by kernel_rfl) ?_ ?_
  · intro h1
    have hk : syncR xs ws f dn = badD := if_neg fun hk => by
      rw [hk] at h1
      cases h1
    refine go mixed 2000 [2, 3] 2 (St.mk Rg.no [KI.code [true, false, true, false, true], KI.code [true, true]] [(2, SV.one (SC.ptr 1 0)), (3, SV.one (SC.v (Value.int IntKind.i64 1)))] [LB.mk [SC.v (Value.slice A xs.length c), SC.v (Value.slice A1 ws.length c1), SC.v (Value.int IntKind.i64 f), SC.bo dn] 29, LB.mk [SC.v (Value.slice none 0 0), SC.v (Value.slice none 0 0), SC.v (Value.int IntKind.i64 0), SC.bo false] 29]) (by kernel_rfl) (by kernel_rfl) (by kernel_rfl) ?_
    refine ret_ok (vs := [SV.agg [SC.v (Value.slice none 0 0), SC.v (Value.slice none 0 0), SC.v (Value.int IntKind.i64 0), SC.bo false], SV.one (SC.v (Value.int IntKind.i64 1))]) (by kernel_rfl) ?_
    intro L w1 hs
    rw [hk]
    exact ⟨none, 0, none, 0, rfl, fresh_empty hs.out0⟩
  intro h1
  have e1 : okD xs ws f = true := by simpa using h1
  have e2 := okD_iff.1 e1
  have hR : syncR xs ws f dn = syncIn xs ws f dn := if_pos e1
  clear h1
  refine go mixed 2000 [2, 10] 2 (St.mk (Rg.sq [true, true, false] 1) [KI.code [true, true, true]] [(2, SV.one (SC.ptr 1 0)), (10, SV.agg [SC.v (Value.slice A xs.length c), SC.v (Value.slice A1 ws.length c1), SC.v (Value.int IntKind.i64 f), SC.bo dn])] [LB.mk [SC.v (Value.slice A xs.length c), SC.v (Value.slice A1 ws.length c1), SC.v (Value.int IntKind.i64 f), SC.bo dn] 29, LB.mk [SC.v (Value.slice none 0 0), SC.v (Value.slice none 0 0), SC.v (Value.int IntKind.i64 0), SC.v (Value.bool false)] 29]) (by kernel_rfl) (by kernel_rfl) (by kernel_rfl) ?_
  refine call_fresh true (by kernel_rfl : atC _ _ _ true = some (41, [SV.agg [SC.v (Value.slice A xs.length c), SC.v (Value.slice A1 ws.length c1), SC.v (Value.int IntKind.i64 f), SC.bo dn]], some 11, Rg.sq [true, true, false] 2)) (by kernel_rfl) fun L w1 hs => (own_ok xs ws f dn A c A1 c1 w1 (rdRow_ext (hs.old 0 rfl) h) (rdRow_ext (hs.old 0 rfl) h2) hl hl2 hl3 hl4).mono ?_
  rintro e w2 ⟨A', c', A1', c1', rfl, hf⟩
  refine ⟨.agg [.v (.slice A' xs.length c'), .v (.slice A1' ws.length c1'), .v (.int .i64 f), .bo dn], _, rfl, hf, ?_⟩
  clear hs hf
  refine go mixed 2000 [2, 4] 3 (St.mk (Rg.sq [true, true, true, false] 0) [KI.code [true, true, true, true]] [(2, SV.one (SC.ptr 1 0)), (4, SV.one (SC.ptr 2 0))] [LB.mk [SC.v (Value.slice A xs.length c), SC.v (Value.slice A1 ws.length c1), SC.v (Value.int IntKind.i64 f), SC.bo dn] 29, LB.mk [SC.v (Value.slice none 0 0), SC.v (Value.slice none 0 0), SC.v (Value.int IntKind.i64 0), SC.v (Value.bool false)] 29, LB.mk [SC.v (Value.slice A' xs.length c'), SC.v (Value.slice A1' ws.length c1'), SC.v (Value.int IntKind.i64 f), SC.bo dn] 29]) (by kernel_rfl) (by kernel_rfl) (by kernel_rfl) ?_
  refine call_lb (A := [rowA 59 kW ws (.slice A1' ws.length c1'), rowA 36 kB xs (.slice A' xs.length c')]) (vals := [.slice A' xs.length c', .slice A1' ws.length c1', .int .i64 f, .bool dn]) (by kernel_rfl : atC _ _ _ false = some (54, [SV.one (SC.ptr 2 0)], some 12, Rg.sq [true, true, true, false] 1)) (by kernel_rfl) rfl rfl (fun L w1 S1 hs hA hS1 _ _ => (syncM_ok xs ws f dn A' c' A1' c1' _ S1 w1 hA hS1 hl hl2 hl3 hl4 (by omega) (fun y hy => ⟨(e2.2.2 y hy).1, (e2.2.2 y hy).2.1⟩)).mono ?_)
  rintro e w2 ⟨B, b, B1, b1, rfl, hm⟩
  generalize syncIn xs ws f dn = r at hm hR
  refine ⟨.one (.v (.int .i64 r.2)), [.v (.slice B r.1.xs.length b), .v (.slice B1 r.1.ws.length b1), .v (.int .i64 r.1.f), .bo r.1.dn], _, _, rfl, rfl, hm, ?_⟩
  clear hm hs hA hS1
  refine go mixed 2000 [2, 3] 2 (St.mk Rg.no [KI.code [true, true, true, true, true]] [(2, SV.one (SC.ptr 1 0)), (3, SV.one (SC.v (Value.int IntKind.i64 r.snd)))] [LB.mk [SC.v (Value.slice A xs.length c), SC.v (Value.slice A1 ws.length c1), SC.v (Value.int IntKind.i64 f), SC.bo dn] 29, LB.mk [SC.v (Value.slice B r.fst.xs.length b), SC.v (Value.slice B1 r.fst.ws.length b1), SC.v (Value.int IntKind.i64 r.fst.f), SC.bo r.fst.dn] 29]) (by kernel_rfl) (by kernel_rfl) (by kernel_rfl) ?_
  refine ret_ok (vs := [SV.agg [SC.v (Value.slice B r.fst.xs.length b), SC.v (Value.slice B1 r.fst.ws.length b1), SC.v (Value.int IntKind.i64 r.fst.f), SC.bo r.fst.dn], SV.one (SC.v (Value.int IntKind.i64 r.snd))]) (by kernel_rfl) ?_
  intro L w1 hs
  rw [hR]
  exact ⟨_, _, _, _, rfl, hs.out (As := [_, _])⟩
theorem implCrash_ok (xs : List (List Int)) (ws : List (Int × List Int)) (f : Int) (dn : Bool) (A : Option Addr) (c : Nat) (A1 : Option Addr) (c1 : Nat) (ks : List Bool) (K : Option Addr) (kk : Nat) (w : World) (h : rdRow kB w.heap xs (.slice A xs.length c)) (h2 : rdRow kW w.heap ws (.slice A1 ws.length c1)) (h3 : rdRow kBool w.heap ks (.slice K ks.length kk)) (hl : xs.length ≤ 1048576) (hl2 : ∀ y ∈ xs, y.length ≤ 1048576) (hl3 : ws.length ≤ 1048576) (hl4 : ∀ y ∈ ws, y.2.length ≤ 1048576) :
    Calls Try.prog 23 #[.agg #[.slice A xs.length c, .slice A1 ws.length c1, .int .i64 f, .bool dn], .slice K ks.length kk] w (DkRes1 (crashR xs ws f ks) w) := by
  refine enter (args := [.agg [.v (.slice A xs.length c), .v (.slice A1 ws.length c1), .v (.int .i64 f), .bo dn], .one (.v (.slice K ks.length kk))]) Try.func23 (c := bodyOf Try.f23) rfl rfl (start_LOK _) (start_old w) ?_
  refine go mixed 2000 [2, 3, 4, 6] 3 (St.mk (Rg.sq [true, false, false] 1) [KI.code [true, false, true], KI.code [true, true]] [(2, SV.one (SC.ptr 0 0)), (3, SV.one (SC.ptr 1 0)), (4, SV.one (SC.ptr 2 0)), (6, SV.agg [SC.v (Value.slice A xs.length c), SC.v (Value.slice A1 ws.length c1), SC.v (Value.int IntKind.i64 f), SC.bo dn])] [LB.mk [SC.v (Value.slice A xs.length c), SC.v (Value.slice A1 ws.length c1), SC.v (Value.int IntKind.i64 f), SC.bo dn] 29, LB.mk [SC.v (Value.slice K ks.length kk)] 42, LB.mk [SC.v (Value.slice none 0 0), SC.v (Value.slice none 0 0), SC.v (Value.int IntKind.i64 0), SC.v (Value.bool false)] 29]) (by kernel_rfl) (by kernel_rfl) (by kernel_rfl) ?_
  refine call_pure true (by kernel_rfl : atC _ _ _ true = some (31, [SV.agg [SC.v (Value.slice A xs.length c), SC.v (Value.slice A1 ws.length c1), SC.v (Value.int IntKind.i64 f), SC.bo dn]], some 7, Rg.sq [true, false, false] 2)) (by kernel_rfl) (.one (.bo (okD xs ws f))) (fun L w1 hs => implDiskOk_ok xs ws f dn A c A1 c1 w1 (rdRow_ext (hs.old 0 rfl) h) (rdRow_ext (hs.old 0 rfl) h2) hl hl3) ?_
  refine go mixed 2000 [2, 3, 4, 8] 3 (St.mk Rg.no [KI.code [true, false, true], KI.code [true, true]] [(2, SV.one (SC.ptr 0 0)), (3, SV.one (SC.ptr 1 0)), (4, SV.one (SC.ptr 2 0)), (8, SV.one (SC.bo !okD xs ws f))] [LB.mk [SC.v (Value.slice A xs.length c), SC.v (Value.slice A1 ws.length c1), SC.v (Value.int IntKind.i64 f), SC.bo dn] 29, LB.mk [SC.v (Value.slice K ks.length kk)] 42, LB.mk [SC.v (Value.slice none 0 0), SC.v (Value.slice none 0 0), SC.v (Value.int IntKind.i64 0), SC.v (Value.bool false)] 29]) (by kernel_rfl) (by kernel_rfl) (by kernel_rfl) ?_
  refine split_at 8 (b := !okD xs ws f) (by kernel_rfl) (by kernel_rfl) ?_ ?_
  · intro h1
    have hk : crashR xs ws f ks = ⟨[], [], 0, false⟩ := if_neg fun hk => by
      rw [hk] at h1
      cases h1
    refine go mixed 2000 [4] 3 (St.mk Rg.no [KI.code [true, false, true, false, true], KI.code [true, true]] [(4, SV.one (SC.ptr 2 0))] [LB.mk [SC.v (Value.slice A xs.length c), SC.v (Value.slice A1 ws.length c1), SC.v (Value.int IntKind.i64 f), SC.bo dn] 29, LB.mk [SC.v (Value.slice K ks.length kk)] 42, LB.mk [SC.v (Value.slice none 0 0), SC.v (Value.slice none 0 0), SC.v (Value.int IntKind.i64 0), SC.bo false] 29]) (by kernel_rfl) (by kernel_rfl) (by kernel_rfl) ?_
    refine ret_ok (vs := [SV.agg [SC.v (Value.slice none 0 0), SC.v (Value.slice none 0 0), SC.v (Value.int IntKind.i64 0), SC.bo false]]) (by kernel_rfl) ?_
    intro L w1 hs
    rw [hk]
    exact ⟨none, 0, none, 0, rfl, fresh_empty hs.out0⟩
  intro h1
  have e1 : okD xs ws f = true := by simpa using h1
  have e2 := okD_iff.1 e1
  have hR : crashR xs ws f ks = ⟨stl (keepI ks false) ws xs ws.length, [], -1, false⟩ := if_pos e1
  clear h1
  refine go mixed 2000 [3, 4, 10] 3 (St.mk (Rg.sq [true, true, false] 1) [KI.code [true, true, true]] [(3, SV.one (SC.ptr 1 0)), (4, SV.one (SC.ptr 2 0)), (10, SV.agg [SC.v (Value.slice A xs.length c), SC.v (Value.slice A1 ws.length c1), SC.v (Value.int IntKind.i64 f), SC.bo dn])] [LB.mk [SC.v (Value.slice A xs.length c), SC.v (Value.slice A1 ws.length c1), SC.v (Value.int IntKind.i64 f), SC.bo dn] 29, LB.mk [SC.v (Value.slice K ks.length kk)] 42, LB.mk [SC.v (Value.slice none 0 0), SC.v (Value.slice none 0 0), SC.v (Value.int IntKind.i64 0), SC.v (Value.bool false)] 29]) (by kernel_rfl) (by kernel_rfl) (by kernel_rfl) ?_
  refine call_fresh true (by kernel_rfl : atC _ _ _ true = some (41, [SV.agg [SC.v (Value.slice A xs.length c), SC.v (Value.slice A1 ws.length c1), SC.v (Value.int IntKind.i64 f), SC.bo dn]], some 11, Rg.sq [true, true, false] 2)) (by kernel_rfl) fun L w1 hs => (own_ok xs ws f dn A c A1 c1 w1 (rdRow_ext (hs.old 0 rfl) h) (rdRow_ext (hs.old 0 rfl) h2) hl hl2 hl3 hl4).mono ?_
  rintro e w2 ⟨A', c', A1', c1', rfl, hf⟩
  refine ⟨.agg [.v (.slice A' xs.length c'), .v (.slice A1' ws.length c1'), .v (.int .i64 f), .bo dn], _, rfl, hf, ?_⟩
  clear hs hf
  refine go mixed 2000 [4, 5, 12] 4 (St.mk (Rg.sq [true, true, true, false] 1) [KI.code [true, true, true, true]] [(4, SV.one (SC.ptr 2 0)), (5, SV.one (SC.ptr 3 0)), (12, SV.one (SC.fn 53 [Cap.p 1 0]))] [LB.mk [SC.v (Value.slice A xs.length c), SC.v (Value.slice A1 ws.length c1), SC.v (Value.int IntKind.i64 f), SC.bo dn] 29, LB.mk [SC.v (Value.slice K ks.length kk)] 42, LB.mk [SC.v (Value.slice none 0 0), SC.v (Value.slice none 0 0), SC.v (Value.int IntKind.i64 0), SC.v (Value.bool false)] 29, LB.mk [SC.v (Value.slice A' xs.length c'), SC.v (Value.slice A1' ws.length c1'), SC.v (Value.int IntKind.i64 f), SC.bo dn] 29]) (by kernel_rfl) (by kernel_rfl) (by kernel_rfl) ?_
  refine call_lb (A := [rowA 59 kW ws (.slice A1' ws.length c1'), rowA 36 kB xs (.slice A' xs.length c')]) (vals := [.slice A' xs.length c', .slice A1' ws.length c1', .int .i64 f, .bool dn]) (by kernel_rfl : atC _ _ _ false = some (52, [SV.one (SC.ptr 3 0), SV.one (SC.fn 53 [Cap.p 1 0])], some 13, Rg.sq [true, true, true, false] 2)) (by kernel_rfl) rfl rfl (fun L w1 S1 hs hA hS1 hT hoth => (settle1_ok 53 (by kernel_rfl) _ (keepI ks false) xs ws f dn A' c' A1' c1' _ S1 w1 hA hS1 (fun w2 hag i _ => lit53_ok (L.getD 1 0) ks K kk w2 ((hag _ (Array.getElem?_eq_some_iff.1 (hs.2.1.2.2 1 _ rfl)).1 (hoth 1 (by rw [← hs.2.1.1]; exact Nat.le_of_ble_eq_true rfl) (by decide))).trans (hs.2.1.2.2 1 _ rfl)) (old_reads hT 0 rfl h3 hs.1.1.size _ hag) i) hl hl2 hl3 hl4 (by omega) (fun y hy => ⟨(e2.2.2 y hy).1, (e2.2.2 y hy).2.1⟩)).mono ?_)
  rintro e w2 ⟨B, b, rfl, hm⟩
  refine ⟨.one (.v (.tuple #[])), [.v (.slice B xs.length b), .v (.slice none 0 0), .v (.int .i64 f), .bo dn], _, _, rfl, rfl, hm, ?_⟩
  clear hm hs hA hS1
  refine h_nil 59 kW ?_
  refine go mixed 2000 [4] 3 (St.mk Rg.no [KI.code [true, true, true, true, true, true]] [(4, SV.one (SC.ptr 2 0))] [LB.mk [SC.v (Value.slice A xs.length c), SC.v (Value.slice A1 ws.length c1), SC.v (Value.int IntKind.i64 f), SC.bo dn] 29, LB.mk [SC.v (Value.slice K ks.length kk)] 42, LB.mk [SC.v (Value.slice B xs.length b), SC.v (Value.slice none 0 0), SC.v (Value.int IntKind.i64 (-1)), SC.v (Value.bool false)] 29]) (by kernel_rfl) (by kernel_rfl) (by kernel_rfl) ?_
  refine ret_ok (vs := [SV.agg [SC.v (Value.slice B xs.length b), SC.v (Value.slice none 0 0), SC.v (Value.int IntKind.i64 (-1)), SC.v (Value.bool false)]]) (by kernel_rfl) ?_
  intro L w1 hs
  rw [hR]
  have := hs.out (As := [_, _])
  exact ⟨B, b, none, 0, by simp only [stl_len]; rfl, by simp only [stl_len]; exact this⟩
end Go.Proofs.Ytjbbakckckihnaa.Dk
