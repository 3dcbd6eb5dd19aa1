/- Walks of functions of the program: what each call returns and what it leaves in memory. Conditions: those that each theorem names. -/
import Derived.Test.YtgleoebogikooaaGreatV6
namespace Go.Proofs.YtgleoebogikooaaGreat.Dk
set_option linter.unusedVariables false
set_option linter.unusedSimpArgs false
open Go.Proofs.YtgleoebogikooaaGreat.Sx Go.Proofs Go.RowKit
set_option maxRecDepth 100000
set_option maxHeartbeats 1000000
theorem tupB_okT {t : Tu} {b : List Int} (h0 : 0 < b.length) (h : tupB t = b) : tupOk t = true := by
 cases hc : tupOk t with
 | true => rfl
 | false =>
  exfalso
  unfold tupB at h
  rw [hc] at h
  rw [← h] at h0
  simp at h0
theorem sTupRead_ok (b : List Int) (vb : Value) (w : World) (hb : rdRow kU8 w.heap b vb) (hby : byOk b) (hl : b.length ≤ 1048576) :
  Calls Tryz.prog 28 #[vb] w fun e w' => ∃ (bokey_f : Nat) (Aokey_t : Option Addr) (cokey_t : Nat) (bovalue_f : Nat) (Aovalue_t : Option Addr) (covalue_t : Nat), e = .returned (.tuple #[.agg #[.int .i64 ((tupR b).getD zTu0).xmin, .int .i64 ((tupR b).getD zTu0).xmax, .int .i64 ((tupR b).getD zTu0).key.kind, .int .i64 ((tupR b).getD zTu0).key.n, .float .f64 bokey_f, .slice Aokey_t (((tupR b).getD zTu0).key.t).length cokey_t, .int .i64 ((tupR b).getD zTu0).value.kind, .int .i64 ((tupR b).getD zTu0).value.n, .float .f64 bovalue_f, .slice Aovalue_t (((tupR b).getD zTu0).value.t).length covalue_t], .bool (tupR b).isSome]) ∧ Fresh w w' [rowA 5 kU8 (((tupR b).getD zTu0).value.t) (.slice Aovalue_t (((tupR b).getD zTu0).value.t).length covalue_t), rowA 5 kU8 (((tupR b).getD zTu0).key.t) (.slice Aokey_t (((tupR b).getD zTu0).key.t).length cokey_t)] ∧ bokey_f < 18446744073709551616 ∧ canonF bokey_f = ((tupR b).getD zTu0).key.f ∧ bovalue_f < 18446744073709551616 ∧ canonF bovalue_f = ((tupR b).getD zTu0).value.f := by
 obtain ⟨Ab, cb, rfl⟩ := rdRow_form hb
 refine enter (args := [.one (.v (.slice Ab b.length cb))]) Tryz.func28 (c := bodyOf Tryz.f28) rfl rfl (start_LOK _) (start_old w) ?_
 have hby8 : ∀ h : 8 < b.length, 0 ≤ b[8] ∧ b[8] < 256 := fun h => hby _ (List.getElem_mem h)
 by_cases hsh : b.length < 10 ∨ 92 < b.length
 ·have hno : tupR b = none := by
   rcases hsh with h | h
   ·exact tupR_short (by omega)
   ·exact tupR_long h
  refine gn 2 (Rg.sq (bitL 4 3) 4) [kCd (bitL 4 11), kCd (bitL 3 7)] [(0, vS Ab b.length cb), (2, vR 0 0), (4, vR 1 0), (13, vB (decide ((↑b.length : Int) < 10)))] [LB.mk [cI 0, cI 0, cI 0, cI 0, cF 0, cS none 0 0, cI 0, cI 0, cF 0, cS none 0 0] 60, LB.mk [cI 0, cI 0, cI 0, cI 0, cF 0, cS none 0 0, cI 0, cI 0, cF 0, cS none 0 0] 60] ?_
  refine spl 13 (decide ((↑b.length : Int) < 10)) ?_ ?_
  ·intro hb1
   replace hb1 := of_decide_eq_true hb1
   refine gn 1 Rg.no [kCd (bitL 6 43), kCd (bitL 3 7)] [(2, vR 0 0), (3, vL false)] [LB.mk [cI 0, cI 0, cI 0, cI 0, cF 0, cS none 0 0, cI 0, cI 0, cF 0, cS none 0 0] 60] ?_
   refine rtk [SV.agg [cI 0, cI 0, cI 0, cI 0, cF 0, cS none 0 0, cI 0, cI 0, cF 0, cS none 0 0], vL false] ?_
   intro L w1 hs
   exact ⟨0, none, 0, 0, none, 0, by rw [hno]; rfl, by rw [hno]; exact ((hs.triv (A := rowA 5 kU8 ([] : List Int) (.slice none 0 0)) rowA_nil).triv (A := rowA 5 kU8 ([] : List Int) (.slice none 0 0)) rowA_nil).out (As := [_, _]), by decide, by rw [hno]; rfl, by decide, by rw [hno]; rfl⟩
  ·intro hb1
   replace hb1 := of_decide_eq_false hb1
   refine gn 2 Rg.no [kCd (bitL 4 11), kCd (bitL 3 7)] [(0, vS Ab b.length cb), (2, vR 0 0), (4, vR 1 0), (17, vB (decide ((↑b.length : Int) > 92)))] [LB.mk [cI 0, cI 0, cI 0, cI 0, cF 0, cS none 0 0, cI 0, cI 0, cF 0, cS none 0 0] 60, LB.mk [cI 0, cI 0, cI 0, cI 0, cF 0, cS none 0 0, cI 0, cI 0, cF 0, cS none 0 0] 60] ?_
   refine spl 17 (decide ((↑b.length : Int) > 92)) ?_ ?_
   ·intro hb2
    replace hb2 := of_decide_eq_true hb2
    refine gn 1 Rg.no [kCd (bitL 6 43), kCd (bitL 3 7)] [(2, vR 0 0), (3, vL false)] [LB.mk [cI 0, cI 0, cI 0, cI 0, cF 0, cS none 0 0, cI 0, cI 0, cF 0, cS none 0 0] 60] ?_
    refine rtk [SV.agg [cI 0, cI 0, cI 0, cI 0, cF 0, cS none 0 0, cI 0, cI 0, cF 0, cS none 0 0], vL false] ?_
    intro L w1 hs
    exact ⟨0, none, 0, 0, none, 0, by rw [hno]; rfl, by rw [hno]; exact ((hs.triv (A := rowA 5 kU8 ([] : List Int) (.slice none 0 0)) rowA_nil).triv (A := rowA 5 kU8 ([] : List Int) (.slice none 0 0)) rowA_nil).out (As := [_, _]), by decide, by rw [hno]; rfl, by decide, by rw [hno]; rfl⟩
   ·intro hb2
    replace hb2 := of_decide_eq_false hb2
    (exfalso; omega)
 have h8 : 8 < b.length := by omega
 obtain ⟨N, hN⟩ : ∃ N : Nat, b[8] = (N : Int) := ⟨b[8].toNat, by have := hby8 h8; omega⟩
 have hN2 : N < 256 := by have := hby8 h8; omega
 have hg8 : (b.getD 8 0).toNat = N := by rw [getD_at h8, hN]; rfl
 have nf_1 : IntKind.i64.wrap (b[8]'h8) = (N : Int) := by rw [hN, IntKind.wrap_i64]; omega
 have nf_2 : IntKind.i64.wrap ((10 : Int) + (N : Int)) = ((10 + N : Nat) : Int) := by rw [IntKind.wrap_i64]; omega
 have nf_3 : IntKind.i64.wrap ((9 : Int) + (N : Int)) = ((9 + N : Nat) : Int) := by rw [IntKind.wrap_i64]; omega
 have nf_4 : IntKind.i64.wrap (((9 + N : Nat) : Int) + 1) = ((10 + N : Nat) : Int) := by rw [IntKind.wrap_i64]; omega
 have nf_5 : IntKind.i64.wrap ((b.length : Int) - 10) = (b.length : Int) - 10 := by rw [IntKind.wrap_i64]; omega
 have nf_6 : (if 4 ≤ b.length then ofLE (b.take 4) else 0) = ofLE (b.take 4) := if_pos (by omega)
 have nf_7 : (if 8 ≤ b.length then ofLE ((b.drop 4).take 4) else 0) = ofLE ((b.drop 4).take 4) := if_pos (by omega)
 refine gn 2 (Rg.sq (bitL 4 3) 4) [kCd (bitL 4 11), kCd (bitL 3 7)] [(0, vS Ab b.length cb), (2, vR 0 0), (4, vR 1 0), (13, vB (decide ((↑b.length : Int) < 10)))] [LB.mk [cI 0, cI 0, cI 0, cI 0, cF 0, cS none 0 0, cI 0, cI 0, cF 0, cS none 0 0] 60, LB.mk [cI 0, cI 0, cI 0, cI 0, cF 0, cS none 0 0, cI 0, cI 0, cF 0, cS none 0 0] 60] ?_
 refine spl 13 (decide ((↑b.length : Int) < 10)) ?_ ?_
 ·intro hb1
  replace hb1 := of_decide_eq_true hb1
  (exfalso; omega)
 intro hb1
 replace hb1 := of_decide_eq_false hb1
 refine gn 2 Rg.no [kCd (bitL 4 11), kCd (bitL 3 7)] [(0, vS Ab b.length cb), (2, vR 0 0), (4, vR 1 0), (17, vB (decide ((↑b.length : Int) > 92)))] [LB.mk [cI 0, cI 0, cI 0, cI 0, cF 0, cS none 0 0, cI 0, cI 0, cF 0, cS none 0 0] 60, LB.mk [cI 0, cI 0, cI 0, cI 0, cF 0, cS none 0 0, cI 0, cI 0, cF 0, cS none 0 0] 60] ?_
 refine spl 17 (decide ((↑b.length : Int) > 92)) ?_ ?_
 ·intro hb2
  replace hb2 := of_decide_eq_true hb2
  (exfalso; omega)
 intro hb2
 replace hb2 := of_decide_eq_false hb2
 refine gn 2 (Rg.sq (bitL 4 7) 1) [kCd (bitL 4 15)] [(0, vS Ab b.length cb), (2, vR 0 0), (4, vR 1 0), (20, vS Ab b.length cb)] [LB.mk [cI 0, cI 0, cI 0, cI 0, cF 0, cS none 0 0, cI 0, cI 0, cF 0, cS none 0 0] 60, LB.mk [cI 0, cI 0, cI 0, cI 0, cF 0, cS none 0 0, cI 0, cI 0, cF 0, cS none 0 0] 60] ?_
 refine cpk 51 [vS Ab b.length cb, vI 0, vI 4] (some 21) (Rg.sq (bitL 4 7) 2) (.one (.v (Value.tuple #[Value.int IntKind.i64 (if 4 ≤ b.length then ofLE (List.take 4 b) else 0), Value.bool (decide (4 ≤ b.length))]))) (fun L w1 hs => (sGet0_ok (b) (Value.slice Ab b.length cb) w1 (rdRow_ext (hs.old 0 rfl) hb) ‹_› ‹_›)) ?_
 refine gn 2 (Rg.sq (bitL 5 15) 1) [kCd (bitL 5 31)] [(0, vS Ab b.length cb), (2, vR 0 0), (4, vR 1 0), (26, vS Ab b.length cb)] [LB.mk [cI 0, cI 0, cI 0, cI 0, cF 0, cS none 0 0, cI 0, cI 0, cF 0, cS none 0 0] 60, LB.mk [cI (if 4 ≤ b.length then ofLE (List.take 4 b) else 0), cI 0, cI 0, cI 0, cF 0, cS none 0 0, cI 0, cI 0, cF 0, cS none 0 0] 60] ?_
 try simp only [flx, nf_1, nf_2, nf_3, nf_4, nf_5, nf_6, nf_7]
 refine cpk 51 [vS Ab b.length cb, vI 4, vI 4] (some 27) (Rg.sq (bitL 5 15) 2) (.one (.v (Value.tuple #[Value.int IntKind.i64 (if 8 ≤ b.length then ofLE (List.take 4 (List.drop 4 b)) else 0), Value.bool (decide (8 ≤ b.length))]))) (fun L w1 hs => (sGet4_ok (b) (Value.slice Ab b.length cb) w1 (rdRow_ext (hs.old 0 rfl) hb) ‹_› ‹_›)) ?_
 refine gn 2 (Rg.sq (bitL 6 31) 1) [kCd (bitL 6 63)] [(0, vS Ab b.length cb), (2, vR 0 0), (4, vR 1 0), (31, vS Ab b.length cb)] [LB.mk [cI 0, cI 0, cI 0, cI 0, cF 0, cS none 0 0, cI 0, cI 0, cF 0, cS none 0 0] 60, LB.mk [cI (ofLE (List.take 4 b)), cI (if 8 ≤ b.length then ofLE (List.take 4 (List.drop 4 b)) else 0), cI 0, cI 0, cF 0, cS none 0 0, cI 0, cI 0, cF 0, cS none 0 0] 60] ?_
 try simp only [flx, nf_1, nf_2, nf_3, nf_4, nf_5, nf_6, nf_7]
 refine index_at 1 (by kernel_rfl : atP _ _ _ 1 false = some (Op.indexAddr 44 (tmpO 31) (Operand.const (Value.int IntKind.i64 8)), 0, some 32, Rg.sq (bitL 6 31) 2)) (ni := 8) (sz := 1) (by kernel_rfl) rfl rfl rfl ‹_› (fun L w1 hs => rd_some (i := 8) (rdRow_ext (hs.old 0 rfl) hb) ‹_›) ?_
 intro a_1 ha_1
 cases ha_1
 refine gn 2 (Rg.sq (bitL 6 31) 2) [kCd (bitL 6 63)] [(0, vS (some a_1) b.length cb), (2, vR 0 0), (4, vR 1 0), (32, vP (a_1.add 8))] [LB.mk [cI 0, cI 0, cI 0, cI 0, cF 0, cS none 0 0, cI 0, cI 0, cF 0, cS none 0 0] 60, LB.mk [cI (ofLE (List.take 4 b)), cI (ofLE (List.take 4 (List.drop 4 b))), cI 0, cI 0, cF 0, cS none 0 0, cI 0, cI 0, cF 0, cS none 0 0] 60] ?_
 refine load_one 2 (by kernel_rfl : atP _ _ _ 2 true = some (Op.load 5 (tmpO 32), 5, some 33, Rg.sq (bitL 6 31) 3)) (n := 1) (by kernel_rfl) rfl ?_
 intro L w1 hs
 refine ⟨.v (.int .u8 b[8]), rd_sc (rdRow_ext (hs.old 0 rfl) hb) h8, ?_⟩
 clear hs
 by_cases hn : ¬ 10 + N ≤ b.length
 ·have hno : tupR b = none := tupR_short (by omega)
  refine gn 2 Rg.no [kCd (bitL 8 191), kCd (bitL 7 127)] [(0, vS (some a_1) b.length cb), (2, vR 0 0), (4, vR 1 0), (5, vI (IntKind.i64.wrap b[8])), (39, vB (decide (IntKind.i64.wrap b[8] > IntKind.i64.wrap ((↑b.length : Int) - 10))))] [LB.mk [cI 0, cI 0, cI 0, cI 0, cF 0, cS none 0 0, cI 0, cI 0, cF 0, cS none 0 0] 60, LB.mk [cI (ofLE (List.take 4 b)), cI (ofLE (List.take 4 (List.drop 4 b))), cI 0, cI 0, cF 0, cS none 0 0, cI 0, cI 0, cF 0, cS none 0 0] 60] ?_
  try simp only [flx, nf_1, nf_2, nf_3, nf_4, nf_5, nf_6, nf_7]
  refine spl 39 (decide ((↑N : Int) > (↑b.length : Int) - 10)) ?_ ?_
  ·intro hb3
   replace hb3 := of_decide_eq_true hb3
   refine gn 1 Rg.no [kCd (bitL 10 703), kCd (bitL 7 127)] [(2, vR 0 0), (3, vL false)] [LB.mk [cI 0, cI 0, cI 0, cI 0, cF 0, cS none 0 0, cI 0, cI 0, cF 0, cS none 0 0] 60] ?_
   refine rtk [SV.agg [cI 0, cI 0, cI 0, cI 0, cF 0, cS none 0 0, cI 0, cI 0, cF 0, cS none 0 0], vL false] ?_
   intro L w1 hs
   exact ⟨0, none, 0, 0, none, 0, by rw [hno]; rfl, by rw [hno]; exact ((hs.triv (A := rowA 5 kU8 ([] : List Int) (.slice none 0 0)) rowA_nil).triv (A := rowA 5 kU8 ([] : List Int) (.slice none 0 0)) rowA_nil).out (As := [_, _]), by decide, by rw [hno]; rfl, by decide, by rw [hno]; rfl⟩
  ·intro hb3
   replace hb3 := of_decide_eq_false hb3
   (exfalso; omega)
 replace hn : 10 + N ≤ b.length := Classical.not_not.1 hn
 refine gn 2 Rg.no [kCd (bitL 8 191), kCd (bitL 7 127)] [(0, vS (some a_1) b.length cb), (2, vR 0 0), (4, vR 1 0), (5, vI (IntKind.i64.wrap b[8])), (39, vB (decide (IntKind.i64.wrap b[8] > IntKind.i64.wrap ((↑b.length : Int) - 10))))] [LB.mk [cI 0, cI 0, cI 0, cI 0, cF 0, cS none 0 0, cI 0, cI 0, cF 0, cS none 0 0] 60, LB.mk [cI (ofLE (List.take 4 b)), cI (ofLE (List.take 4 (List.drop 4 b))), cI 0, cI 0, cF 0, cS none 0 0, cI 0, cI 0, cF 0, cS none 0 0] 60] ?_
 try simp only [flx, nf_1, nf_2, nf_3, nf_4, nf_5, nf_6, nf_7]
 refine spl 39 (decide ((↑N : Int) > (↑b.length : Int) - 10)) ?_ ?_
 ·intro hb3
  replace hb3 := of_decide_eq_true hb3
  (exfalso; omega)
 intro hb3
 replace hb3 := of_decide_eq_false hb3
 refine gn 2 (Rg.sq (bitL 8 127) 3) [kCd (bitL 8 255)] [(0, vS (some a_1) b.length cb), (2, vR 0 0), (4, vR 1 0), (5, vI (↑N : Int)), (42, vS (some a_1) b.length cb), (44, vI (IntKind.i64.wrap ((9 : Int) + (↑N : Int))))] [LB.mk [cI 0, cI 0, cI 0, cI 0, cF 0, cS none 0 0, cI 0, cI 0, cF 0, cS none 0 0] 60, LB.mk [cI (ofLE (List.take 4 b)), cI (ofLE (List.take 4 (List.drop 4 b))), cI 0, cI 0, cF 0, cS none 0 0, cI 0, cI 0, cF 0, cS none 0 0] 60] ?_
 try simp only [flx, nf_1, nf_2, nf_3, nf_4, nf_5, nf_6, nf_7]
 have hkb := byOk_drop (byOk_take hby (9 + N)) 9
 have hvb := byOk_drop hby (10 + N)
 have hkl : ((b.take (9 + N)).drop 9).length ≤ 1048576 := by rw [List.length_drop, List.length_take]; omega
 have hvl : (b.drop (10 + N)).length ≤ 1048576 := by rw [List.length_drop]; omega
 obtain ⟨hcap_hkey, hkey⟩ := rd_part (l := 9) (h := (9 + N)) (sz := 1) hb rfl (by omega) (by omega)
 refine slice_at 3 (l := 9) (h := (9 + N)) (m := cb) (sz := 1) (by kernel_rfl : atP _ _ _ 3 false = some (Op.slice 44 (tmpO 42) (some (Operand.const (Value.int IntKind.i64 9))) (some (tmpO 44)) none, 44, some 45, Rg.sq (bitL 8 127) 4)) (by kernel_rfl) rfl ⟨_, rfl⟩ ⟨_, rfl⟩ rfl (by decide) (by omega) hcap_hkey (by first | exact Nat.le_refl _ | omega) ?_
 generalize (if cb = 9 then (some a_1) else (some a_1).map (·.add (9 * 1))) = A_hkey at *
 refine gn 2 (Rg.sq (bitL 8 127) 4) [kCd (bitL 8 255)] [(0, vS (some a_1) b.length cb), (2, vR 0 0), (4, vR 1 0), (5, vI (↑N : Int)), (45, vS A_hkey (9 + N - 9) (cb - 9))] [LB.mk [cI 0, cI 0, cI 0, cI 0, cF 0, cS none 0 0, cI 0, cI 0, cF 0, cS none 0 0] 60, LB.mk [cI (ofLE (List.take 4 b)), cI (ofLE (List.take 4 (List.drop 4 b))), cI 0, cI 0, cF 0, cS none 0 0, cI 0, cI 0, cF 0, cS none 0 0] 60] ?_
 refine cak 52 [vS A_hkey (9 + N - 9) (cb - 9)] (some 46) (Rg.sq (bitL 8 127) 5) (fun L w1 hs => (sKeyRead_ok (List.drop 9 (List.take (9 + N) b)) (Value.slice A_hkey (9 + N - 9) (cb - 9)) w1 (rdRow_ext (hs.old 0 rfl) hkey) ‹_› ‹_›).mono ?_)
 rintro e_ w2_ ⟨bof_1, Aot_1, cot_1, rfl, hf_, hq1, hq2⟩
 refine ⟨.one (.v (Value.tuple #[Value.agg #[Value.int IntKind.i64 ((keyR (List.drop 9 (List.take (9 + N) b))).getD zIt0).kind, Value.int IntKind.i64 ((keyR (List.drop 9 (List.take (9 + N) b))).getD zIt0).n, Value.float FloatKind.f64 bof_1, Value.slice Aot_1 ((keyR (List.drop 9 (List.take (9 + N) b))).getD zIt0).t.length cot_1], Value.bool (keyR (List.drop 9 (List.take (9 + N) b))).isSome])), _, _, rfl, fun _ => hf_.1.block, hs.fresh hf_, ?_⟩
 clear hs hf_
 refine gn 3 (Rg.sq (bitL 9 255) 3) [kCd (bitL 9 511)] [(0, vS (some a_1) b.length cb), (2, vR 0 0), (4, vR 1 0), (6, vR 2 0), (7, vB (keyR (List.drop 9 (List.take (9 + N) b))).isSome), (50, vS (some a_1) b.length cb), (52, vI (IntKind.i64.wrap ((10 : Int) + (↑N : Int))))] [LB.mk [cI 0, cI 0, cI 0, cI 0, cF 0, cS none 0 0, cI 0, cI 0, cF 0, cS none 0 0] 60, LB.mk [cI (ofLE (List.take 4 b)), cI (ofLE (List.take 4 (List.drop 4 b))), cI 0, cI 0, cF 0, cS none 0 0, cI 0, cI 0, cF 0, cS none 0 0] 60, LB.mk [cI (Option.getD (keyR (List.drop 9 (List.take (9 + N) b))) zIt0).kind, cI (Option.getD (keyR (List.drop 9 (List.take (9 + N) b))) zIt0).n, cF bof_1, cS Aot_1 (Option.getD (keyR (List.drop 9 (List.take (9 + N) b))) zIt0).t.length cot_1] 49] ?_
 try simp only [flx, hq1, hq2, nf_1, nf_2, nf_3, nf_4, nf_5, nf_6, nf_7]
 obtain ⟨hcap_hval, hval⟩ := rd_part (l := (10 + N)) (h := b.length) (sz := 1) hb rfl (by omega) (by omega)
 refine slice_at 3 (l := (10 + N)) (h := b.length) (m := cb) (sz := 1) (by kernel_rfl : atP _ _ _ 3 false = some (Op.slice 44 (tmpO 50) (some (tmpO 52)) none none, 44, some 53, Rg.sq (bitL 9 255) 4)) (by kernel_rfl) rfl ⟨_, rfl⟩ rfl rfl (by decide) (by omega) hcap_hval (by first | exact Nat.le_refl _ | omega) ?_
 generalize (if cb = (10 + N) then (some a_1) else (some a_1).map (·.add ((10 + N) * 1))) = A_hval at *
 rw [show (b.take b.length).drop (10 + N) = b.drop (10 + N) by rw [List.take_length]] at hval
 refine gn 3 (Rg.sq (bitL 9 255) 4) [kCd (bitL 9 511)] [(0, vS (some a_1) b.length cb), (2, vR 0 0), (4, vR 1 0), (6, vR 2 0), (7, vB (keyR (List.drop 9 (List.take (9 + N) b))).isSome), (53, vS A_hval (b.length - (10 + N)) (cb - (10 + N)))] [LB.mk [cI 0, cI 0, cI 0, cI 0, cF 0, cS none 0 0, cI 0, cI 0, cF 0, cS none 0 0] 60, LB.mk [cI (ofLE (List.take 4 b)), cI (ofLE (List.take 4 (List.drop 4 b))), cI 0, cI 0, cF 0, cS none 0 0, cI 0, cI 0, cF 0, cS none 0 0] 60, LB.mk [cI (Option.getD (keyR (List.drop 9 (List.take (9 + N) b))) zIt0).kind, cI (Option.getD (keyR (List.drop 9 (List.take (9 + N) b))) zIt0).n, cF bof_1, cS Aot_1 (Option.getD (keyR (List.drop 9 (List.take (9 + N) b))) zIt0).t.length cot_1] 49] ?_
 refine cak 53 [vS A_hval (b.length - (10 + N)) (cb - (10 + N))] (some 54) (Rg.sq (bitL 9 255) 5) (fun L w1 hs => (sValRead_ok (List.drop (10 + N) b) (Value.slice A_hval (b.length - (10 + N)) (cb - (10 + N))) w1 (rdRow_ext (hs.old 1 rfl) hval) ‹_› ‹_›).mono ?_)
 rintro e_ w2_ ⟨bof_2, Aot_2, cot_2, rfl, hf_, hq3, hq4⟩
 refine ⟨.one (.v (Value.tuple #[Value.agg #[Value.int IntKind.i64 ((valR (List.drop (10 + N) b)).getD zIt0).kind, Value.int IntKind.i64 ((valR (List.drop (10 + N) b)).getD zIt0).n, Value.float FloatKind.f64 bof_2, Value.slice Aot_2 ((valR (List.drop (10 + N) b)).getD zIt0).t.length cot_2], Value.bool (valR (List.drop (10 + N) b)).isSome])), _, _, rfl, fun _ => hf_.1.block, hs.fresh hf_, ?_⟩
 clear hs hf_
 refine gn 2 (Rg.dr (bitL 13 2047) (bitL 14 7) 11 2) [kCd (bitL 13 6143), kCd (bitL 12 4095)] [(0, vS (some a_1) b.length cb), (2, vR 0 0), (4, vR 1 0), (9, vB (valR (List.drop (10 + N) b)).isSome), (63, vB !(keyR (List.drop 9 (List.take (9 + N) b))).isSome)] [LB.mk [cI 0, cI 0, cI 0, cI 0, cF 0, cS none 0 0, cI 0, cI 0, cF 0, cS none 0 0] 60, LB.mk [cI (ofLE (List.take 4 b)), cI (ofLE (List.take 4 (List.drop 4 b))), cI (Option.getD (keyR (List.drop 9 (List.take (9 + N) b))) zIt0).kind, cI (Option.getD (keyR (List.drop 9 (List.take (9 + N) b))) zIt0).n, cF bof_1, cS Aot_1 (Option.getD (keyR (List.drop 9 (List.take (9 + N) b))) zIt0).t.length cot_1, cI (Option.getD (valR (List.drop (10 + N) b)) zIt0).kind, cI (Option.getD (valR (List.drop (10 + N) b)) zIt0).n, cF bof_2, cS Aot_2 (Option.getD (valR (List.drop (10 + N) b)) zIt0).t.length cot_2] 60] ?_
 try simp only [flx, hq1, hq2, hq3, hq4, nf_1, nf_2, nf_3, nf_4, nf_5, nf_6, nf_7]
 rcases hkr : keyR ((b.take (9 + N)).drop 9) with _ | k
 ·rw [hkr] at hq2
  have hno : tupR b = none := tupR_key (by rw [hg8]; exact hkr)
  refine gn 2 (Rg.dr (bitL 13 2047) (bitL 14 7) 11 2) [kCd (bitL 13 6143), kCd (bitL 12 4095)] [(0, vS (some a_1) b.length cb), (2, vR 0 0), (4, vR 1 0), (9, vB (valR (List.drop (10 + N) b)).isSome), (63, vB true)] [LB.mk [cI 0, cI 0, cI 0, cI 0, cF 0, cS none 0 0, cI 0, cI 0, cF 0, cS none 0 0] 60, LB.mk [cI (ofLE (List.take 4 b)), cI (ofLE (List.take 4 (List.drop 4 b))), cI 0, cI 0, cF bof_1, cS Aot_1 0 cot_1, cI (Option.getD (valR (List.drop (10 + N) b)) zIt0).kind, cI (Option.getD (valR (List.drop (10 + N) b)) zIt0).n, cF bof_2, cS Aot_2 (Option.getD (valR (List.drop (10 + N) b)) zIt0).t.length cot_2] 60] ?_
  refine ltk 63 true ?_
  refine gn 1 Rg.no [kCd (bitL 15 22527), kCd (bitL 12 4095)] [(2, vR 0 0), (3, vL false)] [LB.mk [cI 0, cI 0, cI 0, cI 0, cF 0, cS none 0 0, cI 0, cI 0, cF 0, cS none 0 0] 60] ?_
  refine rtk [SV.agg [cI 0, cI 0, cI 0, cI 0, cF 0, cS none 0 0, cI 0, cI 0, cF 0, cS none 0 0], vL false] ?_
  intro L w1 hs
  exact ⟨0, none, 0, 0, none, 0, by rw [hno]; rfl, by rw [hno]; exact (((hs.erases [0, 0]).triv (A := rowA 5 kU8 ([] : List Int) (.slice none 0 0)) rowA_nil).triv (A := rowA 5 kU8 ([] : List Int) (.slice none 0 0)) rowA_nil).out (As := [_, _]), by decide, by rw [hno]; rfl, by decide, by rw [hno]; rfl⟩
 rcases hvr : valR (b.drop (10 + N)) with _ | v
 ·rw [hvr] at hq4
  have hno : tupR b = none := tupR_val (by rw [hg8]; exact hvr)
  rw [hkr] at hq2
  refine gn 2 (Rg.dr (bitL 13 2047) (bitL 14 7) 11 2) [kCd (bitL 13 6143), kCd (bitL 12 4095)] [(0, vS (some a_1) b.length cb), (2, vR 0 0), (4, vR 1 0), (9, vB false), (63, vB !(some k).isSome)] [LB.mk [cI 0, cI 0, cI 0, cI 0, cF 0, cS none 0 0, cI 0, cI 0, cF 0, cS none 0 0] 60, LB.mk [cI (ofLE (List.take 4 b)), cI (ofLE (List.take 4 (List.drop 4 b))), cI (Option.getD (some k) zIt0).kind, cI (Option.getD (some k) zIt0).n, cF bof_1, cS Aot_1 (Option.getD (some k) zIt0).t.length cot_1, cI 0, cI 0, cF bof_2, cS Aot_2 0 cot_2] 60] ?_
  try simp only [flx, hq1, hq3, hq4, hq2, nf_1, nf_2, nf_3, nf_4, nf_5, nf_6, nf_7]
  refine spl 63 (!(some k).isSome) ?_ ?_
  ·intro hb4
   try simp only [sbb] at hb4
   refine gn 1 Rg.no [kCd (bitL 15 22527), kCd (bitL 12 4095)] [(2, vR 0 0), (3, vL false)] [LB.mk [cI 0, cI 0, cI 0, cI 0, cF 0, cS none 0 0, cI 0, cI 0, cF 0, cS none 0 0] 60] ?_
   refine rtk [SV.agg [cI 0, cI 0, cI 0, cI 0, cF 0, cS none 0 0, cI 0, cI 0, cF 0, cS none 0 0], vL false] ?_
   intro L w1 hs
   exact ⟨0, none, 0, 0, none, 0, by rw [hno]; rfl, by rw [hno]; exact (((hs.erases [0, 0]).triv (A := rowA 5 kU8 ([] : List Int) (.slice none 0 0)) rowA_nil).triv (A := rowA 5 kU8 ([] : List Int) (.slice none 0 0)) rowA_nil).out (As := [_, _]), by decide, by rw [hno]; rfl, by decide, by rw [hno]; rfl⟩
  ·intro hb4
   try simp only [sbb] at hb4
   refine gn 2 (Rg.dr (bitL 13 2047) (bitL 14 127) 7 2) [kCd (bitL 13 6143), kCd (bitL 12 4095)] [(0, vS (some a_1) b.length cb), (2, vR 0 0), (4, vR 1 0), (67, vB true)] [LB.mk [cI 0, cI 0, cI 0, cI 0, cF 0, cS none 0 0, cI 0, cI 0, cF 0, cS none 0 0] 60, LB.mk [cI (ofLE (List.take 4 b)), cI (ofLE (List.take 4 (List.drop 4 b))), cI k.kind, cI k.n, cF bof_1, cS Aot_1 k.t.length cot_1, cI 0, cI 0, cF bof_2, cS Aot_2 0 cot_2] 60] ?_
   refine ltk 67 true ?_
   refine gn 1 Rg.no [kCd (bitL 15 22527), kCd (bitL 12 4095)] [(2, vR 0 0), (3, vL false)] [LB.mk [cI 0, cI 0, cI 0, cI 0, cF 0, cS none 0 0, cI 0, cI 0, cF 0, cS none 0 0] 60] ?_
   refine rtk [SV.agg [cI 0, cI 0, cI 0, cI 0, cF 0, cS none 0 0, cI 0, cI 0, cF 0, cS none 0 0], vL false] ?_
   intro L w1 hs
   exact ⟨0, none, 0, 0, none, 0, by rw [hno]; rfl, by rw [hno]; exact (((hs.erases [0, 0]).triv (A := rowA 5 kU8 ([] : List Int) (.slice none 0 0)) rowA_nil).triv (A := rowA 5 kU8 ([] : List Int) (.slice none 0 0)) rowA_nil).out (As := [_, _]), by decide, by rw [hno]; rfl, by decide, by rw [hno]; rfl⟩
 rw [hkr] at hq2
 rw [hvr] at hq4
 obtain ⟨hk1, hk2, hk3⟩ := keyR_fact hkb hkr
 obtain ⟨hv1, hv2, hv3⟩ := valR_fact hvb hvr
 have hk4 : k.t.length ≤ 1048576 := by omega
 have hv4 : v.t.length ≤ 1048576 := by omega
 have hkf : canonF bof_1 = k.f := hq2
 have hvf : canonF bof_2 = v.f := hq4
 clear hq2 hq4
 have hat := tupR_at (by rw [hg8]; exact hn) (by rw [hg8]; exact hkr) (by rw [hg8]; exact hvr)
 have htb : byOk (tupB (⟨ofLE (b.take 4), ofLE ((b.drop 4).take 4), k, v⟩ : Tu)) := tupB_by hk2 hv2
 have nf_12 : (!(some k).isSome) = false := rfl
 have nf_13 : (!(some v).isSome) = false := rfl
 refine gn 2 (Rg.dr (bitL 13 2047) (bitL 14 7) 11 2) [kCd (bitL 13 6143), kCd (bitL 12 4095)] [(0, vS (some a_1) b.length cb), (2, vR 0 0), (4, vR 1 0), (9, vB (some v).isSome), (63, vB !(some k).isSome)] [LB.mk [cI 0, cI 0, cI 0, cI 0, cF 0, cS none 0 0, cI 0, cI 0, cF 0, cS none 0 0] 60, LB.mk [cI (ofLE (List.take 4 b)), cI (ofLE (List.take 4 (List.drop 4 b))), cI (Option.getD (some k) zIt0).kind, cI (Option.getD (some k) zIt0).n, cF bof_1, cS Aot_1 (Option.getD (some k) zIt0).t.length cot_1, cI (Option.getD (some v) zIt0).kind, cI (Option.getD (some v) zIt0).n, cF bof_2, cS Aot_2 (Option.getD (some v) zIt0).t.length cot_2] 60] ?_
 try simp only [flx, hq1, hq3, hkf, hvf, nf_1, nf_2, nf_3, nf_4, nf_5, nf_6, nf_7, nf_12, nf_13]
 refine gn 2 (Rg.dr (bitL 13 2047) (bitL 14 7) 11 2) [kCd (bitL 13 6143), kCd (bitL 12 4095)] [(0, vS (some a_1) b.length cb), (2, vR 0 0), (4, vR 1 0), (9, vB (some v).isSome), (63, vB false)] [LB.mk [cI 0, cI 0, cI 0, cI 0, cF 0, cS none 0 0, cI 0, cI 0, cF 0, cS none 0 0] 60, LB.mk [cI (ofLE (List.take 4 b)), cI (ofLE (List.take 4 (List.drop 4 b))), cI k.kind, cI k.n, cF bof_1, cS Aot_1 k.t.length cot_1, cI v.kind, cI v.n, cF bof_2, cS Aot_2 v.t.length cot_2] 60] ?_
 refine ltk 63 false ?_
 refine gn 2 (Rg.dr (bitL 13 2047) (bitL 14 127) 7 2) [kCd (bitL 13 6143), kCd (bitL 12 4095)] [(0, vS (some a_1) b.length cb), (2, vR 0 0), (4, vR 1 0), (67, vB !(some v).isSome)] [LB.mk [cI 0, cI 0, cI 0, cI 0, cF 0, cS none 0 0, cI 0, cI 0, cF 0, cS none 0 0] 60, LB.mk [cI (ofLE (List.take 4 b)), cI (ofLE (List.take 4 (List.drop 4 b))), cI k.kind, cI k.n, cF bof_1, cS Aot_1 k.t.length cot_1, cI v.kind, cI v.n, cF bof_2, cS Aot_2 v.t.length cot_2] 60] ?_
 try simp only [flx, hq1, hq3, hkf, hvf, nf_1, nf_2, nf_3, nf_4, nf_5, nf_6, nf_7, nf_12, nf_13]
 refine gn 2 (Rg.dr (bitL 13 2047) (bitL 14 127) 7 2) [kCd (bitL 13 6143), kCd (bitL 12 4095)] [(0, vS (some a_1) b.length cb), (2, vR 0 0), (4, vR 1 0), (67, vB false)] [LB.mk [cI 0, cI 0, cI 0, cI 0, cF 0, cS none 0 0, cI 0, cI 0, cF 0, cS none 0 0] 60, LB.mk [cI (ofLE (List.take 4 b)), cI (ofLE (List.take 4 (List.drop 4 b))), cI k.kind, cI k.n, cF bof_1, cS Aot_1 k.t.length cot_1, cI v.kind, cI v.n, cF bof_2, cS Aot_2 v.t.length cot_2] 60] ?_
 refine ltk 67 false ?_
 refine gn 2 (Rg.dr (bitL 13 2047) (bitL 14 1279) 5 2) [kCd (bitL 13 6143), kCd (bitL 12 4095)] [(2, vR 0 0), (4, vR 1 0), (67, vL false), (68, SV.agg [cI (ofLE (List.take 4 b)), cI (ofLE (List.take 4 (List.drop 4 b))), cI k.kind, cI k.n, cF bof_1, cS Aot_1 k.t.length cot_1, cI v.kind, cI v.n, cF bof_2, cS Aot_2 v.t.length cot_2]), (71, vS (some a_1) b.length cb)] [LB.mk [cI 0, cI 0, cI 0, cI 0, cF 0, cS none 0 0, cI 0, cI 0, cF 0, cS none 0 0] 60, LB.mk [cI (ofLE (List.take 4 b)), cI (ofLE (List.take 4 (List.drop 4 b))), cI k.kind, cI k.n, cF bof_1, cS Aot_1 k.t.length cot_1, cI v.kind, cI v.n, cF bof_2, cS Aot_2 v.t.length cot_2] 60] ?_
 refine two_at 8 11 (by kernel_rfl) ?_ ?_ <;> simp only [fxOf]
 ·refine gn 2 (Rg.fx (bitL 13 2047) (bitL 14 1279) 4 2 8) [kCd (bitL 13 6143), kCd (bitL 12 4095)] [(2, vR 0 0), (4, vR 1 0), (67, vL false), (68, SV.agg [cI (ofLE (List.take 4 b)), cI (ofLE (List.take 4 (List.drop 4 b))), cI k.kind, cI k.n, cF bof_1, cS Aot_1 k.t.length cot_1, cI v.kind, cI v.n, cF bof_2, cS Aot_2 v.t.length cot_2]), (71, vS (some a_1) b.length cb)] [LB.mk [cI 0, cI 0, cI 0, cI 0, cF 0, cS none 0 0, cI 0, cI 0, cF 0, cS none 0 0] 60, LB.mk [cI (ofLE (List.take 4 b)), cI (ofLE (List.take 4 (List.drop 4 b))), cI k.kind, cI k.n, cF bof_1, cS Aot_1 k.t.length cot_1, cI v.kind, cI v.n, cF bof_2, cS Aot_2 v.t.length cot_2] 60] ?_
  refine cak 54 [SV.agg [cI (ofLE (List.take 4 b)), cI (ofLE (List.take 4 (List.drop 4 b))), cI k.kind, cI k.n, cF bof_1, cS Aot_1 k.t.length cot_1, cI v.kind, cI v.n, cF bof_2, cS Aot_2 v.t.length cot_2]] (some 69) (Rg.dr (bitL 13 2047) (bitL 14 1535) 4 12) (fun L w1 hs => (sTupB_ok (Tu.mk (ofLE (List.take 4 b)) (ofLE (List.take 4 (List.drop 4 b))) (It.mk k.kind k.n k.f ((some k).getD zIt0).t) (It.mk v.kind v.n v.f ((some v).getD zIt0).t)) ([Value.int IntKind.i64 (ofLE (List.take 4 b)), Value.int IntKind.i64 (ofLE (List.take 4 (List.drop 4 b))), Value.int IntKind.i64 k.kind, Value.int IntKind.i64 k.n, Value.float FloatKind.f64 bof_1, Value.slice Aot_1 k.t.length cot_1, Value.int IntKind.i64 v.kind, Value.int IntKind.i64 v.n, Value.float FloatKind.f64 bof_2, Value.slice Aot_2 v.t.length cot_2]) w1 (kTu_mk ‹_› hkf (hs.rd 1 rfl) ‹_› hvf (hs.rd 0 rfl)) ‹_› ‹_› ‹_› ‹_›).mono ?_)
  rintro e_ w2_ ⟨B_1, d_1, rfl, hf_⟩
  refine ⟨.one (.v (Value.slice B_1 (tupB (Tu.mk (ofLE (List.take 4 b)) (ofLE (List.take 4 (List.drop 4 b))) (It.mk k.kind k.n k.f ((some k).getD zIt0).t) (It.mk v.kind v.n v.f ((some v).getD zIt0).t))).length d_1)), _, _, rfl, fun _ => hf_.1.block, hs.fresh hf_, ?_⟩
  clear hs hf_
  refine gn 2 (Rg.dr (bitL 13 2047) (bitL 14 1535) 4 12) [kCd (bitL 13 6143), kCd (bitL 12 4095)] [(2, vR 0 0), (4, vR 1 0), (67, vL false), (69, vS B_1 (tupB (Tu.mk (ofLE (List.take 4 b)) (ofLE (List.take 4 (List.drop 4 b))) (It.mk k.kind k.n k.f k.t) (It.mk v.kind v.n v.f v.t))).length d_1), (71, vS (some a_1) b.length cb)] [LB.mk [cI 0, cI 0, cI 0, cI 0, cF 0, cS none 0 0, cI 0, cI 0, cF 0, cS none 0 0] 60, LB.mk [cI (ofLE (List.take 4 b)), cI (ofLE (List.take 4 (List.drop 4 b))), cI k.kind, cI k.n, cF bof_1, cS Aot_1 k.t.length cot_1, cI v.kind, cI v.n, cF bof_2, cS Aot_2 v.t.length cot_2] 60] ?_
  refine two_at 9 11 (by kernel_rfl) ?_ ?_ <;> simp only [fxOf]
  ·refine bstr_atB true (tupB (⟨ofLE (b.take 4), ofLE ((b.drop 4).take 4), k, v⟩ : Tu)) (by kernel_rfl : atB _ _ _ true = some (Op.convert 44 9 (tmpO 69), 9, some 70, Rg.dr (bitL 13 2047) (bitL 14 2047) 3 12)) (by kernel_rfl) rfl (fun L w1 hs => hs.rd 0 rfl) ?_
   refine gn 2 (Rg.dr (bitL 13 2047) (bitL 14 2047) 3 12) [kCd (bitL 13 6143), kCd (bitL 12 4095)] [(2, vR 0 0), (4, vR 1 0), (67, vL false), (70, SV.one (SC.v (Value.string (strOf (tupB (Tu.mk (ofLE (List.take 4 b)) (ofLE (List.take 4 (List.drop 4 b))) k v)))))), (71, vS (some a_1) b.length cb)] [LB.mk [cI 0, cI 0, cI 0, cI 0, cF 0, cS none 0 0, cI 0, cI 0, cF 0, cS none 0 0] 60, LB.mk [cI (ofLE (List.take 4 b)), cI (ofLE (List.take 4 (List.drop 4 b))), cI k.kind, cI k.n, cF bof_1, cS Aot_1 k.t.length cot_1, cI v.kind, cI v.n, cF bof_2, cS Aot_2 v.t.length cot_2] 60] ?_
   refine bstr_atB true (b) (by kernel_rfl : atB _ _ _ true = some (Op.convert 44 9 (tmpO 71), 9, some 72, Rg.dr (bitL 13 2047) (bitL 14 4095) 2 12)) (by kernel_rfl) rfl (fun L w1 hs => rdRow_ext (hs.old 3 rfl) hb) ?_
   refine gn 2 (Rg.dr (bitL 13 2047) (bitL 14 4095) 2 12) [kCd (bitL 13 6143), kCd (bitL 12 4095)] [(2, vR 0 0), (4, vR 1 0), (67, vL false), (70, SV.one (SC.v (Value.string (strOf (tupB (Tu.mk (ofLE (List.take 4 b)) (ofLE (List.take 4 (List.drop 4 b))) k v)))))), (72, SV.one (SC.v (Value.string (strOf b))))] [LB.mk [cI 0, cI 0, cI 0, cI 0, cF 0, cS none 0 0, cI 0, cI 0, cF 0, cS none 0 0] 60, LB.mk [cI (ofLE (List.take 4 b)), cI (ofLE (List.take 4 (List.drop 4 b))), cI k.kind, cI k.n, cF bof_1, cS Aot_1 k.t.length cot_1, cI v.kind, cI v.n, cF bof_2, cS Aot_2 v.t.length cot_2] 60] ?_
   refine sne_at 12 (by kernel_rfl : atP _ _ _ 12 false = some (Op.binOp BinOp.neq 9 (tmpO 70) (tmpO 72) 9, 4, some 73, Rg.dr (bitL 13 2047) (bitL 14 8191) 1 12)) rfl rfl htb hby ?_
   by_cases hq : tupB (⟨ofLE (b.take 4), ofLE ((b.drop 4).take 4), k, v⟩ : Tu) = b
   ·have hok : tupOk (⟨ofLE (b.take 4), ofLE ((b.drop 4).take 4), k, v⟩ : Tu) = true := tupB_okT (b := b) (by omega) hq
    have nf_11 : (!decide (tupB (⟨ofLE (b.take 4), ofLE ((b.drop 4).take 4), k, v⟩ : Tu) = b)) = false := by rw [decide_eq_true hq]; rfl
    refine gn 2 Rg.no [kCd (bitL 13 6143), kCd (bitL 12 4095)] [(2, vR 0 0), (4, vR 1 0), (74, vB !decide (tupB (Tu.mk (ofLE (List.take 4 b)) (ofLE (List.take 4 (List.drop 4 b))) k v) = b))] [LB.mk [cI 0, cI 0, cI 0, cI 0, cF 0, cS none 0 0, cI 0, cI 0, cF 0, cS none 0 0] 60, LB.mk [cI (ofLE (List.take 4 b)), cI (ofLE (List.take 4 (List.drop 4 b))), cI k.kind, cI k.n, cF bof_1, cS Aot_1 k.t.length cot_1, cI v.kind, cI v.n, cF bof_2, cS Aot_2 v.t.length cot_2] 60] ?_
    try simp only [flx, hq1, hq3, hkf, hvf, nf_1, nf_2, nf_3, nf_4, nf_5, nf_6, nf_7, nf_12, nf_13, nf_11]
    refine gn 2 Rg.no [kCd (bitL 13 6143), kCd (bitL 12 4095)] [(2, vR 0 0), (4, vR 1 0), (74, vB false)] [LB.mk [cI 0, cI 0, cI 0, cI 0, cF 0, cS none 0 0, cI 0, cI 0, cF 0, cS none 0 0] 60, LB.mk [cI (ofLE (List.take 4 b)), cI (ofLE (List.take 4 (List.drop 4 b))), cI k.kind, cI k.n, cF bof_1, cS Aot_1 k.t.length cot_1, cI v.kind, cI v.n, cF bof_2, cS Aot_2 v.t.length cot_2] 60] ?_
    refine ltk 74 false ?_
    refine gn 1 Rg.no [kCd (bitL 13 8191)] [(2, vR 0 0), (3, vL true)] [LB.mk [cI (ofLE (List.take 4 b)), cI (ofLE (List.take 4 (List.drop 4 b))), cI k.kind, cI k.n, cF bof_1, cS Aot_1 k.t.length cot_1, cI v.kind, cI v.n, cF bof_2, cS Aot_2 v.t.length cot_2] 60] ?_
    refine rtk [SV.agg [cI (ofLE (List.take 4 b)), cI (ofLE (List.take 4 (List.drop 4 b))), cI k.kind, cI k.n, cF bof_1, cS Aot_1 k.t.length cot_1, cI v.kind, cI v.n, cF bof_2, cS Aot_2 v.t.length cot_2], vL true] ?_
    intro L w1 hs
    exact ⟨_, _, _, _, _, _, by rw [hat, if_pos ⟨hok, hq⟩]; rfl, by rw [hat, if_pos ⟨hok, hq⟩]; exact (hs.erases [0]).out (As := [_, _]), by assumption, by rw [hat, if_pos ⟨hok, hq⟩]; exact hkf, by assumption, by rw [hat, if_pos ⟨hok, hq⟩]; exact hvf⟩
   ·have hno : tupR b = none := by rw [hat, if_neg (fun h => hq h.2)]
    have nf_11 : (!decide (tupB (⟨ofLE (b.take 4), ofLE ((b.drop 4).take 4), k, v⟩ : Tu) = b)) = true := by rw [decide_eq_false hq]; rfl
    refine gn 2 Rg.no [kCd (bitL 13 6143), kCd (bitL 12 4095)] [(2, vR 0 0), (4, vR 1 0), (74, vB !decide (tupB (Tu.mk (ofLE (List.take 4 b)) (ofLE (List.take 4 (List.drop 4 b))) k v) = b))] [LB.mk [cI 0, cI 0, cI 0, cI 0, cF 0, cS none 0 0, cI 0, cI 0, cF 0, cS none 0 0] 60, LB.mk [cI (ofLE (List.take 4 b)), cI (ofLE (List.take 4 (List.drop 4 b))), cI k.kind, cI k.n, cF bof_1, cS Aot_1 k.t.length cot_1, cI v.kind, cI v.n, cF bof_2, cS Aot_2 v.t.length cot_2] 60] ?_
    try simp only [flx, hq1, hq3, hkf, hvf, nf_1, nf_2, nf_3, nf_4, nf_5, nf_6, nf_7, nf_12, nf_13, nf_11]
    refine gn 2 Rg.no [kCd (bitL 13 6143), kCd (bitL 12 4095)] [(2, vR 0 0), (4, vR 1 0), (74, vB true)] [LB.mk [cI 0, cI 0, cI 0, cI 0, cF 0, cS none 0 0, cI 0, cI 0, cF 0, cS none 0 0] 60, LB.mk [cI (ofLE (List.take 4 b)), cI (ofLE (List.take 4 (List.drop 4 b))), cI k.kind, cI k.n, cF bof_1, cS Aot_1 k.t.length cot_1, cI v.kind, cI v.n, cF bof_2, cS Aot_2 v.t.length cot_2] 60] ?_
    refine ltk 74 true ?_
    refine gn 1 Rg.no [kCd (bitL 15 22527), kCd (bitL 12 4095)] [(2, vR 0 0), (3, vL false)] [LB.mk [cI 0, cI 0, cI 0, cI 0, cF 0, cS none 0 0, cI 0, cI 0, cF 0, cS none 0 0] 60] ?_
    refine rtk [SV.agg [cI 0, cI 0, cI 0, cI 0, cF 0, cS none 0 0, cI 0, cI 0, cF 0, cS none 0 0], vL false] ?_
    intro L w1 hs
    exact ⟨0, none, 0, 0, none, 0, by rw [hno]; rfl, by rw [hno]; exact (((hs.erases [0, 0, 0]).triv (A := rowA 5 kU8 ([] : List Int) (.slice none 0 0)) rowA_nil).triv (A := rowA 5 kU8 ([] : List Int) (.slice none 0 0)) rowA_nil).out (As := [_, _]), by decide, by rw [hno]; rfl, by decide, by rw [hno]; rfl⟩
  ·refine bstr_atB true (b) (by kernel_rfl : atB _ _ _ true = some (Op.convert 44 9 (tmpO 71), 9, some 72, Rg.dr (bitL 13 2047) (bitL 14 3583) 3 12)) (by kernel_rfl) rfl (fun L w1 hs => rdRow_ext (hs.old 3 rfl) hb) ?_
   refine gn 2 (Rg.dr (bitL 13 2047) (bitL 14 3583) 3 12) [kCd (bitL 13 6143), kCd (bitL 12 4095)] [(2, vR 0 0), (4, vR 1 0), (67, vL false), (69, vS B_1 (tupB (Tu.mk (ofLE (List.take 4 b)) (ofLE (List.take 4 (List.drop 4 b))) (It.mk k.kind k.n k.f k.t) (It.mk v.kind v.n v.f v.t))).length d_1), (72, SV.one (SC.v (Value.string (strOf b))))] [LB.mk [cI 0, cI 0, cI 0, cI 0, cF 0, cS none 0 0, cI 0, cI 0, cF 0, cS none 0 0] 60, LB.mk [cI (ofLE (List.take 4 b)), cI (ofLE (List.take 4 (List.drop 4 b))), cI k.kind, cI k.n, cF bof_1, cS Aot_1 k.t.length cot_1, cI v.kind, cI v.n, cF bof_2, cS Aot_2 v.t.length cot_2] 60] ?_
   refine bstr_atB true (tupB (⟨ofLE (b.take 4), ofLE ((b.drop 4).take 4), k, v⟩ : Tu)) (by kernel_rfl : atB _ _ _ true = some (Op.convert 44 9 (tmpO 69), 9, some 70, Rg.dr (bitL 13 2047) (bitL 14 4095) 2 12)) (by kernel_rfl) rfl (fun L w1 hs => hs.rd 0 rfl) ?_
   refine gn 2 (Rg.dr (bitL 13 2047) (bitL 14 4095) 2 12) [kCd (bitL 13 6143), kCd (bitL 12 4095)] [(2, vR 0 0), (4, vR 1 0), (67, vL false), (70, SV.one (SC.v (Value.string (strOf (tupB (Tu.mk (ofLE (List.take 4 b)) (ofLE (List.take 4 (List.drop 4 b))) k v)))))), (72, SV.one (SC.v (Value.string (strOf b))))] [LB.mk [cI 0, cI 0, cI 0, cI 0, cF 0, cS none 0 0, cI 0, cI 0, cF 0, cS none 0 0] 60, LB.mk [cI (ofLE (List.take 4 b)), cI (ofLE (List.take 4 (List.drop 4 b))), cI k.kind, cI k.n, cF bof_1, cS Aot_1 k.t.length cot_1, cI v.kind, cI v.n, cF bof_2, cS Aot_2 v.t.length cot_2] 60] ?_
   refine sne_at 12 (by kernel_rfl : atP _ _ _ 12 false = some (Op.binOp BinOp.neq 9 (tmpO 70) (tmpO 72) 9, 4, some 73, Rg.dr (bitL 13 2047) (bitL 14 8191) 1 12)) rfl rfl htb hby ?_
   by_cases hq : tupB (⟨ofLE (b.take 4), ofLE ((b.drop 4).take 4), k, v⟩ : Tu) = b
   ·have hok : tupOk (⟨ofLE (b.take 4), ofLE ((b.drop 4).take 4), k, v⟩ : Tu) = true := tupB_okT (b := b) (by omega) hq
    have nf_11 : (!decide (tupB (⟨ofLE (b.take 4), ofLE ((b.drop 4).take 4), k, v⟩ : Tu) = b)) = false := by rw [decide_eq_true hq]; rfl
    refine gn 2 Rg.no [kCd (bitL 13 6143), kCd (bitL 12 4095)] [(2, vR 0 0), (4, vR 1 0), (74, vB !decide (tupB (Tu.mk (ofLE (List.take 4 b)) (ofLE (List.take 4 (List.drop 4 b))) k v) = b))] [LB.mk [cI 0, cI 0, cI 0, cI 0, cF 0, cS none 0 0, cI 0, cI 0, cF 0, cS none 0 0] 60, LB.mk [cI (ofLE (List.take 4 b)), cI (ofLE (List.take 4 (List.drop 4 b))), cI k.kind, cI k.n, cF bof_1, cS Aot_1 k.t.length cot_1, cI v.kind, cI v.n, cF bof_2, cS Aot_2 v.t.length cot_2] 60] ?_
    try simp only [flx, hq1, hq3, hkf, hvf, nf_1, nf_2, nf_3, nf_4, nf_5, nf_6, nf_7, nf_12, nf_13, nf_11]
    refine gn 2 Rg.no [kCd (bitL 13 6143), kCd (bitL 12 4095)] [(2, vR 0 0), (4, vR 1 0), (74, vB false)] [LB.mk [cI 0, cI 0, cI 0, cI 0, cF 0, cS none 0 0, cI 0, cI 0, cF 0, cS none 0 0] 60, LB.mk [cI (ofLE (List.take 4 b)), cI (ofLE (List.take 4 (List.drop 4 b))), cI k.kind, cI k.n, cF bof_1, cS Aot_1 k.t.length cot_1, cI v.kind, cI v.n, cF bof_2, cS Aot_2 v.t.length cot_2] 60] ?_
    refine ltk 74 false ?_
    refine gn 1 Rg.no [kCd (bitL 13 8191)] [(2, vR 0 0), (3, vL true)] [LB.mk [cI (ofLE (List.take 4 b)), cI (ofLE (List.take 4 (List.drop 4 b))), cI k.kind, cI k.n, cF bof_1, cS Aot_1 k.t.length cot_1, cI v.kind, cI v.n, cF bof_2, cS Aot_2 v.t.length cot_2] 60] ?_
    refine rtk [SV.agg [cI (ofLE (List.take 4 b)), cI (ofLE (List.take 4 (List.drop 4 b))), cI k.kind, cI k.n, cF bof_1, cS Aot_1 k.t.length cot_1, cI v.kind, cI v.n, cF bof_2, cS Aot_2 v.t.length cot_2], vL true] ?_
    intro L w1 hs
    exact ⟨_, _, _, _, _, _, by rw [hat, if_pos ⟨hok, hq⟩]; rfl, by rw [hat, if_pos ⟨hok, hq⟩]; exact (hs.erases [0]).out (As := [_, _]), by assumption, by rw [hat, if_pos ⟨hok, hq⟩]; exact hkf, by assumption, by rw [hat, if_pos ⟨hok, hq⟩]; exact hvf⟩
   ·have hno : tupR b = none := by rw [hat, if_neg (fun h => hq h.2)]
    have nf_11 : (!decide (tupB (⟨ofLE (b.take 4), ofLE ((b.drop 4).take 4), k, v⟩ : Tu) = b)) = true := by rw [decide_eq_false hq]; rfl
    refine gn 2 Rg.no [kCd (bitL 13 6143), kCd (bitL 12 4095)] [(2, vR 0 0), (4, vR 1 0), (74, vB !decide (tupB (Tu.mk (ofLE (List.take 4 b)) (ofLE (List.take 4 (List.drop 4 b))) k v) = b))] [LB.mk [cI 0, cI 0, cI 0, cI 0, cF 0, cS none 0 0, cI 0, cI 0, cF 0, cS none 0 0] 60, LB.mk [cI (ofLE (List.take 4 b)), cI (ofLE (List.take 4 (List.drop 4 b))), cI k.kind, cI k.n, cF bof_1, cS Aot_1 k.t.length cot_1, cI v.kind, cI v.n, cF bof_2, cS Aot_2 v.t.length cot_2] 60] ?_
    try simp only [flx, hq1, hq3, hkf, hvf, nf_1, nf_2, nf_3, nf_4, nf_5, nf_6, nf_7, nf_12, nf_13, nf_11]
    refine gn 2 Rg.no [kCd (bitL 13 6143), kCd (bitL 12 4095)] [(2, vR 0 0), (4, vR 1 0), (74, vB true)] [LB.mk [cI 0, cI 0, cI 0, cI 0, cF 0, cS none 0 0, cI 0, cI 0, cF 0, cS none 0 0] 60, LB.mk [cI (ofLE (List.take 4 b)), cI (ofLE (List.take 4 (List.drop 4 b))), cI k.kind, cI k.n, cF bof_1, cS Aot_1 k.t.length cot_1, cI v.kind, cI v.n, cF bof_2, cS Aot_2 v.t.length cot_2] 60] ?_
    refine ltk 74 true ?_
    refine gn 1 Rg.no [kCd (bitL 15 22527), kCd (bitL 12 4095)] [(2, vR 0 0), (3, vL false)] [LB.mk [cI 0, cI 0, cI 0, cI 0, cF 0, cS none 0 0, cI 0, cI 0, cF 0, cS none 0 0] 60] ?_
    refine rtk [SV.agg [cI 0, cI 0, cI 0, cI 0, cF 0, cS none 0 0, cI 0, cI 0, cF 0, cS none 0 0], vL false] ?_
    intro L w1 hs
    exact ⟨0, none, 0, 0, none, 0, by rw [hno]; rfl, by rw [hno]; exact (((hs.erases [0, 0, 0]).triv (A := rowA 5 kU8 ([] : List Int) (.slice none 0 0)) rowA_nil).triv (A := rowA 5 kU8 ([] : List Int) (.slice none 0 0)) rowA_nil).out (As := [_, _]), by decide, by rw [hno]; rfl, by decide, by rw [hno]; rfl⟩
 ·refine bstr_atB true (b) (by kernel_rfl : atB _ _ _ true = some (Op.convert 44 9 (tmpO 71), 9, some 72, Rg.dr (bitL 13 2047) (bitL 14 3327) 4 12)) (by kernel_rfl) rfl (fun L w1 hs => rdRow_ext (hs.old 2 rfl) hb) ?_
  refine gn 2 (Rg.dr (bitL 13 2047) (bitL 14 3327) 4 12) [kCd (bitL 13 6143), kCd (bitL 12 4095)] [(2, vR 0 0), (4, vR 1 0), (67, vL false), (68, SV.agg [cI (ofLE (List.take 4 b)), cI (ofLE (List.take 4 (List.drop 4 b))), cI k.kind, cI k.n, cF bof_1, cS Aot_1 k.t.length cot_1, cI v.kind, cI v.n, cF bof_2, cS Aot_2 v.t.length cot_2]), (72, SV.one (SC.v (Value.string (strOf b))))] [LB.mk [cI 0, cI 0, cI 0, cI 0, cF 0, cS none 0 0, cI 0, cI 0, cF 0, cS none 0 0] 60, LB.mk [cI (ofLE (List.take 4 b)), cI (ofLE (List.take 4 (List.drop 4 b))), cI k.kind, cI k.n, cF bof_1, cS Aot_1 k.t.length cot_1, cI v.kind, cI v.n, cF bof_2, cS Aot_2 v.t.length cot_2] 60] ?_
  refine cak 54 [SV.agg [cI (ofLE (List.take 4 b)), cI (ofLE (List.take 4 (List.drop 4 b))), cI k.kind, cI k.n, cF bof_1, cS Aot_1 k.t.length cot_1, cI v.kind, cI v.n, cF bof_2, cS Aot_2 v.t.length cot_2]] (some 69) (Rg.dr (bitL 13 2047) (bitL 14 3583) 3 12) (fun L w1 hs => (sTupB_ok (Tu.mk (ofLE (List.take 4 b)) (ofLE (List.take 4 (List.drop 4 b))) (It.mk k.kind k.n k.f ((some k).getD zIt0).t) (It.mk v.kind v.n v.f ((some v).getD zIt0).t)) ([Value.int IntKind.i64 (ofLE (List.take 4 b)), Value.int IntKind.i64 (ofLE (List.take 4 (List.drop 4 b))), Value.int IntKind.i64 k.kind, Value.int IntKind.i64 k.n, Value.float FloatKind.f64 bof_1, Value.slice Aot_1 k.t.length cot_1, Value.int IntKind.i64 v.kind, Value.int IntKind.i64 v.n, Value.float FloatKind.f64 bof_2, Value.slice Aot_2 v.t.length cot_2]) w1 (kTu_mk ‹_› hkf (hs.rd 1 rfl) ‹_› hvf (hs.rd 0 rfl)) ‹_› ‹_› ‹_› ‹_›).mono ?_)
  rintro e_ w2_ ⟨B_1, d_1, rfl, hf_⟩
  refine ⟨.one (.v (Value.slice B_1 (tupB (Tu.mk (ofLE (List.take 4 b)) (ofLE (List.take 4 (List.drop 4 b))) (It.mk k.kind k.n k.f ((some k).getD zIt0).t) (It.mk v.kind v.n v.f ((some v).getD zIt0).t))).length d_1)), _, _, rfl, fun _ => hf_.1.block, hs.fresh hf_, ?_⟩
  clear hs hf_
  refine gn 2 (Rg.dr (bitL 13 2047) (bitL 14 3583) 3 12) [kCd (bitL 13 6143), kCd (bitL 12 4095)] [(2, vR 0 0), (4, vR 1 0), (67, vL false), (69, vS B_1 (tupB (Tu.mk (ofLE (List.take 4 b)) (ofLE (List.take 4 (List.drop 4 b))) (It.mk k.kind k.n k.f k.t) (It.mk v.kind v.n v.f v.t))).length d_1), (72, SV.one (SC.v (Value.string (strOf b))))] [LB.mk [cI 0, cI 0, cI 0, cI 0, cF 0, cS none 0 0, cI 0, cI 0, cF 0, cS none 0 0] 60, LB.mk [cI (ofLE (List.take 4 b)), cI (ofLE (List.take 4 (List.drop 4 b))), cI k.kind, cI k.n, cF bof_1, cS Aot_1 k.t.length cot_1, cI v.kind, cI v.n, cF bof_2, cS Aot_2 v.t.length cot_2] 60] ?_
  refine bstr_atB true (tupB (⟨ofLE (b.take 4), ofLE ((b.drop 4).take 4), k, v⟩ : Tu)) (by kernel_rfl : atB _ _ _ true = some (Op.convert 44 9 (tmpO 69), 9, some 70, Rg.dr (bitL 13 2047) (bitL 14 4095) 2 12)) (by kernel_rfl) rfl (fun L w1 hs => hs.rd 0 rfl) ?_
  refine gn 2 (Rg.dr (bitL 13 2047) (bitL 14 4095) 2 12) [kCd (bitL 13 6143), kCd (bitL 12 4095)] [(2, vR 0 0), (4, vR 1 0), (67, vL false), (70, SV.one (SC.v (Value.string (strOf (tupB (Tu.mk (ofLE (List.take 4 b)) (ofLE (List.take 4 (List.drop 4 b))) k v)))))), (72, SV.one (SC.v (Value.string (strOf b))))] [LB.mk [cI 0, cI 0, cI 0, cI 0, cF 0, cS none 0 0, cI 0, cI 0, cF 0, cS none 0 0] 60, LB.mk [cI (ofLE (List.take 4 b)), cI (ofLE (List.take 4 (List.drop 4 b))), cI k.kind, cI k.n, cF bof_1, cS Aot_1 k.t.length cot_1, cI v.kind, cI v.n, cF bof_2, cS Aot_2 v.t.length cot_2] 60] ?_
  refine sne_at 12 (by kernel_rfl : atP _ _ _ 12 false = some (Op.binOp BinOp.neq 9 (tmpO 70) (tmpO 72) 9, 4, some 73, Rg.dr (bitL 13 2047) (bitL 14 8191) 1 12)) rfl rfl htb hby ?_
  by_cases hq : tupB (⟨ofLE (b.take 4), ofLE ((b.drop 4).take 4), k, v⟩ : Tu) = b
  ·have hok : tupOk (⟨ofLE (b.take 4), ofLE ((b.drop 4).take 4), k, v⟩ : Tu) = true := tupB_okT (b := b) (by omega) hq
   have nf_11 : (!decide (tupB (⟨ofLE (b.take 4), ofLE ((b.drop 4).take 4), k, v⟩ : Tu) = b)) = false := by rw [decide_eq_true hq]; rfl
   refine gn 2 Rg.no [kCd (bitL 13 6143), kCd (bitL 12 4095)] [(2, vR 0 0), (4, vR 1 0), (74, vB !decide (tupB (Tu.mk (ofLE (List.take 4 b)) (ofLE (List.take 4 (List.drop 4 b))) k v) = b))] [LB.mk [cI 0, cI 0, cI 0, cI 0, cF 0, cS none 0 0, cI 0, cI 0, cF 0, cS none 0 0] 60, LB.mk [cI (ofLE (List.take 4 b)), cI (ofLE (List.take 4 (List.drop 4 b))), cI k.kind, cI k.n, cF bof_1, cS Aot_1 k.t.length cot_1, cI v.kind, cI v.n, cF bof_2, cS Aot_2 v.t.length cot_2] 60] ?_
   try simp only [flx, hq1, hq3, hkf, hvf, nf_1, nf_2, nf_3, nf_4, nf_5, nf_6, nf_7, nf_12, nf_13, nf_11]
   refine gn 2 Rg.no [kCd (bitL 13 6143), kCd (bitL 12 4095)] [(2, vR 0 0), (4, vR 1 0), (74, vB false)] [LB.mk [cI 0, cI 0, cI 0, cI 0, cF 0, cS none 0 0, cI 0, cI 0, cF 0, cS none 0 0] 60, LB.mk [cI (ofLE (List.take 4 b)), cI (ofLE (List.take 4 (List.drop 4 b))), cI k.kind, cI k.n, cF bof_1, cS Aot_1 k.t.length cot_1, cI v.kind, cI v.n, cF bof_2, cS Aot_2 v.t.length cot_2] 60] ?_
   refine ltk 74 false ?_
   refine gn 1 Rg.no [kCd (bitL 13 8191)] [(2, vR 0 0), (3, vL true)] [LB.mk [cI (ofLE (List.take 4 b)), cI (ofLE (List.take 4 (List.drop 4 b))), cI k.kind, cI k.n, cF bof_1, cS Aot_1 k.t.length cot_1, cI v.kind, cI v.n, cF bof_2, cS Aot_2 v.t.length cot_2] 60] ?_
   refine rtk [SV.agg [cI (ofLE (List.take 4 b)), cI (ofLE (List.take 4 (List.drop 4 b))), cI k.kind, cI k.n, cF bof_1, cS Aot_1 k.t.length cot_1, cI v.kind, cI v.n, cF bof_2, cS Aot_2 v.t.length cot_2], vL true] ?_
   intro L w1 hs
   exact ⟨_, _, _, _, _, _, by rw [hat, if_pos ⟨hok, hq⟩]; rfl, by rw [hat, if_pos ⟨hok, hq⟩]; exact (hs.erases [0]).out (As := [_, _]), by assumption, by rw [hat, if_pos ⟨hok, hq⟩]; exact hkf, by assumption, by rw [hat, if_pos ⟨hok, hq⟩]; exact hvf⟩
  ·have hno : tupR b = none := by rw [hat, if_neg (fun h => hq h.2)]
   have nf_11 : (!decide (tupB (⟨ofLE (b.take 4), ofLE ((b.drop 4).take 4), k, v⟩ : Tu) = b)) = true := by rw [decide_eq_false hq]; rfl
   refine gn 2 Rg.no [kCd (bitL 13 6143), kCd (bitL 12 4095)] [(2, vR 0 0), (4, vR 1 0), (74, vB !decide (tupB (Tu.mk (ofLE (List.take 4 b)) (ofLE (List.take 4 (List.drop 4 b))) k v) = b))] [LB.mk [cI 0, cI 0, cI 0, cI 0, cF 0, cS none 0 0, cI 0, cI 0, cF 0, cS none 0 0] 60, LB.mk [cI (ofLE (List.take 4 b)), cI (ofLE (List.take 4 (List.drop 4 b))), cI k.kind, cI k.n, cF bof_1, cS Aot_1 k.t.length cot_1, cI v.kind, cI v.n, cF bof_2, cS Aot_2 v.t.length cot_2] 60] ?_
   try simp only [flx, hq1, hq3, hkf, hvf, nf_1, nf_2, nf_3, nf_4, nf_5, nf_6, nf_7, nf_12, nf_13, nf_11]
   refine gn 2 Rg.no [kCd (bitL 13 6143), kCd (bitL 12 4095)] [(2, vR 0 0), (4, vR 1 0), (74, vB true)] [LB.mk [cI 0, cI 0, cI 0, cI 0, cF 0, cS none 0 0, cI 0, cI 0, cF 0, cS none 0 0] 60, LB.mk [cI (ofLE (List.take 4 b)), cI (ofLE (List.take 4 (List.drop 4 b))), cI k.kind, cI k.n, cF bof_1, cS Aot_1 k.t.length cot_1, cI v.kind, cI v.n, cF bof_2, cS Aot_2 v.t.length cot_2] 60] ?_
   refine ltk 74 true ?_
   refine gn 1 Rg.no [kCd (bitL 15 22527), kCd (bitL 12 4095)] [(2, vR 0 0), (3, vL false)] [LB.mk [cI 0, cI 0, cI 0, cI 0, cF 0, cS none 0 0, cI 0, cI 0, cF 0, cS none 0 0] 60] ?_
   refine rtk [SV.agg [cI 0, cI 0, cI 0, cI 0, cF 0, cS none 0 0, cI 0, cI 0, cF 0, cS none 0 0], vL false] ?_
   intro L w1 hs
   exact ⟨0, none, 0, 0, none, 0, by rw [hno]; rfl, by rw [hno]; exact (((hs.erases [0, 0, 0]).triv (A := rowA 5 kU8 ([] : List Int) (.slice none 0 0)) rowA_nil).triv (A := rowA 5 kU8 ([] : List Int) (.slice none 0 0)) rowA_nil).out (As := [_, _]), by decide, by rw [hno]; rfl, by decide, by rw [hno]; rfl⟩
end Go.Proofs.YtgleoebogikooaaGreat.Dk
