/- Walks of functions of the program: what each call returns and what it leaves in memory. Conditions: those that each theorem names. -/
import Derived.Test.YtgleoebogikooaaH1
namespace Go.Proofs.Ytgleoebogikooaa.Dk
set_option linter.unusedVariables false
set_option linter.unusedSimpArgs false
open Go.Proofs.Ytgleoebogikooaa.Sx Go.Proofs Go.RowKit
set_option maxRecDepth 100000
set_option maxHeartbeats 1000000
theorem lawTreeOk_ok (t : Tr) (cst : List Value) (w : World) (ht : kTr.rd w.heap t cst) (hw : wTr t) (hby : byTr t) :
    Calls Try.prog 3 #[.agg cst.toArray] w fun e w' => e = .returned (.bool true) ∧ Below w.heap.size w w' := by
  obtain ⟨Atnodes, ctnodes, rfl, hrtnodes⟩ := kTr_inv ht
  refine enter (args := [.agg [.v (.slice Atnodes t.nodes.length ctnodes), .v (.int .i64 t.root)]]) Try.func3 (c := bodyOf Try.f3) rfl rfl (start_LOK _) (start_old w) ?_
  refine go mixed 2000 [1, 7, 8] 1 (St.mk (Rg.sq (bitL 3 3) 2) [kCd (bitL 3 7)] [(1, vR 0 0), (7, SV.agg [cS Atnodes t.nodes.length ctnodes, cI t.root]), (8, vI 1048576)] [LB.mk [cS Atnodes t.nodes.length ctnodes, cI t.root] 24]) (by kernel_rfl) (by kernel_rfl) (by kernel_rfl) ?_
  refine call_at true (by kernel_rfl : atC _ _ _ true = some (12, [SV.agg [cS Atnodes t.nodes.length ctnodes, cI t.root], vI 1048576], some 9, Rg.sq (bitL 3 3) 3)) (by kernel_rfl) (fun L w1 hs => (Go.Proofs.Ytgleoebogikooaa.Dk.szTree_ok (t) ([Value.slice Atnodes t.nodes.length ctnodes, Value.int IntKind.i64 t.root]) (1048576) w1 (Go.Proofs.Ytgleoebogikooaa.Dk.kTr_mk (rdRow_ext (hs.old 0 rfl) hrtnodes)) (by omega) (by omega) (by assumption)).mono ?_)
  rintro e_ w2_ ⟨r_1, rfl, hf_, hq1⟩
  refine ⟨.one (.v (Value.int IntKind.i64 r_1)), _, _, rfl, fun _ => hf_.block, hs.below hf_, ?_⟩
  clear hs hf_
  refine go mixed 2000 [1, 11] 1 (St.mk Rg.no [kCd (bitL 5 23), kCd (bitL 4 15)] [(1, vR 0 0), (11, vB (decide (r_1 < 0)))] [LB.mk [cS Atnodes t.nodes.length ctnodes, cI t.root] 24]) (by kernel_rfl) (by kernel_rfl) (by kernel_rfl) ?_
  refine split_at 11 (b := decide (r_1 < 0)) (by kernel_rfl) (by kernel_rfl) ?_ ?_
  · intro hb1
    replace hb1 := of_decide_eq_true hb1
    refine go mixed 2000 [2] 0 (St.mk Rg.no [kCd (bitL 7 87), kCd (bitL 4 15)] [(2, vL true)] []) (by kernel_rfl) (by kernel_rfl) (by kernel_rfl) ?_
    refine ret_ok (vs := [vL true]) (by kernel_rfl) ?_
    intro L w1 hs
    exact ⟨rfl, hs.out0⟩
  · intro hb1
    replace hb1 := of_decide_eq_false hb1
    refine go mixed 2000 [1, 12] 1 (St.mk (Rg.sq (bitL 5 15) 1) [kCd (bitL 5 31)] [(1, vR 0 0), (12, SV.agg [cS Atnodes t.nodes.length ctnodes, cI t.root])] [LB.mk [cS Atnodes t.nodes.length ctnodes, cI t.root] 24]) (by kernel_rfl) (by kernel_rfl) (by kernel_rfl) ?_
    refine call_at true (by kernel_rfl : atC _ _ _ true = some (14, [SV.agg [cS Atnodes t.nodes.length ctnodes, cI t.root]], some 13, Rg.sq (bitL 5 15) 2)) (by kernel_rfl) (fun L w1 hs => (Go.Proofs.Ytgleoebogikooaa.Dk.toTree_ok (t) ([Value.slice Atnodes t.nodes.length ctnodes, Value.int IntKind.i64 t.root]) w1 (Go.Proofs.Ytgleoebogikooaa.Dk.kTr_mk (rdRow_ext (hs.old 0 rfl) hrtnodes)) (by omega)).mono ?_)
    rintro e_ w2_ ⟨Aonodes_1, conodes_1, rfl, hf_⟩
    refine ⟨.agg [.v (Value.slice Aonodes_1 t.nodes.length conodes_1), .v (Value.int IntKind.i64 t.root)], _, _, rfl, fun _ => hf_.1.block, hs.fresh hf_, ?_⟩
    clear hs hf_
    refine go mixed 2000 [1, 13] 1 (St.mk (Rg.sq (bitL 5 15) 2) [kCd (bitL 5 31)] [(1, vR 0 0), (13, SV.agg [cS Aonodes_1 t.nodes.length conodes_1, cI t.root])] [LB.mk [cS Atnodes t.nodes.length ctnodes, cI t.root] 24]) (by kernel_rfl) (by kernel_rfl) (by kernel_rfl) ?_
    refine call_pure true (by kernel_rfl : atC _ _ _ true = some (13, [SV.agg [cS Aonodes_1 t.nodes.length conodes_1, cI t.root]], some 14, Rg.sq (bitL 5 15) 3)) (by kernel_rfl) (.one (.bo (treeOk t))) (fun L w1 hs => (Go.Proofs.Ytgleoebogikooaa.Dk.sTreeOk_ok (t) ([Value.slice Aonodes_1 t.nodes.length conodes_1, Value.int IntKind.i64 t.root]) w1 (Go.Proofs.Ytgleoebogikooaa.Dk.kTr_mk (hs.rd 0 rfl)) (by omega) (by assumption))) ?_
    refine go mixed 2000 [1, 4, 15] 1 (St.mk (Rg.sq (bitL 6 31) 1) [kCd (bitL 6 63)] [(1, vR 0 0), (4, vB (treeOk t)), (15, SV.agg [cS Atnodes t.nodes.length ctnodes, cI t.root])] [LB.mk [cS Atnodes t.nodes.length ctnodes, cI t.root] 24]) (by kernel_rfl) (by kernel_rfl) (by kernel_rfl) ?_
    refine call_at true (by kernel_rfl : atC _ _ _ true = some (14, [SV.agg [cS Atnodes t.nodes.length ctnodes, cI t.root]], some 16, Rg.sq (bitL 6 31) 2)) (by kernel_rfl) (fun L w1 hs => (Go.Proofs.Ytgleoebogikooaa.Dk.toTree_ok (t) ([Value.slice Atnodes t.nodes.length ctnodes, Value.int IntKind.i64 t.root]) w1 (Go.Proofs.Ytgleoebogikooaa.Dk.kTr_mk (rdRow_ext (hs.old 1 rfl) hrtnodes)) (by omega)).mono ?_)
    rintro e_ w2_ ⟨Aonodes_2, conodes_2, rfl, hf_⟩
    refine ⟨.agg [.v (Value.slice Aonodes_2 t.nodes.length conodes_2), .v (Value.int IntKind.i64 t.root)], _, _, rfl, fun _ => hf_.1.block, hs.fresh hf_, ?_⟩
    clear hs hf_
    refine go mixed 2000 [1, 4, 5, 17] 2 (St.mk (Rg.sq (bitL 7 63) 1) [kCd (bitL 7 127)] [(1, vR 0 0), (4, vB (treeOk t)), (5, vR 1 0), (17, SV.agg [cS Aonodes_2 t.nodes.length conodes_2, cI t.root])] [LB.mk [cS Atnodes t.nodes.length ctnodes, cI t.root] 24, LB.mk [cS Aonodes_2 t.nodes.length conodes_2, cI t.root] 29]) (by kernel_rfl) (by kernel_rfl) (by kernel_rfl) ?_
    refine call_pure true (by kernel_rfl : atC _ _ _ true = some (15, [SV.agg [cS Aonodes_2 t.nodes.length conodes_2, cI t.root]], some 18, Rg.sq (bitL 7 63) 2)) (by kernel_rfl) (.one (.bo (treeOk t))) (fun L w1 hs => (Go.Proofs.Ytgleoebogikooaa.Dk.iTreeOk_ok (t) ([Value.slice Aonodes_2 t.nodes.length conodes_2, Value.int IntKind.i64 t.root]) w1 (Go.Proofs.Ytgleoebogikooaa.Dk.kTr_mk (hs.rd 0 rfl)) (by omega) (by assumption))) ?_
    refine go mixed 2000 [1, 5, 21] 2 (St.mk Rg.no [kCd (bitL 9 383), kCd (bitL 8 255)] [(1, vR 0 0), (5, vR 1 0), (21, vB !treeOk t == treeOk t)] [LB.mk [cS Atnodes t.nodes.length ctnodes, cI t.root] 24, LB.mk [cS Aonodes_2 t.nodes.length conodes_2, cI t.root] 29]) (by kernel_rfl) (by kernel_rfl) (by kernel_rfl) ?_
    refine split_at 21 (b := !treeOk t == treeOk t) (by kernel_rfl) (by kernel_rfl) ?_ ?_
    · intro hb2
      try simp only [decide_eq_true_eq, decide_eq_false_iff_not, Bool.not_eq_true', Bool.not_eq_false', Bool.and_eq_true, Bool.or_eq_true, Bool.and_eq_false_imp, bne_iff_ne, beq_iff_eq, bne_eq_false_iff_eq, beq_eq_false_iff_ne, ne_eq, Decidable.not_not, Int.not_le, Int.not_lt, Nat.not_le, Nat.not_lt] at hb2
      refine go mixed 2000 [2] 0 (St.mk Rg.no [kCd (bitL 11 1407), kCd (bitL 8 255)] [(2, vL false)] []) (by kernel_rfl) (by kernel_rfl) (by kernel_rfl) ?_
      (exfalso; simp_all)
    · intro hb2
      try simp only [decide_eq_true_eq, decide_eq_false_iff_not, Bool.not_eq_true', Bool.not_eq_false', Bool.and_eq_true, Bool.or_eq_true, Bool.and_eq_false_imp, bne_iff_ne, beq_iff_eq, bne_eq_false_iff_eq, beq_eq_false_iff_ne, ne_eq, Decidable.not_not, Int.not_le, Int.not_lt, Nat.not_le, Nat.not_lt] at hb2
      refine go mixed 2000 [22, 23] 0 (St.mk (Rg.dr (bitL 10 255) (bitL 5 3) 3 2) [kCd (bitL 10 767), kCd (bitL 9 511)] [(22, SV.agg [cS Aonodes_2 t.nodes.length conodes_2, cI t.root]), (23, SV.agg [cS Atnodes t.nodes.length ctnodes, cI t.root])] []) (by kernel_rfl) (by kernel_rfl) (by kernel_rfl) ?_
      refine call_at true (by kernel_rfl : atC _ _ _ true = some (14, [SV.agg [cS Atnodes t.nodes.length ctnodes, cI t.root]], some 24, Rg.dr (bitL 10 255) (bitL 5 7) 2 10)) (by kernel_rfl) (fun L w1 hs => (Go.Proofs.Ytgleoebogikooaa.Dk.toTree_ok (t) ([Value.slice Atnodes t.nodes.length ctnodes, Value.int IntKind.i64 t.root]) w1 (Go.Proofs.Ytgleoebogikooaa.Dk.kTr_mk (rdRow_ext (hs.old 2 rfl) hrtnodes)) (by omega)).mono ?_)
      rintro e_ w2_ ⟨Aonodes_3, conodes_3, rfl, hf_⟩
      refine ⟨.agg [.v (Value.slice Aonodes_3 t.nodes.length conodes_3), .v (Value.int IntKind.i64 t.root)], _, _, rfl, fun _ => hf_.1.block, hs.fresh hf_, ?_⟩
      clear hs hf_
      refine go mixed 2000 [22, 24] 0 (St.mk (Rg.dr (bitL 10 255) (bitL 5 7) 2 10) [kCd (bitL 10 767), kCd (bitL 9 511)] [(22, SV.agg [cS Aonodes_2 t.nodes.length conodes_2, cI t.root]), (24, SV.agg [cS Aonodes_3 t.nodes.length conodes_3, cI t.root])] []) (by kernel_rfl) (by kernel_rfl) (by kernel_rfl) ?_
      refine call_pure true (by kernel_rfl : atC _ _ _ true = some (16, [SV.agg [cS Aonodes_2 t.nodes.length conodes_2, cI t.root], SV.agg [cS Aonodes_3 t.nodes.length conodes_3, cI t.root]], some 25, Rg.dr (bitL 10 255) (bitL 5 15) 1 10)) (by kernel_rfl) (.one (.bo (true))) (fun L w1 hs => (Go.Proofs.Ytgleoebogikooaa.Dk.eqTree_ok (t) ([Value.slice Aonodes_2 t.nodes.length conodes_2, Value.int IntKind.i64 t.root]) ([Value.slice Aonodes_3 t.nodes.length conodes_3, Value.int IntKind.i64 t.root]) w1 (Go.Proofs.Ytgleoebogikooaa.Dk.kTr_mk (hs.rd 1 rfl)) (Go.Proofs.Ytgleoebogikooaa.Dk.kTr_mk (hs.rd 0 rfl)) (by omega))) ?_
      refine go mixed 2000 [26] 0 (St.mk Rg.no [kCd (bitL 10 767), kCd (bitL 9 511)] [(26, vB false)] []) (by kernel_rfl) (by kernel_rfl) (by kernel_rfl) ?_
      refine lit_at 26 (b := false) (by kernel_rfl) ?_
      refine go mixed 2000 [2] 0 (St.mk Rg.no [kCd (bitL 10 1023)] [(2, vL true)] []) (by kernel_rfl) (by kernel_rfl) (by kernel_rfl) ?_
      refine ret_ok (vs := [vL true]) (by kernel_rfl) ?_
      intro L w1 hs
      exact ⟨rfl, (hs.erases [0, 0, 0]).out0⟩

end Go.Proofs.Ytgleoebogikooaa.Dk
