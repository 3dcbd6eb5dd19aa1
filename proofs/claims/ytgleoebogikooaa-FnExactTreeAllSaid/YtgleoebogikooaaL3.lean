/- Walks of functions of the program: what each call returns and what it leaves in memory. Conditions: those that each theorem names. -/
import Derived.Test.YtgleoebogikooaaM6
namespace Go.Proofs.Ytgleoebogikooaa.Dk
set_option linter.unusedVariables false
set_option linter.unusedSimpArgs false
open Go.Proofs.Ytgleoebogikooaa.Sx Go.Proofs Go.RowKit
set_option maxRecDepth 100000
set_option maxHeartbeats 1000000
theorem lawTreeAll_ok (t : Tr) (cst : List Value) (w : World) (ht : kTr.rd w.heap t cst) (hw : wTr t) (hby : byTr t) :
    Calls Try.prog 5 #[.agg cst.toArray] w fun e w' => e = .returned (.bool true) ∧ Below w.heap.size w w' := by
  obtain ⟨Atnodes, ctnodes, rfl, hrtnodes⟩ := kTr_inv ht
  refine enter (args := [.agg [.v (.slice Atnodes t.nodes.length ctnodes), .v (.int .i64 t.root)]]) Try.func5 (c := bodyOf Try.f5) rfl rfl (start_LOK _) (start_old w) ?_
  skip
  refine go mixed 2000 [1, 11, 12] 1 (St.mk (Rg.sq (bitL 3 3) 2) [kCd (bitL 3 7)] [(1, vR 0 0), (11, SV.agg [cS Atnodes t.nodes.length ctnodes, cI t.root]), (12, vI 1048576)] [LB.mk [cS Atnodes t.nodes.length ctnodes, cI t.root] 24]) (by kernel_rfl) (by kernel_rfl) (by kernel_rfl) ?_
  refine call_at true (by kernel_rfl : atC _ _ _ true = some (12, [SV.agg [cS Atnodes t.nodes.length ctnodes, cI t.root], vI 1048576], some 13, Rg.sq (bitL 3 3) 3)) (by kernel_rfl) (fun L w1 hs => (Go.Proofs.Ytgleoebogikooaa.Dk.szTree_ok (t) ([Value.slice Atnodes t.nodes.length ctnodes, Value.int IntKind.i64 t.root]) (1048576) w1 (Go.Proofs.Ytgleoebogikooaa.Dk.kTr_mk (rdRow_ext (hs.old 0 rfl) hrtnodes)) (by omega) (by omega) (by assumption)).mono ?_)
  rintro e_ w2_ ⟨r_1, rfl, hf_, hq1⟩
  refine ⟨.one (.v (Value.int IntKind.i64 r_1)), _, _, rfl, fun _ => hf_.block, hs.below hf_, ?_⟩
  clear hs hf_
  refine go mixed 2000 [1, 15] 1 (St.mk Rg.no [kCd (bitL 5 23), kCd (bitL 4 15)] [(1, vR 0 0), (15, vB (decide (r_1 < 0)))] [LB.mk [cS Atnodes t.nodes.length ctnodes, cI t.root] 24]) (by kernel_rfl) (by kernel_rfl) (by kernel_rfl) ?_
  skip
  by_cases hneg : r_1 < 0
  · refine go mixed 2000 [1, 15] 1 (St.mk Rg.no [kCd (bitL 5 23), kCd (bitL 4 15)] [(1, vR 0 0), (15, vB (decide (r_1 < 0)))] [LB.mk [cS Atnodes t.nodes.length ctnodes, cI t.root] 24]) (by kernel_rfl) (by kernel_rfl) (by kernel_rfl) ?_
    refine split_at 15 (b := decide (r_1 < 0)) (by kernel_rfl) (by kernel_rfl) ?_ ?_
    · intro hb1
      replace hb1 := of_decide_eq_true hb1
      refine go mixed 2000 [2] 0 (St.mk Rg.no [kCd (bitL 7 87), kCd (bitL 4 15)] [(2, vL true)] []) (by kernel_rfl) (by kernel_rfl) (by kernel_rfl) ?_
      refine ret_ok (vs := [vL true]) (by kernel_rfl) ?_
      intro L w1 hs
      exact ⟨rfl, hs.out0⟩
    · intro hb1
      replace hb1 := of_decide_eq_false hb1
      (exfalso; omega)
  have hzT : zTr t ≤ 1048576 := by omega
  have hkl := key_le hzT
  have hzz : zTr t = zRow zNd t.nodes := rfl
  have hz1 : zRow zNd t.nodes = t.nodes.length + (t.nodes.map zNd).sum := rfl
  have hn300 : (allR t).length ≤ 1200 := by
    unfold allR
    split
    · rename_i h
      have h1 := allR_len t
      unfold allR at h1
      rw [if_pos h] at h1
      unfold treeOk at h
      simp only [Bool.and_eq_true, decide_eq_true_eq] at h
      omega
    · simp
  have hal_ : (allR t).length ≤ 1048576 := by omega
  have hak : ∀ x ∈ allR t, x.key.t.length ≤ 1048576 := fun x hx => by
    obtain ⟨n, hn, he⟩ := allR_mem hx
    exact hkl n hn x he
  have hne : nEs (allR t) ≤ 68719476736 := by
    have h1 := nEs_le hak
    have h2 : (allR t).length * (4 + 1048576) ≤ 1200 * (4 + 1048576) := Nat.mul_le_mul_right _ hn300
    omega
  have hx_ : mkEs (allR t) 1 = mkEs (allR t) 1 := rfl
  have hnn := nNs_z t.nodes
  refine go mixed 2000 [1, 15] 1 (St.mk Rg.no [kCd (bitL 5 23), kCd (bitL 4 15)] [(1, vR 0 0), (15, vB (decide (r_1 < 0)))] [LB.mk [cS Atnodes t.nodes.length ctnodes, cI t.root] 24]) (by kernel_rfl) (by kernel_rfl) (by kernel_rfl) ?_
  refine split_at 15 (b := decide (r_1 < 0)) (by kernel_rfl) (by kernel_rfl) ?_ ?_
  · intro hb1
    replace hb1 := of_decide_eq_true hb1
    (exfalso; omega)
  intro hb1
  replace hb1 := of_decide_eq_false hb1
  refine go mixed 2000 [1, 16] 1 (St.mk (Rg.sq (bitL 5 15) 1) [kCd (bitL 5 31)] [(1, vR 0 0), (16, SV.agg [cS Atnodes t.nodes.length ctnodes, cI t.root])] [LB.mk [cS Atnodes t.nodes.length ctnodes, cI t.root] 24]) (by kernel_rfl) (by kernel_rfl) (by kernel_rfl) ?_
  refine call_at true (by kernel_rfl : atC _ _ _ true = some (14, [SV.agg [cS Atnodes t.nodes.length ctnodes, cI t.root]], some 17, Rg.sq (bitL 5 15) 2)) (by kernel_rfl) (fun L w1 hs => (Go.Proofs.Ytgleoebogikooaa.Dk.toTree_ok (t) ([Value.slice Atnodes t.nodes.length ctnodes, Value.int IntKind.i64 t.root]) w1 (Go.Proofs.Ytgleoebogikooaa.Dk.kTr_mk (rdRow_ext (hs.old 0 rfl) hrtnodes)) (by assumption)).mono ?_)
  rintro e_ w2_ ⟨Aonodes_1, conodes_1, rfl, hf_⟩
  refine ⟨.agg [.v (Value.slice Aonodes_1 t.nodes.length conodes_1), .v (Value.int IntKind.i64 t.root)], _, _, rfl, fun _ => hf_.1.block, hs.fresh hf_, ?_⟩
  clear hs hf_
  refine go mixed 2000 [1, 17] 1 (St.mk (Rg.sq (bitL 5 15) 2) [kCd (bitL 5 31)] [(1, vR 0 0), (17, SV.agg [cS Aonodes_1 t.nodes.length conodes_1, cI t.root])] [LB.mk [cS Atnodes t.nodes.length ctnodes, cI t.root] 24]) (by kernel_rfl) (by kernel_rfl) (by kernel_rfl) ?_
  refine call_at true (by kernel_rfl : atC _ _ _ true = some (19, [SV.agg [cS Aonodes_1 t.nodes.length conodes_1, cI t.root]], some 18, Rg.sq (bitL 5 15) 3)) (by kernel_rfl) (fun L w1 hs => (Go.Proofs.Ytgleoebogikooaa.Dk.sTreeAll_ok (t) ([Value.slice Aonodes_1 t.nodes.length conodes_1, Value.int IntKind.i64 t.root]) w1 (Go.Proofs.Ytgleoebogikooaa.Dk.kTr_mk (hs.rd 0 rfl)) (by assumption) (by assumption)).mono ?_)
  rintro e_ w2_ ⟨B_1, d_1, rfl, hf_⟩
  refine ⟨.one (.v (Value.slice B_1 (allR t).length d_1)), _, _, rfl, fun _ => hf_.1.block, hs.fresh hf_, ?_⟩
  clear hs hf_
  refine go mixed 2000 [1, 4, 19] 1 (St.mk (Rg.sq (bitL 6 31) 1) [kCd (bitL 6 63)] [(1, vR 0 0), (4, vS B_1 (allR t).length d_1), (19, SV.agg [cS Atnodes t.nodes.length ctnodes, cI t.root])] [LB.mk [cS Atnodes t.nodes.length ctnodes, cI t.root] 24]) (by kernel_rfl) (by kernel_rfl) (by kernel_rfl) ?_
  refine call_at true (by kernel_rfl : atC _ _ _ true = some (14, [SV.agg [cS Atnodes t.nodes.length ctnodes, cI t.root]], some 20, Rg.sq (bitL 6 31) 2)) (by kernel_rfl) (fun L w1 hs => (Go.Proofs.Ytgleoebogikooaa.Dk.toTree_ok (t) ([Value.slice Atnodes t.nodes.length ctnodes, Value.int IntKind.i64 t.root]) w1 (Go.Proofs.Ytgleoebogikooaa.Dk.kTr_mk (rdRow_ext (hs.old 2 rfl) hrtnodes)) (by assumption)).mono ?_)
  rintro e_ w2_ ⟨Aonodes_2, conodes_2, rfl, hf_⟩
  refine ⟨.agg [.v (Value.slice Aonodes_2 t.nodes.length conodes_2), .v (Value.int IntKind.i64 t.root)], _, _, rfl, fun _ => hf_.1.block, hs.fresh hf_, ?_⟩
  clear hs hf_
  refine go mixed 2000 [1, 4, 5, 21] 2 (St.mk (Rg.sq (bitL 7 63) 1) [kCd (bitL 7 127)] [(1, vR 0 0), (4, vS B_1 (allR t).length d_1), (5, vR 1 0), (21, SV.agg [cS Aonodes_2 t.nodes.length conodes_2, cI t.root])] [LB.mk [cS Atnodes t.nodes.length ctnodes, cI t.root] 24, LB.mk [cS Aonodes_2 t.nodes.length conodes_2, cI t.root] 29]) (by kernel_rfl) (by kernel_rfl) (by kernel_rfl) ?_
  refine call_at true (by kernel_rfl : atC _ _ _ true = some (20, [SV.agg [cS Aonodes_2 t.nodes.length conodes_2, cI t.root]], some 22, Rg.sq (bitL 7 63) 2)) (by kernel_rfl) (fun L w1 hs => (Go.Proofs.Ytgleoebogikooaa.Dk.iTreeAll_ok (t) ([Value.slice Aonodes_2 t.nodes.length conodes_2, Value.int IntKind.i64 t.root]) w1 (Go.Proofs.Ytgleoebogikooaa.Dk.kTr_mk (hs.rd 0 rfl)) (by assumption) (by assumption)).mono ?_)
  rintro e_ w2_ ⟨B_2, d_2, rfl, hf_⟩
  refine ⟨.one (.v (Value.slice B_2 (allR t).length d_2)), _, _, rfl, fun _ => hf_.1.block, hs.fresh hf_, ?_⟩
  clear hs hf_
  refine go mixed 2000 [1, 4, 5, 6, 23, 24] 2 (St.mk (Rg.sq (bitL 9 127) 2) [kCd (bitL 9 383), kCd (bitL 8 255)] [(1, vR 0 0), (4, vS B_1 (allR t).length d_1), (5, vR 1 0), (6, vS B_2 (allR t).length d_2), (23, vS B_2 (allR t).length d_2), (24, vS B_1 (allR t).length d_1)] [LB.mk [cS Atnodes t.nodes.length ctnodes, cI t.root] 24, LB.mk [cS Aonodes_2 t.nodes.length conodes_2, cI t.root] 29]) (by kernel_rfl) (by kernel_rfl) (by kernel_rfl) ?_
  refine call_pure true (by kernel_rfl : atC _ _ _ true = some (21, [vS B_2 (allR t).length d_2, vS B_1 (allR t).length d_1], some 25, Rg.sq (bitL 9 127) 3)) (by kernel_rfl) (.one (.bo (true))) (fun L w1 hs => (Go.Proofs.Ytgleoebogikooaa.Dk.eqEntryS2_ok (allR t) (Value.slice B_2 (allR t).length d_2) (Value.slice B_1 (allR t).length d_1) w1 (hs.rd 0 rfl) (hs.rd 2 rfl) (by assumption) (by assumption))) ?_
  refine go mixed 2000 [1, 4, 5, 6, 26] 2 (St.mk Rg.no [kCd (bitL 9 383), kCd (bitL 8 255)] [(1, vR 0 0), (4, vS B_1 (allR t).length d_1), (5, vR 1 0), (6, vS B_2 (allR t).length d_2), (26, vB false)] [LB.mk [cS Atnodes t.nodes.length ctnodes, cI t.root] 24, LB.mk [cS Aonodes_2 t.nodes.length conodes_2, cI t.root] 29]) (by kernel_rfl) (by kernel_rfl) (by kernel_rfl) ?_
  refine lit_at 26 (b := false) (by kernel_rfl) ?_
  refine go mixed 2000 [1, 4, 5, 6, 27, 28] 2 (St.mk (Rg.dr (bitL 10 255) (bitL 5 3) 3 2) [kCd (bitL 10 767), kCd (bitL 9 511)] [(1, vR 0 0), (4, vS B_1 (allR t).length d_1), (5, vR 1 0), (6, vS B_2 (allR t).length d_2), (27, SV.agg [cS Aonodes_2 t.nodes.length conodes_2, cI t.root]), (28, SV.agg [cS Atnodes t.nodes.length ctnodes, cI t.root])] [LB.mk [cS Atnodes t.nodes.length ctnodes, cI t.root] 24, LB.mk [cS Aonodes_2 t.nodes.length conodes_2, cI t.root] 29]) (by kernel_rfl) (by kernel_rfl) (by kernel_rfl) ?_
  refine call_at true (by kernel_rfl : atC _ _ _ true = some (14, [SV.agg [cS Atnodes t.nodes.length ctnodes, cI t.root]], some 29, Rg.dr (bitL 10 255) (bitL 5 7) 2 12)) (by kernel_rfl) (fun L w1 hs => (Go.Proofs.Ytgleoebogikooaa.Dk.toTree_ok (t) ([Value.slice Atnodes t.nodes.length ctnodes, Value.int IntKind.i64 t.root]) w1 (Go.Proofs.Ytgleoebogikooaa.Dk.kTr_mk (rdRow_ext (hs.old 4 rfl) hrtnodes)) (by assumption)).mono ?_)
  rintro e_ w2_ ⟨Aonodes_3, conodes_3, rfl, hf_⟩
  refine ⟨.agg [.v (Value.slice Aonodes_3 t.nodes.length conodes_3), .v (Value.int IntKind.i64 t.root)], _, _, rfl, fun _ => hf_.1.block, hs.fresh hf_, ?_⟩
  clear hs hf_
  refine go mixed 2000 [1, 4, 5, 6, 27, 29] 2 (St.mk (Rg.dr (bitL 10 255) (bitL 5 7) 2 12) [kCd (bitL 10 767), kCd (bitL 9 511)] [(1, vR 0 0), (4, vS B_1 (allR t).length d_1), (5, vR 1 0), (6, vS B_2 (allR t).length d_2), (27, SV.agg [cS Aonodes_2 t.nodes.length conodes_2, cI t.root]), (29, SV.agg [cS Aonodes_3 t.nodes.length conodes_3, cI t.root])] [LB.mk [cS Atnodes t.nodes.length ctnodes, cI t.root] 24, LB.mk [cS Aonodes_2 t.nodes.length conodes_2, cI t.root] 29]) (by kernel_rfl) (by kernel_rfl) (by kernel_rfl) ?_
  refine call_pure true (by kernel_rfl : atC _ _ _ true = some (16, [SV.agg [cS Aonodes_2 t.nodes.length conodes_2, cI t.root], SV.agg [cS Aonodes_3 t.nodes.length conodes_3, cI t.root]], some 30, Rg.dr (bitL 10 255) (bitL 5 15) 1 12)) (by kernel_rfl) (.one (.bo (true))) (fun L w1 hs => (Go.Proofs.Ytgleoebogikooaa.Dk.eqTree_ok (t) ([Value.slice Aonodes_2 t.nodes.length conodes_2, Value.int IntKind.i64 t.root]) ([Value.slice Aonodes_3 t.nodes.length conodes_3, Value.int IntKind.i64 t.root]) w1 (Go.Proofs.Ytgleoebogikooaa.Dk.kTr_mk (hs.rd 2 rfl)) (Go.Proofs.Ytgleoebogikooaa.Dk.kTr_mk (hs.rd 0 rfl)) (by assumption))) ?_
  refine go mixed 2000 [1, 4, 5, 6, 31] 2 (St.mk Rg.no [kCd (bitL 10 767), kCd (bitL 9 511)] [(1, vR 0 0), (4, vS B_1 (allR t).length d_1), (5, vR 1 0), (6, vS B_2 (allR t).length d_2), (31, vB false)] [LB.mk [cS Atnodes t.nodes.length ctnodes, cI t.root] 24, LB.mk [cS Aonodes_2 t.nodes.length conodes_2, cI t.root] 29]) (by kernel_rfl) (by kernel_rfl) (by kernel_rfl) ?_
  refine lit_at 31 (b := false) (by kernel_rfl) ?_
  refine go mixed 2000 [1, 4, 6, 32, 33] 1 (St.mk (Rg.sq (bitL 11 1023) 2) [kCd (bitL 11 2047)] [(1, vR 0 0), (4, vS B_1 (allR t).length d_1), (6, vS B_2 (allR t).length d_2), (32, SV.agg [cS Aonodes_2 t.nodes.length conodes_2, cI t.root]), (33, vI 1)] [LB.mk [cS Atnodes t.nodes.length ctnodes, cI t.root] 24]) (by kernel_rfl) (by kernel_rfl) (by kernel_rfl) ?_
  refine h_bring 2 rfl ?_
  refine call_mut (A := [rowA 96 kNd t.nodes (.slice Aonodes_2 t.nodes.length conodes_2)]) (by kernel_rfl : atC _ _ _ false = some (22, [SV.agg [cS Aonodes_2 t.nodes.length conodes_2, cI t.root], vI 1], some 34, Rg.sq (bitL 11 1023) 3)) (by kernel_rfl) (fun L w1 S1 hs hA hS1 => (markTree_ok t _ _ 1 w1 S1 hA hS1 hzT (by omega)).mono ?_)
  rintro e w2 ⟨rfl, hm⟩
  refine ⟨.one (.v (.int .i64 _)), _, rfl, hm, ?_⟩
  clear hm hs hA hS1
  refine go mixed 2000 [1, 4, 6, 37] 1 (St.mk (Rg.sq (bitL 13 2047) 3) [kCd (bitL 13 6143), kCd (bitL 12 4095)] [(1, vR 0 0), (4, vS B_1 (allR t).length d_1), (6, vS B_2 (allR t).length d_2), (37, vB (decide (1 + (↑(nNs t.nodes) : Int) < 0)))] [LB.mk [cS Atnodes t.nodes.length ctnodes, cI t.root] 24]) (by kernel_rfl) (by kernel_rfl) (by kernel_rfl) ?_
  refine split_at 37 (b := decide (1 + (↑(nNs t.nodes) : Int) < 0)) (by kernel_rfl) (by kernel_rfl) ?_ ?_
  · intro hb2
    replace hb2 := of_decide_eq_true hb2
    (exfalso; omega)
  intro hb2
  replace hb2 := of_decide_eq_false hb2
  refine go mixed 2000 [1, 4, 6, 37, 38, 39] 1 (St.mk (Rg.sq (bitL 13 2047) 5) [kCd (bitL 13 6143), kCd (bitL 12 4095)] [(1, vR 0 0), (4, vS B_1 (allR t).length d_1), (6, vS B_2 (allR t).length d_2), (37, vL false), (38, vS B_2 (allR t).length d_2), (39, vS B_1 (allR t).length d_1)] [LB.mk [cS Atnodes t.nodes.length ctnodes, cI t.root] 24]) (by kernel_rfl) (by kernel_rfl) (by kernel_rfl) ?_
  refine call_pure true (by kernel_rfl : atC _ _ _ true = some (21, [vS B_2 (allR t).length d_2, vS B_1 (allR t).length d_1], some 40, Rg.sq (bitL 13 2047) 6)) (by kernel_rfl) (.one (.bo (true))) (fun L w1 hs => (Go.Proofs.Ytgleoebogikooaa.Dk.eqEntryS2_ok (allR t) (Value.slice B_2 (allR t).length d_2) (Value.slice B_1 (allR t).length d_1) w1 (hs.rd 1 rfl) (hs.rd 2 rfl) (by assumption) (by assumption))) ?_
  refine go mixed 2000 [1, 4, 6, 42] 1 (St.mk Rg.no [kCd (bitL 13 6143), kCd (bitL 12 4095)] [(1, vR 0 0), (4, vS B_1 (allR t).length d_1), (6, vS B_2 (allR t).length d_2), (42, vB false)] [LB.mk [cS Atnodes t.nodes.length ctnodes, cI t.root] 24]) (by kernel_rfl) (by kernel_rfl) (by kernel_rfl) ?_
  refine lit_at 42 (b := false) (by kernel_rfl) ?_
  refine go mixed 2000 [1, 4, 6, 43, 44] 1 (St.mk (Rg.sq (bitL 14 8191) 2) [kCd (bitL 14 16383)] [(1, vR 0 0), (4, vS B_1 (allR t).length d_1), (6, vS B_2 (allR t).length d_2), (43, vS B_2 (allR t).length d_2), (44, vI 1)] [LB.mk [cS Atnodes t.nodes.length ctnodes, cI t.root] 24]) (by kernel_rfl) (by kernel_rfl) (by kernel_rfl) ?_
  refine h_bring 1 rfl ?_
  refine call_mut (A := [rowA 101 kEn (allR t) (.slice B_2 (allR t).length d_2)]) (by kernel_rfl : atC _ _ _ false = some (23, [vS B_2 (allR t).length d_2, vI 1], some 45, Rg.sq (bitL 14 8191) 3)) (by kernel_rfl) (fun L w1 S1 hs hA hS1 => (markEntryS_ok (allR t) _ _ 1 w1 S1 hA hS1 (by omega) (by omega) (by assumption) (by omega)).mono ?_)
  rintro e w2 ⟨rfl, hm⟩
  refine ⟨.one (.v (.int .i64 _)), _, rfl, hm, ?_⟩
  clear hm hs hA hS1
  refine go mixed 2000 [1, 4, 6, 8, 46, 47] 1 (St.mk (Rg.sq (bitL 16 32767) 2) [kCd (bitL 16 65535)] [(1, vR 0 0), (4, vS B_1 (allR t).length d_1), (6, vS B_2 (allR t).length d_2), (8, vI (1 + (↑(nEs (allR t)) : Int))), (46, vS B_2 (allR t).length d_2), (47, vI 1)] [LB.mk [cS Atnodes t.nodes.length ctnodes, cI t.root] 24]) (by kernel_rfl) (by kernel_rfl) (by kernel_rfl) ?_
  refine call_pure true (by kernel_rfl : atC _ _ _ true = some (24, [vS B_2 (allR t).length d_2, vI 1], some 48, Rg.sq (bitL 16 32767) 3)) (by kernel_rfl) (.one (.v (Value.int IntKind.i64 (1 + (↑(nEs (allR t)) : Int))))) (fun L w1 hs => (Go.Proofs.Ytgleoebogikooaa.Dk.heldEntryS_ok (mkEs (allR t) 1) (Value.slice B_2 (allR t).length d_2) (1) w1 (hs.rd 0 rfl) (allR t) hx_ (by assumption) (by assumption) (by assumption) (by omega))) ?_
  refine go mixed 2000 [1, 4, 6, 8, 9, 50] 1 (St.mk Rg.no [kCd (bitL 18 196607), kCd (bitL 17 131071)] [(1, vR 0 0), (4, vS B_1 (allR t).length d_1), (6, vS B_2 (allR t).length d_2), (8, vI (1 + (↑(nEs (allR t)) : Int))), (9, vI (1 + (↑(nEs (allR t)) : Int))), (50, vB (decide (1 + (↑(nEs (allR t)) : Int) < 0)))] [LB.mk [cS Atnodes t.nodes.length ctnodes, cI t.root] 24]) (by kernel_rfl) (by kernel_rfl) (by kernel_rfl) ?_
  refine split_at 50 (b := decide (1 + (↑(nEs (allR t)) : Int) < 0)) (by kernel_rfl) (by kernel_rfl) ?_ ?_
  · intro hb3
    replace hb3 := of_decide_eq_true hb3
    (exfalso; omega)
  · intro hb3
    replace hb3 := of_decide_eq_false hb3
    refine go mixed 2000 [1, 4, 6, 8, 53] 1 (St.mk Rg.no [kCd (bitL 19 393215), kCd (bitL 18 262143)] [(1, vR 0 0), (4, vS B_1 (allR t).length d_1), (6, vS B_2 (allR t).length d_2), (8, vI (1 + (↑(nEs (allR t)) : Int))), (53, vB (1 + (↑(nEs (allR t)) : Int) != 1 + (↑(nEs (allR t)) : Int)))] [LB.mk [cS Atnodes t.nodes.length ctnodes, cI t.root] 24]) (by kernel_rfl) (by kernel_rfl) (by kernel_rfl) ?_
    refine split_at 53 (b := 1 + (↑(nEs (allR t)) : Int) != 1 + (↑(nEs (allR t)) : Int)) (by kernel_rfl) (by kernel_rfl) ?_ ?_
    · intro hb4
      replace hb4 := bne_iff_ne.1 hb4
      (exfalso; omega)
    · intro hb4
      replace hb4 := bne_eq_false_iff_eq.1 hb4
      refine go mixed 2000 [4, 6, 8, 54] 0 (St.mk (Rg.sq (bitL 19 262143) 1) [kCd (bitL 19 524287)] [(4, vS B_1 (allR t).length d_1), (6, vS B_2 (allR t).length d_2), (8, vI (1 + (↑(nEs (allR t)) : Int))), (54, SV.agg [cS Atnodes t.nodes.length ctnodes, cI t.root])] []) (by kernel_rfl) (by kernel_rfl) (by kernel_rfl) ?_
      refine call_at true (by kernel_rfl : atC _ _ _ true = some (14, [SV.agg [cS Atnodes t.nodes.length ctnodes, cI t.root]], some 55, Rg.sq (bitL 19 262143) 2)) (by kernel_rfl) (fun L w1 hs => (Go.Proofs.Ytgleoebogikooaa.Dk.toTree_ok (t) ([Value.slice Atnodes t.nodes.length ctnodes, Value.int IntKind.i64 t.root]) w1 (Go.Proofs.Ytgleoebogikooaa.Dk.kTr_mk (rdRow_ext (hs.old 4 rfl) hrtnodes)) (by assumption)).mono ?_)
      rintro e_ w2_ ⟨Aonodes_4, conodes_4, rfl, hf_⟩
      refine ⟨.agg [.v (Value.slice Aonodes_4 t.nodes.length conodes_4), .v (Value.int IntKind.i64 t.root)], _, _, rfl, fun _ => hf_.1.block, hs.fresh hf_, ?_⟩
      clear hs hf_
      refine go mixed 2000 [4, 6, 8, 55] 0 (St.mk (Rg.sq (bitL 19 262143) 2) [kCd (bitL 19 524287)] [(4, vS B_1 (allR t).length d_1), (6, vS B_2 (allR t).length d_2), (8, vI (1 + (↑(nEs (allR t)) : Int))), (55, SV.agg [cS Aonodes_4 t.nodes.length conodes_4, cI t.root])] []) (by kernel_rfl) (by kernel_rfl) (by kernel_rfl) ?_
      refine call_at true (by kernel_rfl : atC _ _ _ true = some (20, [SV.agg [cS Aonodes_4 t.nodes.length conodes_4, cI t.root]], some 56, Rg.sq (bitL 19 262143) 3)) (by kernel_rfl) (fun L w1 hs => (Go.Proofs.Ytgleoebogikooaa.Dk.iTreeAll_ok (t) ([Value.slice Aonodes_4 t.nodes.length conodes_4, Value.int IntKind.i64 t.root]) w1 (Go.Proofs.Ytgleoebogikooaa.Dk.kTr_mk (hs.rd 0 rfl)) (by assumption) (by assumption)).mono ?_)
      rintro e_ w2_ ⟨B_3, d_3, rfl, hf_⟩
      refine ⟨.one (.v (Value.slice B_3 (allR t).length d_3)), _, _, rfl, fun _ => hf_.1.block, hs.fresh hf_, ?_⟩
      clear hs hf_
      refine go mixed 2000 [6, 8, 57, 58] 0 (St.mk (Rg.sq (bitL 21 524287) 2) [kCd (bitL 21 1572863), kCd (bitL 20 1048575)] [(6, vS B_2 (allR t).length d_2), (8, vI (1 + (↑(nEs (allR t)) : Int))), (57, vS B_3 (allR t).length d_3), (58, vS B_1 (allR t).length d_1)] []) (by kernel_rfl) (by kernel_rfl) (by kernel_rfl) ?_
      refine call_pure true (by kernel_rfl : atC _ _ _ true = some (21, [vS B_3 (allR t).length d_3, vS B_1 (allR t).length d_1], some 59, Rg.sq (bitL 21 524287) 3)) (by kernel_rfl) (.one (.bo (true))) (fun L w1 hs => (Go.Proofs.Ytgleoebogikooaa.Dk.eqEntryS2_ok (allR t) (Value.slice B_3 (allR t).length d_3) (Value.slice B_1 (allR t).length d_1) w1 (hs.rd 0 rfl) (hs.rd 4 rfl) (by assumption) (by assumption))) ?_
      refine go mixed 2000 [6, 8, 60] 0 (St.mk Rg.no [kCd (bitL 21 1572863), kCd (bitL 20 1048575)] [(6, vS B_2 (allR t).length d_2), (8, vI (1 + (↑(nEs (allR t)) : Int))), (60, vB false)] []) (by kernel_rfl) (by kernel_rfl) (by kernel_rfl) ?_
      refine lit_at 60 (b := false) (by kernel_rfl) ?_
      refine go mixed 2000 [8, 61, 62] 0 (St.mk (Rg.sq (bitL 22 2097151) 2) [kCd (bitL 22 4194303)] [(8, vI (1 + (↑(nEs (allR t)) : Int))), (61, vS B_2 (allR t).length d_2), (62, vI 1)] []) (by kernel_rfl) (by kernel_rfl) (by kernel_rfl) ?_
      refine call_pure true (by kernel_rfl : atC _ _ _ true = some (24, [vS B_2 (allR t).length d_2, vI 1], some 63, Rg.sq (bitL 22 2097151) 3)) (by kernel_rfl) (.one (.v (Value.int IntKind.i64 (1 + (↑(nEs (allR t)) : Int))))) (fun L w1 hs => (Go.Proofs.Ytgleoebogikooaa.Dk.heldEntryS_ok (mkEs (allR t) 1) (Value.slice B_2 (allR t).length d_2) (1) w1 (hs.rd 2 rfl) (allR t) hx_ (by assumption) (by assumption) (by assumption) (by omega))) ?_
      refine go mixed 2000 [8, 9, 65] 0 (St.mk Rg.no [kCd (bitL 24 12582911), kCd (bitL 23 8388607)] [(8, vI (1 + (↑(nEs (allR t)) : Int))), (9, vI (1 + (↑(nEs (allR t)) : Int))), (65, vB (decide (1 + (↑(nEs (allR t)) : Int) < 0)))] []) (by kernel_rfl) (by kernel_rfl) (by kernel_rfl) ?_
      refine split_at 65 (b := decide (1 + (↑(nEs (allR t)) : Int) < 0)) (by kernel_rfl) (by kernel_rfl) ?_ ?_
      · intro hb5
        replace hb5 := of_decide_eq_true hb5
        (exfalso; omega)
      · intro hb5
        replace hb5 := of_decide_eq_false hb5
        refine go mixed 2000 [68] 0 (St.mk Rg.no [kCd (bitL 25 25165823), kCd (bitL 24 16777215)] [(68, vB (1 + (↑(nEs (allR t)) : Int) != 1 + (↑(nEs (allR t)) : Int)))] []) (by kernel_rfl) (by kernel_rfl) (by kernel_rfl) ?_
        refine split_at 68 (b := 1 + (↑(nEs (allR t)) : Int) != 1 + (↑(nEs (allR t)) : Int)) (by kernel_rfl) (by kernel_rfl) ?_ ?_
        · intro hb6
          replace hb6 := bne_iff_ne.1 hb6
          (exfalso; omega)
        · intro hb6
          replace hb6 := bne_eq_false_iff_eq.1 hb6
          refine go mixed 2000 [2] 0 (St.mk Rg.no [kCd (bitL 25 33554431)] [(2, vL true)] []) (by kernel_rfl) (by kernel_rfl) (by kernel_rfl) ?_
          refine ret_ok (vs := [vL true]) (by kernel_rfl) ?_
          intro L w1 hs
          exact ⟨rfl, (hs.erases [0, 0, 0, 0, 0, 0]).out0⟩

end Go.Proofs.Ytgleoebogikooaa.Dk
