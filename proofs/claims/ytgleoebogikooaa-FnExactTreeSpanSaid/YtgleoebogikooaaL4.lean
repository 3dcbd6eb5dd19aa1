/- Walks of functions of the program: what each call returns and what it leaves in memory. Conditions: those that each theorem names. -/
import Derived.Test.YtgleoebogikooaaN3
namespace Go.Proofs.Ytgleoebogikooaa.Dk
set_option linter.unusedVariables false
set_option linter.unusedSimpArgs false
open Go.Proofs.Ytgleoebogikooaa.Sx Go.Proofs Go.RowKit
set_option maxRecDepth 100000
set_option maxHeartbeats 1000000
theorem lawTreeSpan_ok (t : Tr) (cst : List Value) (f : It) (csf : List Value) (u : It) (csu : List Value) (w : World) (ht : kTr.rd w.heap t cst) (hf : kIt.rd w.heap f csf) (hu : kIt.rd w.heap u csu) (hw : wTr t) (hby : byTr t) (wf : wIt f) (wu : wIt u) (pf : byOk f.t) (pu : byOk u.t) :
    Calls Try.prog 7 #[.agg cst.toArray, .agg csf.toArray, .agg csu.toArray] w fun e w' => e = .returned (.bool true) ∧ Below w.heap.size w w' := by
  obtain ⟨Atnodes, ctnodes, rfl, hrtnodes⟩ := kTr_inv ht
  obtain ⟨bff, Aft, cft, rfl, hbff, hfff, hrft⟩ := kIt_inv hf
  obtain ⟨buf, Aut, cut, rfl, hbuf, hfuf, hrut⟩ := kIt_inv hu
  refine enter (args := [.agg [.v (.slice Atnodes t.nodes.length ctnodes), .v (.int .i64 t.root)], .agg [.v (.int .i64 f.kind), .v (.int .i64 f.n), .v (.float .f64 bff), .v (.slice Aft f.t.length cft)], .agg [.v (.int .i64 u.kind), .v (.int .i64 u.n), .v (.float .f64 buf), .v (.slice Aut u.t.length cut)]]) Try.func7 (c := bodyOf Try.f7) rfl rfl (start_LOK _) (start_old w) ?_
  skip
  refine go mixed 2000 [3, 4, 5, 17, 18] 3 (St.mk (Rg.sq (bitL 3 3) 2) [kCd (bitL 3 7)] [(3, vR 0 0), (4, vR 1 0), (5, vR 2 0), (17, SV.agg [cS Atnodes t.nodes.length ctnodes, cI t.root]), (18, vI 1048576)] [LB.mk [cS Atnodes t.nodes.length ctnodes, cI t.root] 24, LB.mk [cI f.kind, cI f.n, cF bff, cS Aft f.t.length cft] 42, LB.mk [cI u.kind, cI u.n, cF buf, cS Aut u.t.length cut] 42]) (by kernel_rfl) (by kernel_rfl) (by kernel_rfl) ?_
  refine call_at true (by kernel_rfl : atC _ _ _ true = some (12, [SV.agg [cS Atnodes t.nodes.length ctnodes, cI t.root], vI 1048576], some 19, Rg.sq (bitL 3 3) 3)) (by kernel_rfl) (fun L w1 hs => (Go.Proofs.Ytgleoebogikooaa.Dk.szTree_ok (t) ([Value.slice Atnodes t.nodes.length ctnodes, Value.int IntKind.i64 t.root]) (1048576) w1 (Go.Proofs.Ytgleoebogikooaa.Dk.kTr_mk (rdRow_ext (hs.old 0 rfl) hrtnodes)) (by omega) (by omega) (by assumption)).mono ?_)
  rintro e_ w2_ ⟨r_1, rfl, hf_, hq1⟩
  refine ⟨.one (.v (Value.int IntKind.i64 r_1)), _, _, rfl, fun _ => hf_.block, hs.below hf_, ?_⟩
  clear hs hf_
  refine go mixed 2000 [3, 4, 5, 7, 21] 3 (St.mk Rg.no [kCd (bitL 5 23), kCd (bitL 4 15)] [(3, vR 0 0), (4, vR 1 0), (5, vR 2 0), (7, vI r_1), (21, vB (decide (r_1 < 0)))] [LB.mk [cS Atnodes t.nodes.length ctnodes, cI t.root] 24, LB.mk [cI f.kind, cI f.n, cF bff, cS Aft f.t.length cft] 42, LB.mk [cI u.kind, cI u.n, cF buf, cS Aut u.t.length cut] 42]) (by kernel_rfl) (by kernel_rfl) (by kernel_rfl) ?_
  refine split_at 21 (b := decide (r_1 < 0)) (by kernel_rfl) (by kernel_rfl) ?_ ?_
  · intro hb1
    replace hb1 := of_decide_eq_true hb1
    refine go mixed 2000 [6] 0 (St.mk Rg.no [kCd (bitL 7 87), kCd (bitL 4 15)] [(6, vL true)] []) (by kernel_rfl) (by kernel_rfl) (by kernel_rfl) ?_
    refine ret_ok (vs := [vL true]) (by kernel_rfl) ?_
    intro L w1 hs
    exact ⟨rfl, hs.out0⟩
  intro hb1
  replace hb1 := of_decide_eq_false hb1
  refine go mixed 2000 [3, 4, 5, 22, 23] 3 (St.mk (Rg.sq (bitL 5 15) 2) [kCd (bitL 5 31)] [(3, vR 0 0), (4, vR 1 0), (5, vR 2 0), (22, SV.agg [cI f.kind, cI f.n, cF bff, cS Aft f.t.length cft]), (23, vI r_1)] [LB.mk [cS Atnodes t.nodes.length ctnodes, cI t.root] 24, LB.mk [cI f.kind, cI f.n, cF bff, cS Aft f.t.length cft] 42, LB.mk [cI u.kind, cI u.n, cF buf, cS Aut u.t.length cut] 42]) (by kernel_rfl) (by kernel_rfl) (by kernel_rfl) ?_
  refine call_at true (by kernel_rfl : atC _ _ _ true = some (25, [SV.agg [cI f.kind, cI f.n, cF bff, cS Aft f.t.length cft], vI r_1], some 24, Rg.sq (bitL 5 15) 3)) (by kernel_rfl) (fun L w1 hs => (Go.Proofs.Ytgleoebogikooaa.Dk.szItem_ok (f) ([Value.int IntKind.i64 f.kind, Value.int IntKind.i64 f.n, Value.float FloatKind.f64 bff, Value.slice Aft f.t.length cft]) (r_1) w1 (Go.Proofs.Ytgleoebogikooaa.Dk.kIt_mk (by assumption) hfff (rdRow_ext (hs.old 0 rfl) hrft)) (by omega) (by omega) (by assumption)).mono ?_)
  rintro e_ w2_ ⟨r_2, rfl, hf_, hq2⟩
  refine ⟨.one (.v (Value.int IntKind.i64 r_2)), _, _, rfl, fun _ => hf_.block, hs.below hf_, ?_⟩
  clear hs hf_
  refine go mixed 2000 [3, 4, 5, 7, 26] 3 (St.mk Rg.no [kCd (bitL 7 95), kCd (bitL 6 63)] [(3, vR 0 0), (4, vR 1 0), (5, vR 2 0), (7, vI r_2), (26, vB (decide (r_2 < 0)))] [LB.mk [cS Atnodes t.nodes.length ctnodes, cI t.root] 24, LB.mk [cI f.kind, cI f.n, cF bff, cS Aft f.t.length cft] 42, LB.mk [cI u.kind, cI u.n, cF buf, cS Aut u.t.length cut] 42]) (by kernel_rfl) (by kernel_rfl) (by kernel_rfl) ?_
  refine split_at 26 (b := decide (r_2 < 0)) (by kernel_rfl) (by kernel_rfl) ?_ ?_
  · intro hb2
    replace hb2 := of_decide_eq_true hb2
    refine go mixed 2000 [6] 0 (St.mk Rg.no [kCd (bitL 9 351), kCd (bitL 6 63)] [(6, vL true)] []) (by kernel_rfl) (by kernel_rfl) (by kernel_rfl) ?_
    refine ret_ok (vs := [vL true]) (by kernel_rfl) ?_
    intro L w1 hs
    exact ⟨rfl, hs.out0⟩
  intro hb2
  replace hb2 := of_decide_eq_false hb2
  refine go mixed 2000 [3, 4, 5, 27, 28] 3 (St.mk (Rg.sq (bitL 7 63) 2) [kCd (bitL 7 127)] [(3, vR 0 0), (4, vR 1 0), (5, vR 2 0), (27, SV.agg [cI u.kind, cI u.n, cF buf, cS Aut u.t.length cut]), (28, vI r_2)] [LB.mk [cS Atnodes t.nodes.length ctnodes, cI t.root] 24, LB.mk [cI f.kind, cI f.n, cF bff, cS Aft f.t.length cft] 42, LB.mk [cI u.kind, cI u.n, cF buf, cS Aut u.t.length cut] 42]) (by kernel_rfl) (by kernel_rfl) (by kernel_rfl) ?_
  refine call_at true (by kernel_rfl : atC _ _ _ true = some (25, [SV.agg [cI u.kind, cI u.n, cF buf, cS Aut u.t.length cut], vI r_2], some 29, Rg.sq (bitL 7 63) 3)) (by kernel_rfl) (fun L w1 hs => (Go.Proofs.Ytgleoebogikooaa.Dk.szItem_ok (u) ([Value.int IntKind.i64 u.kind, Value.int IntKind.i64 u.n, Value.float FloatKind.f64 buf, Value.slice Aut u.t.length cut]) (r_2) w1 (Go.Proofs.Ytgleoebogikooaa.Dk.kIt_mk (by assumption) hfuf (rdRow_ext (hs.old 0 rfl) hrut)) (by omega) (by omega) (by assumption)).mono ?_)
  rintro e_ w2_ ⟨r_3, rfl, hf_, hq3⟩
  refine ⟨.one (.v (Value.int IntKind.i64 r_3)), _, _, rfl, fun _ => hf_.block, hs.below hf_, ?_⟩
  clear hs hf_
  refine go mixed 2000 [3, 4, 5, 31] 3 (St.mk Rg.no [kCd (bitL 9 383), kCd (bitL 8 255)] [(3, vR 0 0), (4, vR 1 0), (5, vR 2 0), (31, vB (decide (r_3 < 0)))] [LB.mk [cS Atnodes t.nodes.length ctnodes, cI t.root] 24, LB.mk [cI f.kind, cI f.n, cF bff, cS Aft f.t.length cft] 42, LB.mk [cI u.kind, cI u.n, cF buf, cS Aut u.t.length cut] 42]) (by kernel_rfl) (by kernel_rfl) (by kernel_rfl) ?_
  skip
  by_cases hneg : r_3 < 0
  · refine go mixed 2000 [3, 4, 5, 31] 3 (St.mk Rg.no [kCd (bitL 9 383), kCd (bitL 8 255)] [(3, vR 0 0), (4, vR 1 0), (5, vR 2 0), (31, vB (decide (r_3 < 0)))] [LB.mk [cS Atnodes t.nodes.length ctnodes, cI t.root] 24, LB.mk [cI f.kind, cI f.n, cF bff, cS Aft f.t.length cft] 42, LB.mk [cI u.kind, cI u.n, cF buf, cS Aut u.t.length cut] 42]) (by kernel_rfl) (by kernel_rfl) (by kernel_rfl) ?_
    refine split_at 31 (b := decide (r_3 < 0)) (by kernel_rfl) (by kernel_rfl) ?_ ?_
    · intro hb3
      replace hb3 := of_decide_eq_true hb3
      refine go mixed 2000 [6] 0 (St.mk Rg.no [kCd (bitL 11 1407), kCd (bitL 8 255)] [(6, vL true)] []) (by kernel_rfl) (by kernel_rfl) (by kernel_rfl) ?_
      refine ret_ok (vs := [vL true]) (by kernel_rfl) ?_
      intro L w1 hs
      exact ⟨rfl, hs.out0⟩
    · intro hb3
      replace hb3 := of_decide_eq_false hb3
      (exfalso; omega)
  have hzT : zTr t ≤ 1048576 := by omega
  have hkl := key_le hzT
  have hzz : zTr t = zRow zNd t.nodes := rfl
  have hz1 : zRow zNd t.nodes = t.nodes.length + (t.nodes.map zNd).sum := rfl
  have hn300 : (allR t).length ≤ 1200 := by
    unfold allR
    split
    · rename_i h
      have h1 := allR_len t
      unfold allR at h1
      rw [if_pos h] at h1
      unfold treeOk at h
      simp only [Bool.and_eq_true, decide_eq_true_eq] at h
      omega
    · simp
  have hal_ : (allR t).length ≤ 1048576 := by omega
  have hak : ∀ x ∈ allR t, x.key.t.length ≤ 1048576 := fun x hx => by
    obtain ⟨n, hn, he⟩ := allR_mem hx
    exact hkl n hn x he
  have hne : nEs (allR t) ≤ 68719476736 := by
    have h1 := nEs_le hak
    have h2 : (allR t).length * (4 + 1048576) ≤ 1200 * (4 + 1048576) := Nat.mul_le_mul_right _ hn300
    omega
  have hx_ : mkEs (allR t) 1 = mkEs (allR t) 1 := rfl
  have hnn := nNs_z t.nodes
  have hzf : zIt f ≤ 1048576 := by omega
  have hzu : zIt u ≤ 1048576 := by omega
  have lf : f.t.length ≤ 1048576 := hzf
  have lu : u.t.length ≤ 1048576 := hzu
  have hsl_ : (spanR t f u).length ≤ (allR t).length := List.length_filter_le _ _
  have hsl2 : (spanR t f u).length ≤ 1048576 := by omega
  have hak2 : ∀ x ∈ spanR t f u, x.key.t.length ≤ 1048576 := fun x hx => hak x (spanR_mem hx)
  have hne2 : nEs (spanR t f u) ≤ 68719476736 := by
    have h1 := nEs_le hak2
    have h2 : (spanR t f u).length * (4 + 1048576) ≤ 1200 * (4 + 1048576) := Nat.mul_le_mul_right _ (by omega)
    omega
  have hx2_ : mkEs (spanR t f u) 1 = mkEs (spanR t f u) 1 := rfl
  refine go mixed 2000 [3, 4, 5, 31] 3 (St.mk Rg.no [kCd (bitL 9 383), kCd (bitL 8 255)] [(3, vR 0 0), (4, vR 1 0), (5, vR 2 0), (31, vB (decide (r_3 < 0)))] [LB.mk [cS Atnodes t.nodes.length ctnodes, cI t.root] 24, LB.mk [cI f.kind, cI f.n, cF bff, cS Aft f.t.length cft] 42, LB.mk [cI u.kind, cI u.n, cF buf, cS Aut u.t.length cut] 42]) (by kernel_rfl) (by kernel_rfl) (by kernel_rfl) ?_
  refine split_at 31 (b := decide (r_3 < 0)) (by kernel_rfl) (by kernel_rfl) ?_ ?_
  · intro hb3
    replace hb3 := of_decide_eq_true hb3
    (exfalso; omega)
  intro hb3
  replace hb3 := of_decide_eq_false hb3
  refine go mixed 2000 [3, 4, 5, 32, 34, 36] 3 (St.mk (Rg.dr (bitL 9 255) (bitL 8 21) 5 2) [kCd (bitL 9 511)] [(3, vR 0 0), (4, vR 1 0), (5, vR 2 0), (32, SV.agg [cS Atnodes t.nodes.length ctnodes, cI t.root]), (34, SV.agg [cI f.kind, cI f.n, cF bff, cS Aft f.t.length cft]), (36, SV.agg [cI u.kind, cI u.n, cF buf, cS Aut u.t.length cut])] [LB.mk [cS Atnodes t.nodes.length ctnodes, cI t.root] 24, LB.mk [cI f.kind, cI f.n, cF bff, cS Aft f.t.length cft] 42, LB.mk [cI u.kind, cI u.n, cF buf, cS Aut u.t.length cut] 42]) (by kernel_rfl) (by kernel_rfl) (by kernel_rfl) ?_
  refine call_at true (by kernel_rfl : atC _ _ _ true = some (14, [SV.agg [cS Atnodes t.nodes.length ctnodes, cI t.root]], some 33, Rg.dr (bitL 9 255) (bitL 8 23) 4 13)) (by kernel_rfl) (fun L w1 hs => (Go.Proofs.Ytgleoebogikooaa.Dk.toTree_ok (t) ([Value.slice Atnodes t.nodes.length ctnodes, Value.int IntKind.i64 t.root]) w1 (Go.Proofs.Ytgleoebogikooaa.Dk.kTr_mk (rdRow_ext (hs.old 0 rfl) hrtnodes)) (by assumption)).mono ?_)
  rintro e_ w2_ ⟨Aonodes_1, conodes_1, rfl, hf_⟩
  refine ⟨.agg [.v (Value.slice Aonodes_1 t.nodes.length conodes_1), .v (Value.int IntKind.i64 t.root)], _, _, rfl, fun _ => hf_.1.block, hs.fresh hf_, ?_⟩
  clear hs hf_
  refine go mixed 2000 [3, 4, 5, 33, 34, 36] 3 (St.mk (Rg.dr (bitL 9 255) (bitL 8 23) 4 13) [kCd (bitL 9 511)] [(3, vR 0 0), (4, vR 1 0), (5, vR 2 0), (33, SV.agg [cS Aonodes_1 t.nodes.length conodes_1, cI t.root]), (34, SV.agg [cI f.kind, cI f.n, cF bff, cS Aft f.t.length cft]), (36, SV.agg [cI u.kind, cI u.n, cF buf, cS Aut u.t.length cut])] [LB.mk [cS Atnodes t.nodes.length ctnodes, cI t.root] 24, LB.mk [cI f.kind, cI f.n, cF bff, cS Aft f.t.length cft] 42, LB.mk [cI u.kind, cI u.n, cF buf, cS Aut u.t.length cut] 42]) (by kernel_rfl) (by kernel_rfl) (by kernel_rfl) ?_
  refine call_at true (by kernel_rfl : atC _ _ _ true = some (27, [SV.agg [cI f.kind, cI f.n, cF bff, cS Aft f.t.length cft]], some 35, Rg.dr (bitL 9 255) (bitL 8 31) 3 13)) (by kernel_rfl) (fun L w1 hs => (Go.Proofs.Ytgleoebogikooaa.Dk.toItem_ok (f) ([Value.int IntKind.i64 f.kind, Value.int IntKind.i64 f.n, Value.float FloatKind.f64 bff, Value.slice Aft f.t.length cft]) w1 (Go.Proofs.Ytgleoebogikooaa.Dk.kIt_mk (by assumption) hfff (rdRow_ext (hs.old 1 rfl) hrft)) (by assumption)).mono ?_)
  rintro e_ w2_ ⟨bof_1, Aot_1, cot_1, rfl, hf_, hq4, hq5⟩
  refine ⟨.agg [.v (Value.int IntKind.i64 f.kind), .v (Value.int IntKind.i64 f.n), .v (Value.float FloatKind.f64 bof_1), .v (Value.slice Aot_1 f.t.length cot_1)], _, _, rfl, fun _ => hf_.1.block, hs.fresh hf_, ?_⟩
  clear hs hf_
  refine go mixed 2000 [3, 4, 5, 33, 35, 36] 3 (St.mk (Rg.dr (bitL 9 255) (bitL 8 31) 3 13) [kCd (bitL 9 511)] [(3, vR 0 0), (4, vR 1 0), (5, vR 2 0), (33, SV.agg [cS Aonodes_1 t.nodes.length conodes_1, cI t.root]), (35, SV.agg [cI f.kind, cI f.n, cF bof_1, cS Aot_1 f.t.length cot_1]), (36, SV.agg [cI u.kind, cI u.n, cF buf, cS Aut u.t.length cut])] [LB.mk [cS Atnodes t.nodes.length ctnodes, cI t.root] 24, LB.mk [cI f.kind, cI f.n, cF bff, cS Aft f.t.length cft] 42, LB.mk [cI u.kind, cI u.n, cF buf, cS Aut u.t.length cut] 42]) (by kernel_rfl) (by kernel_rfl) (by kernel_rfl) ?_
  refine call_at true (by kernel_rfl : atC _ _ _ true = some (27, [SV.agg [cI u.kind, cI u.n, cF buf, cS Aut u.t.length cut]], some 37, Rg.dr (bitL 9 255) (bitL 8 63) 2 13)) (by kernel_rfl) (fun L w1 hs => (Go.Proofs.Ytgleoebogikooaa.Dk.toItem_ok (u) ([Value.int IntKind.i64 u.kind, Value.int IntKind.i64 u.n, Value.float FloatKind.f64 buf, Value.slice Aut u.t.length cut]) w1 (Go.Proofs.Ytgleoebogikooaa.Dk.kIt_mk (by assumption) hfuf (rdRow_ext (hs.old 2 rfl) hrut)) (by assumption)).mono ?_)
  rintro e_ w2_ ⟨bof_2, Aot_2, cot_2, rfl, hf_, hq6, hq7⟩
  refine ⟨.agg [.v (Value.int IntKind.i64 u.kind), .v (Value.int IntKind.i64 u.n), .v (Value.float FloatKind.f64 bof_2), .v (Value.slice Aot_2 u.t.length cot_2)], _, _, rfl, fun _ => hf_.1.block, hs.fresh hf_, ?_⟩
  clear hs hf_
  refine go mixed 2000 [3, 4, 5, 33, 35, 37] 3 (St.mk (Rg.dr (bitL 9 255) (bitL 8 63) 2 13) [kCd (bitL 9 511)] [(3, vR 0 0), (4, vR 1 0), (5, vR 2 0), (33, SV.agg [cS Aonodes_1 t.nodes.length conodes_1, cI t.root]), (35, SV.agg [cI f.kind, cI f.n, cF bof_1, cS Aot_1 f.t.length cot_1]), (37, SV.agg [cI u.kind, cI u.n, cF bof_2, cS Aot_2 u.t.length cot_2])] [LB.mk [cS Atnodes t.nodes.length ctnodes, cI t.root] 24, LB.mk [cI f.kind, cI f.n, cF bff, cS Aft f.t.length cft] 42, LB.mk [cI u.kind, cI u.n, cF buf, cS Aut u.t.length cut] 42]) (by kernel_rfl) (by kernel_rfl) (by kernel_rfl) ?_
  refine call_at true (by kernel_rfl : atC _ _ _ true = some (34, [SV.agg [cS Aonodes_1 t.nodes.length conodes_1, cI t.root], SV.agg [cI f.kind, cI f.n, cF bof_1, cS Aot_1 f.t.length cot_1], SV.agg [cI u.kind, cI u.n, cF bof_2, cS Aot_2 u.t.length cot_2]], some 38, Rg.dr (bitL 9 255) (bitL 8 127) 1 13)) (by kernel_rfl) (fun L w1 hs => (Go.Proofs.Ytgleoebogikooaa.Dk.sTreeSpan_ok (t) ([Value.slice Aonodes_1 t.nodes.length conodes_1, Value.int IntKind.i64 t.root]) (f) ([Value.int IntKind.i64 f.kind, Value.int IntKind.i64 f.n, Value.float FloatKind.f64 bof_1, Value.slice Aot_1 f.t.length cot_1]) (u) ([Value.int IntKind.i64 u.kind, Value.int IntKind.i64 u.n, Value.float FloatKind.f64 bof_2, Value.slice Aot_2 u.t.length cot_2]) w1 (Go.Proofs.Ytgleoebogikooaa.Dk.kTr_mk (hs.rd 2 rfl)) (Go.Proofs.Ytgleoebogikooaa.Dk.kIt_mk (by assumption) hq5 (hs.rd 1 rfl)) (Go.Proofs.Ytgleoebogikooaa.Dk.kIt_mk (by assumption) hq7 (hs.rd 0 rfl)) (by assumption) (by assumption) (by assumption) (by assumption) (by assumption) (by assumption)).mono ?_)
  rintro e_ w2_ ⟨B_1, d_1, rfl, hf_⟩
  refine ⟨.one (.v (Value.slice B_1 (spanR t f u).length d_1)), _, _, rfl, fun _ => hf_.1.block, hs.fresh hf_, ?_⟩
  clear hs hf_
  refine go mixed 2000 [3, 4, 5, 8, 39] 3 (St.mk (Rg.sq (bitL 10 511) 1) [kCd (bitL 10 1023)] [(3, vR 0 0), (4, vR 1 0), (5, vR 2 0), (8, vS B_1 (spanR t f u).length d_1), (39, SV.agg [cS Atnodes t.nodes.length ctnodes, cI t.root])] [LB.mk [cS Atnodes t.nodes.length ctnodes, cI t.root] 24, LB.mk [cI f.kind, cI f.n, cF bff, cS Aft f.t.length cft] 42, LB.mk [cI u.kind, cI u.n, cF buf, cS Aut u.t.length cut] 42]) (by kernel_rfl) (by kernel_rfl) (by kernel_rfl) ?_
  refine call_at true (by kernel_rfl : atC _ _ _ true = some (14, [SV.agg [cS Atnodes t.nodes.length ctnodes, cI t.root]], some 40, Rg.sq (bitL 10 511) 2)) (by kernel_rfl) (fun L w1 hs => (Go.Proofs.Ytgleoebogikooaa.Dk.toTree_ok (t) ([Value.slice Atnodes t.nodes.length ctnodes, Value.int IntKind.i64 t.root]) w1 (Go.Proofs.Ytgleoebogikooaa.Dk.kTr_mk (rdRow_ext (hs.old 4 rfl) hrtnodes)) (by assumption)).mono ?_)
  rintro e_ w2_ ⟨Aonodes_2, conodes_2, rfl, hf_⟩
  refine ⟨.agg [.v (Value.slice Aonodes_2 t.nodes.length conodes_2), .v (Value.int IntKind.i64 t.root)], _, _, rfl, fun _ => hf_.1.block, hs.fresh hf_, ?_⟩
  clear hs hf_
  refine go mixed 2000 [3, 4, 5, 8, 9, 41] 4 (St.mk (Rg.sq (bitL 11 1023) 1) [kCd (bitL 11 2047)] [(3, vR 0 0), (4, vR 1 0), (5, vR 2 0), (8, vS B_1 (spanR t f u).length d_1), (9, vR 3 0), (41, SV.agg [cI f.kind, cI f.n, cF bff, cS Aft f.t.length cft])] [LB.mk [cS Atnodes t.nodes.length ctnodes, cI t.root] 24, LB.mk [cI f.kind, cI f.n, cF bff, cS Aft f.t.length cft] 42, LB.mk [cI u.kind, cI u.n, cF buf, cS Aut u.t.length cut] 42, LB.mk [cS Aonodes_2 t.nodes.length conodes_2, cI t.root] 29]) (by kernel_rfl) (by kernel_rfl) (by kernel_rfl) ?_
  refine call_at true (by kernel_rfl : atC _ _ _ true = some (27, [SV.agg [cI f.kind, cI f.n, cF bff, cS Aft f.t.length cft]], some 42, Rg.sq (bitL 11 1023) 2)) (by kernel_rfl) (fun L w1 hs => (Go.Proofs.Ytgleoebogikooaa.Dk.toItem_ok (f) ([Value.int IntKind.i64 f.kind, Value.int IntKind.i64 f.n, Value.float FloatKind.f64 bff, Value.slice Aft f.t.length cft]) w1 (Go.Proofs.Ytgleoebogikooaa.Dk.kIt_mk (by assumption) hfff (rdRow_ext (hs.old 5 rfl) hrft)) (by assumption)).mono ?_)
  rintro e_ w2_ ⟨bof_3, Aot_3, cot_3, rfl, hf_, hq8, hq9⟩
  refine ⟨.agg [.v (Value.int IntKind.i64 f.kind), .v (Value.int IntKind.i64 f.n), .v (Value.float FloatKind.f64 bof_3), .v (Value.slice Aot_3 f.t.length cot_3)], _, _, rfl, fun _ => hf_.1.block, hs.fresh hf_, ?_⟩
  clear hs hf_
  refine go mixed 2000 [3, 4, 5, 8, 9, 10, 43] 5 (St.mk (Rg.sq (bitL 12 2047) 1) [kCd (bitL 12 4095)] [(3, vR 0 0), (4, vR 1 0), (5, vR 2 0), (8, vS B_1 (spanR t f u).length d_1), (9, vR 3 0), (10, vR 4 0), (43, SV.agg [cI u.kind, cI u.n, cF buf, cS Aut u.t.length cut])] [LB.mk [cS Atnodes t.nodes.length ctnodes, cI t.root] 24, LB.mk [cI f.kind, cI f.n, cF bff, cS Aft f.t.length cft] 42, LB.mk [cI u.kind, cI u.n, cF buf, cS Aut u.t.length cut] 42, LB.mk [cS Aonodes_2 t.nodes.length conodes_2, cI t.root] 29, LB.mk [cI f.kind, cI f.n, cF bof_3, cS Aot_3 f.t.length cot_3] 46]) (by kernel_rfl) (by kernel_rfl) (by kernel_rfl) ?_
  refine call_at true (by kernel_rfl : atC _ _ _ true = some (27, [SV.agg [cI u.kind, cI u.n, cF buf, cS Aut u.t.length cut]], some 44, Rg.sq (bitL 12 2047) 2)) (by kernel_rfl) (fun L w1 hs => (Go.Proofs.Ytgleoebogikooaa.Dk.toItem_ok (u) ([Value.int IntKind.i64 u.kind, Value.int IntKind.i64 u.n, Value.float FloatKind.f64 buf, Value.slice Aut u.t.length cut]) w1 (Go.Proofs.Ytgleoebogikooaa.Dk.kIt_mk (by assumption) hfuf (rdRow_ext (hs.old 6 rfl) hrut)) (by assumption)).mono ?_)
  rintro e_ w2_ ⟨bof_4, Aot_4, cot_4, rfl, hf_, hq10, hq11⟩
  refine ⟨.agg [.v (Value.int IntKind.i64 u.kind), .v (Value.int IntKind.i64 u.n), .v (Value.float FloatKind.f64 bof_4), .v (Value.slice Aot_4 u.t.length cot_4)], _, _, rfl, fun _ => hf_.1.block, hs.fresh hf_, ?_⟩
  clear hs hf_
  refine go mixed 2000 [3, 4, 5, 8, 9, 10, 11, 45, 46, 47] 6 (St.mk (Rg.sq (bitL 13 4095) 3) [kCd (bitL 13 8191)] [(3, vR 0 0), (4, vR 1 0), (5, vR 2 0), (8, vS B_1 (spanR t f u).length d_1), (9, vR 3 0), (10, vR 4 0), (11, vR 5 0), (45, SV.agg [cS Aonodes_2 t.nodes.length conodes_2, cI t.root]), (46, SV.agg [cI f.kind, cI f.n, cF bof_3, cS Aot_3 f.t.length cot_3]), (47, SV.agg [cI u.kind, cI u.n, cF bof_4, cS Aot_4 u.t.length cot_4])] [LB.mk [cS Atnodes t.nodes.length ctnodes, cI t.root] 24, LB.mk [cI f.kind, cI f.n, cF bff, cS Aft f.t.length cft] 42, LB.mk [cI u.kind, cI u.n, cF buf, cS Aut u.t.length cut] 42, LB.mk [cS Aonodes_2 t.nodes.length conodes_2, cI t.root] 29, LB.mk [cI f.kind, cI f.n, cF bof_3, cS Aot_3 f.t.length cot_3] 46, LB.mk [cI u.kind, cI u.n, cF bof_4, cS Aot_4 u.t.length cot_4] 46]) (by kernel_rfl) (by kernel_rfl) (by kernel_rfl) ?_
  refine call_at true (by kernel_rfl : atC _ _ _ true = some (35, [SV.agg [cS Aonodes_2 t.nodes.length conodes_2, cI t.root], SV.agg [cI f.kind, cI f.n, cF bof_3, cS Aot_3 f.t.length cot_3], SV.agg [cI u.kind, cI u.n, cF bof_4, cS Aot_4 u.t.length cot_4]], some 48, Rg.sq (bitL 13 4095) 4)) (by kernel_rfl) (fun L w1 hs => (Go.Proofs.Ytgleoebogikooaa.Dk.iTreeSpan_ok (t) ([Value.slice Aonodes_2 t.nodes.length conodes_2, Value.int IntKind.i64 t.root]) (f) ([Value.int IntKind.i64 f.kind, Value.int IntKind.i64 f.n, Value.float FloatKind.f64 bof_3, Value.slice Aot_3 f.t.length cot_3]) (u) ([Value.int IntKind.i64 u.kind, Value.int IntKind.i64 u.n, Value.float FloatKind.f64 bof_4, Value.slice Aot_4 u.t.length cot_4]) w1 (Go.Proofs.Ytgleoebogikooaa.Dk.kTr_mk (hs.rd 2 rfl)) (Go.Proofs.Ytgleoebogikooaa.Dk.kIt_mk (by assumption) hq9 (hs.rd 1 rfl)) (Go.Proofs.Ytgleoebogikooaa.Dk.kIt_mk (by assumption) hq11 (hs.rd 0 rfl)) (by assumption) (by assumption) (by assumption) (by assumption) (by assumption) (by assumption)).mono ?_)
  rintro e_ w2_ ⟨B_2, d_2, rfl, hf_⟩
  refine ⟨.one (.v (Value.slice B_2 (spanR t f u).length d_2)), _, _, rfl, fun _ => hf_.1.block, hs.fresh hf_, ?_⟩
  clear hs hf_
  refine go mixed 2000 [3, 4, 5, 8, 9, 10, 11, 12, 49, 50] 6 (St.mk (Rg.sq (bitL 15 8191) 2) [kCd (bitL 15 24575), kCd (bitL 14 16383)] [(3, vR 0 0), (4, vR 1 0), (5, vR 2 0), (8, vS B_1 (spanR t f u).length d_1), (9, vR 3 0), (10, vR 4 0), (11, vR 5 0), (12, vS B_2 (spanR t f u).length d_2), (49, vS B_2 (spanR t f u).length d_2), (50, vS B_1 (spanR t f u).length d_1)] [LB.mk [cS Atnodes t.nodes.length ctnodes, cI t.root] 24, LB.mk [cI f.kind, cI f.n, cF bff, cS Aft f.t.length cft] 42, LB.mk [cI u.kind, cI u.n, cF buf, cS Aut u.t.length cut] 42, LB.mk [cS Aonodes_2 t.nodes.length conodes_2, cI t.root] 29, LB.mk [cI f.kind, cI f.n, cF bof_3, cS Aot_3 f.t.length cot_3] 46, LB.mk [cI u.kind, cI u.n, cF bof_4, cS Aot_4 u.t.length cot_4] 46]) (by kernel_rfl) (by kernel_rfl) (by kernel_rfl) ?_
  refine call_pure true (by kernel_rfl : atC _ _ _ true = some (21, [vS B_2 (spanR t f u).length d_2, vS B_1 (spanR t f u).length d_1], some 51, Rg.sq (bitL 15 8191) 3)) (by kernel_rfl) (.one (.bo (true))) (fun L w1 hs => (Go.Proofs.Ytgleoebogikooaa.Dk.eqEntryS2_ok (spanR t f u) (Value.slice B_2 (spanR t f u).length d_2) (Value.slice B_1 (spanR t f u).length d_1) w1 (hs.rd 0 rfl) (hs.rd 4 rfl) (by assumption) (by assumption))) ?_
  refine go mixed 2000 [3, 4, 5, 8, 9, 10, 11, 12, 52] 6 (St.mk Rg.no [kCd (bitL 15 24575), kCd (bitL 14 16383)] [(3, vR 0 0), (4, vR 1 0), (5, vR 2 0), (8, vS B_1 (spanR t f u).length d_1), (9, vR 3 0), (10, vR 4 0), (11, vR 5 0), (12, vS B_2 (spanR t f u).length d_2), (52, vB false)] [LB.mk [cS Atnodes t.nodes.length ctnodes, cI t.root] 24, LB.mk [cI f.kind, cI f.n, cF bff, cS Aft f.t.length cft] 42, LB.mk [cI u.kind, cI u.n, cF buf, cS Aut u.t.length cut] 42, LB.mk [cS Aonodes_2 t.nodes.length conodes_2, cI t.root] 29, LB.mk [cI f.kind, cI f.n, cF bof_3, cS Aot_3 f.t.length cot_3] 46, LB.mk [cI u.kind, cI u.n, cF bof_4, cS Aot_4 u.t.length cot_4] 46]) (by kernel_rfl) (by kernel_rfl) (by kernel_rfl) ?_
  refine lit_at 52 (b := false) (by kernel_rfl) ?_
  refine go mixed 2000 [3, 4, 5, 8, 9, 10, 11, 12, 53, 54] 6 (St.mk (Rg.dr (bitL 16 16383) (bitL 5 3) 3 2) [kCd (bitL 16 49151), kCd (bitL 15 32767)] [(3, vR 0 0), (4, vR 1 0), (5, vR 2 0), (8, vS B_1 (spanR t f u).length d_1), (9, vR 3 0), (10, vR 4 0), (11, vR 5 0), (12, vS B_2 (spanR t f u).length d_2), (53, SV.agg [cS Aonodes_2 t.nodes.length conodes_2, cI t.root]), (54, SV.agg [cS Atnodes t.nodes.length ctnodes, cI t.root])] [LB.mk [cS Atnodes t.nodes.length ctnodes, cI t.root] 24, LB.mk [cI f.kind, cI f.n, cF bff, cS Aft f.t.length cft] 42, LB.mk [cI u.kind, cI u.n, cF buf, cS Aut u.t.length cut] 42, LB.mk [cS Aonodes_2 t.nodes.length conodes_2, cI t.root] 29, LB.mk [cI f.kind, cI f.n, cF bof_3, cS Aot_3 f.t.length cot_3] 46, LB.mk [cI u.kind, cI u.n, cF bof_4, cS Aot_4 u.t.length cot_4] 46]) (by kernel_rfl) (by kernel_rfl) (by kernel_rfl) ?_
  refine call_at true (by kernel_rfl : atC _ _ _ true = some (14, [SV.agg [cS Atnodes t.nodes.length ctnodes, cI t.root]], some 55, Rg.dr (bitL 16 16383) (bitL 5 7) 2 16)) (by kernel_rfl) (fun L w1 hs => (Go.Proofs.Ytgleoebogikooaa.Dk.toTree_ok (t) ([Value.slice Atnodes t.nodes.length ctnodes, Value.int IntKind.i64 t.root]) w1 (Go.Proofs.Ytgleoebogikooaa.Dk.kTr_mk (rdRow_ext (hs.old 8 rfl) hrtnodes)) (by assumption)).mono ?_)
  rintro e_ w2_ ⟨Aonodes_3, conodes_3, rfl, hf_⟩
  refine ⟨.agg [.v (Value.slice Aonodes_3 t.nodes.length conodes_3), .v (Value.int IntKind.i64 t.root)], _, _, rfl, fun _ => hf_.1.block, hs.fresh hf_, ?_⟩
  clear hs hf_
  refine go mixed 2000 [3, 4, 5, 8, 9, 10, 11, 12, 53, 55] 6 (St.mk (Rg.dr (bitL 16 16383) (bitL 5 7) 2 16) [kCd (bitL 16 49151), kCd (bitL 15 32767)] [(3, vR 0 0), (4, vR 1 0), (5, vR 2 0), (8, vS B_1 (spanR t f u).length d_1), (9, vR 3 0), (10, vR 4 0), (11, vR 5 0), (12, vS B_2 (spanR t f u).length d_2), (53, SV.agg [cS Aonodes_2 t.nodes.length conodes_2, cI t.root]), (55, SV.agg [cS Aonodes_3 t.nodes.length conodes_3, cI t.root])] [LB.mk [cS Atnodes t.nodes.length ctnodes, cI t.root] 24, LB.mk [cI f.kind, cI f.n, cF bff, cS Aft f.t.length cft] 42, LB.mk [cI u.kind, cI u.n, cF buf, cS Aut u.t.length cut] 42, LB.mk [cS Aonodes_2 t.nodes.length conodes_2, cI t.root] 29, LB.mk [cI f.kind, cI f.n, cF bof_3, cS Aot_3 f.t.length cot_3] 46, LB.mk [cI u.kind, cI u.n, cF bof_4, cS Aot_4 u.t.length cot_4] 46]) (by kernel_rfl) (by kernel_rfl) (by kernel_rfl) ?_
  refine call_pure true (by kernel_rfl : atC _ _ _ true = some (16, [SV.agg [cS Aonodes_2 t.nodes.length conodes_2, cI t.root], SV.agg [cS Aonodes_3 t.nodes.length conodes_3, cI t.root]], some 56, Rg.dr (bitL 16 16383) (bitL 5 15) 1 16)) (by kernel_rfl) (.one (.bo (true))) (fun L w1 hs => (Go.Proofs.Ytgleoebogikooaa.Dk.eqTree_ok (t) ([Value.slice Aonodes_2 t.nodes.length conodes_2, Value.int IntKind.i64 t.root]) ([Value.slice Aonodes_3 t.nodes.length conodes_3, Value.int IntKind.i64 t.root]) w1 (Go.Proofs.Ytgleoebogikooaa.Dk.kTr_mk (hs.rd 4 rfl)) (Go.Proofs.Ytgleoebogikooaa.Dk.kTr_mk (hs.rd 0 rfl)) (by assumption))) ?_
  refine go mixed 2000 [3, 4, 5, 8, 9, 10, 11, 12, 57] 6 (St.mk Rg.no [kCd (bitL 16 49151), kCd (bitL 15 32767)] [(3, vR 0 0), (4, vR 1 0), (5, vR 2 0), (8, vS B_1 (spanR t f u).length d_1), (9, vR 3 0), (10, vR 4 0), (11, vR 5 0), (12, vS B_2 (spanR t f u).length d_2), (57, vB false)] [LB.mk [cS Atnodes t.nodes.length ctnodes, cI t.root] 24, LB.mk [cI f.kind, cI f.n, cF bff, cS Aft f.t.length cft] 42, LB.mk [cI u.kind, cI u.n, cF buf, cS Aut u.t.length cut] 42, LB.mk [cS Aonodes_2 t.nodes.length conodes_2, cI t.root] 29, LB.mk [cI f.kind, cI f.n, cF bof_3, cS Aot_3 f.t.length cot_3] 46, LB.mk [cI u.kind, cI u.n, cF bof_4, cS Aot_4 u.t.length cot_4] 46]) (by kernel_rfl) (by kernel_rfl) (by kernel_rfl) ?_
  refine lit_at 57 (b := false) (by kernel_rfl) ?_
  refine go mixed 2000 [3, 4, 5, 8, 9, 10, 11, 12, 58, 59] 6 (St.mk (Rg.dr (bitL 17 32767) (bitL 5 3) 3 2) [kCd (bitL 17 98303), kCd (bitL 16 65535)] [(3, vR 0 0), (4, vR 1 0), (5, vR 2 0), (8, vS B_1 (spanR t f u).length d_1), (9, vR 3 0), (10, vR 4 0), (11, vR 5 0), (12, vS B_2 (spanR t f u).length d_2), (58, SV.agg [cI f.kind, cI f.n, cF bof_3, cS Aot_3 f.t.length cot_3]), (59, SV.agg [cI f.kind, cI f.n, cF bff, cS Aft f.t.length cft])] [LB.mk [cS Atnodes t.nodes.length ctnodes, cI t.root] 24, LB.mk [cI f.kind, cI f.n, cF bff, cS Aft f.t.length cft] 42, LB.mk [cI u.kind, cI u.n, cF buf, cS Aut u.t.length cut] 42, LB.mk [cS Aonodes_2 t.nodes.length conodes_2, cI t.root] 29, LB.mk [cI f.kind, cI f.n, cF bof_3, cS Aot_3 f.t.length cot_3] 46, LB.mk [cI u.kind, cI u.n, cF bof_4, cS Aot_4 u.t.length cot_4] 46]) (by kernel_rfl) (by kernel_rfl) (by kernel_rfl) ?_
  refine call_at true (by kernel_rfl : atC _ _ _ true = some (27, [SV.agg [cI f.kind, cI f.n, cF bff, cS Aft f.t.length cft]], some 60, Rg.dr (bitL 17 32767) (bitL 5 7) 2 16)) (by kernel_rfl) (fun L w1 hs => (Go.Proofs.Ytgleoebogikooaa.Dk.toItem_ok (f) ([Value.int IntKind.i64 f.kind, Value.int IntKind.i64 f.n, Value.float FloatKind.f64 bff, Value.slice Aft f.t.length cft]) w1 (Go.Proofs.Ytgleoebogikooaa.Dk.kIt_mk (by assumption) hfff (rdRow_ext (hs.old 9 rfl) hrft)) (by assumption)).mono ?_)
  rintro e_ w2_ ⟨bof_5, Aot_5, cot_5, rfl, hf_, hq12, hq13⟩
  refine ⟨.agg [.v (Value.int IntKind.i64 f.kind), .v (Value.int IntKind.i64 f.n), .v (Value.float FloatKind.f64 bof_5), .v (Value.slice Aot_5 f.t.length cot_5)], _, _, rfl, fun _ => hf_.1.block, hs.fresh hf_, ?_⟩
  clear hs hf_
  refine go mixed 2000 [3, 4, 5, 8, 9, 10, 11, 12, 58, 60] 6 (St.mk (Rg.dr (bitL 17 32767) (bitL 5 7) 2 16) [kCd (bitL 17 98303), kCd (bitL 16 65535)] [(3, vR 0 0), (4, vR 1 0), (5, vR 2 0), (8, vS B_1 (spanR t f u).length d_1), (9, vR 3 0), (10, vR 4 0), (11, vR 5 0), (12, vS B_2 (spanR t f u).length d_2), (58, SV.agg [cI f.kind, cI f.n, cF bof_3, cS Aot_3 f.t.length cot_3]), (60, SV.agg [cI f.kind, cI f.n, cF bof_5, cS Aot_5 f.t.length cot_5])] [LB.mk [cS Atnodes t.nodes.length ctnodes, cI t.root] 24, LB.mk [cI f.kind, cI f.n, cF bff, cS Aft f.t.length cft] 42, LB.mk [cI u.kind, cI u.n, cF buf, cS Aut u.t.length cut] 42, LB.mk [cS Aonodes_2 t.nodes.length conodes_2, cI t.root] 29, LB.mk [cI f.kind, cI f.n, cF bof_3, cS Aot_3 f.t.length cot_3] 46, LB.mk [cI u.kind, cI u.n, cF bof_4, cS Aot_4 u.t.length cot_4] 46]) (by kernel_rfl) (by kernel_rfl) (by kernel_rfl) ?_
  refine call_pure true (by kernel_rfl : atC _ _ _ true = some (30, [SV.agg [cI f.kind, cI f.n, cF bof_3, cS Aot_3 f.t.length cot_3], SV.agg [cI f.kind, cI f.n, cF bof_5, cS Aot_5 f.t.length cot_5]], some 61, Rg.dr (bitL 17 32767) (bitL 5 15) 1 16)) (by kernel_rfl) (.one (.bo (true))) (fun L w1 hs => (Go.Proofs.Ytgleoebogikooaa.Dk.eqItem_ok (f) ([Value.int IntKind.i64 f.kind, Value.int IntKind.i64 f.n, Value.float FloatKind.f64 bof_3, Value.slice Aot_3 f.t.length cot_3]) ([Value.int IntKind.i64 f.kind, Value.int IntKind.i64 f.n, Value.float FloatKind.f64 bof_5, Value.slice Aot_5 f.t.length cot_5]) w1 (Go.Proofs.Ytgleoebogikooaa.Dk.kIt_mk (by assumption) hq9 (hs.rd 4 rfl)) (Go.Proofs.Ytgleoebogikooaa.Dk.kIt_mk (by assumption) (by assumption) (hs.rd 0 rfl)) (by assumption))) ?_
  refine go mixed 2000 [3, 4, 5, 8, 9, 10, 11, 12, 62] 6 (St.mk Rg.no [kCd (bitL 17 98303), kCd (bitL 16 65535)] [(3, vR 0 0), (4, vR 1 0), (5, vR 2 0), (8, vS B_1 (spanR t f u).length d_1), (9, vR 3 0), (10, vR 4 0), (11, vR 5 0), (12, vS B_2 (spanR t f u).length d_2), (62, vB false)] [LB.mk [cS Atnodes t.nodes.length ctnodes, cI t.root] 24, LB.mk [cI f.kind, cI f.n, cF bff, cS Aft f.t.length cft] 42, LB.mk [cI u.kind, cI u.n, cF buf, cS Aut u.t.length cut] 42, LB.mk [cS Aonodes_2 t.nodes.length conodes_2, cI t.root] 29, LB.mk [cI f.kind, cI f.n, cF bof_3, cS Aot_3 f.t.length cot_3] 46, LB.mk [cI u.kind, cI u.n, cF bof_4, cS Aot_4 u.t.length cot_4] 46]) (by kernel_rfl) (by kernel_rfl) (by kernel_rfl) ?_
  refine lit_at 62 (b := false) (by kernel_rfl) ?_
  refine go mixed 2000 [3, 4, 5, 8, 9, 10, 11, 12, 63, 64] 6 (St.mk (Rg.dr (bitL 18 65535) (bitL 5 3) 3 2) [kCd (bitL 18 196607), kCd (bitL 17 131071)] [(3, vR 0 0), (4, vR 1 0), (5, vR 2 0), (8, vS B_1 (spanR t f u).length d_1), (9, vR 3 0), (10, vR 4 0), (11, vR 5 0), (12, vS B_2 (spanR t f u).length d_2), (63, SV.agg [cI u.kind, cI u.n, cF bof_4, cS Aot_4 u.t.length cot_4]), (64, SV.agg [cI u.kind, cI u.n, cF buf, cS Aut u.t.length cut])] [LB.mk [cS Atnodes t.nodes.length ctnodes, cI t.root] 24, LB.mk [cI f.kind, cI f.n, cF bff, cS Aft f.t.length cft] 42, LB.mk [cI u.kind, cI u.n, cF buf, cS Aut u.t.length cut] 42, LB.mk [cS Aonodes_2 t.nodes.length conodes_2, cI t.root] 29, LB.mk [cI f.kind, cI f.n, cF bof_3, cS Aot_3 f.t.length cot_3] 46, LB.mk [cI u.kind, cI u.n, cF bof_4, cS Aot_4 u.t.length cot_4] 46]) (by kernel_rfl) (by kernel_rfl) (by kernel_rfl) ?_
  refine call_at true (by kernel_rfl : atC _ _ _ true = some (27, [SV.agg [cI u.kind, cI u.n, cF buf, cS Aut u.t.length cut]], some 65, Rg.dr (bitL 18 65535) (bitL 5 7) 2 16)) (by kernel_rfl) (fun L w1 hs => (Go.Proofs.Ytgleoebogikooaa.Dk.toItem_ok (u) ([Value.int IntKind.i64 u.kind, Value.int IntKind.i64 u.n, Value.float FloatKind.f64 buf, Value.slice Aut u.t.length cut]) w1 (Go.Proofs.Ytgleoebogikooaa.Dk.kIt_mk (by assumption) hfuf (rdRow_ext (hs.old 10 rfl) hrut)) (by assumption)).mono ?_)
  rintro e_ w2_ ⟨bof_6, Aot_6, cot_6, rfl, hf_, hq14, hq15⟩
  refine ⟨.agg [.v (Value.int IntKind.i64 u.kind), .v (Value.int IntKind.i64 u.n), .v (Value.float FloatKind.f64 bof_6), .v (Value.slice Aot_6 u.t.length cot_6)], _, _, rfl, fun _ => hf_.1.block, hs.fresh hf_, ?_⟩
  clear hs hf_
  refine go mixed 2000 [3, 4, 5, 8, 9, 10, 11, 12, 63, 65] 6 (St.mk (Rg.dr (bitL 18 65535) (bitL 5 7) 2 16) [kCd (bitL 18 196607), kCd (bitL 17 131071)] [(3, vR 0 0), (4, vR 1 0), (5, vR 2 0), (8, vS B_1 (spanR t f u).length d_1), (9, vR 3 0), (10, vR 4 0), (11, vR 5 0), (12, vS B_2 (spanR t f u).length d_2), (63, SV.agg [cI u.kind, cI u.n, cF bof_4, cS Aot_4 u.t.length cot_4]), (65, SV.agg [cI u.kind, cI u.n, cF bof_6, cS Aot_6 u.t.length cot_6])] [LB.mk [cS Atnodes t.nodes.length ctnodes, cI t.root] 24, LB.mk [cI f.kind, cI f.n, cF bff, cS Aft f.t.length cft] 42, LB.mk [cI u.kind, cI u.n, cF buf, cS Aut u.t.length cut] 42, LB.mk [cS Aonodes_2 t.nodes.length conodes_2, cI t.root] 29, LB.mk [cI f.kind, cI f.n, cF bof_3, cS Aot_3 f.t.length cot_3] 46, LB.mk [cI u.kind, cI u.n, cF bof_4, cS Aot_4 u.t.length cot_4] 46]) (by kernel_rfl) (by kernel_rfl) (by kernel_rfl) ?_
  refine call_pure true (by kernel_rfl : atC _ _ _ true = some (30, [SV.agg [cI u.kind, cI u.n, cF bof_4, cS Aot_4 u.t.length cot_4], SV.agg [cI u.kind, cI u.n, cF bof_6, cS Aot_6 u.t.length cot_6]], some 66, Rg.dr (bitL 18 65535) (bitL 5 15) 1 16)) (by kernel_rfl) (.one (.bo (true))) (fun L w1 hs => (Go.Proofs.Ytgleoebogikooaa.Dk.eqItem_ok (u) ([Value.int IntKind.i64 u.kind, Value.int IntKind.i64 u.n, Value.float FloatKind.f64 bof_4, Value.slice Aot_4 u.t.length cot_4]) ([Value.int IntKind.i64 u.kind, Value.int IntKind.i64 u.n, Value.float FloatKind.f64 bof_6, Value.slice Aot_6 u.t.length cot_6]) w1 (Go.Proofs.Ytgleoebogikooaa.Dk.kIt_mk (by assumption) hq11 (hs.rd 4 rfl)) (Go.Proofs.Ytgleoebogikooaa.Dk.kIt_mk (by assumption) (by assumption) (hs.rd 0 rfl)) (by assumption))) ?_
  refine go mixed 2000 [3, 4, 5, 8, 9, 10, 11, 12, 67] 6 (St.mk Rg.no [kCd (bitL 18 196607), kCd (bitL 17 131071)] [(3, vR 0 0), (4, vR 1 0), (5, vR 2 0), (8, vS B_1 (spanR t f u).length d_1), (9, vR 3 0), (10, vR 4 0), (11, vR 5 0), (12, vS B_2 (spanR t f u).length d_2), (67, vB false)] [LB.mk [cS Atnodes t.nodes.length ctnodes, cI t.root] 24, LB.mk [cI f.kind, cI f.n, cF bff, cS Aft f.t.length cft] 42, LB.mk [cI u.kind, cI u.n, cF buf, cS Aut u.t.length cut] 42, LB.mk [cS Aonodes_2 t.nodes.length conodes_2, cI t.root] 29, LB.mk [cI f.kind, cI f.n, cF bof_3, cS Aot_3 f.t.length cot_3] 46, LB.mk [cI u.kind, cI u.n, cF bof_4, cS Aot_4 u.t.length cot_4] 46]) (by kernel_rfl) (by kernel_rfl) (by kernel_rfl) ?_
  refine lit_at 67 (b := false) (by kernel_rfl) ?_
  refine go mixed 2000 [3, 4, 5, 8, 10, 11, 12, 68, 69] 6 (St.mk (Rg.sq (bitL 19 262143) 2) [kCd (bitL 19 524287)] [(3, vR 0 0), (4, vR 1 0), (5, vR 2 0), (8, vS B_1 (spanR t f u).length d_1), (10, vR 4 0), (11, vR 5 0), (12, vS B_2 (spanR t f u).length d_2), (68, SV.agg [cS Aonodes_2 t.nodes.length conodes_2, cI t.root]), (69, vI 1)] [LB.mk [cS Atnodes t.nodes.length ctnodes, cI t.root] 24, LB.mk [cI f.kind, cI f.n, cF bff, cS Aft f.t.length cft] 42, LB.mk [cI u.kind, cI u.n, cF buf, cS Aut u.t.length cut] 42, LB.mk [cS Aonodes_2 t.nodes.length conodes_2, cI t.root] 29, LB.mk [cI f.kind, cI f.n, cF bof_3, cS Aot_3 f.t.length cot_3] 46, LB.mk [cI u.kind, cI u.n, cF bof_4, cS Aot_4 u.t.length cot_4] 46]) (by kernel_rfl) (by kernel_rfl) (by kernel_rfl) ?_
  refine h_bring 6 rfl ?_
  refine call_mut (A := [rowA 96 kNd t.nodes (.slice Aonodes_2 t.nodes.length conodes_2)]) (by kernel_rfl : atC _ _ _ false = some (22, [SV.agg [cS Aonodes_2 t.nodes.length conodes_2, cI t.root], vI 1], some 70, Rg.sq (bitL 19 262143) 3)) (by kernel_rfl) (fun L w1 S1 hs hA hS1 => (markTree_ok t _ _ 1 w1 S1 hA hS1 hzT (by omega)).mono ?_)
  rintro e w2 ⟨rfl, hm⟩
  refine ⟨.one (.v (.int .i64 _)), _, rfl, hm, ?_⟩
  clear hm hs hA hS1
  refine go mixed 2000 [3, 4, 5, 8, 11, 12, 71, 72] 6 (St.mk (Rg.sq (bitL 20 524287) 2) [kCd (bitL 20 1048575)] [(3, vR 0 0), (4, vR 1 0), (5, vR 2 0), (8, vS B_1 (spanR t f u).length d_1), (11, vR 5 0), (12, vS B_2 (spanR t f u).length d_2), (71, SV.agg [cI f.kind, cI f.n, cF bof_3, cS Aot_3 f.t.length cot_3]), (72, vI (1 + (↑(nNs t.nodes) : Int)))] [LB.mk [cS Atnodes t.nodes.length ctnodes, cI t.root] 24, LB.mk [cI f.kind, cI f.n, cF bff, cS Aft f.t.length cft] 42, LB.mk [cI u.kind, cI u.n, cF buf, cS Aut u.t.length cut] 42, LB.mk [cS Aonodes_2 t.nodes.length conodes_2, cI t.root] 29, LB.mk [cI f.kind, cI f.n, cF bof_3, cS Aot_3 f.t.length cot_3] 46, LB.mk [cI u.kind, cI u.n, cF bof_4, cS Aot_4 u.t.length cot_4] 46]) (by kernel_rfl) (by kernel_rfl) (by kernel_rfl) ?_
  refine h_bring 5 rfl ?_
  refine call_mut (A := [rowA 5 kU8 f.t (.slice Aot_3 f.t.length cot_3)]) (by kernel_rfl : atC _ _ _ false = some (31, [SV.agg [cI f.kind, cI f.n, cF bof_3, cS Aot_3 f.t.length cot_3], vI (1 + (↑(nNs t.nodes) : Int))], some 73, Rg.sq (bitL 20 524287) 3)) (by kernel_rfl) (fun L w1 S1 hs hA hS1 => (markItem_ok f _ _ _ _ w1 S1 hA hS1 (by assumption) (by omega)).mono ?_)
  rintro e w2 ⟨rfl, hm⟩
  refine ⟨.one (.v (.int .i64 _)), _, rfl, hm, ?_⟩
  clear hm hs hA hS1
  refine go mixed 2000 [3, 4, 5, 8, 12, 74, 75] 3 (St.mk (Rg.sq (bitL 21 1048575) 2) [kCd (bitL 21 2097151)] [(3, vR 0 0), (4, vR 1 0), (5, vR 2 0), (8, vS B_1 (spanR t f u).length d_1), (12, vS B_2 (spanR t f u).length d_2), (74, SV.agg [cI u.kind, cI u.n, cF bof_4, cS Aot_4 u.t.length cot_4]), (75, vI (1 + (↑(nNs t.nodes) : Int) + (↑f.t.length : Int)))] [LB.mk [cS Atnodes t.nodes.length ctnodes, cI t.root] 24, LB.mk [cI f.kind, cI f.n, cF bff, cS Aft f.t.length cft] 42, LB.mk [cI u.kind, cI u.n, cF buf, cS Aut u.t.length cut] 42]) (by kernel_rfl) (by kernel_rfl) (by kernel_rfl) ?_
  refine h_bring 4 rfl ?_
  refine call_mut (A := [rowA 5 kU8 u.t (.slice Aot_4 u.t.length cot_4)]) (by kernel_rfl : atC _ _ _ false = some (31, [SV.agg [cI u.kind, cI u.n, cF bof_4, cS Aot_4 u.t.length cot_4], vI (1 + (↑(nNs t.nodes) : Int) + (↑f.t.length : Int))], some 76, Rg.sq (bitL 21 1048575) 3)) (by kernel_rfl) (fun L w1 S1 hs hA hS1 => (markItem_ok u _ _ _ _ w1 S1 hA hS1 (by assumption) (by omega)).mono ?_)
  rintro e w2 ⟨rfl, hm⟩
  refine ⟨.one (.v (.int .i64 _)), _, rfl, hm, ?_⟩
  clear hm hs hA hS1
  refine go mixed 2000 [3, 4, 5, 8, 12, 79] 3 (St.mk (Rg.sq (bitL 23 2097151) 3) [kCd (bitL 23 6291455), kCd (bitL 22 4194303)] [(3, vR 0 0), (4, vR 1 0), (5, vR 2 0), (8, vS B_1 (spanR t f u).length d_1), (12, vS B_2 (spanR t f u).length d_2), (79, vB (decide (1 + (↑(nNs t.nodes) : Int) + (↑f.t.length : Int) + (↑u.t.length : Int) < 0)))] [LB.mk [cS Atnodes t.nodes.length ctnodes, cI t.root] 24, LB.mk [cI f.kind, cI f.n, cF bff, cS Aft f.t.length cft] 42, LB.mk [cI u.kind, cI u.n, cF buf, cS Aut u.t.length cut] 42]) (by kernel_rfl) (by kernel_rfl) (by kernel_rfl) ?_
  refine split_at 79 (b := decide (1 + (↑(nNs t.nodes) : Int) + (↑f.t.length : Int) + (↑u.t.length : Int) < 0)) (by kernel_rfl) (by kernel_rfl) ?_ ?_
  · intro hb4
    replace hb4 := of_decide_eq_true hb4
    (exfalso; omega)
  intro hb4
  replace hb4 := of_decide_eq_false hb4
  refine go mixed 2000 [3, 4, 5, 8, 12, 79, 80, 81] 3 (St.mk (Rg.sq (bitL 23 2097151) 5) [kCd (bitL 23 6291455), kCd (bitL 22 4194303)] [(3, vR 0 0), (4, vR 1 0), (5, vR 2 0), (8, vS B_1 (spanR t f u).length d_1), (12, vS B_2 (spanR t f u).length d_2), (79, vL false), (80, vS B_2 (spanR t f u).length d_2), (81, vS B_1 (spanR t f u).length d_1)] [LB.mk [cS Atnodes t.nodes.length ctnodes, cI t.root] 24, LB.mk [cI f.kind, cI f.n, cF bff, cS Aft f.t.length cft] 42, LB.mk [cI u.kind, cI u.n, cF buf, cS Aut u.t.length cut] 42]) (by kernel_rfl) (by kernel_rfl) (by kernel_rfl) ?_
  refine call_pure true (by kernel_rfl : atC _ _ _ true = some (21, [vS B_2 (spanR t f u).length d_2, vS B_1 (spanR t f u).length d_1], some 82, Rg.sq (bitL 23 2097151) 6)) (by kernel_rfl) (.one (.bo (true))) (fun L w1 hs => (Go.Proofs.Ytgleoebogikooaa.Dk.eqEntryS2_ok (spanR t f u) (Value.slice B_2 (spanR t f u).length d_2) (Value.slice B_1 (spanR t f u).length d_1) w1 (hs.rd 3 rfl) (hs.rd 4 rfl) (by assumption) (by assumption))) ?_
  refine go mixed 2000 [3, 4, 5, 8, 12, 84] 3 (St.mk Rg.no [kCd (bitL 23 6291455), kCd (bitL 22 4194303)] [(3, vR 0 0), (4, vR 1 0), (5, vR 2 0), (8, vS B_1 (spanR t f u).length d_1), (12, vS B_2 (spanR t f u).length d_2), (84, vB false)] [LB.mk [cS Atnodes t.nodes.length ctnodes, cI t.root] 24, LB.mk [cI f.kind, cI f.n, cF bff, cS Aft f.t.length cft] 42, LB.mk [cI u.kind, cI u.n, cF buf, cS Aut u.t.length cut] 42]) (by kernel_rfl) (by kernel_rfl) (by kernel_rfl) ?_
  refine lit_at 84 (b := false) (by kernel_rfl) ?_
  refine go mixed 2000 [3, 4, 5, 8, 12, 85, 86] 3 (St.mk (Rg.sq (bitL 24 8388607) 2) [kCd (bitL 24 16777215)] [(3, vR 0 0), (4, vR 1 0), (5, vR 2 0), (8, vS B_1 (spanR t f u).length d_1), (12, vS B_2 (spanR t f u).length d_2), (85, vS B_2 (spanR t f u).length d_2), (86, vI 1)] [LB.mk [cS Atnodes t.nodes.length ctnodes, cI t.root] 24, LB.mk [cI f.kind, cI f.n, cF bff, cS Aft f.t.length cft] 42, LB.mk [cI u.kind, cI u.n, cF buf, cS Aut u.t.length cut] 42]) (by kernel_rfl) (by kernel_rfl) (by kernel_rfl) ?_
  refine h_bring 3 rfl ?_
  refine call_mut (A := [rowA 101 kEn (spanR t f u) (.slice B_2 (spanR t f u).length d_2)]) (by kernel_rfl : atC _ _ _ false = some (23, [vS B_2 (spanR t f u).length d_2, vI 1], some 87, Rg.sq (bitL 24 8388607) 3)) (by kernel_rfl) (fun L w1 S1 hs hA hS1 => (markEntryS_ok (spanR t f u) _ _ 1 w1 S1 hA hS1 (by omega) (by omega) (by assumption) (by omega)).mono ?_)
  rintro e w2 ⟨rfl, hm⟩
  refine ⟨.one (.v (.int .i64 _)), _, rfl, hm, ?_⟩
  clear hm hs hA hS1
  refine go mixed 2000 [3, 4, 5, 8, 12, 14, 88, 89] 3 (St.mk (Rg.sq (bitL 26 33554431) 2) [kCd (bitL 26 67108863)] [(3, vR 0 0), (4, vR 1 0), (5, vR 2 0), (8, vS B_1 (spanR t f u).length d_1), (12, vS B_2 (spanR t f u).length d_2), (14, vI (1 + (↑(nEs (spanR t f u)) : Int))), (88, vS B_2 (spanR t f u).length d_2), (89, vI 1)] [LB.mk [cS Atnodes t.nodes.length ctnodes, cI t.root] 24, LB.mk [cI f.kind, cI f.n, cF bff, cS Aft f.t.length cft] 42, LB.mk [cI u.kind, cI u.n, cF buf, cS Aut u.t.length cut] 42]) (by kernel_rfl) (by kernel_rfl) (by kernel_rfl) ?_
  refine call_pure true (by kernel_rfl : atC _ _ _ true = some (24, [vS B_2 (spanR t f u).length d_2, vI 1], some 90, Rg.sq (bitL 26 33554431) 3)) (by kernel_rfl) (.one (.v (Value.int IntKind.i64 (1 + (↑(nEs (spanR t f u)) : Int))))) (fun L w1 hs => (Go.Proofs.Ytgleoebogikooaa.Dk.heldEntryS_ok (mkEs (spanR t f u) 1) (Value.slice B_2 (spanR t f u).length d_2) (1) w1 (hs.rd 0 rfl) (spanR t f u) hx2_ (by assumption) (by assumption) (by assumption) (by omega))) ?_
  refine go mixed 2000 [3, 4, 5, 8, 12, 14, 15, 92] 3 (St.mk Rg.no [kCd (bitL 28 201326591), kCd (bitL 27 134217727)] [(3, vR 0 0), (4, vR 1 0), (5, vR 2 0), (8, vS B_1 (spanR t f u).length d_1), (12, vS B_2 (spanR t f u).length d_2), (14, vI (1 + (↑(nEs (spanR t f u)) : Int))), (15, vI (1 + (↑(nEs (spanR t f u)) : Int))), (92, vB (decide (1 + (↑(nEs (spanR t f u)) : Int) < 0)))] [LB.mk [cS Atnodes t.nodes.length ctnodes, cI t.root] 24, LB.mk [cI f.kind, cI f.n, cF bff, cS Aft f.t.length cft] 42, LB.mk [cI u.kind, cI u.n, cF buf, cS Aut u.t.length cut] 42]) (by kernel_rfl) (by kernel_rfl) (by kernel_rfl) ?_
  refine split_at 92 (b := decide (1 + (↑(nEs (spanR t f u)) : Int) < 0)) (by kernel_rfl) (by kernel_rfl) ?_ ?_
  · intro hb5
    replace hb5 := of_decide_eq_true hb5
    (exfalso; omega)
  · intro hb5
    replace hb5 := of_decide_eq_false hb5
    refine go mixed 2000 [3, 4, 5, 8, 12, 14, 95] 3 (St.mk Rg.no [kCd (bitL 29 402653183), kCd (bitL 28 268435455)] [(3, vR 0 0), (4, vR 1 0), (5, vR 2 0), (8, vS B_1 (spanR t f u).length d_1), (12, vS B_2 (spanR t f u).length d_2), (14, vI (1 + (↑(nEs (spanR t f u)) : Int))), (95, vB (1 + (↑(nEs (spanR t f u)) : Int) != 1 + (↑(nEs (spanR t f u)) : Int)))] [LB.mk [cS Atnodes t.nodes.length ctnodes, cI t.root] 24, LB.mk [cI f.kind, cI f.n, cF bff, cS Aft f.t.length cft] 42, LB.mk [cI u.kind, cI u.n, cF buf, cS Aut u.t.length cut] 42]) (by kernel_rfl) (by kernel_rfl) (by kernel_rfl) ?_
    refine split_at 95 (b := 1 + (↑(nEs (spanR t f u)) : Int) != 1 + (↑(nEs (spanR t f u)) : Int)) (by kernel_rfl) (by kernel_rfl) ?_ ?_
    · intro hb6
      replace hb6 := bne_iff_ne.1 hb6
      (exfalso; omega)
    · intro hb6
      replace hb6 := bne_eq_false_iff_eq.1 hb6
      refine go mixed 2000 [8, 12, 14, 96, 98, 100] 0 (St.mk (Rg.dr (bitL 29 268435455) (bitL 8 21) 5 2) [kCd (bitL 29 536870911)] [(8, vS B_1 (spanR t f u).length d_1), (12, vS B_2 (spanR t f u).length d_2), (14, vI (1 + (↑(nEs (spanR t f u)) : Int))), (96, SV.agg [cS Atnodes t.nodes.length ctnodes, cI t.root]), (98, SV.agg [cI f.kind, cI f.n, cF bff, cS Aft f.t.length cft]), (100, SV.agg [cI u.kind, cI u.n, cF buf, cS Aut u.t.length cut])] []) (by kernel_rfl) (by kernel_rfl) (by kernel_rfl) ?_
      refine call_at true (by kernel_rfl : atC _ _ _ true = some (14, [SV.agg [cS Atnodes t.nodes.length ctnodes, cI t.root]], some 97, Rg.dr (bitL 29 268435455) (bitL 8 23) 4 10)) (by kernel_rfl) (fun L w1 hs => (Go.Proofs.Ytgleoebogikooaa.Dk.toTree_ok (t) ([Value.slice Atnodes t.nodes.length ctnodes, Value.int IntKind.i64 t.root]) w1 (Go.Proofs.Ytgleoebogikooaa.Dk.kTr_mk (rdRow_ext (hs.old 8 rfl) hrtnodes)) (by assumption)).mono ?_)
      rintro e_ w2_ ⟨Aonodes_4, conodes_4, rfl, hf_⟩
      refine ⟨.agg [.v (Value.slice Aonodes_4 t.nodes.length conodes_4), .v (Value.int IntKind.i64 t.root)], _, _, rfl, fun _ => hf_.1.block, hs.fresh hf_, ?_⟩
      clear hs hf_
      refine go mixed 2000 [8, 12, 14, 97, 98, 100] 0 (St.mk (Rg.dr (bitL 29 268435455) (bitL 8 23) 4 10) [kCd (bitL 29 536870911)] [(8, vS B_1 (spanR t f u).length d_1), (12, vS B_2 (spanR t f u).length d_2), (14, vI (1 + (↑(nEs (spanR t f u)) : Int))), (97, SV.agg [cS Aonodes_4 t.nodes.length conodes_4, cI t.root]), (98, SV.agg [cI f.kind, cI f.n, cF bff, cS Aft f.t.length cft]), (100, SV.agg [cI u.kind, cI u.n, cF buf, cS Aut u.t.length cut])] []) (by kernel_rfl) (by kernel_rfl) (by kernel_rfl) ?_
      refine call_at true (by kernel_rfl : atC _ _ _ true = some (27, [SV.agg [cI f.kind, cI f.n, cF bff, cS Aft f.t.length cft]], some 99, Rg.dr (bitL 29 268435455) (bitL 8 31) 3 10)) (by kernel_rfl) (fun L w1 hs => (Go.Proofs.Ytgleoebogikooaa.Dk.toItem_ok (f) ([Value.int IntKind.i64 f.kind, Value.int IntKind.i64 f.n, Value.float FloatKind.f64 bff, Value.slice Aft f.t.length cft]) w1 (Go.Proofs.Ytgleoebogikooaa.Dk.kIt_mk (by assumption) hfff (rdRow_ext (hs.old 9 rfl) hrft)) (by assumption)).mono ?_)
      rintro e_ w2_ ⟨bof_7, Aot_7, cot_7, rfl, hf_, hq16, hq17⟩
      refine ⟨.agg [.v (Value.int IntKind.i64 f.kind), .v (Value.int IntKind.i64 f.n), .v (Value.float FloatKind.f64 bof_7), .v (Value.slice Aot_7 f.t.length cot_7)], _, _, rfl, fun _ => hf_.1.block, hs.fresh hf_, ?_⟩
      clear hs hf_
      refine go mixed 2000 [8, 12, 14, 97, 99, 100] 0 (St.mk (Rg.dr (bitL 29 268435455) (bitL 8 31) 3 10) [kCd (bitL 29 536870911)] [(8, vS B_1 (spanR t f u).length d_1), (12, vS B_2 (spanR t f u).length d_2), (14, vI (1 + (↑(nEs (spanR t f u)) : Int))), (97, SV.agg [cS Aonodes_4 t.nodes.length conodes_4, cI t.root]), (99, SV.agg [cI f.kind, cI f.n, cF bof_7, cS Aot_7 f.t.length cot_7]), (100, SV.agg [cI u.kind, cI u.n, cF buf, cS Aut u.t.length cut])] []) (by kernel_rfl) (by kernel_rfl) (by kernel_rfl) ?_
      refine call_at true (by kernel_rfl : atC _ _ _ true = some (27, [SV.agg [cI u.kind, cI u.n, cF buf, cS Aut u.t.length cut]], some 101, Rg.dr (bitL 29 268435455) (bitL 8 63) 2 10)) (by kernel_rfl) (fun L w1 hs => (Go.Proofs.Ytgleoebogikooaa.Dk.toItem_ok (u) ([Value.int IntKind.i64 u.kind, Value.int IntKind.i64 u.n, Value.float FloatKind.f64 buf, Value.slice Aut u.t.length cut]) w1 (Go.Proofs.Ytgleoebogikooaa.Dk.kIt_mk (by assumption) hfuf (rdRow_ext (hs.old 10 rfl) hrut)) (by assumption)).mono ?_)
      rintro e_ w2_ ⟨bof_8, Aot_8, cot_8, rfl, hf_, hq18, hq19⟩
      refine ⟨.agg [.v (Value.int IntKind.i64 u.kind), .v (Value.int IntKind.i64 u.n), .v (Value.float FloatKind.f64 bof_8), .v (Value.slice Aot_8 u.t.length cot_8)], _, _, rfl, fun _ => hf_.1.block, hs.fresh hf_, ?_⟩
      clear hs hf_
      refine go mixed 2000 [8, 12, 14, 97, 99, 101] 0 (St.mk (Rg.dr (bitL 29 268435455) (bitL 8 63) 2 10) [kCd (bitL 29 536870911)] [(8, vS B_1 (spanR t f u).length d_1), (12, vS B_2 (spanR t f u).length d_2), (14, vI (1 + (↑(nEs (spanR t f u)) : Int))), (97, SV.agg [cS Aonodes_4 t.nodes.length conodes_4, cI t.root]), (99, SV.agg [cI f.kind, cI f.n, cF bof_7, cS Aot_7 f.t.length cot_7]), (101, SV.agg [cI u.kind, cI u.n, cF bof_8, cS Aot_8 u.t.length cot_8])] []) (by kernel_rfl) (by kernel_rfl) (by kernel_rfl) ?_
      refine call_at true (by kernel_rfl : atC _ _ _ true = some (35, [SV.agg [cS Aonodes_4 t.nodes.length conodes_4, cI t.root], SV.agg [cI f.kind, cI f.n, cF bof_7, cS Aot_7 f.t.length cot_7], SV.agg [cI u.kind, cI u.n, cF bof_8, cS Aot_8 u.t.length cot_8]], some 102, Rg.dr (bitL 29 268435455) (bitL 8 127) 1 10)) (by kernel_rfl) (fun L w1 hs => (Go.Proofs.Ytgleoebogikooaa.Dk.iTreeSpan_ok (t) ([Value.slice Aonodes_4 t.nodes.length conodes_4, Value.int IntKind.i64 t.root]) (f) ([Value.int IntKind.i64 f.kind, Value.int IntKind.i64 f.n, Value.float FloatKind.f64 bof_7, Value.slice Aot_7 f.t.length cot_7]) (u) ([Value.int IntKind.i64 u.kind, Value.int IntKind.i64 u.n, Value.float FloatKind.f64 bof_8, Value.slice Aot_8 u.t.length cot_8]) w1 (Go.Proofs.Ytgleoebogikooaa.Dk.kTr_mk (hs.rd 2 rfl)) (Go.Proofs.Ytgleoebogikooaa.Dk.kIt_mk (by assumption) hq17 (hs.rd 1 rfl)) (Go.Proofs.Ytgleoebogikooaa.Dk.kIt_mk (by assumption) hq19 (hs.rd 0 rfl)) (by assumption) (by assumption) (by assumption) (by assumption) (by assumption) (by assumption)).mono ?_)
      rintro e_ w2_ ⟨B_3, d_3, rfl, hf_⟩
      refine ⟨.one (.v (Value.slice B_3 (spanR t f u).length d_3)), _, _, rfl, fun _ => hf_.1.block, hs.fresh hf_, ?_⟩
      clear hs hf_
      refine go mixed 2000 [12, 14, 103, 104] 0 (St.mk (Rg.sq (bitL 31 536870911) 2) [kCd (bitL 31 1610612735), kCd (bitL 30 1073741823)] [(12, vS B_2 (spanR t f u).length d_2), (14, vI (1 + (↑(nEs (spanR t f u)) : Int))), (103, vS B_3 (spanR t f u).length d_3), (104, vS B_1 (spanR t f u).length d_1)] []) (by kernel_rfl) (by kernel_rfl) (by kernel_rfl) ?_
      refine call_pure true (by kernel_rfl : atC _ _ _ true = some (21, [vS B_3 (spanR t f u).length d_3, vS B_1 (spanR t f u).length d_1], some 105, Rg.sq (bitL 31 536870911) 3)) (by kernel_rfl) (.one (.bo (true))) (fun L w1 hs => (Go.Proofs.Ytgleoebogikooaa.Dk.eqEntryS2_ok (spanR t f u) (Value.slice B_3 (spanR t f u).length d_3) (Value.slice B_1 (spanR t f u).length d_1) w1 (hs.rd 0 rfl) (hs.rd 8 rfl) (by assumption) (by assumption))) ?_
      refine go mixed 2000 [12, 14, 106] 0 (St.mk Rg.no [kCd (bitL 31 1610612735), kCd (bitL 30 1073741823)] [(12, vS B_2 (spanR t f u).length d_2), (14, vI (1 + (↑(nEs (spanR t f u)) : Int))), (106, vB false)] []) (by kernel_rfl) (by kernel_rfl) (by kernel_rfl) ?_
      refine lit_at 106 (b := false) (by kernel_rfl) ?_
      refine go mixed 2000 [14, 107, 108] 0 (St.mk (Rg.sq (bitL 32 2147483647) 2) [kCd (bitL 32 4294967295)] [(14, vI (1 + (↑(nEs (spanR t f u)) : Int))), (107, vS B_2 (spanR t f u).length d_2), (108, vI 1)] []) (by kernel_rfl) (by kernel_rfl) (by kernel_rfl) ?_
      refine call_pure true (by kernel_rfl : atC _ _ _ true = some (24, [vS B_2 (spanR t f u).length d_2, vI 1], some 109, Rg.sq (bitL 32 2147483647) 3)) (by kernel_rfl) (.one (.v (Value.int IntKind.i64 (1 + (↑(nEs (spanR t f u)) : Int))))) (fun L w1 hs => (Go.Proofs.Ytgleoebogikooaa.Dk.heldEntryS_ok (mkEs (spanR t f u) 1) (Value.slice B_2 (spanR t f u).length d_2) (1) w1 (hs.rd 4 rfl) (spanR t f u) hx2_ (by assumption) (by assumption) (by assumption) (by omega))) ?_
      refine go mixed 2000 [14, 15, 111] 0 (St.mk Rg.no [kCd (bitL 34 12884901887), kCd (bitL 33 8589934591)] [(14, vI (1 + (↑(nEs (spanR t f u)) : Int))), (15, vI (1 + (↑(nEs (spanR t f u)) : Int))), (111, vB (decide (1 + (↑(nEs (spanR t f u)) : Int) < 0)))] []) (by kernel_rfl) (by kernel_rfl) (by kernel_rfl) ?_
      refine split_at 111 (b := decide (1 + (↑(nEs (spanR t f u)) : Int) < 0)) (by kernel_rfl) (by kernel_rfl) ?_ ?_
      · intro hb7
        replace hb7 := of_decide_eq_true hb7
        (exfalso; omega)
      · intro hb7
        replace hb7 := of_decide_eq_false hb7
        refine go mixed 2000 [114] 0 (St.mk Rg.no [kCd (bitL 35 25769803775), kCd (bitL 34 17179869183)] [(114, vB (1 + (↑(nEs (spanR t f u)) : Int) != 1 + (↑(nEs (spanR t f u)) : Int)))] []) (by kernel_rfl) (by kernel_rfl) (by kernel_rfl) ?_
        refine split_at 114 (b := 1 + (↑(nEs (spanR t f u)) : Int) != 1 + (↑(nEs (spanR t f u)) : Int)) (by kernel_rfl) (by kernel_rfl) ?_ ?_
        · intro hb8
          replace hb8 := bne_iff_ne.1 hb8
          (exfalso; omega)
        · intro hb8
          replace hb8 := bne_eq_false_iff_eq.1 hb8
          refine go mixed 2000 [6] 0 (St.mk Rg.no [kCd (bitL 35 34359738367)] [(6, vL true)] []) (by kernel_rfl) (by kernel_rfl) (by kernel_rfl) ?_
          refine ret_ok (vs := [vL true]) (by kernel_rfl) ?_
          intro L w1 hs
          exact ⟨rfl, (hs.erases [0, 0, 0, 0, 0, 0, 0, 0, 0, 0, 0, 0]).out0⟩

end Go.Proofs.Ytgleoebogikooaa.Dk
