/- Walks of functions of the program: what each call returns and what it leaves in memory. Conditions: those that each theorem names. -/
import Derived.Test.YtgleoebogikooaaN4
import Derived.Test.YtgleoebogikooaaN5
namespace Go.Proofs.Ytgleoebogikooaa.Dk
set_option linter.unusedVariables false
set_option linter.unusedSimpArgs false
open Go.Proofs.Ytgleoebogikooaa.Sx Go.Proofs Go.RowKit
set_option maxRecDepth 100000
set_option maxHeartbeats 1000000
theorem heldIntS_ok (xs : List Int) (vxs : Value) (k : Int) (w : World) (hxs : rdRow kI64 w.heap xs vxs) (hx : xs = mkN xs.length k) (hl : xs.length ≤ 1048576) (hk : 0 ≤ k ∧ k ≤ 1099511627776) :
    Calls Try.prog 33 #[vxs, .int .i64 k] w fun e w' => e = .returned (.int .i64 (k + xs.length)) ∧ Below w.heap.size w w' := by
  obtain ⟨Axs, cxs, rfl⟩ := rdRow_form hxs
  refine enter (args := [.one (.v (.slice Axs xs.length cxs)), .one (.v (.int .i64 k))]) Try.func33 (c := bodyOf Try.f33) rfl rfl (start_LOK _) (start_old w) ?_
  have hnk : ∀ i : Nat, i < xs.length → IntKind.i64.wrap (k + (i : Int) + 1) = k + ((i + 1 : Nat) : Int) := fun i hi => by rw [IntKind.wrap_i64]; omega
  refine go mixed 2000 [0, 1, 5] 0 (St.mk Rg.no [kLp (bitL 5 29), KI.block 0, KI.code [true, true]] [(0, vS Axs xs.length cxs), (1, vI k), (5, vI 0)] []) (by kernel_rfl) (by kernel_rfl) (by kernel_rfl) ?_
  refine loop_at (ι := Nat) (fun i => [(1, .one (.v (.int .i64 (k + (i : Int))))), (5, .one (.v (.int .i64 i)))]) (fun _ => []) (fun i => [oldA w]) (fun i => i ≤ xs.length) (fun i => xs.length - i) 0 (by simp [updTm, lk]; exact ⟨rfl, rfl⟩) rfl rfl (Nat.zero_le _) ?_
  intro i hi ih
  rcases Nat.lt_or_ge i xs.length with hlt | hge
  · have nf_1 := hnk i hlt
    have hm : xs[i] = k + (i : Int) := (List.getElem_of_eq hx hlt).trans (mkN_get _)
    refine go mixed 2000 [0, 1, 5, 9] 0 (St.mk Rg.no [kCd (bitL 7 93), kCd (bitL 6 61), kLp (bitL 5 29), KI.block 0, KI.code [true, true]] [(0, vS Axs xs.length cxs), (1, vI (k + (↑i : Int))), (5, vI (↑i : Int)), (9, vB (decide ((↑i : Int) < (↑xs.length : Int))))] []) (by kernel_rfl) (by kernel_rfl) (by kernel_rfl) ?_
    refine split_at 9 (b := decide ((↑i : Int) < (↑xs.length : Int))) (by kernel_rfl) (by kernel_rfl) ?_ ?_
    · intro hb1
      replace hb1 := of_decide_eq_true hb1
      refine go mixed 2000 [0, 1, 5, 12, 13] 0 (St.mk (Rg.sq (bitL 10 189) 2) [kCd (bitL 10 701), kCd (bitL 9 445), KI.block 1, kCd (bitL 7 125), kLp (bitL 5 29), KI.block 0, KI.code [true, true]] [(0, vS Axs xs.length cxs), (1, vI (k + (↑i : Int))), (5, vI (↑i : Int)), (12, vS Axs xs.length cxs), (13, vI (↑i : Int))] []) (by kernel_rfl) (by kernel_rfl) (by kernel_rfl) ?_
      refine index_at 2 (by kernel_rfl : atP _ _ _ 2 false = some (Op.indexAddr 44 (tmpO 12) (tmpO 13), 0, some 14, Rg.sq (bitL 10 189) 3)) (ni := i) (sz := 1) (by kernel_rfl) rfl rfl rfl (by assumption) (fun L w1 hs => rd_some (i := i) (rdRow_ext (hs.old 0 rfl) hxs) (by assumption)) ?_
      intro a_1 ha_1
      cases ha_1
      refine go mixed 2000 [0, 1, 5, 14] 0 (St.mk (Rg.sq (bitL 10 189) 3) [kCd (bitL 10 701), kCd (bitL 9 445), KI.block 1, kCd (bitL 7 125), kLp (bitL 5 29), KI.block 0, KI.code [true, true]] [(0, vS (some a_1) xs.length cxs), (1, vI (k + (↑i : Int))), (5, vI (↑i : Int)), (14, vP (a_1.add (i * 1)))] []) (by kernel_rfl) (by kernel_rfl) (by kernel_rfl) ?_
      refine load_one 3 (by kernel_rfl : atP _ _ _ 3 true = some (Op.load 3 (tmpO 14), 3, some 15, Rg.sq (bitL 10 189) 4)) (n := 1) (by kernel_rfl) rfl ?_
      intro L w1 hs
      refine ⟨.v (Value.int IntKind.i64 ((xs)[i]'(by assumption))), rd_sc (rdRow_ext (hs.old 0 rfl) hxs) (by assumption), ?_⟩
      clear hs
      refine go mixed 2000 [0, 1, 5, 17] 0 (St.mk Rg.no [kCd (bitL 10 701), kCd (bitL 9 445), KI.block 1, kCd (bitL 7 125), kLp (bitL 5 29), KI.block 0, KI.code [true, true]] [(0, vS (some a_1) xs.length cxs), (1, vI (k + (↑i : Int))), (5, vI (↑i : Int)), (17, vB (xs[i] != k + (↑i : Int)))] []) (by kernel_rfl) (by kernel_rfl) (by kernel_rfl) ?_
      refine split_at 17 (b := xs[i] != k + (↑i : Int)) (by kernel_rfl) (by kernel_rfl) ?_ ?_
      · intro hb2
        replace hb2 := bne_iff_ne.1 hb2
        (exfalso; omega)
      · intro hb2
        replace hb2 := bne_eq_false_iff_eq.1 hb2
        refine go mixed 2000 [0, 1, 5] 0 (St.mk Rg.no [kLp (bitL 5 29), KI.block 0, KI.code [true, true]] [(0, vS (some a_1) xs.length cxs), (1, vI (IntKind.i64.wrap (k + (↑i : Int) + 1))), (5, vI (IntKind.i64.wrap ((↑i : Int) + 1)))] []) (by kernel_rfl) (by kernel_rfl) (by kernel_rfl) ?_
        simp only [fl_ne_self, fl_eq_self, fl_eq0, fl_ne0, fl_gt0, fl_lt0, nf_1]
        rw [wrap_succ (by omega)]; exact ih (i + 1) hlt (by omega)
    · intro hb1
      replace hb1 := of_decide_eq_false hb1
      (exfalso; omega)
  · obtain rfl : i = xs.length := by omega
    refine go mixed 2000 [0, 1, 5, 9] 0 (St.mk Rg.no [kCd (bitL 7 93), kCd (bitL 6 61), kLp (bitL 5 29), KI.block 0, KI.code [true, true]] [(0, vS Axs xs.length cxs), (1, vI (k + (↑xs.length : Int))), (5, vI (↑xs.length : Int)), (9, vB (decide ((↑xs.length : Int) < (↑xs.length : Int))))] []) (by kernel_rfl) (by kernel_rfl) (by kernel_rfl) ?_
    refine split_at 9 (b := decide ((↑xs.length : Int) < (↑xs.length : Int))) (by kernel_rfl) (by kernel_rfl) ?_ ?_
    · intro hb1
      replace hb1 := of_decide_eq_true hb1
      (exfalso; omega)
    · intro hb1
      replace hb1 := of_decide_eq_false hb1
      refine go mixed 2000 [4] 0 (St.mk Rg.no [kCd (bitL 3 7)] [(4, vI (k + (↑xs.length : Int)))] []) (by kernel_rfl) (by kernel_rfl) (by kernel_rfl) ?_
      refine ret_ok (vs := [vI (k + (↑xs.length : Int))]) (by kernel_rfl) ?_
      intro L w1 hs
      exact ⟨rfl, hs.out0⟩

theorem lawTreeFind_ok (t : Tr) (cst : List Value) (k : It) (csk : List Value) (w : World) (ht : kTr.rd w.heap t cst) (hk : kIt.rd w.heap k csk) (hw : wTr t) (hby : byTr t) (wk : wIt k) (pk : byOk k.t) :
    Calls Try.prog 6 #[.agg cst.toArray, .agg csk.toArray] w fun e w' => e = .returned (.bool true) ∧ Below w.heap.size w w' := by
  obtain ⟨Atnodes, ctnodes, rfl, hrtnodes⟩ := kTr_inv ht
  obtain ⟨bkf, Akt, ckt, rfl, hbkf, hfkf, hrkt⟩ := kIt_inv hk
  refine enter (args := [.agg [.v (.slice Atnodes t.nodes.length ctnodes), .v (.int .i64 t.root)], .agg [.v (.int .i64 k.kind), .v (.int .i64 k.n), .v (.float .f64 bkf), .v (.slice Akt k.t.length ckt)]]) Try.func6 (c := bodyOf Try.f6) rfl rfl (start_LOK _) (start_old w) ?_
  skip
  refine go mixed 2000 [2, 3, 14, 15] 2 (St.mk (Rg.sq (bitL 3 3) 2) [kCd (bitL 3 7)] [(2, vR 0 0), (3, vR 1 0), (14, SV.agg [cS Atnodes t.nodes.length ctnodes, cI t.root]), (15, vI 1048576)] [LB.mk [cS Atnodes t.nodes.length ctnodes, cI t.root] 24, LB.mk [cI k.kind, cI k.n, cF bkf, cS Akt k.t.length ckt] 42]) (by kernel_rfl) (by kernel_rfl) (by kernel_rfl) ?_
  refine call_at true (by kernel_rfl : atC _ _ _ true = some (12, [SV.agg [cS Atnodes t.nodes.length ctnodes, cI t.root], vI 1048576], some 16, Rg.sq (bitL 3 3) 3)) (by kernel_rfl) (fun L w1 hs => (Go.Proofs.Ytgleoebogikooaa.Dk.szTree_ok (t) ([Value.slice Atnodes t.nodes.length ctnodes, Value.int IntKind.i64 t.root]) (1048576) w1 (Go.Proofs.Ytgleoebogikooaa.Dk.kTr_mk (rdRow_ext (hs.old 0 rfl) hrtnodes)) (by omega) (by omega) (by assumption)).mono ?_)
  rintro e_ w2_ ⟨r_1, rfl, hf_, hq1⟩
  refine ⟨.one (.v (Value.int IntKind.i64 r_1)), _, _, rfl, fun _ => hf_.block, hs.below hf_, ?_⟩
  clear hs hf_
  refine go mixed 2000 [2, 3, 5, 18] 2 (St.mk Rg.no [kCd (bitL 5 23), kCd (bitL 4 15)] [(2, vR 0 0), (3, vR 1 0), (5, vI r_1), (18, vB (decide (r_1 < 0)))] [LB.mk [cS Atnodes t.nodes.length ctnodes, cI t.root] 24, LB.mk [cI k.kind, cI k.n, cF bkf, cS Akt k.t.length ckt] 42]) (by kernel_rfl) (by kernel_rfl) (by kernel_rfl) ?_
  refine split_at 18 (b := decide (r_1 < 0)) (by kernel_rfl) (by kernel_rfl) ?_ ?_
  · intro hb1
    replace hb1 := of_decide_eq_true hb1
    refine go mixed 2000 [4] 0 (St.mk Rg.no [kCd (bitL 7 87), kCd (bitL 4 15)] [(4, vL true)] []) (by kernel_rfl) (by kernel_rfl) (by kernel_rfl) ?_
    refine ret_ok (vs := [vL true]) (by kernel_rfl) ?_
    intro L w1 hs
    exact ⟨rfl, hs.out0⟩
  intro hb1
  replace hb1 := of_decide_eq_false hb1
  refine go mixed 2000 [2, 3, 19, 20] 2 (St.mk (Rg.sq (bitL 5 15) 2) [kCd (bitL 5 31)] [(2, vR 0 0), (3, vR 1 0), (19, SV.agg [cI k.kind, cI k.n, cF bkf, cS Akt k.t.length ckt]), (20, vI r_1)] [LB.mk [cS Atnodes t.nodes.length ctnodes, cI t.root] 24, LB.mk [cI k.kind, cI k.n, cF bkf, cS Akt k.t.length ckt] 42]) (by kernel_rfl) (by kernel_rfl) (by kernel_rfl) ?_
  refine call_at true (by kernel_rfl : atC _ _ _ true = some (25, [SV.agg [cI k.kind, cI k.n, cF bkf, cS Akt k.t.length ckt], vI r_1], some 21, Rg.sq (bitL 5 15) 3)) (by kernel_rfl) (fun L w1 hs => (Go.Proofs.Ytgleoebogikooaa.Dk.szItem_ok (k) ([Value.int IntKind.i64 k.kind, Value.int IntKind.i64 k.n, Value.float FloatKind.f64 bkf, Value.slice Akt k.t.length ckt]) (r_1) w1 (Go.Proofs.Ytgleoebogikooaa.Dk.kIt_mk (by assumption) hfkf (rdRow_ext (hs.old 0 rfl) hrkt)) (by omega) (by omega) (by assumption)).mono ?_)
  rintro e_ w2_ ⟨r_2, rfl, hf_, hq2⟩
  refine ⟨.one (.v (Value.int IntKind.i64 r_2)), _, _, rfl, fun _ => hf_.block, hs.below hf_, ?_⟩
  clear hs hf_
  refine go mixed 2000 [2, 3, 23] 2 (St.mk Rg.no [kCd (bitL 7 95), kCd (bitL 6 63)] [(2, vR 0 0), (3, vR 1 0), (23, vB (decide (r_2 < 0)))] [LB.mk [cS Atnodes t.nodes.length ctnodes, cI t.root] 24, LB.mk [cI k.kind, cI k.n, cF bkf, cS Akt k.t.length ckt] 42]) (by kernel_rfl) (by kernel_rfl) (by kernel_rfl) ?_
  skip
  by_cases hneg : r_2 < 0
  · refine go mixed 2000 [2, 3, 23] 2 (St.mk Rg.no [kCd (bitL 7 95), kCd (bitL 6 63)] [(2, vR 0 0), (3, vR 1 0), (23, vB (decide (r_2 < 0)))] [LB.mk [cS Atnodes t.nodes.length ctnodes, cI t.root] 24, LB.mk [cI k.kind, cI k.n, cF bkf, cS Akt k.t.length ckt] 42]) (by kernel_rfl) (by kernel_rfl) (by kernel_rfl) ?_
    refine split_at 23 (b := decide (r_2 < 0)) (by kernel_rfl) (by kernel_rfl) ?_ ?_
    · intro hb2
      replace hb2 := of_decide_eq_true hb2
      refine go mixed 2000 [4] 0 (St.mk Rg.no [kCd (bitL 9 351), kCd (bitL 6 63)] [(4, vL true)] []) (by kernel_rfl) (by kernel_rfl) (by kernel_rfl) ?_
      refine ret_ok (vs := [vL true]) (by kernel_rfl) ?_
      intro L w1 hs
      exact ⟨rfl, hs.out0⟩
    · intro hb2
      replace hb2 := of_decide_eq_false hb2
      (exfalso; omega)
  have hzT : zTr t ≤ 1048576 := by omega
  have hkl := key_le hzT
  have hzz : zTr t = zRow zNd t.nodes := rfl
  have hz1 : zRow zNd t.nodes = t.nodes.length + (t.nodes.map zNd).sum := rfl
  have hn300 : (allR t).length ≤ 1200 := by
    unfold allR
    split
    · rename_i h
      have h1 := allR_len t
      unfold allR at h1
      rw [if_pos h] at h1
      unfold treeOk at h
      simp only [Bool.and_eq_true, decide_eq_true_eq] at h
      omega
    · simp
  have hal_ : (allR t).length ≤ 1048576 := by omega
  have hak : ∀ x ∈ allR t, x.key.t.length ≤ 1048576 := fun x hx => by
    obtain ⟨n, hn, he⟩ := allR_mem hx
    exact hkl n hn x he
  have hne : nEs (allR t) ≤ 68719476736 := by
    have h1 := nEs_le hak
    have h2 : (allR t).length * (4 + 1048576) ≤ 1200 * (4 + 1048576) := Nat.mul_le_mul_right _ hn300
    omega
  have hnn := nNs_z t.nodes
  have hzk : zIt k ≤ 1048576 := by omega
  have lk_ : k.t.length ≤ 1048576 := hzk
  have hfl_ := find_len t k
  have hfl2 : (findR t k).length ≤ 1048576 := by omega
  have hx_ : mkN (findR t k).length 1 = mkN (mkN (findR t k).length 1).length 1 := by rw [mkN_len]
  have nf_9 : (mkN (findR t k).length 1).length = (findR t k).length := mkN_len _ _
  refine go mixed 2000 [2, 3, 23] 2 (St.mk Rg.no [kCd (bitL 7 95), kCd (bitL 6 63)] [(2, vR 0 0), (3, vR 1 0), (23, vB (decide (r_2 < 0)))] [LB.mk [cS Atnodes t.nodes.length ctnodes, cI t.root] 24, LB.mk [cI k.kind, cI k.n, cF bkf, cS Akt k.t.length ckt] 42]) (by kernel_rfl) (by kernel_rfl) (by kernel_rfl) ?_
  refine split_at 23 (b := decide (r_2 < 0)) (by kernel_rfl) (by kernel_rfl) ?_ ?_
  · intro hb2
    replace hb2 := of_decide_eq_true hb2
    (exfalso; omega)
  intro hb2
  replace hb2 := of_decide_eq_false hb2
  refine go mixed 2000 [2, 3, 24, 26] 2 (St.mk (Rg.dr (bitL 7 63) (bitL 6 5) 4 2) [kCd (bitL 7 127)] [(2, vR 0 0), (3, vR 1 0), (24, SV.agg [cS Atnodes t.nodes.length ctnodes, cI t.root]), (26, SV.agg [cI k.kind, cI k.n, cF bkf, cS Akt k.t.length ckt])] [LB.mk [cS Atnodes t.nodes.length ctnodes, cI t.root] 24, LB.mk [cI k.kind, cI k.n, cF bkf, cS Akt k.t.length ckt] 42]) (by kernel_rfl) (by kernel_rfl) (by kernel_rfl) ?_
  refine call_at true (by kernel_rfl : atC _ _ _ true = some (14, [SV.agg [cS Atnodes t.nodes.length ctnodes, cI t.root]], some 25, Rg.dr (bitL 7 63) (bitL 6 7) 3 12)) (by kernel_rfl) (fun L w1 hs => (Go.Proofs.Ytgleoebogikooaa.Dk.toTree_ok (t) ([Value.slice Atnodes t.nodes.length ctnodes, Value.int IntKind.i64 t.root]) w1 (Go.Proofs.Ytgleoebogikooaa.Dk.kTr_mk (rdRow_ext (hs.old 0 rfl) hrtnodes)) (by assumption)).mono ?_)
  rintro e_ w2_ ⟨Aonodes_1, conodes_1, rfl, hf_⟩
  refine ⟨.agg [.v (Value.slice Aonodes_1 t.nodes.length conodes_1), .v (Value.int IntKind.i64 t.root)], _, _, rfl, fun _ => hf_.1.block, hs.fresh hf_, ?_⟩
  clear hs hf_
  refine go mixed 2000 [2, 3, 25, 26] 2 (St.mk (Rg.dr (bitL 7 63) (bitL 6 7) 3 12) [kCd (bitL 7 127)] [(2, vR 0 0), (3, vR 1 0), (25, SV.agg [cS Aonodes_1 t.nodes.length conodes_1, cI t.root]), (26, SV.agg [cI k.kind, cI k.n, cF bkf, cS Akt k.t.length ckt])] [LB.mk [cS Atnodes t.nodes.length ctnodes, cI t.root] 24, LB.mk [cI k.kind, cI k.n, cF bkf, cS Akt k.t.length ckt] 42]) (by kernel_rfl) (by kernel_rfl) (by kernel_rfl) ?_
  refine call_at true (by kernel_rfl : atC _ _ _ true = some (27, [SV.agg [cI k.kind, cI k.n, cF bkf, cS Akt k.t.length ckt]], some 27, Rg.dr (bitL 7 63) (bitL 6 15) 2 12)) (by kernel_rfl) (fun L w1 hs => (Go.Proofs.Ytgleoebogikooaa.Dk.toItem_ok (k) ([Value.int IntKind.i64 k.kind, Value.int IntKind.i64 k.n, Value.float FloatKind.f64 bkf, Value.slice Akt k.t.length ckt]) w1 (Go.Proofs.Ytgleoebogikooaa.Dk.kIt_mk (by assumption) hfkf (rdRow_ext (hs.old 1 rfl) hrkt)) (by assumption)).mono ?_)
  rintro e_ w2_ ⟨bof_1, Aot_1, cot_1, rfl, hf_, hq3, hq4⟩
  refine ⟨.agg [.v (Value.int IntKind.i64 k.kind), .v (Value.int IntKind.i64 k.n), .v (Value.float FloatKind.f64 bof_1), .v (Value.slice Aot_1 k.t.length cot_1)], _, _, rfl, fun _ => hf_.1.block, hs.fresh hf_, ?_⟩
  clear hs hf_
  refine go mixed 2000 [2, 3, 25, 27] 2 (St.mk (Rg.dr (bitL 7 63) (bitL 6 15) 2 12) [kCd (bitL 7 127)] [(2, vR 0 0), (3, vR 1 0), (25, SV.agg [cS Aonodes_1 t.nodes.length conodes_1, cI t.root]), (27, SV.agg [cI k.kind, cI k.n, cF bof_1, cS Aot_1 k.t.length cot_1])] [LB.mk [cS Atnodes t.nodes.length ctnodes, cI t.root] 24, LB.mk [cI k.kind, cI k.n, cF bkf, cS Akt k.t.length ckt] 42]) (by kernel_rfl) (by kernel_rfl) (by kernel_rfl) ?_
  refine call_at true (by kernel_rfl : atC _ _ _ true = some (26, [SV.agg [cS Aonodes_1 t.nodes.length conodes_1, cI t.root], SV.agg [cI k.kind, cI k.n, cF bof_1, cS Aot_1 k.t.length cot_1]], some 28, Rg.dr (bitL 7 63) (bitL 6 31) 1 12)) (by kernel_rfl) (fun L w1 hs => (Go.Proofs.Ytgleoebogikooaa.Dk.sTreeFind_ok (t) ([Value.slice Aonodes_1 t.nodes.length conodes_1, Value.int IntKind.i64 t.root]) (k) ([Value.int IntKind.i64 k.kind, Value.int IntKind.i64 k.n, Value.float FloatKind.f64 bof_1, Value.slice Aot_1 k.t.length cot_1]) w1 (Go.Proofs.Ytgleoebogikooaa.Dk.kTr_mk (hs.rd 1 rfl)) (Go.Proofs.Ytgleoebogikooaa.Dk.kIt_mk (by assumption) hq4 (hs.rd 0 rfl)) (by assumption) (by assumption) (by assumption) (by assumption)).mono ?_)
  rintro e_ w2_ ⟨B_1, d_1, rfl, hf_⟩
  refine ⟨.one (.v (Value.slice B_1 (findR t k).length d_1)), _, _, rfl, fun _ => hf_.1.block, hs.fresh hf_, ?_⟩
  clear hs hf_
  refine go mixed 2000 [2, 3, 6, 29] 2 (St.mk (Rg.sq (bitL 8 127) 1) [kCd (bitL 8 255)] [(2, vR 0 0), (3, vR 1 0), (6, vS B_1 (findR t k).length d_1), (29, SV.agg [cS Atnodes t.nodes.length ctnodes, cI t.root])] [LB.mk [cS Atnodes t.nodes.length ctnodes, cI t.root] 24, LB.mk [cI k.kind, cI k.n, cF bkf, cS Akt k.t.length ckt] 42]) (by kernel_rfl) (by kernel_rfl) (by kernel_rfl) ?_
  refine call_at true (by kernel_rfl : atC _ _ _ true = some (14, [SV.agg [cS Atnodes t.nodes.length ctnodes, cI t.root]], some 30, Rg.sq (bitL 8 127) 2)) (by kernel_rfl) (fun L w1 hs => (Go.Proofs.Ytgleoebogikooaa.Dk.toTree_ok (t) ([Value.slice Atnodes t.nodes.length ctnodes, Value.int IntKind.i64 t.root]) w1 (Go.Proofs.Ytgleoebogikooaa.Dk.kTr_mk (rdRow_ext (hs.old 3 rfl) hrtnodes)) (by assumption)).mono ?_)
  rintro e_ w2_ ⟨Aonodes_2, conodes_2, rfl, hf_⟩
  refine ⟨.agg [.v (Value.slice Aonodes_2 t.nodes.length conodes_2), .v (Value.int IntKind.i64 t.root)], _, _, rfl, fun _ => hf_.1.block, hs.fresh hf_, ?_⟩
  clear hs hf_
  refine go mixed 2000 [2, 3, 6, 7, 31] 3 (St.mk (Rg.sq (bitL 9 255) 1) [kCd (bitL 9 511)] [(2, vR 0 0), (3, vR 1 0), (6, vS B_1 (findR t k).length d_1), (7, vR 2 0), (31, SV.agg [cI k.kind, cI k.n, cF bkf, cS Akt k.t.length ckt])] [LB.mk [cS Atnodes t.nodes.length ctnodes, cI t.root] 24, LB.mk [cI k.kind, cI k.n, cF bkf, cS Akt k.t.length ckt] 42, LB.mk [cS Aonodes_2 t.nodes.length conodes_2, cI t.root] 29]) (by kernel_rfl) (by kernel_rfl) (by kernel_rfl) ?_
  refine call_at true (by kernel_rfl : atC _ _ _ true = some (27, [SV.agg [cI k.kind, cI k.n, cF bkf, cS Akt k.t.length ckt]], some 32, Rg.sq (bitL 9 255) 2)) (by kernel_rfl) (fun L w1 hs => (Go.Proofs.Ytgleoebogikooaa.Dk.toItem_ok (k) ([Value.int IntKind.i64 k.kind, Value.int IntKind.i64 k.n, Value.float FloatKind.f64 bkf, Value.slice Akt k.t.length ckt]) w1 (Go.Proofs.Ytgleoebogikooaa.Dk.kIt_mk (by assumption) hfkf (rdRow_ext (hs.old 4 rfl) hrkt)) (by assumption)).mono ?_)
  rintro e_ w2_ ⟨bof_2, Aot_2, cot_2, rfl, hf_, hq5, hq6⟩
  refine ⟨.agg [.v (Value.int IntKind.i64 k.kind), .v (Value.int IntKind.i64 k.n), .v (Value.float FloatKind.f64 bof_2), .v (Value.slice Aot_2 k.t.length cot_2)], _, _, rfl, fun _ => hf_.1.block, hs.fresh hf_, ?_⟩
  clear hs hf_
  refine go mixed 2000 [2, 3, 6, 7, 8, 33, 34] 4 (St.mk (Rg.sq (bitL 10 511) 2) [kCd (bitL 10 1023)] [(2, vR 0 0), (3, vR 1 0), (6, vS B_1 (findR t k).length d_1), (7, vR 2 0), (8, vR 3 0), (33, SV.agg [cS Aonodes_2 t.nodes.length conodes_2, cI t.root]), (34, SV.agg [cI k.kind, cI k.n, cF bof_2, cS Aot_2 k.t.length cot_2])] [LB.mk [cS Atnodes t.nodes.length ctnodes, cI t.root] 24, LB.mk [cI k.kind, cI k.n, cF bkf, cS Akt k.t.length ckt] 42, LB.mk [cS Aonodes_2 t.nodes.length conodes_2, cI t.root] 29, LB.mk [cI k.kind, cI k.n, cF bof_2, cS Aot_2 k.t.length cot_2] 46]) (by kernel_rfl) (by kernel_rfl) (by kernel_rfl) ?_
  refine call_at true (by kernel_rfl : atC _ _ _ true = some (28, [SV.agg [cS Aonodes_2 t.nodes.length conodes_2, cI t.root], SV.agg [cI k.kind, cI k.n, cF bof_2, cS Aot_2 k.t.length cot_2]], some 35, Rg.sq (bitL 10 511) 3)) (by kernel_rfl) (fun L w1 hs => (Go.Proofs.Ytgleoebogikooaa.Dk.iTreeFind_ok (t) ([Value.slice Aonodes_2 t.nodes.length conodes_2, Value.int IntKind.i64 t.root]) (k) ([Value.int IntKind.i64 k.kind, Value.int IntKind.i64 k.n, Value.float FloatKind.f64 bof_2, Value.slice Aot_2 k.t.length cot_2]) w1 (Go.Proofs.Ytgleoebogikooaa.Dk.kTr_mk (hs.rd 1 rfl)) (Go.Proofs.Ytgleoebogikooaa.Dk.kIt_mk (by assumption) hq6 (hs.rd 0 rfl)) (by assumption) (by assumption) (by assumption) (by assumption)).mono ?_)
  rintro e_ w2_ ⟨B_2, d_2, rfl, hf_⟩
  refine ⟨.one (.v (Value.slice B_2 (findR t k).length d_2)), _, _, rfl, fun _ => hf_.1.block, hs.fresh hf_, ?_⟩
  clear hs hf_
  refine go mixed 2000 [2, 3, 6, 7, 8, 9, 36, 37] 4 (St.mk (Rg.sq (bitL 12 1023) 2) [kCd (bitL 12 3071), kCd (bitL 11 2047)] [(2, vR 0 0), (3, vR 1 0), (6, vS B_1 (findR t k).length d_1), (7, vR 2 0), (8, vR 3 0), (9, vS B_2 (findR t k).length d_2), (36, vS B_2 (findR t k).length d_2), (37, vS B_1 (findR t k).length d_1)] [LB.mk [cS Atnodes t.nodes.length ctnodes, cI t.root] 24, LB.mk [cI k.kind, cI k.n, cF bkf, cS Akt k.t.length ckt] 42, LB.mk [cS Aonodes_2 t.nodes.length conodes_2, cI t.root] 29, LB.mk [cI k.kind, cI k.n, cF bof_2, cS Aot_2 k.t.length cot_2] 46]) (by kernel_rfl) (by kernel_rfl) (by kernel_rfl) ?_
  refine call_pure true (by kernel_rfl : atC _ _ _ true = some (29, [vS B_2 (findR t k).length d_2, vS B_1 (findR t k).length d_1], some 38, Rg.sq (bitL 12 1023) 3)) (by kernel_rfl) (.one (.bo (true))) (fun L w1 hs => (Go.Proofs.Ytgleoebogikooaa.Dk.eqIntS_ok (findR t k) (Value.slice B_2 (findR t k).length d_2) (Value.slice B_1 (findR t k).length d_1) w1 (hs.rd 0 rfl) (hs.rd 3 rfl) (by assumption))) ?_
  refine go mixed 2000 [2, 3, 6, 7, 8, 9, 39] 4 (St.mk Rg.no [kCd (bitL 12 3071), kCd (bitL 11 2047)] [(2, vR 0 0), (3, vR 1 0), (6, vS B_1 (findR t k).length d_1), (7, vR 2 0), (8, vR 3 0), (9, vS B_2 (findR t k).length d_2), (39, vB false)] [LB.mk [cS Atnodes t.nodes.length ctnodes, cI t.root] 24, LB.mk [cI k.kind, cI k.n, cF bkf, cS Akt k.t.length ckt] 42, LB.mk [cS Aonodes_2 t.nodes.length conodes_2, cI t.root] 29, LB.mk [cI k.kind, cI k.n, cF bof_2, cS Aot_2 k.t.length cot_2] 46]) (by kernel_rfl) (by kernel_rfl) (by kernel_rfl) ?_
  refine lit_at 39 (b := false) (by kernel_rfl) ?_
  refine go mixed 2000 [2, 3, 6, 7, 8, 9, 40, 41] 4 (St.mk (Rg.dr (bitL 13 2047) (bitL 5 3) 3 2) [kCd (bitL 13 6143), kCd (bitL 12 4095)] [(2, vR 0 0), (3, vR 1 0), (6, vS B_1 (findR t k).length d_1), (7, vR 2 0), (8, vR 3 0), (9, vS B_2 (findR t k).length d_2), (40, SV.agg [cS Aonodes_2 t.nodes.length conodes_2, cI t.root]), (41, SV.agg [cS Atnodes t.nodes.length ctnodes, cI t.root])] [LB.mk [cS Atnodes t.nodes.length ctnodes, cI t.root] 24, LB.mk [cI k.kind, cI k.n, cF bkf, cS Akt k.t.length ckt] 42, LB.mk [cS Aonodes_2 t.nodes.length conodes_2, cI t.root] 29, LB.mk [cI k.kind, cI k.n, cF bof_2, cS Aot_2 k.t.length cot_2] 46]) (by kernel_rfl) (by kernel_rfl) (by kernel_rfl) ?_
  refine call_at true (by kernel_rfl : atC _ _ _ true = some (14, [SV.agg [cS Atnodes t.nodes.length ctnodes, cI t.root]], some 42, Rg.dr (bitL 13 2047) (bitL 5 7) 2 14)) (by kernel_rfl) (fun L w1 hs => (Go.Proofs.Ytgleoebogikooaa.Dk.toTree_ok (t) ([Value.slice Atnodes t.nodes.length ctnodes, Value.int IntKind.i64 t.root]) w1 (Go.Proofs.Ytgleoebogikooaa.Dk.kTr_mk (rdRow_ext (hs.old 6 rfl) hrtnodes)) (by assumption)).mono ?_)
  rintro e_ w2_ ⟨Aonodes_3, conodes_3, rfl, hf_⟩
  refine ⟨.agg [.v (Value.slice Aonodes_3 t.nodes.length conodes_3), .v (Value.int IntKind.i64 t.root)], _, _, rfl, fun _ => hf_.1.block, hs.fresh hf_, ?_⟩
  clear hs hf_
  refine go mixed 2000 [2, 3, 6, 7, 8, 9, 40, 42] 4 (St.mk (Rg.dr (bitL 13 2047) (bitL 5 7) 2 14) [kCd (bitL 13 6143), kCd (bitL 12 4095)] [(2, vR 0 0), (3, vR 1 0), (6, vS B_1 (findR t k).length d_1), (7, vR 2 0), (8, vR 3 0), (9, vS B_2 (findR t k).length d_2), (40, SV.agg [cS Aonodes_2 t.nodes.length conodes_2, cI t.root]), (42, SV.agg [cS Aonodes_3 t.nodes.length conodes_3, cI t.root])] [LB.mk [cS Atnodes t.nodes.length ctnodes, cI t.root] 24, LB.mk [cI k.kind, cI k.n, cF bkf, cS Akt k.t.length ckt] 42, LB.mk [cS Aonodes_2 t.nodes.length conodes_2, cI t.root] 29, LB.mk [cI k.kind, cI k.n, cF bof_2, cS Aot_2 k.t.length cot_2] 46]) (by kernel_rfl) (by kernel_rfl) (by kernel_rfl) ?_
  refine call_pure true (by kernel_rfl : atC _ _ _ true = some (16, [SV.agg [cS Aonodes_2 t.nodes.length conodes_2, cI t.root], SV.agg [cS Aonodes_3 t.nodes.length conodes_3, cI t.root]], some 43, Rg.dr (bitL 13 2047) (bitL 5 15) 1 14)) (by kernel_rfl) (.one (.bo (true))) (fun L w1 hs => (Go.Proofs.Ytgleoebogikooaa.Dk.eqTree_ok (t) ([Value.slice Aonodes_2 t.nodes.length conodes_2, Value.int IntKind.i64 t.root]) ([Value.slice Aonodes_3 t.nodes.length conodes_3, Value.int IntKind.i64 t.root]) w1 (Go.Proofs.Ytgleoebogikooaa.Dk.kTr_mk (hs.rd 3 rfl)) (Go.Proofs.Ytgleoebogikooaa.Dk.kTr_mk (hs.rd 0 rfl)) (by assumption))) ?_
  refine go mixed 2000 [2, 3, 6, 7, 8, 9, 44] 4 (St.mk Rg.no [kCd (bitL 13 6143), kCd (bitL 12 4095)] [(2, vR 0 0), (3, vR 1 0), (6, vS B_1 (findR t k).length d_1), (7, vR 2 0), (8, vR 3 0), (9, vS B_2 (findR t k).length d_2), (44, vB false)] [LB.mk [cS Atnodes t.nodes.length ctnodes, cI t.root] 24, LB.mk [cI k.kind, cI k.n, cF bkf, cS Akt k.t.length ckt] 42, LB.mk [cS Aonodes_2 t.nodes.length conodes_2, cI t.root] 29, LB.mk [cI k.kind, cI k.n, cF bof_2, cS Aot_2 k.t.length cot_2] 46]) (by kernel_rfl) (by kernel_rfl) (by kernel_rfl) ?_
  refine lit_at 44 (b := false) (by kernel_rfl) ?_
  refine go mixed 2000 [2, 3, 6, 7, 8, 9, 45, 46] 4 (St.mk (Rg.dr (bitL 14 4095) (bitL 5 3) 3 2) [kCd (bitL 14 12287), kCd (bitL 13 8191)] [(2, vR 0 0), (3, vR 1 0), (6, vS B_1 (findR t k).length d_1), (7, vR 2 0), (8, vR 3 0), (9, vS B_2 (findR t k).length d_2), (45, SV.agg [cI k.kind, cI k.n, cF bof_2, cS Aot_2 k.t.length cot_2]), (46, SV.agg [cI k.kind, cI k.n, cF bkf, cS Akt k.t.length ckt])] [LB.mk [cS Atnodes t.nodes.length ctnodes, cI t.root] 24, LB.mk [cI k.kind, cI k.n, cF bkf, cS Akt k.t.length ckt] 42, LB.mk [cS Aonodes_2 t.nodes.length conodes_2, cI t.root] 29, LB.mk [cI k.kind, cI k.n, cF bof_2, cS Aot_2 k.t.length cot_2] 46]) (by kernel_rfl) (by kernel_rfl) (by kernel_rfl) ?_
  refine call_at true (by kernel_rfl : atC _ _ _ true = some (27, [SV.agg [cI k.kind, cI k.n, cF bkf, cS Akt k.t.length ckt]], some 47, Rg.dr (bitL 14 4095) (bitL 5 7) 2 14)) (by kernel_rfl) (fun L w1 hs => (Go.Proofs.Ytgleoebogikooaa.Dk.toItem_ok (k) ([Value.int IntKind.i64 k.kind, Value.int IntKind.i64 k.n, Value.float FloatKind.f64 bkf, Value.slice Akt k.t.length ckt]) w1 (Go.Proofs.Ytgleoebogikooaa.Dk.kIt_mk (by assumption) hfkf (rdRow_ext (hs.old 7 rfl) hrkt)) (by assumption)).mono ?_)
  rintro e_ w2_ ⟨bof_3, Aot_3, cot_3, rfl, hf_, hq7, hq8⟩
  refine ⟨.agg [.v (Value.int IntKind.i64 k.kind), .v (Value.int IntKind.i64 k.n), .v (Value.float FloatKind.f64 bof_3), .v (Value.slice Aot_3 k.t.length cot_3)], _, _, rfl, fun _ => hf_.1.block, hs.fresh hf_, ?_⟩
  clear hs hf_
  refine go mixed 2000 [2, 3, 6, 7, 8, 9, 45, 47] 4 (St.mk (Rg.dr (bitL 14 4095) (bitL 5 7) 2 14) [kCd (bitL 14 12287), kCd (bitL 13 8191)] [(2, vR 0 0), (3, vR 1 0), (6, vS B_1 (findR t k).length d_1), (7, vR 2 0), (8, vR 3 0), (9, vS B_2 (findR t k).length d_2), (45, SV.agg [cI k.kind, cI k.n, cF bof_2, cS Aot_2 k.t.length cot_2]), (47, SV.agg [cI k.kind, cI k.n, cF bof_3, cS Aot_3 k.t.length cot_3])] [LB.mk [cS Atnodes t.nodes.length ctnodes, cI t.root] 24, LB.mk [cI k.kind, cI k.n, cF bkf, cS Akt k.t.length ckt] 42, LB.mk [cS Aonodes_2 t.nodes.length conodes_2, cI t.root] 29, LB.mk [cI k.kind, cI k.n, cF bof_2, cS Aot_2 k.t.length cot_2] 46]) (by kernel_rfl) (by kernel_rfl) (by kernel_rfl) ?_
  refine call_pure true (by kernel_rfl : atC _ _ _ true = some (30, [SV.agg [cI k.kind, cI k.n, cF bof_2, cS Aot_2 k.t.length cot_2], SV.agg [cI k.kind, cI k.n, cF bof_3, cS Aot_3 k.t.length cot_3]], some 48, Rg.dr (bitL 14 4095) (bitL 5 15) 1 14)) (by kernel_rfl) (.one (.bo (true))) (fun L w1 hs => (Go.Proofs.Ytgleoebogikooaa.Dk.eqItem_ok (k) ([Value.int IntKind.i64 k.kind, Value.int IntKind.i64 k.n, Value.float FloatKind.f64 bof_2, Value.slice Aot_2 k.t.length cot_2]) ([Value.int IntKind.i64 k.kind, Value.int IntKind.i64 k.n, Value.float FloatKind.f64 bof_3, Value.slice Aot_3 k.t.length cot_3]) w1 (Go.Proofs.Ytgleoebogikooaa.Dk.kIt_mk (by assumption) hq6 (hs.rd 3 rfl)) (Go.Proofs.Ytgleoebogikooaa.Dk.kIt_mk (by assumption) (by assumption) (hs.rd 0 rfl)) (by assumption))) ?_
  refine go mixed 2000 [2, 3, 6, 7, 8, 9, 49] 4 (St.mk Rg.no [kCd (bitL 14 12287), kCd (bitL 13 8191)] [(2, vR 0 0), (3, vR 1 0), (6, vS B_1 (findR t k).length d_1), (7, vR 2 0), (8, vR 3 0), (9, vS B_2 (findR t k).length d_2), (49, vB false)] [LB.mk [cS Atnodes t.nodes.length ctnodes, cI t.root] 24, LB.mk [cI k.kind, cI k.n, cF bkf, cS Akt k.t.length ckt] 42, LB.mk [cS Aonodes_2 t.nodes.length conodes_2, cI t.root] 29, LB.mk [cI k.kind, cI k.n, cF bof_2, cS Aot_2 k.t.length cot_2] 46]) (by kernel_rfl) (by kernel_rfl) (by kernel_rfl) ?_
  refine lit_at 49 (b := false) (by kernel_rfl) ?_
  refine go mixed 2000 [2, 3, 6, 8, 9, 50, 51] 4 (St.mk (Rg.sq (bitL 15 16383) 2) [kCd (bitL 15 32767)] [(2, vR 0 0), (3, vR 1 0), (6, vS B_1 (findR t k).length d_1), (8, vR 3 0), (9, vS B_2 (findR t k).length d_2), (50, SV.agg [cS Aonodes_2 t.nodes.length conodes_2, cI t.root]), (51, vI 1)] [LB.mk [cS Atnodes t.nodes.length ctnodes, cI t.root] 24, LB.mk [cI k.kind, cI k.n, cF bkf, cS Akt k.t.length ckt] 42, LB.mk [cS Aonodes_2 t.nodes.length conodes_2, cI t.root] 29, LB.mk [cI k.kind, cI k.n, cF bof_2, cS Aot_2 k.t.length cot_2] 46]) (by kernel_rfl) (by kernel_rfl) (by kernel_rfl) ?_
  refine h_bring 4 rfl ?_
  refine call_mut (A := [rowA 96 kNd t.nodes (.slice Aonodes_2 t.nodes.length conodes_2)]) (by kernel_rfl : atC _ _ _ false = some (22, [SV.agg [cS Aonodes_2 t.nodes.length conodes_2, cI t.root], vI 1], some 52, Rg.sq (bitL 15 16383) 3)) (by kernel_rfl) (fun L w1 S1 hs hA hS1 => (markTree_ok t _ _ 1 w1 S1 hA hS1 hzT (by omega)).mono ?_)
  rintro e w2 ⟨rfl, hm⟩
  refine ⟨.one (.v (.int .i64 _)), _, rfl, hm, ?_⟩
  clear hm hs hA hS1
  refine go mixed 2000 [2, 3, 6, 9, 53, 54] 2 (St.mk (Rg.sq (bitL 16 32767) 2) [kCd (bitL 16 65535)] [(2, vR 0 0), (3, vR 1 0), (6, vS B_1 (findR t k).length d_1), (9, vS B_2 (findR t k).length d_2), (53, SV.agg [cI k.kind, cI k.n, cF bof_2, cS Aot_2 k.t.length cot_2]), (54, vI (1 + (↑(nNs t.nodes) : Int)))] [LB.mk [cS Atnodes t.nodes.length ctnodes, cI t.root] 24, LB.mk [cI k.kind, cI k.n, cF bkf, cS Akt k.t.length ckt] 42]) (by kernel_rfl) (by kernel_rfl) (by kernel_rfl) ?_
  simp only [fl_ne_self, fl_eq_self, fl_eq0, fl_ne0, fl_gt0, fl_lt0, hbkf, hfkf, hq3, hq4, hq5, hq6, hq7, hq8, nf_9]
  refine h_bring 3 rfl ?_
  refine call_mut (A := [rowA 5 kU8 k.t (.slice Aot_2 k.t.length cot_2)]) (by kernel_rfl : atC _ _ _ false = some (31, [SV.agg [cI k.kind, cI k.n, cF bof_2, cS Aot_2 k.t.length cot_2], vI (1 + (↑(nNs t.nodes) : Int))], some 55, Rg.sq (bitL 16 32767) 3)) (by kernel_rfl) (fun L w1 S1 hs hA hS1 => (markItem_ok k _ _ _ _ w1 S1 hA hS1 (by assumption) (by omega)).mono ?_)
  rintro e w2 ⟨rfl, hm⟩
  refine ⟨.one (.v (.int .i64 _)), _, rfl, hm, ?_⟩
  clear hm hs hA hS1
  refine go mixed 2000 [2, 3, 6, 9, 58] 2 (St.mk (Rg.sq (bitL 18 65535) 3) [kCd (bitL 18 196607), kCd (bitL 17 131071)] [(2, vR 0 0), (3, vR 1 0), (6, vS B_1 (findR t k).length d_1), (9, vS B_2 (findR t k).length d_2), (58, vB (decide (1 + (↑(nNs t.nodes) : Int) + (↑k.t.length : Int) < 0)))] [LB.mk [cS Atnodes t.nodes.length ctnodes, cI t.root] 24, LB.mk [cI k.kind, cI k.n, cF bkf, cS Akt k.t.length ckt] 42]) (by kernel_rfl) (by kernel_rfl) (by kernel_rfl) ?_
  simp only [fl_ne_self, fl_eq_self, fl_eq0, fl_ne0, fl_gt0, fl_lt0, hbkf, hfkf, hq3, hq4, hq5, hq6, hq7, hq8, nf_9]
  refine split_at 58 (b := decide (1 + (↑(nNs t.nodes) : Int) + (↑k.t.length : Int) < 0)) (by kernel_rfl) (by kernel_rfl) ?_ ?_
  · intro hb3
    replace hb3 := of_decide_eq_true hb3
    (exfalso; omega)
  intro hb3
  replace hb3 := of_decide_eq_false hb3
  refine go mixed 2000 [2, 3, 6, 9, 58, 59, 60] 2 (St.mk (Rg.sq (bitL 18 65535) 5) [kCd (bitL 18 196607), kCd (bitL 17 131071)] [(2, vR 0 0), (3, vR 1 0), (6, vS B_1 (findR t k).length d_1), (9, vS B_2 (findR t k).length d_2), (58, vL false), (59, vS B_2 (findR t k).length d_2), (60, vS B_1 (findR t k).length d_1)] [LB.mk [cS Atnodes t.nodes.length ctnodes, cI t.root] 24, LB.mk [cI k.kind, cI k.n, cF bkf, cS Akt k.t.length ckt] 42]) (by kernel_rfl) (by kernel_rfl) (by kernel_rfl) ?_
  refine call_pure true (by kernel_rfl : atC _ _ _ true = some (29, [vS B_2 (findR t k).length d_2, vS B_1 (findR t k).length d_1], some 61, Rg.sq (bitL 18 65535) 6)) (by kernel_rfl) (.one (.bo (true))) (fun L w1 hs => (Go.Proofs.Ytgleoebogikooaa.Dk.eqIntS_ok (findR t k) (Value.slice B_2 (findR t k).length d_2) (Value.slice B_1 (findR t k).length d_1) w1 (hs.rd 2 rfl) (hs.rd 3 rfl) (by assumption))) ?_
  refine go mixed 2000 [2, 3, 6, 9, 63] 2 (St.mk Rg.no [kCd (bitL 18 196607), kCd (bitL 17 131071)] [(2, vR 0 0), (3, vR 1 0), (6, vS B_1 (findR t k).length d_1), (9, vS B_2 (findR t k).length d_2), (63, vB false)] [LB.mk [cS Atnodes t.nodes.length ctnodes, cI t.root] 24, LB.mk [cI k.kind, cI k.n, cF bkf, cS Akt k.t.length ckt] 42]) (by kernel_rfl) (by kernel_rfl) (by kernel_rfl) ?_
  refine lit_at 63 (b := false) (by kernel_rfl) ?_
  refine go mixed 2000 [2, 3, 6, 9, 64, 65] 2 (St.mk (Rg.sq (bitL 19 262143) 2) [kCd (bitL 19 524287)] [(2, vR 0 0), (3, vR 1 0), (6, vS B_1 (findR t k).length d_1), (9, vS B_2 (findR t k).length d_2), (64, vS B_2 (findR t k).length d_2), (65, vI 1)] [LB.mk [cS Atnodes t.nodes.length ctnodes, cI t.root] 24, LB.mk [cI k.kind, cI k.n, cF bkf, cS Akt k.t.length ckt] 42]) (by kernel_rfl) (by kernel_rfl) (by kernel_rfl) ?_
  refine h_bring 2 rfl ?_
  refine call_mut (A := [rowA 3 kI64 (findR t k) (.slice B_2 (findR t k).length d_2)]) (by kernel_rfl : atC _ _ _ false = some (32, [vS B_2 (findR t k).length d_2, vI 1], some 66, Rg.sq (bitL 19 262143) 3)) (by kernel_rfl) (fun L w1 S1 hs hA hS1 => (markIntS_ok (findR t k) _ _ 1 w1 S1 hA hS1 (by omega) (by omega)).mono ?_)
  rintro e w2 ⟨rfl, hm⟩
  refine ⟨.one (.v (.int .i64 _)), _, rfl, hm, ?_⟩
  clear hm hs hA hS1
  refine go mixed 2000 [2, 3, 6, 9, 11, 67, 68] 2 (St.mk (Rg.sq (bitL 21 1048575) 2) [kCd (bitL 21 2097151)] [(2, vR 0 0), (3, vR 1 0), (6, vS B_1 (findR t k).length d_1), (9, vS B_2 (findR t k).length d_2), (11, vI (1 + (↑(findR t k).length : Int))), (67, vS B_2 (findR t k).length d_2), (68, vI 1)] [LB.mk [cS Atnodes t.nodes.length ctnodes, cI t.root] 24, LB.mk [cI k.kind, cI k.n, cF bkf, cS Akt k.t.length ckt] 42]) (by kernel_rfl) (by kernel_rfl) (by kernel_rfl) ?_
  simp only [fl_ne_self, fl_eq_self, fl_eq0, fl_ne0, fl_gt0, fl_lt0, hbkf, hfkf, hq3, hq4, hq5, hq6, hq7, hq8, nf_9]
  refine call_pure true (by kernel_rfl : atC _ _ _ true = some (33, [vS B_2 (findR t k).length d_2, vI 1], some 69, Rg.sq (bitL 21 1048575) 3)) (by kernel_rfl) (.one (.v (Value.int IntKind.i64 (1 + (↑(mkN (findR t k).length 1).length : Int))))) (fun L w1 hs => (Go.Proofs.Ytgleoebogikooaa.Dk.heldIntS_ok (mkN (findR t k).length 1) (Value.slice B_2 (findR t k).length d_2) (1) w1 (hs.rd 0 rfl) (by assumption) (by omega) (by omega))) ?_
  refine go mixed 2000 [2, 3, 6, 9, 11, 12, 71] 2 (St.mk Rg.no [kCd (bitL 23 6291455), kCd (bitL 22 4194303)] [(2, vR 0 0), (3, vR 1 0), (6, vS B_1 (findR t k).length d_1), (9, vS B_2 (findR t k).length d_2), (11, vI (1 + (↑(findR t k).length : Int))), (12, vI (1 + (↑(mkN (findR t k).length 1).length : Int))), (71, vB (decide (1 + (↑(mkN (findR t k).length 1).length : Int) < 0)))] [LB.mk [cS Atnodes t.nodes.length ctnodes, cI t.root] 24, LB.mk [cI k.kind, cI k.n, cF bkf, cS Akt k.t.length ckt] 42]) (by kernel_rfl) (by kernel_rfl) (by kernel_rfl) ?_
  simp only [fl_ne_self, fl_eq_self, fl_eq0, fl_ne0, fl_gt0, fl_lt0, hbkf, hfkf, hq3, hq4, hq5, hq6, hq7, hq8, nf_9]
  refine split_at 71 (b := decide (1 + (↑(findR t k).length : Int) < 0)) (by kernel_rfl) (by kernel_rfl) ?_ ?_
  · intro hb4
    replace hb4 := of_decide_eq_true hb4
    (exfalso; omega)
  · intro hb4
    replace hb4 := of_decide_eq_false hb4
    refine go mixed 2000 [2, 3, 6, 9, 11, 74] 2 (St.mk Rg.no [kCd (bitL 24 12582911), kCd (bitL 23 8388607)] [(2, vR 0 0), (3, vR 1 0), (6, vS B_1 (findR t k).length d_1), (9, vS B_2 (findR t k).length d_2), (11, vI (1 + (↑(findR t k).length : Int))), (74, vB (1 + (↑(findR t k).length : Int) != 1 + (↑(findR t k).length : Int)))] [LB.mk [cS Atnodes t.nodes.length ctnodes, cI t.root] 24, LB.mk [cI k.kind, cI k.n, cF bkf, cS Akt k.t.length ckt] 42]) (by kernel_rfl) (by kernel_rfl) (by kernel_rfl) ?_
    refine split_at 74 (b := 1 + (↑(findR t k).length : Int) != 1 + (↑(findR t k).length : Int)) (by kernel_rfl) (by kernel_rfl) ?_ ?_
    · intro hb5
      replace hb5 := bne_iff_ne.1 hb5
      (exfalso; omega)
    · intro hb5
      replace hb5 := bne_eq_false_iff_eq.1 hb5
      refine go mixed 2000 [6, 9, 11, 75, 77] 0 (St.mk (Rg.dr (bitL 24 8388607) (bitL 6 5) 4 2) [kCd (bitL 24 16777215)] [(6, vS B_1 (findR t k).length d_1), (9, vS B_2 (findR t k).length d_2), (11, vI (1 + (↑(findR t k).length : Int))), (75, SV.agg [cS Atnodes t.nodes.length ctnodes, cI t.root]), (77, SV.agg [cI k.kind, cI k.n, cF bkf, cS Akt k.t.length ckt])] []) (by kernel_rfl) (by kernel_rfl) (by kernel_rfl) ?_
      refine call_at true (by kernel_rfl : atC _ _ _ true = some (14, [SV.agg [cS Atnodes t.nodes.length ctnodes, cI t.root]], some 76, Rg.dr (bitL 24 8388607) (bitL 6 7) 3 10)) (by kernel_rfl) (fun L w1 hs => (Go.Proofs.Ytgleoebogikooaa.Dk.toTree_ok (t) ([Value.slice Atnodes t.nodes.length ctnodes, Value.int IntKind.i64 t.root]) w1 (Go.Proofs.Ytgleoebogikooaa.Dk.kTr_mk (rdRow_ext (hs.old 6 rfl) hrtnodes)) (by assumption)).mono ?_)
      rintro e_ w2_ ⟨Aonodes_4, conodes_4, rfl, hf_⟩
      refine ⟨.agg [.v (Value.slice Aonodes_4 t.nodes.length conodes_4), .v (Value.int IntKind.i64 t.root)], _, _, rfl, fun _ => hf_.1.block, hs.fresh hf_, ?_⟩
      clear hs hf_
      refine go mixed 2000 [6, 9, 11, 76, 77] 0 (St.mk (Rg.dr (bitL 24 8388607) (bitL 6 7) 3 10) [kCd (bitL 24 16777215)] [(6, vS B_1 (findR t k).length d_1), (9, vS B_2 (findR t k).length d_2), (11, vI (1 + (↑(findR t k).length : Int))), (76, SV.agg [cS Aonodes_4 t.nodes.length conodes_4, cI t.root]), (77, SV.agg [cI k.kind, cI k.n, cF bkf, cS Akt k.t.length ckt])] []) (by kernel_rfl) (by kernel_rfl) (by kernel_rfl) ?_
      refine call_at true (by kernel_rfl : atC _ _ _ true = some (27, [SV.agg [cI k.kind, cI k.n, cF bkf, cS Akt k.t.length ckt]], some 78, Rg.dr (bitL 24 8388607) (bitL 6 15) 2 10)) (by kernel_rfl) (fun L w1 hs => (Go.Proofs.Ytgleoebogikooaa.Dk.toItem_ok (k) ([Value.int IntKind.i64 k.kind, Value.int IntKind.i64 k.n, Value.float FloatKind.f64 bkf, Value.slice Akt k.t.length ckt]) w1 (Go.Proofs.Ytgleoebogikooaa.Dk.kIt_mk (by assumption) hfkf (rdRow_ext (hs.old 7 rfl) hrkt)) (by assumption)).mono ?_)
      rintro e_ w2_ ⟨bof_4, Aot_4, cot_4, rfl, hf_, hq9, hq10⟩
      refine ⟨.agg [.v (Value.int IntKind.i64 k.kind), .v (Value.int IntKind.i64 k.n), .v (Value.float FloatKind.f64 bof_4), .v (Value.slice Aot_4 k.t.length cot_4)], _, _, rfl, fun _ => hf_.1.block, hs.fresh hf_, ?_⟩
      clear hs hf_
      refine go mixed 2000 [6, 9, 11, 76, 78] 0 (St.mk (Rg.dr (bitL 24 8388607) (bitL 6 15) 2 10) [kCd (bitL 24 16777215)] [(6, vS B_1 (findR t k).length d_1), (9, vS B_2 (findR t k).length d_2), (11, vI (1 + (↑(findR t k).length : Int))), (76, SV.agg [cS Aonodes_4 t.nodes.length conodes_4, cI t.root]), (78, SV.agg [cI k.kind, cI k.n, cF bof_4, cS Aot_4 k.t.length cot_4])] []) (by kernel_rfl) (by kernel_rfl) (by kernel_rfl) ?_
      refine call_at true (by kernel_rfl : atC _ _ _ true = some (28, [SV.agg [cS Aonodes_4 t.nodes.length conodes_4, cI t.root], SV.agg [cI k.kind, cI k.n, cF bof_4, cS Aot_4 k.t.length cot_4]], some 79, Rg.dr (bitL 24 8388607) (bitL 6 31) 1 10)) (by kernel_rfl) (fun L w1 hs => (Go.Proofs.Ytgleoebogikooaa.Dk.iTreeFind_ok (t) ([Value.slice Aonodes_4 t.nodes.length conodes_4, Value.int IntKind.i64 t.root]) (k) ([Value.int IntKind.i64 k.kind, Value.int IntKind.i64 k.n, Value.float FloatKind.f64 bof_4, Value.slice Aot_4 k.t.length cot_4]) w1 (Go.Proofs.Ytgleoebogikooaa.Dk.kTr_mk (hs.rd 1 rfl)) (Go.Proofs.Ytgleoebogikooaa.Dk.kIt_mk (by assumption) hq10 (hs.rd 0 rfl)) (by assumption) (by assumption) (by assumption) (by assumption)).mono ?_)
      rintro e_ w2_ ⟨B_3, d_3, rfl, hf_⟩
      refine ⟨.one (.v (Value.slice B_3 (findR t k).length d_3)), _, _, rfl, fun _ => hf_.1.block, hs.fresh hf_, ?_⟩
      clear hs hf_
      refine go mixed 2000 [9, 11, 80, 81] 0 (St.mk (Rg.sq (bitL 26 16777215) 2) [kCd (bitL 26 50331647), kCd (bitL 25 33554431)] [(9, vS B_2 (findR t k).length d_2), (11, vI (1 + (↑(findR t k).length : Int))), (80, vS B_3 (findR t k).length d_3), (81, vS B_1 (findR t k).length d_1)] []) (by kernel_rfl) (by kernel_rfl) (by kernel_rfl) ?_
      refine call_pure true (by kernel_rfl : atC _ _ _ true = some (29, [vS B_3 (findR t k).length d_3, vS B_1 (findR t k).length d_1], some 82, Rg.sq (bitL 26 16777215) 3)) (by kernel_rfl) (.one (.bo (true))) (fun L w1 hs => (Go.Proofs.Ytgleoebogikooaa.Dk.eqIntS_ok (findR t k) (Value.slice B_3 (findR t k).length d_3) (Value.slice B_1 (findR t k).length d_1) w1 (hs.rd 0 rfl) (hs.rd 6 rfl) (by assumption))) ?_
      refine go mixed 2000 [9, 11, 83] 0 (St.mk Rg.no [kCd (bitL 26 50331647), kCd (bitL 25 33554431)] [(9, vS B_2 (findR t k).length d_2), (11, vI (1 + (↑(findR t k).length : Int))), (83, vB false)] []) (by kernel_rfl) (by kernel_rfl) (by kernel_rfl) ?_
      refine lit_at 83 (b := false) (by kernel_rfl) ?_
      refine go mixed 2000 [11, 84, 85] 0 (St.mk (Rg.sq (bitL 27 67108863) 2) [kCd (bitL 27 134217727)] [(11, vI (1 + (↑(findR t k).length : Int))), (84, vS B_2 (findR t k).length d_2), (85, vI 1)] []) (by kernel_rfl) (by kernel_rfl) (by kernel_rfl) ?_
      refine call_pure true (by kernel_rfl : atC _ _ _ true = some (33, [vS B_2 (findR t k).length d_2, vI 1], some 86, Rg.sq (bitL 27 67108863) 3)) (by kernel_rfl) (.one (.v (Value.int IntKind.i64 (1 + (↑(mkN (findR t k).length 1).length : Int))))) (fun L w1 hs => (Go.Proofs.Ytgleoebogikooaa.Dk.heldIntS_ok (mkN (findR t k).length 1) (Value.slice B_2 (findR t k).length d_2) (1) w1 (hs.rd 3 rfl) (by assumption) (by omega) (by omega))) ?_
      refine go mixed 2000 [11, 12, 88] 0 (St.mk Rg.no [kCd (bitL 29 402653183), kCd (bitL 28 268435455)] [(11, vI (1 + (↑(findR t k).length : Int))), (12, vI (1 + (↑(mkN (findR t k).length 1).length : Int))), (88, vB (decide (1 + (↑(mkN (findR t k).length 1).length : Int) < 0)))] []) (by kernel_rfl) (by kernel_rfl) (by kernel_rfl) ?_
      simp only [fl_ne_self, fl_eq_self, fl_eq0, fl_ne0, fl_gt0, fl_lt0, hbkf, hfkf, hq3, hq4, hq5, hq6, hq7, hq8, hq9, hq10, nf_9]
      refine split_at 88 (b := decide (1 + (↑(findR t k).length : Int) < 0)) (by kernel_rfl) (by kernel_rfl) ?_ ?_
      · intro hb6
        replace hb6 := of_decide_eq_true hb6
        (exfalso; omega)
      · intro hb6
        replace hb6 := of_decide_eq_false hb6
        refine go mixed 2000 [91] 0 (St.mk Rg.no [kCd (bitL 30 805306367), kCd (bitL 29 536870911)] [(91, vB (1 + (↑(findR t k).length : Int) != 1 + (↑(findR t k).length : Int)))] []) (by kernel_rfl) (by kernel_rfl) (by kernel_rfl) ?_
        refine split_at 91 (b := 1 + (↑(findR t k).length : Int) != 1 + (↑(findR t k).length : Int)) (by kernel_rfl) (by kernel_rfl) ?_ ?_
        · intro hb7
          replace hb7 := bne_iff_ne.1 hb7
          (exfalso; omega)
        · intro hb7
          replace hb7 := bne_eq_false_iff_eq.1 hb7
          refine go mixed 2000 [4] 0 (St.mk Rg.no [kCd (bitL 30 1073741823)] [(4, vL true)] []) (by kernel_rfl) (by kernel_rfl) (by kernel_rfl) ?_
          refine ret_ok (vs := [vL true]) (by kernel_rfl) ?_
          intro L w1 hs
          exact ⟨rfl, (hs.erases [0, 0, 0, 0, 0, 0, 0, 0, 0]).out0⟩

end Go.Proofs.Ytgleoebogikooaa.Dk
