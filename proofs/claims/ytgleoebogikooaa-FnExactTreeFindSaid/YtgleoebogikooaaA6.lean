/- Walks of functions of the program: what each call returns and what it leaves in memory. Conditions: those that each theorem names. -/
import Derived.Test.YtgleoebogikooaaA5
namespace Go.Proofs.Ytgleoebogikooaa.Dk
set_option linter.unusedVariables false
set_option linter.unusedSimpArgs false
open Go.Proofs.Ytgleoebogikooaa.Sx Go.Proofs Go.RowKit
set_option maxRecDepth 100000
set_option maxHeartbeats 1000000
theorem sItemCmp_ok (a : It) (csa : List Value) (b : It) (csb : List Value) (w : World) (ha : kIt.rd w.heap a csa) (hb : kIt.rd w.heap b csb) (la : a.t.length ≤ 1048576) (lb : b.t.length ≤ 1048576) :
    Calls Try.prog 66 #[.agg csa.toArray, .agg csb.toArray] w fun e w' => e = .returned (.int .i64 (if itemOk a && itemOk b then cmpIt a b else -2)) ∧ Below w.heap.size w w' := by
  obtain ⟨baf, Aat, cat, rfl, hbaf, hfaf, hrat⟩ := kIt_inv ha
  obtain ⟨bbf, Abt, cbt, rfl, hbbf, hfbf, hrbt⟩ := kIt_inv hb
  refine enter (args := [.agg [.v (.int .i64 a.kind), .v (.int .i64 a.n), .v (.float .f64 baf), .v (.slice Aat a.t.length cat)], .agg [.v (.int .i64 b.kind), .v (.int .i64 b.n), .v (.float .f64 bbf), .v (.slice Abt b.t.length cbt)]]) Try.func66 (c := bodyOf Try.f66) rfl rfl (start_LOK _) (start_old w) ?_
  refine go mixed 2000 [2, 3, 6] 2 (St.mk (Rg.sq (bitL 3 1) 1) [kCd (bitL 3 5), KI.code [true, true]] [(2, vR 0 0), (3, vR 1 0), (6, SV.agg [cI a.kind, cI a.n, cF baf, cS Aat a.t.length cat])] [LB.mk [cI a.kind, cI a.n, cF baf, cS Aat a.t.length cat] 46, LB.mk [cI b.kind, cI b.n, cF bbf, cS Abt b.t.length cbt] 46]) (by kernel_rfl) (by kernel_rfl) (by kernel_rfl) ?_
  refine call_pure true (by kernel_rfl : atC _ _ _ true = some (104, [SV.agg [cI a.kind, cI a.n, cF baf, cS Aat a.t.length cat]], some 7, Rg.sq (bitL 3 1) 2)) (by kernel_rfl) (.one (.bo (itemOk a))) (fun L w1 hs => (Go.Proofs.Ytgleoebogikooaa.Dk.sItemOk_ok (a) ([Value.int IntKind.i64 a.kind, Value.int IntKind.i64 a.n, Value.float FloatKind.f64 baf, Value.slice Aat a.t.length cat]) w1 (Go.Proofs.Ytgleoebogikooaa.Dk.kIt_mk (by assumption) hfaf (rdRow_ext (hs.old 0 rfl) hrat)))) ?_
  refine go mixed 2000 [2, 3, 9] 2 (St.mk (Rg.sq (bitL 3 1) 4) [kCd (bitL 3 5), KI.code [true, true]] [(2, vR 0 0), (3, vR 1 0), (9, vB !itemOk a)] [LB.mk [cI a.kind, cI a.n, cF baf, cS Aat a.t.length cat] 46, LB.mk [cI b.kind, cI b.n, cF bbf, cS Abt b.t.length cbt] 46]) (by kernel_rfl) (by kernel_rfl) (by kernel_rfl) ?_
  refine split_at 9 (b := !itemOk a) (by kernel_rfl) (by kernel_rfl) ?_ ?_
  · intro hb1
    try simp only [decide_eq_true_eq, decide_eq_false_iff_not, Bool.not_eq_true', Bool.not_eq_false', Bool.and_eq_true, Bool.or_eq_true, Bool.and_eq_false_imp, bne_iff_ne, beq_iff_eq, bne_eq_false_iff_eq, beq_eq_false_iff_ne, ne_eq, Decidable.not_not, Int.not_le, Int.not_lt, Nat.not_le, Nat.not_lt] at hb1
    refine go mixed 2000 [4] 0 (St.mk Rg.no [kCd (bitL 5 21), KI.code [true, true]] [(4, vI (-2))] []) (by kernel_rfl) (by kernel_rfl) (by kernel_rfl) ?_
    refine ret_ok (vs := [vI (-2)]) (by kernel_rfl) ?_
    intro L w1 hs
    exact ⟨retI (by simp [cmpIt, orI, cmpI, *]), hs.out0⟩
  · intro hb1
    try simp only [decide_eq_true_eq, decide_eq_false_iff_not, Bool.not_eq_true', Bool.not_eq_false', Bool.and_eq_true, Bool.or_eq_true, Bool.and_eq_false_imp, bne_iff_ne, beq_iff_eq, bne_eq_false_iff_eq, beq_eq_false_iff_ne, ne_eq, Decidable.not_not, Int.not_le, Int.not_lt, Nat.not_le, Nat.not_lt] at hb1
    refine go mixed 2000 [2, 3, 9, 10] 2 (St.mk (Rg.sq (bitL 3 1) 5) [kCd (bitL 3 5), KI.code [true, true]] [(2, vR 0 0), (3, vR 1 0), (9, vL false), (10, SV.agg [cI b.kind, cI b.n, cF bbf, cS Abt b.t.length cbt])] [LB.mk [cI a.kind, cI a.n, cF baf, cS Aat a.t.length cat] 46, LB.mk [cI b.kind, cI b.n, cF bbf, cS Abt b.t.length cbt] 46]) (by kernel_rfl) (by kernel_rfl) (by kernel_rfl) ?_
    refine call_pure true (by kernel_rfl : atC _ _ _ true = some (104, [SV.agg [cI b.kind, cI b.n, cF bbf, cS Abt b.t.length cbt]], some 11, Rg.sq (bitL 3 1) 6)) (by kernel_rfl) (.one (.bo (itemOk b))) (fun L w1 hs => (Go.Proofs.Ytgleoebogikooaa.Dk.sItemOk_ok (b) ([Value.int IntKind.i64 b.kind, Value.int IntKind.i64 b.n, Value.float FloatKind.f64 bbf, Value.slice Abt b.t.length cbt]) w1 (Go.Proofs.Ytgleoebogikooaa.Dk.kIt_mk (by assumption) hfbf (rdRow_ext (hs.old 0 rfl) hrbt)))) ?_
    refine go mixed 2000 [2, 3, 13] 2 (St.mk Rg.no [kCd (bitL 3 5), KI.code [true, true]] [(2, vR 0 0), (3, vR 1 0), (13, vB !itemOk b)] [LB.mk [cI a.kind, cI a.n, cF baf, cS Aat a.t.length cat] 46, LB.mk [cI b.kind, cI b.n, cF bbf, cS Abt b.t.length cbt] 46]) (by kernel_rfl) (by kernel_rfl) (by kernel_rfl) ?_
    refine split_at 13 (b := !itemOk b) (by kernel_rfl) (by kernel_rfl) ?_ ?_
    · intro hb2
      try simp only [decide_eq_true_eq, decide_eq_false_iff_not, Bool.not_eq_true', Bool.not_eq_false', Bool.and_eq_true, Bool.or_eq_true, Bool.and_eq_false_imp, bne_iff_ne, beq_iff_eq, bne_eq_false_iff_eq, beq_eq_false_iff_ne, ne_eq, Decidable.not_not, Int.not_le, Int.not_lt, Nat.not_le, Nat.not_lt] at hb2
      refine go mixed 2000 [4] 0 (St.mk Rg.no [kCd (bitL 5 21), KI.code [true, true]] [(4, vI (-2))] []) (by kernel_rfl) (by kernel_rfl) (by kernel_rfl) ?_
      refine ret_ok (vs := [vI (-2)]) (by kernel_rfl) ?_
      intro L w1 hs
      exact ⟨retI (by simp [cmpIt, orI, cmpI, *]), hs.out0⟩
    · intro hb2
      try simp only [decide_eq_true_eq, decide_eq_false_iff_not, Bool.not_eq_true', Bool.not_eq_false', Bool.and_eq_true, Bool.or_eq_true, Bool.and_eq_false_imp, bne_iff_ne, beq_iff_eq, bne_eq_false_iff_eq, beq_eq_false_iff_ne, ne_eq, Decidable.not_not, Int.not_le, Int.not_lt, Nat.not_le, Nat.not_lt] at hb2
      refine go mixed 2000 [2, 3, 18] 2 (St.mk Rg.no [kCd (bitL 4 11), kCd (bitL 3 7)] [(2, vR 0 0), (3, vR 1 0), (18, vB (a.kind != b.kind))] [LB.mk [cI a.kind, cI a.n, cF baf, cS Aat a.t.length cat] 46, LB.mk [cI b.kind, cI b.n, cF bbf, cS Abt b.t.length cbt] 46]) (by kernel_rfl) (by kernel_rfl) (by kernel_rfl) ?_
      refine split_at 18 (b := a.kind != b.kind) (by kernel_rfl) (by kernel_rfl) ?_ ?_
      · intro hb3
        replace hb3 := bne_iff_ne.1 hb3
        refine go mixed 2000 [23] 0 (St.mk Rg.no [kCd (bitL 7 75), kCd (bitL 6 43), kCd (bitL 3 7)] [(23, vB (decide (a.kind < b.kind)))] []) (by kernel_rfl) (by kernel_rfl) (by kernel_rfl) ?_
        refine split_at 23 (b := decide (a.kind < b.kind)) (by kernel_rfl) (by kernel_rfl) ?_ ?_
        · intro hb4
          replace hb4 := of_decide_eq_true hb4
          refine go mixed 2000 [4] 0 (St.mk Rg.no [kCd (bitL 9 331), kCd (bitL 6 43), kCd (bitL 3 7)] [(4, vI (-1))] []) (by kernel_rfl) (by kernel_rfl) (by kernel_rfl) ?_
          refine ret_ok (vs := [vI (-1)]) (by kernel_rfl) ?_
          intro L w1 hs
          exact ⟨retI (by simp [cmpIt, orI, cmpI, *]), hs.out0⟩
        · intro hb4
          replace hb4 := of_decide_eq_false hb4
          refine go mixed 2000 [4] 0 (St.mk Rg.no [kCd (bitL 7 107), kCd (bitL 3 7)] [(4, vI 1)] []) (by kernel_rfl) (by kernel_rfl) (by kernel_rfl) ?_
          refine ret_ok (vs := [vI 1]) (by kernel_rfl) ?_
          intro L w1 hs
          exact ⟨retI (by simp [cmpIt, orI, cmpI, *]; omega), hs.out0⟩
      · intro hb3
        replace hb3 := bne_eq_false_iff_eq.1 hb3
        refine go mixed 2000 [2, 3, 28] 2 (St.mk Rg.no [kCd (bitL 5 23), kCd (bitL 4 15)] [(2, vR 0 0), (3, vR 1 0), (28, vB (a.n != b.n))] [LB.mk [cI a.kind, cI a.n, cF baf, cS Aat a.t.length cat] 46, LB.mk [cI b.kind, cI b.n, cF bbf, cS Abt b.t.length cbt] 46]) (by kernel_rfl) (by kernel_rfl) (by kernel_rfl) ?_
        refine split_at 28 (b := a.n != b.n) (by kernel_rfl) (by kernel_rfl) ?_ ?_
        · intro hb4
          replace hb4 := bne_iff_ne.1 hb4
          refine go mixed 2000 [33] 0 (St.mk Rg.no [kCd (bitL 8 151), kCd (bitL 7 87), kCd (bitL 4 15)] [(33, vB (decide (a.n < b.n)))] []) (by kernel_rfl) (by kernel_rfl) (by kernel_rfl) ?_
          refine split_at 33 (b := decide (a.n < b.n)) (by kernel_rfl) (by kernel_rfl) ?_ ?_
          · intro hb5
            replace hb5 := of_decide_eq_true hb5
            refine go mixed 2000 [4] 0 (St.mk Rg.no [kCd (bitL 10 663), kCd (bitL 7 87), kCd (bitL 4 15)] [(4, vI (-1))] []) (by kernel_rfl) (by kernel_rfl) (by kernel_rfl) ?_
            refine ret_ok (vs := [vI (-1)]) (by kernel_rfl) ?_
            intro L w1 hs
            exact ⟨retI (by simp [cmpIt, orI, cmpI, *]), hs.out0⟩
          · intro hb5
            replace hb5 := of_decide_eq_false hb5
            refine go mixed 2000 [4] 0 (St.mk Rg.no [kCd (bitL 8 215), kCd (bitL 4 15)] [(4, vI 1)] []) (by kernel_rfl) (by kernel_rfl) (by kernel_rfl) ?_
            refine ret_ok (vs := [vI 1]) (by kernel_rfl) ?_
            intro L w1 hs
            exact ⟨retI (by simp [cmpIt, orI, cmpI, *]; omega), hs.out0⟩
        · intro hb4
          replace hb4 := bne_eq_false_iff_eq.1 hb4
          refine go mixed 2000 [2, 3, 35, 37] 2 (St.mk (Rg.sq (bitL 5 15) 4) [kCd (bitL 5 31)] [(2, vR 0 0), (3, vR 1 0), (35, SV.one (cF baf)), (37, SV.one (cF bbf))] [LB.mk [cI a.kind, cI a.n, cF baf, cS Aat a.t.length cat] 46, LB.mk [cI b.kind, cI b.n, cF bbf, cS Abt b.t.length cbt] 46]) (by kernel_rfl) (by kernel_rfl) (by kernel_rfl) ?_
          refine call_pure true (by kernel_rfl : atC _ _ _ true = some (106, [SV.one (cF baf), SV.one (cF bbf)], some 38, Rg.sq (bitL 5 15) 5)) (by kernel_rfl) (.one (.v (Value.int IntKind.i64 (cmpI (fRank (canonF baf)) (fRank (canonF bbf)))))) (fun L w1 hs => (Go.Proofs.Ytgleoebogikooaa.Dk.sFCmp_ok (baf) (bbf) w1 (by assumption) (by assumption))) ?_
          refine go mixed 2000 [2, 3, 5, 40] 2 (St.mk Rg.no [kCd (bitL 7 95), kCd (bitL 6 63)] [(2, vR 0 0), (3, vR 1 0), (5, vI (cmpI (fRank (canonF baf)) (fRank (canonF bbf)))), (40, vB (cmpI (fRank (canonF baf)) (fRank (canonF bbf)) != 0))] [LB.mk [cI a.kind, cI a.n, cF baf, cS Aat a.t.length cat] 46, LB.mk [cI b.kind, cI b.n, cF bbf, cS Abt b.t.length cbt] 46]) (by kernel_rfl) (by kernel_rfl) (by kernel_rfl) ?_
          simp only [fl_ne_self, fl_eq_self, fl_eq0, fl_ne0, fl_gt0, fl_lt0, hbaf, hfaf, hbbf, hfbf]
          refine split_at 40 (b := cmpI (fRank a.f) (fRank b.f) != 0) (by kernel_rfl) (by kernel_rfl) ?_ ?_
          · intro hb5
            replace hb5 := bne_iff_ne.1 hb5
            refine go mixed 2000 [4] 0 (St.mk Rg.no [kCd (bitL 9 351), kCd (bitL 6 63)] [(4, vI (cmpI (fRank a.f) (fRank b.f)))] []) (by kernel_rfl) (by kernel_rfl) (by kernel_rfl) ?_
            refine ret_ok (vs := [vI (cmpI (fRank a.f) (fRank b.f))]) (by kernel_rfl) ?_
            intro L w1 hs
            exact ⟨retI (by simp_all [cmpIt, orI, cmpI]), hs.out0⟩
          · intro hb5
            replace hb5 := bne_eq_false_iff_eq.1 hb5
            refine go mixed 2000 [43, 45] 0 (St.mk (Rg.sq (bitL 7 63) 4) [kCd (bitL 7 127)] [(43, vS Aat a.t.length cat), (45, vS Abt b.t.length cbt)] []) (by kernel_rfl) (by kernel_rfl) (by kernel_rfl) ?_
            refine call_pure true (by kernel_rfl : atC _ _ _ true = some (107, [vS Aat a.t.length cat, vS Abt b.t.length cbt], some 46, Rg.sq (bitL 7 63) 5)) (by kernel_rfl) (.one (.v (Value.int IntKind.i64 (cmpB a.t b.t)))) (fun L w1 hs => (Go.Proofs.Ytgleoebogikooaa.Dk.l3texts_ok (a.t) (Value.slice Aat a.t.length cat) (b.t) (Value.slice Abt b.t.length cbt) w1 (rdRow_ext (hs.old 0 rfl) hrat) (rdRow_ext (hs.old 0 rfl) hrbt) (by assumption) (by assumption))) ?_
            refine go mixed 2000 [4] 0 (St.mk Rg.no [kCd (bitL 7 127)] [(4, vI (cmpB a.t b.t))] []) (by kernel_rfl) (by kernel_rfl) (by kernel_rfl) ?_
            refine ret_ok (vs := [vI (cmpB a.t b.t)]) (by kernel_rfl) ?_
            intro L w1 hs
            exact ⟨retI (by simp_all [cmpIt, orI, cmpI]), hs.out0⟩

theorem keyOk_ok {a : It} (h : keyOk a = true) : itemOk a = true := by
  unfold keyOk at h
  simp only [Bool.and_eq_true] at h
  exact h.1
theorem sInSpan_ok (f : It) (csf : List Value) (t : It) (cst : List Value) (a : It) (csa : List Value) (w : World) (hf : kIt.rd w.heap f csf) (ht : kIt.rd w.heap t cst) (ha : kIt.rd w.heap a csa) (lf : f.t.length ≤ 1048576) (lt : t.t.length ≤ 1048576) (la : a.t.length ≤ 1048576) :
    Calls Try.prog 70 #[.agg csf.toArray, .agg cst.toArray, .agg csa.toArray] w fun e w' => e = .returned (.bool (inSpan f t a)) ∧ Below w.heap.size w w' := by
  obtain ⟨bff, Aft, cft, rfl, hbff, hfff, hrft⟩ := kIt_inv hf
  obtain ⟨btf, Att, ctt, rfl, hbtf, hftf, hrtt⟩ := kIt_inv ht
  obtain ⟨baf, Aat, cat, rfl, hbaf, hfaf, hrat⟩ := kIt_inv ha
  refine enter (args := [.agg [.v (.int .i64 f.kind), .v (.int .i64 f.n), .v (.float .f64 bff), .v (.slice Aft f.t.length cft)], .agg [.v (.int .i64 t.kind), .v (.int .i64 t.n), .v (.float .f64 btf), .v (.slice Att t.t.length ctt)], .agg [.v (.int .i64 a.kind), .v (.int .i64 a.n), .v (.float .f64 baf), .v (.slice Aat a.t.length cat)]]) Try.func70 (c := bodyOf Try.f70) rfl rfl (start_LOK _) (start_old w) ?_
  have k1 := @keyOk_ok f
  have k2 := @keyOk_ok t
  have k3 := @keyOk_ok a
  refine go mixed 2000 [3, 4, 5, 7] 3 (St.mk (Rg.sq [true, false] 1) [KI.code [true, true]] [(3, vR 0 0), (4, vR 1 0), (5, vR 2 0), (7, SV.agg [cI f.kind, cI f.n, cF bff, cS Aft f.t.length cft])] [LB.mk [cI f.kind, cI f.n, cF bff, cS Aft f.t.length cft] 46, LB.mk [cI t.kind, cI t.n, cF btf, cS Att t.t.length ctt] 46, LB.mk [cI a.kind, cI a.n, cF baf, cS Aat a.t.length cat] 46]) (by kernel_rfl) (by kernel_rfl) (by kernel_rfl) ?_
  refine call_pure true (by kernel_rfl : atC _ _ _ true = some (65, [SV.agg [cI f.kind, cI f.n, cF bff, cS Aft f.t.length cft]], some 8, Rg.sq [true, false] 2)) (by kernel_rfl) (.one (.bo (keyOk f))) (fun L w1 hs => (Go.Proofs.Ytgleoebogikooaa.Dk.sKeyOk_ok (f) ([Value.int IntKind.i64 f.kind, Value.int IntKind.i64 f.n, Value.float FloatKind.f64 bff, Value.slice Aft f.t.length cft]) w1 (Go.Proofs.Ytgleoebogikooaa.Dk.kIt_mk (by assumption) hfff (rdRow_ext (hs.old 0 rfl) hrft)))) ?_
  refine go mixed 2000 [3, 4, 5, 9] 3 (St.mk (Rg.sq [true, false] 3) [KI.code [true, true]] [(3, vR 0 0), (4, vR 1 0), (5, vR 2 0), (9, vB (keyOk f))] [LB.mk [cI f.kind, cI f.n, cF bff, cS Aft f.t.length cft] 46, LB.mk [cI t.kind, cI t.n, cF btf, cS Att t.t.length ctt] 46, LB.mk [cI a.kind, cI a.n, cF baf, cS Aat a.t.length cat] 46]) (by kernel_rfl) (by kernel_rfl) (by kernel_rfl) ?_
  refine split_at 9 (b := keyOk f) (by kernel_rfl) (by kernel_rfl) ?_ ?_
  · intro hb1
    refine go mixed 2000 [3, 4, 5, 9, 10] 3 (St.mk (Rg.sq [true, false] 4) [KI.code [true, true]] [(3, vR 0 0), (4, vR 1 0), (5, vR 2 0), (9, vL true), (10, SV.agg [cI t.kind, cI t.n, cF btf, cS Att t.t.length ctt])] [LB.mk [cI f.kind, cI f.n, cF bff, cS Aft f.t.length cft] 46, LB.mk [cI t.kind, cI t.n, cF btf, cS Att t.t.length ctt] 46, LB.mk [cI a.kind, cI a.n, cF baf, cS Aat a.t.length cat] 46]) (by kernel_rfl) (by kernel_rfl) (by kernel_rfl) ?_
    refine call_pure true (by kernel_rfl : atC _ _ _ true = some (65, [SV.agg [cI t.kind, cI t.n, cF btf, cS Att t.t.length ctt]], some 11, Rg.sq [true, false] 5)) (by kernel_rfl) (.one (.bo (keyOk t))) (fun L w1 hs => (Go.Proofs.Ytgleoebogikooaa.Dk.sKeyOk_ok (t) ([Value.int IntKind.i64 t.kind, Value.int IntKind.i64 t.n, Value.float FloatKind.f64 btf, Value.slice Att t.t.length ctt]) w1 (Go.Proofs.Ytgleoebogikooaa.Dk.kIt_mk (by assumption) hftf (rdRow_ext (hs.old 0 rfl) hrtt)))) ?_
    refine go mixed 2000 [3, 4, 5, 13] 3 (St.mk (Rg.sq [true, false] 7) [KI.code [true, true]] [(3, vR 0 0), (4, vR 1 0), (5, vR 2 0), (13, vB (keyOk t))] [LB.mk [cI f.kind, cI f.n, cF bff, cS Aft f.t.length cft] 46, LB.mk [cI t.kind, cI t.n, cF btf, cS Att t.t.length ctt] 46, LB.mk [cI a.kind, cI a.n, cF baf, cS Aat a.t.length cat] 46]) (by kernel_rfl) (by kernel_rfl) (by kernel_rfl) ?_
    refine split_at 13 (b := keyOk t) (by kernel_rfl) (by kernel_rfl) ?_ ?_
    · intro hb2
      refine go mixed 2000 [3, 4, 5, 13, 14] 3 (St.mk (Rg.sq [true, false] 8) [KI.code [true, true]] [(3, vR 0 0), (4, vR 1 0), (5, vR 2 0), (13, vL true), (14, SV.agg [cI a.kind, cI a.n, cF baf, cS Aat a.t.length cat])] [LB.mk [cI f.kind, cI f.n, cF bff, cS Aft f.t.length cft] 46, LB.mk [cI t.kind, cI t.n, cF btf, cS Att t.t.length ctt] 46, LB.mk [cI a.kind, cI a.n, cF baf, cS Aat a.t.length cat] 46]) (by kernel_rfl) (by kernel_rfl) (by kernel_rfl) ?_
      refine call_pure true (by kernel_rfl : atC _ _ _ true = some (65, [SV.agg [cI a.kind, cI a.n, cF baf, cS Aat a.t.length cat]], some 15, Rg.sq [true, false] 9)) (by kernel_rfl) (.one (.bo (keyOk a))) (fun L w1 hs => (Go.Proofs.Ytgleoebogikooaa.Dk.sKeyOk_ok (a) ([Value.int IntKind.i64 a.kind, Value.int IntKind.i64 a.n, Value.float FloatKind.f64 baf, Value.slice Aat a.t.length cat]) w1 (Go.Proofs.Ytgleoebogikooaa.Dk.kIt_mk (by assumption) hfaf (rdRow_ext (hs.old 0 rfl) hrat)))) ?_
      refine go mixed 2000 [3, 4, 5, 17] 3 (St.mk (Rg.sq [true, false] 11) [KI.code [true, true]] [(3, vR 0 0), (4, vR 1 0), (5, vR 2 0), (17, vB (keyOk a))] [LB.mk [cI f.kind, cI f.n, cF bff, cS Aft f.t.length cft] 46, LB.mk [cI t.kind, cI t.n, cF btf, cS Att t.t.length ctt] 46, LB.mk [cI a.kind, cI a.n, cF baf, cS Aat a.t.length cat] 46]) (by kernel_rfl) (by kernel_rfl) (by kernel_rfl) ?_
      refine split_at 17 (b := keyOk a) (by kernel_rfl) (by kernel_rfl) ?_ ?_
      · intro hb3
        refine go mixed 2000 [4, 5, 17, 18, 19] 3 (St.mk (Rg.sq [true, false] 13) [KI.code [true, true]] [(4, vR 1 0), (5, vR 2 0), (17, vL true), (18, SV.agg [cI f.kind, cI f.n, cF bff, cS Aft f.t.length cft]), (19, SV.agg [cI a.kind, cI a.n, cF baf, cS Aat a.t.length cat])] [LB.mk [cI f.kind, cI f.n, cF bff, cS Aft f.t.length cft] 46, LB.mk [cI t.kind, cI t.n, cF btf, cS Att t.t.length ctt] 46, LB.mk [cI a.kind, cI a.n, cF baf, cS Aat a.t.length cat] 46]) (by kernel_rfl) (by kernel_rfl) (by kernel_rfl) ?_
        refine call_pure true (by kernel_rfl : atC _ _ _ true = some (66, [SV.agg [cI f.kind, cI f.n, cF bff, cS Aft f.t.length cft], SV.agg [cI a.kind, cI a.n, cF baf, cS Aat a.t.length cat]], some 20, Rg.sq [true, false] 14)) (by kernel_rfl) (.one (.v (Value.int IntKind.i64 (if (itemOk f && itemOk a) = true then cmpIt f a else -2)))) (fun L w1 hs => (Go.Proofs.Ytgleoebogikooaa.Dk.sItemCmp_ok (f) ([Value.int IntKind.i64 f.kind, Value.int IntKind.i64 f.n, Value.float FloatKind.f64 bff, Value.slice Aft f.t.length cft]) (a) ([Value.int IntKind.i64 a.kind, Value.int IntKind.i64 a.n, Value.float FloatKind.f64 baf, Value.slice Aat a.t.length cat]) w1 (Go.Proofs.Ytgleoebogikooaa.Dk.kIt_mk (by assumption) hfff (rdRow_ext (hs.old 0 rfl) hrft)) (Go.Proofs.Ytgleoebogikooaa.Dk.kIt_mk (by assumption) hfaf (rdRow_ext (hs.old 0 rfl) hrat)) (by assumption) (by assumption))) ?_
        refine go mixed 2000 [4, 5, 23] 3 (St.mk (Rg.sq [true, false] 17) [KI.code [true, true]] [(4, vR 1 0), (5, vR 2 0), (23, vB (decide ((if (itemOk f && itemOk a) = true then cmpIt f a else -2) ≤ 0)))] [LB.mk [cI f.kind, cI f.n, cF bff, cS Aft f.t.length cft] 46, LB.mk [cI t.kind, cI t.n, cF btf, cS Att t.t.length ctt] 46, LB.mk [cI a.kind, cI a.n, cF baf, cS Aat a.t.length cat] 46]) (by kernel_rfl) (by kernel_rfl) (by kernel_rfl) ?_
        refine split_at 23 (b := decide ((if (itemOk f && itemOk a) = true then cmpIt f a else -2) ≤ 0)) (by kernel_rfl) (by kernel_rfl) ?_ ?_
        · intro hb4
          replace hb4 := of_decide_eq_true hb4
          refine go mixed 2000 [23, 24, 25] 0 (St.mk (Rg.sq [true, false] 19) [KI.code [true, true]] [(23, vL true), (24, SV.agg [cI a.kind, cI a.n, cF baf, cS Aat a.t.length cat]), (25, SV.agg [cI t.kind, cI t.n, cF btf, cS Att t.t.length ctt])] []) (by kernel_rfl) (by kernel_rfl) (by kernel_rfl) ?_
          refine call_pure true (by kernel_rfl : atC _ _ _ true = some (66, [SV.agg [cI a.kind, cI a.n, cF baf, cS Aat a.t.length cat], SV.agg [cI t.kind, cI t.n, cF btf, cS Att t.t.length ctt]], some 26, Rg.sq [true, false] 20)) (by kernel_rfl) (.one (.v (Value.int IntKind.i64 (if (itemOk a && itemOk t) = true then cmpIt a t else -2)))) (fun L w1 hs => (Go.Proofs.Ytgleoebogikooaa.Dk.sItemCmp_ok (a) ([Value.int IntKind.i64 a.kind, Value.int IntKind.i64 a.n, Value.float FloatKind.f64 baf, Value.slice Aat a.t.length cat]) (t) ([Value.int IntKind.i64 t.kind, Value.int IntKind.i64 t.n, Value.float FloatKind.f64 btf, Value.slice Att t.t.length ctt]) w1 (Go.Proofs.Ytgleoebogikooaa.Dk.kIt_mk (by assumption) hfaf (rdRow_ext (hs.old 0 rfl) hrat)) (Go.Proofs.Ytgleoebogikooaa.Dk.kIt_mk (by assumption) hftf (rdRow_ext (hs.old 0 rfl) hrtt)) (by assumption) (by assumption))) ?_
          refine go mixed 2000 [6] 0 (St.mk Rg.no [KI.code [true, true]] [(6, vB (decide ((if (itemOk a && itemOk t) = true then cmpIt a t else -2) ≤ 0)))] []) (by kernel_rfl) (by kernel_rfl) (by kernel_rfl) ?_
          refine ret_ok (vs := [vB (decide ((if (itemOk a && itemOk t) = true then cmpIt a t else -2) ≤ 0))]) (by kernel_rfl) ?_
          intro L w1 hs
          exact ⟨retB (by simp_all [inSpan]), hs.out0⟩
        · intro hb4
          replace hb4 := of_decide_eq_false hb4
          refine go mixed 2000 [6] 0 (St.mk Rg.no [KI.code [true, true]] [(6, vL false)] []) (by kernel_rfl) (by kernel_rfl) (by kernel_rfl) ?_
          refine ret_ok (vs := [vL false]) (by kernel_rfl) ?_
          intro L w1 hs
          exact ⟨retB (by rw [Bool.eq_iff_iff]; simp only [inSpan, Bool.and_eq_true, Bool.or_eq_true, Bool.not_eq_true', Bool.not_eq_false', Bool.and_eq_false_imp, Bool.or_eq_false_iff, decide_eq_true_eq, decide_eq_false_iff_not, beq_iff_eq, bne_iff_ne, Bool.false_eq_true, Bool.true_eq_false, ne_eq, true_iff, false_iff, iff_true, iff_false]; omega), hs.out0⟩
      · intro hb3
        refine go mixed 2000 [6] 0 (St.mk Rg.no [KI.code [true, true]] [(6, vL false)] []) (by kernel_rfl) (by kernel_rfl) (by kernel_rfl) ?_
        refine ret_ok (vs := [vL false]) (by kernel_rfl) ?_
        intro L w1 hs
        exact ⟨retB (by simp [inSpan, *]), hs.out0⟩
    · intro hb2
      refine go mixed 2000 [6] 0 (St.mk Rg.no [KI.code [true, true]] [(6, vL false)] []) (by kernel_rfl) (by kernel_rfl) (by kernel_rfl) ?_
      refine ret_ok (vs := [vL false]) (by kernel_rfl) ?_
      intro L w1 hs
      exact ⟨retB (by simp [inSpan, *]), hs.out0⟩
  · intro hb1
    refine go mixed 2000 [6] 0 (St.mk Rg.no [KI.code [true, true]] [(6, vL false)] []) (by kernel_rfl) (by kernel_rfl) (by kernel_rfl) ?_
    refine ret_ok (vs := [vL false]) (by kernel_rfl) ?_
    intro L w1 hs
    exact ⟨retB (by simp [inSpan, *]), hs.out0⟩

theorem l11entry_ok (x : En) (csx : List Value) (w : World) (hx : kEn.rd w.heap x csx) :
    Calls Try.prog 136 #[.agg csx.toArray] w fun e w' => e = .returned (.bool (entOk x)) ∧ Below w.heap.size w w' := by
  obtain ⟨bxkey_f, Axkey_t, cxkey_t, rfl, hbxkey_f, hfxkey_f, hrxkey_t⟩ := kEn_inv hx
  refine enter (args := [.agg [.v (.int .i64 x.key.kind), .v (.int .i64 x.key.n), .v (.float .f64 bxkey_f), .v (.slice Axkey_t x.key.t.length cxkey_t), .v (.int .i64 x.id)]]) Try.func136 (c := bodyOf Try.f136) rfl rfl (start_LOK _) (start_old w) ?_
  refine go mixed 2000 [1, 4] 1 (St.mk (Rg.sq [true, false] 2) [KI.code [true, true]] [(1, vR 0 0), (4, SV.agg [cI x.key.kind, cI x.key.n, cF bxkey_f, cS Axkey_t x.key.t.length cxkey_t])] [LB.mk [cI x.key.kind, cI x.key.n, cF bxkey_f, cS Axkey_t x.key.t.length cxkey_t, cI x.id] 101]) (by kernel_rfl) (by kernel_rfl) (by kernel_rfl) ?_
  refine call_pure true (by kernel_rfl : atC _ _ _ true = some (65, [SV.agg [cI x.key.kind, cI x.key.n, cF bxkey_f, cS Axkey_t x.key.t.length cxkey_t]], some 5, Rg.sq [true, false] 3)) (by kernel_rfl) (.one (.bo (keyOk x.key))) (fun L w1 hs => (Go.Proofs.Ytgleoebogikooaa.Dk.sKeyOk_ok (x.key) ([Value.int IntKind.i64 x.key.kind, Value.int IntKind.i64 x.key.n, Value.float FloatKind.f64 bxkey_f, Value.slice Axkey_t x.key.t.length cxkey_t]) w1 (Go.Proofs.Ytgleoebogikooaa.Dk.kIt_mk (by assumption) hfxkey_f (rdRow_ext (hs.old 0 rfl) hrxkey_t)))) ?_
  refine go mixed 2000 [1, 6] 1 (St.mk (Rg.sq [true, false] 4) [KI.code [true, true]] [(1, vR 0 0), (6, vB (keyOk x.key))] [LB.mk [cI x.key.kind, cI x.key.n, cF bxkey_f, cS Axkey_t x.key.t.length cxkey_t, cI x.id] 101]) (by kernel_rfl) (by kernel_rfl) (by kernel_rfl) ?_
  refine split_at 6 (b := keyOk x.key) (by kernel_rfl) (by kernel_rfl) ?_ ?_
  · intro hb1
    refine go mixed 2000 [6, 8] 0 (St.mk (Rg.sq [true, false] 6) [KI.code [true, true]] [(6, vL true), (8, vI x.id)] []) (by kernel_rfl) (by kernel_rfl) (by kernel_rfl) ?_
    refine call_pure true (by kernel_rfl : atC _ _ _ true = some (85, [vI x.id, vI 0, vI 255], some 9, Rg.sq [true, false] 7)) (by kernel_rfl) (.one (.bo (decide (0 ≤ x.id) && decide (x.id ≤ 255)))) (fun L w1 hs => (Go.Proofs.Ytgleoebogikooaa.Dk.l5in_ok (x.id) (0) (255) w1)) ?_
    refine go mixed 2000 [2] 0 (St.mk Rg.no [KI.code [true, true]] [(2, vB (decide (0 ≤ x.id) && decide (x.id ≤ 255)))] []) (by kernel_rfl) (by kernel_rfl) (by kernel_rfl) ?_
    refine ret_ok (vs := [vB (decide (0 ≤ x.id) && decide (x.id ≤ 255))]) (by kernel_rfl) ?_
    intro L w1 hs
    exact ⟨retB (by simp [entOk, *]), hs.out0⟩
  · intro hb1
    refine go mixed 2000 [2] 0 (St.mk Rg.no [KI.code [true, true]] [(2, vL false)] []) (by kernel_rfl) (by kernel_rfl) (by kernel_rfl) ?_
    refine ret_ok (vs := [vL false]) (by kernel_rfl) ?_
    intro L w1 hs
    exact ⟨retB (by simp [entOk, *]), hs.out0⟩

def lessEn (a b : En) : Bool := decide ((if itemOk a.key && itemOk b.key then cmpIt a.key b.key else -2) < 0) || decide ((if itemOk a.key && itemOk b.key then cmpIt a.key b.key else -2) = 0) && decide (a.id < b.id)
theorem l11less_ok (a : En) (csa : List Value) (b : En) (csb : List Value) (w : World) (ha : kEn.rd w.heap a csa) (hb : kEn.rd w.heap b csb) (la : a.key.t.length ≤ 1048576) (lb : b.key.t.length ≤ 1048576) :
    Calls Try.prog 137 #[.agg csa.toArray, .agg csb.toArray] w fun e w' => e = .returned (.bool (lessEn a b)) ∧ Below w.heap.size w w' := by
  obtain ⟨bakey_f, Aakey_t, cakey_t, rfl, hbakey_f, hfakey_f, hrakey_t⟩ := kEn_inv ha
  obtain ⟨bbkey_f, Abkey_t, cbkey_t, rfl, hbbkey_f, hfbkey_f, hrbkey_t⟩ := kEn_inv hb
  refine enter (args := [.agg [.v (.int .i64 a.key.kind), .v (.int .i64 a.key.n), .v (.float .f64 bakey_f), .v (.slice Aakey_t a.key.t.length cakey_t), .v (.int .i64 a.id)], .agg [.v (.int .i64 b.key.kind), .v (.int .i64 b.key.n), .v (.float .f64 bbkey_f), .v (.slice Abkey_t b.key.t.length cbkey_t), .v (.int .i64 b.id)]]) Try.func137 (c := bodyOf Try.f137) rfl rfl (start_LOK _) (start_old w) ?_
  refine go mixed 2000 [2, 3, 7, 9] 2 (St.mk (Rg.sq [true, false] 4) [KI.code [true, true]] [(2, vR 0 0), (3, vR 1 0), (7, SV.agg [cI a.key.kind, cI a.key.n, cF bakey_f, cS Aakey_t a.key.t.length cakey_t]), (9, SV.agg [cI b.key.kind, cI b.key.n, cF bbkey_f, cS Abkey_t b.key.t.length cbkey_t])] [LB.mk [cI a.key.kind, cI a.key.n, cF bakey_f, cS Aakey_t a.key.t.length cakey_t, cI a.id] 101, LB.mk [cI b.key.kind, cI b.key.n, cF bbkey_f, cS Abkey_t b.key.t.length cbkey_t, cI b.id] 101]) (by kernel_rfl) (by kernel_rfl) (by kernel_rfl) ?_
  refine call_pure true (by kernel_rfl : atC _ _ _ true = some (66, [SV.agg [cI a.key.kind, cI a.key.n, cF bakey_f, cS Aakey_t a.key.t.length cakey_t], SV.agg [cI b.key.kind, cI b.key.n, cF bbkey_f, cS Abkey_t b.key.t.length cbkey_t]], some 10, Rg.sq [true, false] 5)) (by kernel_rfl) (.one (.v (Value.int IntKind.i64 (if (itemOk a.key && itemOk b.key) = true then cmpIt a.key b.key else -2)))) (fun L w1 hs => (Go.Proofs.Ytgleoebogikooaa.Dk.sItemCmp_ok (a.key) ([Value.int IntKind.i64 a.key.kind, Value.int IntKind.i64 a.key.n, Value.float FloatKind.f64 bakey_f, Value.slice Aakey_t a.key.t.length cakey_t]) (b.key) ([Value.int IntKind.i64 b.key.kind, Value.int IntKind.i64 b.key.n, Value.float FloatKind.f64 bbkey_f, Value.slice Abkey_t b.key.t.length cbkey_t]) w1 (Go.Proofs.Ytgleoebogikooaa.Dk.kIt_mk (by assumption) hfakey_f (rdRow_ext (hs.old 0 rfl) hrakey_t)) (Go.Proofs.Ytgleoebogikooaa.Dk.kIt_mk (by assumption) hfbkey_f (rdRow_ext (hs.old 0 rfl) hrbkey_t)) (by assumption) (by assumption))) ?_
  refine go mixed 2000 [2, 3, 5, 13] 2 (St.mk (Rg.sq (bitL 3 3) 3) [kCd (bitL 3 7)] [(2, vR 0 0), (3, vR 1 0), (5, vI (if (itemOk a.key && itemOk b.key) = true then cmpIt a.key b.key else -2)), (13, vB (decide ((if (itemOk a.key && itemOk b.key) = true then cmpIt a.key b.key else -2) < 0)))] [LB.mk [cI a.key.kind, cI a.key.n, cF bakey_f, cS Aakey_t a.key.t.length cakey_t, cI a.id] 101, LB.mk [cI b.key.kind, cI b.key.n, cF bbkey_f, cS Abkey_t b.key.t.length cbkey_t, cI b.id] 101]) (by kernel_rfl) (by kernel_rfl) (by kernel_rfl) ?_
  refine split_at 13 (b := decide ((if (itemOk a.key && itemOk b.key) = true then cmpIt a.key b.key else -2) < 0)) (by kernel_rfl) (by kernel_rfl) ?_ ?_
  · intro hb1
    replace hb1 := of_decide_eq_true hb1
    refine go mixed 2000 [4] 0 (St.mk Rg.no [kCd (bitL 3 7)] [(4, vL true)] []) (by kernel_rfl) (by kernel_rfl) (by kernel_rfl) ?_
    refine ret_ok (vs := [vL true]) (by kernel_rfl) ?_
    intro L w1 hs
    exact ⟨retB (by simp_all [lessEn]), hs.out0⟩
  · intro hb1
    replace hb1 := of_decide_eq_false hb1
    refine go mixed 2000 [2, 3, 13, 16] 2 (St.mk (Rg.sq (bitL 3 3) 6) [kCd (bitL 3 7)] [(2, vR 0 0), (3, vR 1 0), (13, vL false), (16, vB ((if (itemOk a.key && itemOk b.key) = true then cmpIt a.key b.key else -2) == 0))] [LB.mk [cI a.key.kind, cI a.key.n, cF bakey_f, cS Aakey_t a.key.t.length cakey_t, cI a.id] 101, LB.mk [cI b.key.kind, cI b.key.n, cF bbkey_f, cS Abkey_t b.key.t.length cbkey_t, cI b.id] 101]) (by kernel_rfl) (by kernel_rfl) (by kernel_rfl) ?_
    refine split_at 16 (b := (if (itemOk a.key && itemOk b.key) = true then cmpIt a.key b.key else -2) == 0) (by kernel_rfl) (by kernel_rfl) ?_ ?_
    · intro hb2
      replace hb2 := beq_iff_eq.1 hb2
      refine go mixed 2000 [4] 0 (St.mk Rg.no [kCd (bitL 3 7)] [(4, vB (decide (a.id < b.id)))] []) (by kernel_rfl) (by kernel_rfl) (by kernel_rfl) ?_
      refine ret_ok (vs := [vB (decide (a.id < b.id))]) (by kernel_rfl) ?_
      intro L w1 hs
      exact ⟨retB (by simp_all [lessEn]), hs.out0⟩
    · intro hb2
      replace hb2 := beq_eq_false_iff_ne.1 hb2
      refine go mixed 2000 [4] 0 (St.mk Rg.no [kCd (bitL 3 7)] [(4, vL false)] []) (by kernel_rfl) (by kernel_rfl) (by kernel_rfl) ?_
      refine ret_ok (vs := [vL false]) (by kernel_rfl) ?_
      intro L w1 hs
      exact ⟨retB (by simp_all [lessEn]), hs.out0⟩

end Go.Proofs.Ytgleoebogikooaa.Dk
