/- Walks of functions of the program: what each call returns and what it leaves in memory. Conditions: those that each theorem names. -/
import Derived.Test.YtgleoebogikooaaA2
namespace Go.Proofs.Ytgleoebogikooaa.Dk
set_option linter.unusedVariables false
set_option linter.unusedSimpArgs false
open Go.Proofs.Ytgleoebogikooaa.Sx Go.Proofs Go.RowKit
set_option maxRecDepth 100000
set_option maxHeartbeats 1000000
def keyOk (a : It) : Bool := itemOk a && (!decide (a.kind = 0) && !decide (a.f = 9223372036854775808))
theorem iKeyOk_ok (a : It) (csa : List Value) (w : World) (ha : kIt.rd w.heap a csa) :
    Calls Try.prog 109 #[.agg csa.toArray] w fun e w' => e = .returned (.bool (keyOk a)) ∧ Below w.heap.size w w' := by
  obtain ⟨baf, Aat, cat, rfl, hbaf, hfaf, hrat⟩ := kIt_inv ha
  refine enter (args := [.agg [.v (.int .i64 a.kind), .v (.int .i64 a.n), .v (.float .f64 baf), .v (.slice Aat a.t.length cat)]]) Try.func109 (c := bodyOf Try.f109) rfl rfl (start_LOK _) (start_old w) ?_
  have hz := iff_of_eq (canonTop hbaf)
  rw [hfaf] at hz
  refine go mixed 2000 [1, 3] 1 (St.mk (Rg.sq [true, false] 1) [KI.code [true, true]] [(1, vR 0 0), (3, SV.agg [cI a.kind, cI a.n, cF baf, cS Aat a.t.length cat])] [LB.mk [cI a.kind, cI a.n, cF baf, cS Aat a.t.length cat] 46]) (by kernel_rfl) (by kernel_rfl) (by kernel_rfl) ?_
  refine call_pure true (by kernel_rfl : atC _ _ _ true = some (146, [SV.agg [cI a.kind, cI a.n, cF baf, cS Aat a.t.length cat]], some 4, Rg.sq [true, false] 2)) (by kernel_rfl) (.one (.bo (itemOk a))) (fun L w1 hs => (Go.Proofs.Ytgleoebogikooaa.Dk.iItemOk_ok (a) ([Value.int IntKind.i64 a.kind, Value.int IntKind.i64 a.n, Value.float FloatKind.f64 baf, Value.slice Aat a.t.length cat]) w1 (Go.Proofs.Ytgleoebogikooaa.Dk.kIt_mk (by assumption) hfaf (rdRow_ext (hs.old 0 rfl) hrat)))) ?_
  refine go mixed 2000 [1, 5] 1 (St.mk (Rg.sq [true, false] 3) [KI.code [true, true]] [(1, vR 0 0), (5, vB (itemOk a))] [LB.mk [cI a.kind, cI a.n, cF baf, cS Aat a.t.length cat] 46]) (by kernel_rfl) (by kernel_rfl) (by kernel_rfl) ?_
  refine split_at 5 (b := itemOk a) (by kernel_rfl) (by kernel_rfl) ?_ ?_
  · intro hb1
    refine go mixed 2000 [1, 10] 1 (St.mk (Rg.sq [true, false] 8) [KI.code [true, true]] [(1, vR 0 0), (10, vB (a.kind != 0))] [LB.mk [cI a.kind, cI a.n, cF baf, cS Aat a.t.length cat] 46]) (by kernel_rfl) (by kernel_rfl) (by kernel_rfl) ?_
    refine split_at 10 (b := a.kind != 0) (by kernel_rfl) (by kernel_rfl) ?_ ?_
    · intro hb2
      replace hb2 := bne_iff_ne.1 hb2
      refine go mixed 2000 [1, 10, 14] 1 (St.mk (Rg.sq [true, false] 12) [KI.code [true, true]] [(1, vR 0 0), (10, vL true), (14, vB (FloatKind.f64.format.order baf 0 != some Ordering.eq))] [LB.mk [cI a.kind, cI a.n, cF baf, cS Aat a.t.length cat] 46]) (by kernel_rfl) (by kernel_rfl) (by kernel_rfl) ?_
      simp only [fl_ne_self, fl_eq_self, fl_eq0, fl_ne0, fl_gt0, fl_lt0, hbaf, hfaf]
      refine split_at 14 (b := !decide (baf % 9223372036854775808 = 0)) (by kernel_rfl) (by kernel_rfl) ?_ ?_
      · intro hb3
        try simp only [decide_eq_true_eq, decide_eq_false_iff_not, Bool.not_eq_true', Bool.not_eq_false', Bool.and_eq_true, Bool.or_eq_true, Bool.and_eq_false_imp, bne_iff_ne, beq_iff_eq, bne_eq_false_iff_eq, beq_eq_false_iff_ne, ne_eq, Decidable.not_not, Int.not_le, Int.not_lt, Nat.not_le, Nat.not_lt] at hb3
        refine go mixed 2000 [2] 0 (St.mk Rg.no [KI.code [true, true]] [(2, vL true)] []) (by kernel_rfl) (by kernel_rfl) (by kernel_rfl) ?_
        refine ret_ok (vs := [vL true]) (by kernel_rfl) ?_
        intro L w1 hs
        exact ⟨retB (by simp [keyOk, *]), hs.out0⟩
      · intro hb3
        try simp only [decide_eq_true_eq, decide_eq_false_iff_not, Bool.not_eq_true', Bool.not_eq_false', Bool.and_eq_true, Bool.or_eq_true, Bool.and_eq_false_imp, bne_iff_ne, beq_iff_eq, bne_eq_false_iff_eq, beq_eq_false_iff_ne, ne_eq, Decidable.not_not, Int.not_le, Int.not_lt, Nat.not_le, Nat.not_lt] at hb3
        refine go mixed 2000 [10, 14, 16] 0 (St.mk (Rg.sq [true, false] 14) [KI.code [true, true]] [(10, vL true), (14, vL false), (16, SV.one (cF baf))] []) (by kernel_rfl) (by kernel_rfl) (by kernel_rfl) ?_
        refine ext_pure true (by kernel_rfl : atC _ _ _ true = some (147, [SV.one (cF baf)], some 17, Rg.sq [true, false] 15)) (.one (.v (Value.int IntKind.u64 (↑baf : Int)))) (fun L w1 hs => (Go.Proofs.Ytgleoebogikooaa.Dk.bits64_ext (baf) w1)) ?_
        refine go mixed 2000 [2] 0 (St.mk Rg.no [KI.code [true, true]] [(2, vB ((↑baf : Int) == 0))] []) (by kernel_rfl) (by kernel_rfl) (by kernel_rfl) ?_
        refine ret_ok (vs := [vB ((↑baf : Int) == 0)]) (by kernel_rfl) ?_
        intro L w1 hs
        exact ⟨retB (by rw [Bool.eq_iff_iff]; simp [keyOk, *]), hs.out0⟩
    · intro hb2
      replace hb2 := bne_eq_false_iff_eq.1 hb2
      refine go mixed 2000 [2] 0 (St.mk Rg.no [KI.code [true, true]] [(2, vL false)] []) (by kernel_rfl) (by kernel_rfl) (by kernel_rfl) ?_
      refine ret_ok (vs := [vL false]) (by kernel_rfl) ?_
      intro L w1 hs
      exact ⟨retB (by rw [Bool.eq_iff_iff]; simp only [keyOk, Bool.and_eq_true, Bool.or_eq_true, Bool.not_eq_true', Bool.not_eq_false', Bool.and_eq_false_imp, Bool.or_eq_false_iff, decide_eq_true_eq, decide_eq_false_iff_not, beq_iff_eq, bne_iff_ne, Bool.false_eq_true, Bool.true_eq_false, ne_eq, true_iff, false_iff, iff_true, iff_false]; omega), hs.out0⟩
  · intro hb1
    refine go mixed 2000 [2] 0 (St.mk Rg.no [KI.code [true, true]] [(2, vL false)] []) (by kernel_rfl) (by kernel_rfl) (by kernel_rfl) ?_
    refine ret_ok (vs := [vL false]) (by kernel_rfl) ?_
    intro L w1 hs
    exact ⟨retB (by simp [keyOk, *]), hs.out0⟩

theorem iCmpIt_ok (a : It) (csa : List Value) (b : It) (csb : List Value) (w : World) (ha : kIt.rd w.heap a csa) (hb : kIt.rd w.heap b csb) (pa : byOk a.t) (pb : byOk b.t) :
    Calls Try.prog 110 #[.agg csa.toArray, .agg csb.toArray] w fun e w' => e = .returned (.int .i64 (cmpIt a b)) ∧ Below w.heap.size w w' := by
  obtain ⟨baf, Aat, cat, rfl, hbaf, hfaf, hrat⟩ := kIt_inv ha
  obtain ⟨bbf, Abt, cbt, rfl, hbbf, hfbf, hrbt⟩ := kIt_inv hb
  refine enter (args := [.agg [.v (.int .i64 a.kind), .v (.int .i64 a.n), .v (.float .f64 baf), .v (.slice Aat a.t.length cat)], .agg [.v (.int .i64 b.kind), .v (.int .i64 b.n), .v (.float .f64 bbf), .v (.slice Abt b.t.length cbt)]]) Try.func110 (c := bodyOf Try.f110) rfl rfl (start_LOK _) (start_old w) ?_
  refine go mixed 2000 [6, 8, 11, 13, 16, 18, 21, 23] 0 (St.mk (Rg.dr [true, false] (bitL 23 507375) 7 2) [KI.code [true, true]] [(6, vI a.kind), (8, vI b.kind), (11, vI a.n), (13, vI b.n), (16, SV.one (cF baf)), (18, SV.one (cF bbf)), (21, vS Aat a.t.length cat), (23, vS Abt b.t.length cbt)] []) (by kernel_rfl) (by kernel_rfl) (by kernel_rfl) ?_
  refine call_pure true (by kernel_rfl : atC _ _ _ true = some (143, [vI a.kind, vI b.kind], some 9, Rg.dr [true, false] (bitL 23 507391) 6 10)) (by kernel_rfl) (.one (.v (Value.int IntKind.i64 (cmpI a.kind b.kind)))) (fun L w1 hs => (Go.Proofs.Ytgleoebogikooaa.Dk.cmpI_ok (a.kind) (b.kind) w1)) ?_
  refine go mixed 2000 [9, 11, 13, 16, 18, 21, 23] 0 (St.mk (Rg.dr [true, false] (bitL 23 507391) 6 10) [KI.code [true, true]] [(9, vI (cmpI a.kind b.kind)), (11, vI a.n), (13, vI b.n), (16, SV.one (cF baf)), (18, SV.one (cF bbf)), (21, vS Aat a.t.length cat), (23, vS Abt b.t.length cbt)] []) (by kernel_rfl) (by kernel_rfl) (by kernel_rfl) ?_
  refine call_pure true (by kernel_rfl : atC _ _ _ true = some (143, [vI a.n, vI b.n], some 14, Rg.dr [true, false] (bitL 23 507903) 5 10)) (by kernel_rfl) (.one (.v (Value.int IntKind.i64 (cmpI a.n b.n)))) (fun L w1 hs => (Go.Proofs.Ytgleoebogikooaa.Dk.cmpI_ok (a.n) (b.n) w1)) ?_
  refine go mixed 2000 [9, 14, 16, 18, 21, 23] 0 (St.mk (Rg.dr [true, false] (bitL 23 507903) 5 10) [KI.code [true, true]] [(9, vI (cmpI a.kind b.kind)), (14, vI (cmpI a.n b.n)), (16, SV.one (cF baf)), (18, SV.one (cF bbf)), (21, vS Aat a.t.length cat), (23, vS Abt b.t.length cbt)] []) (by kernel_rfl) (by kernel_rfl) (by kernel_rfl) ?_
  refine call_pure true (by kernel_rfl : atC _ _ _ true = some (148, [SV.one (cF baf), SV.one (cF bbf)], some 19, Rg.dr [true, false] (bitL 23 524287) 4 10)) (by kernel_rfl) (.one (.v (Value.int IntKind.i64 (cmpI (fRank (canonF baf)) (fRank (canonF bbf)))))) (fun L w1 hs => (Go.Proofs.Ytgleoebogikooaa.Dk.iFCmp_ok (baf) (bbf) w1 (by assumption) (by assumption))) ?_
  refine go mixed 2000 [9, 14, 19, 21, 23] 0 (St.mk (Rg.dr [true, false] (bitL 23 524287) 4 10) [KI.code [true, true]] [(9, vI (cmpI a.kind b.kind)), (14, vI (cmpI a.n b.n)), (19, vI (cmpI (fRank (canonF baf)) (fRank (canonF bbf)))), (21, vS Aat a.t.length cat), (23, vS Abt b.t.length cbt)] []) (by kernel_rfl) (by kernel_rfl) (by kernel_rfl) ?_
  simp only [fl_ne_self, fl_eq_self, fl_eq0, fl_ne0, fl_gt0, fl_lt0, hbaf, hfaf, hbbf, hfbf]
  refine call_pure true (by kernel_rfl : atC _ _ _ true = some (149, [vS Aat a.t.length cat, vS Abt b.t.length cbt], some 24, Rg.dr [true, false] (bitL 23 1048575) 3 10)) (by kernel_rfl) (.one (.v (Value.int IntKind.i64 (cmpB a.t b.t)))) (fun L w1 hs => (Go.Proofs.Ytgleoebogikooaa.Dk.bCmp_ok (a.t) (Value.slice Aat a.t.length cat) (b.t) (Value.slice Abt b.t.length cbt) w1 (rdRow_ext (hs.old 0 rfl) hrat) (rdRow_ext (hs.old 0 rfl) hrbt) (by assumption) (by assumption))) ?_
  refine go mixed 2000 [25] 1 (St.mk (Rg.dr [true, false] (bitL 23 2097151) 2 10) [KI.code [true, true]] [(25, SV.one (SC.sl 0 0 4 4))] [LB.mk [cI (cmpI a.kind b.kind), cI (cmpI a.n b.n), cI (cmpI (fRank a.f) (fRank b.f)), cI (cmpB a.t b.t)] 3]) (by kernel_rfl) (by kernel_rfl) (by kernel_rfl) ?_
  refine export_lit (A := []) (d := kI64) [cmpI a.kind b.kind, cmpI a.n b.n, cmpI (fRank a.f) (fRank b.f), cmpB a.t b.t] rfl rfl (by kernel_rfl) (by kernel_rfl) (by kernel_rfl) rfl (by simp [maxLen]) (fun h S _ => els_sc _) ?_
  intro g_
  refine go mixed 2000 [25] 0 (St.mk (Rg.dr [true, false] (bitL 23 2097151) 2 10) [KI.code [true, true]] [(25, vS (some (Addr.mk g_ 0 none)) 4 4)] []) (by kernel_rfl) (by kernel_rfl) (by kernel_rfl) ?_
  refine call_pure true (by kernel_rfl : atC _ _ _ true = some (142, [vS (some (Addr.mk g_ 0 none)) 4 4], some 26, Rg.dr [true, false] (bitL 23 4194303) 1 10)) (by kernel_rfl) (.one (.v (Value.int IntKind.i64 (orI [cmpI a.kind b.kind, cmpI a.n b.n, cmpI (fRank a.f) (fRank b.f), cmpB a.t b.t])))) (fun L w1 hs => (Go.Proofs.Ytgleoebogikooaa.Dk.cmpOr_ok ([cmpI a.kind b.kind, cmpI a.n b.n, cmpI (fRank a.f) (fRank b.f), cmpB a.t b.t]) (Value.slice (some (Addr.mk g_ 0 none)) 4 4) w1 (hs.rd 0 rfl) (by simp))) ?_
  refine go mixed 2000 [4] 0 (St.mk Rg.no [KI.code [true, true]] [(4, vI (orI [cmpI a.kind b.kind, cmpI a.n b.n, cmpI (fRank a.f) (fRank b.f), cmpB a.t b.t]))] []) (by kernel_rfl) (by kernel_rfl) (by kernel_rfl) ?_
  refine ret_ok (vs := [vI (orI [cmpI a.kind b.kind, cmpI a.n b.n, cmpI (fRank a.f) (fRank b.f), cmpB a.t b.t])]) (by kernel_rfl) ?_
  intro L w1 hs
  exact ⟨retI (rfl), (hs.erases [0]).out0⟩

def inSpan (f t a : It) : Bool := keyOk f && keyOk t && keyOk a && decide (cmpIt f a ≤ 0) && decide (cmpIt a t ≤ 0)
theorem iInSpan_ok (f : It) (csf : List Value) (t : It) (cst : List Value) (a : It) (csa : List Value) (w : World) (hf : kIt.rd w.heap f csf) (ht : kIt.rd w.heap t cst) (ha : kIt.rd w.heap a csa) (pf : byOk f.t) (pt : byOk t.t) (pa : byOk a.t) :
    Calls Try.prog 73 #[.agg csf.toArray, .agg cst.toArray, .agg csa.toArray] w fun e w' => e = .returned (.bool (inSpan f t a)) ∧ Below w.heap.size w w' := by
  obtain ⟨bff, Aft, cft, rfl, hbff, hfff, hrft⟩ := kIt_inv hf
  obtain ⟨btf, Att, ctt, rfl, hbtf, hftf, hrtt⟩ := kIt_inv ht
  obtain ⟨baf, Aat, cat, rfl, hbaf, hfaf, hrat⟩ := kIt_inv ha
  refine enter (args := [.agg [.v (.int .i64 f.kind), .v (.int .i64 f.n), .v (.float .f64 bff), .v (.slice Aft f.t.length cft)], .agg [.v (.int .i64 t.kind), .v (.int .i64 t.n), .v (.float .f64 btf), .v (.slice Att t.t.length ctt)], .agg [.v (.int .i64 a.kind), .v (.int .i64 a.n), .v (.float .f64 baf), .v (.slice Aat a.t.length cat)]]) Try.func73 (c := bodyOf Try.f73) rfl rfl (start_LOK _) (start_old w) ?_
  refine go mixed 2000 [3, 4, 5, 7] 3 (St.mk (Rg.sq [true, false] 1) [KI.code [true, true]] [(3, vR 0 0), (4, vR 1 0), (5, vR 2 0), (7, SV.agg [cI f.kind, cI f.n, cF bff, cS Aft f.t.length cft])] [LB.mk [cI f.kind, cI f.n, cF bff, cS Aft f.t.length cft] 46, LB.mk [cI t.kind, cI t.n, cF btf, cS Att t.t.length ctt] 46, LB.mk [cI a.kind, cI a.n, cF baf, cS Aat a.t.length cat] 46]) (by kernel_rfl) (by kernel_rfl) (by kernel_rfl) ?_
  refine call_pure true (by kernel_rfl : atC _ _ _ true = some (109, [SV.agg [cI f.kind, cI f.n, cF bff, cS Aft f.t.length cft]], some 8, Rg.sq [true, false] 2)) (by kernel_rfl) (.one (.bo (keyOk f))) (fun L w1 hs => (Go.Proofs.Ytgleoebogikooaa.Dk.iKeyOk_ok (f) ([Value.int IntKind.i64 f.kind, Value.int IntKind.i64 f.n, Value.float FloatKind.f64 bff, Value.slice Aft f.t.length cft]) w1 (Go.Proofs.Ytgleoebogikooaa.Dk.kIt_mk (by assumption) hfff (rdRow_ext (hs.old 0 rfl) hrft)))) ?_
  refine go mixed 2000 [3, 4, 5, 9] 3 (St.mk (Rg.sq [true, false] 3) [KI.code [true, true]] [(3, vR 0 0), (4, vR 1 0), (5, vR 2 0), (9, vB (keyOk f))] [LB.mk [cI f.kind, cI f.n, cF bff, cS Aft f.t.length cft] 46, LB.mk [cI t.kind, cI t.n, cF btf, cS Att t.t.length ctt] 46, LB.mk [cI a.kind, cI a.n, cF baf, cS Aat a.t.length cat] 46]) (by kernel_rfl) (by kernel_rfl) (by kernel_rfl) ?_
  refine split_at 9 (b := keyOk f) (by kernel_rfl) (by kernel_rfl) ?_ ?_
  · intro hb1
    refine go mixed 2000 [3, 4, 5, 9, 10] 3 (St.mk (Rg.sq [true, false] 4) [KI.code [true, true]] [(3, vR 0 0), (4, vR 1 0), (5, vR 2 0), (9, vL true), (10, SV.agg [cI t.kind, cI t.n, cF btf, cS Att t.t.length ctt])] [LB.mk [cI f.kind, cI f.n, cF bff, cS Aft f.t.length cft] 46, LB.mk [cI t.kind, cI t.n, cF btf, cS Att t.t.length ctt] 46, LB.mk [cI a.kind, cI a.n, cF baf, cS Aat a.t.length cat] 46]) (by kernel_rfl) (by kernel_rfl) (by kernel_rfl) ?_
    refine call_pure true (by kernel_rfl : atC _ _ _ true = some (109, [SV.agg [cI t.kind, cI t.n, cF btf, cS Att t.t.length ctt]], some 11, Rg.sq [true, false] 5)) (by kernel_rfl) (.one (.bo (keyOk t))) (fun L w1 hs => (Go.Proofs.Ytgleoebogikooaa.Dk.iKeyOk_ok (t) ([Value.int IntKind.i64 t.kind, Value.int IntKind.i64 t.n, Value.float FloatKind.f64 btf, Value.slice Att t.t.length ctt]) w1 (Go.Proofs.Ytgleoebogikooaa.Dk.kIt_mk (by assumption) hftf (rdRow_ext (hs.old 0 rfl) hrtt)))) ?_
    refine go mixed 2000 [3, 4, 5, 13] 3 (St.mk (Rg.sq [true, false] 7) [KI.code [true, true]] [(3, vR 0 0), (4, vR 1 0), (5, vR 2 0), (13, vB (keyOk t))] [LB.mk [cI f.kind, cI f.n, cF bff, cS Aft f.t.length cft] 46, LB.mk [cI t.kind, cI t.n, cF btf, cS Att t.t.length ctt] 46, LB.mk [cI a.kind, cI a.n, cF baf, cS Aat a.t.length cat] 46]) (by kernel_rfl) (by kernel_rfl) (by kernel_rfl) ?_
    refine split_at 13 (b := keyOk t) (by kernel_rfl) (by kernel_rfl) ?_ ?_
    · intro hb2
      refine go mixed 2000 [3, 4, 5, 13, 14] 3 (St.mk (Rg.sq [true, false] 8) [KI.code [true, true]] [(3, vR 0 0), (4, vR 1 0), (5, vR 2 0), (13, vL true), (14, SV.agg [cI a.kind, cI a.n, cF baf, cS Aat a.t.length cat])] [LB.mk [cI f.kind, cI f.n, cF bff, cS Aft f.t.length cft] 46, LB.mk [cI t.kind, cI t.n, cF btf, cS Att t.t.length ctt] 46, LB.mk [cI a.kind, cI a.n, cF baf, cS Aat a.t.length cat] 46]) (by kernel_rfl) (by kernel_rfl) (by kernel_rfl) ?_
      refine call_pure true (by kernel_rfl : atC _ _ _ true = some (109, [SV.agg [cI a.kind, cI a.n, cF baf, cS Aat a.t.length cat]], some 15, Rg.sq [true, false] 9)) (by kernel_rfl) (.one (.bo (keyOk a))) (fun L w1 hs => (Go.Proofs.Ytgleoebogikooaa.Dk.iKeyOk_ok (a) ([Value.int IntKind.i64 a.kind, Value.int IntKind.i64 a.n, Value.float FloatKind.f64 baf, Value.slice Aat a.t.length cat]) w1 (Go.Proofs.Ytgleoebogikooaa.Dk.kIt_mk (by assumption) hfaf (rdRow_ext (hs.old 0 rfl) hrat)))) ?_
      refine go mixed 2000 [3, 4, 5, 17] 3 (St.mk (Rg.sq [true, false] 11) [KI.code [true, true]] [(3, vR 0 0), (4, vR 1 0), (5, vR 2 0), (17, vB (keyOk a))] [LB.mk [cI f.kind, cI f.n, cF bff, cS Aft f.t.length cft] 46, LB.mk [cI t.kind, cI t.n, cF btf, cS Att t.t.length ctt] 46, LB.mk [cI a.kind, cI a.n, cF baf, cS Aat a.t.length cat] 46]) (by kernel_rfl) (by kernel_rfl) (by kernel_rfl) ?_
      refine split_at 17 (b := keyOk a) (by kernel_rfl) (by kernel_rfl) ?_ ?_
      · intro hb3
        refine go mixed 2000 [4, 5, 17, 18, 19] 3 (St.mk (Rg.sq [true, false] 13) [KI.code [true, true]] [(4, vR 1 0), (5, vR 2 0), (17, vL true), (18, SV.agg [cI f.kind, cI f.n, cF bff, cS Aft f.t.length cft]), (19, SV.agg [cI a.kind, cI a.n, cF baf, cS Aat a.t.length cat])] [LB.mk [cI f.kind, cI f.n, cF bff, cS Aft f.t.length cft] 46, LB.mk [cI t.kind, cI t.n, cF btf, cS Att t.t.length ctt] 46, LB.mk [cI a.kind, cI a.n, cF baf, cS Aat a.t.length cat] 46]) (by kernel_rfl) (by kernel_rfl) (by kernel_rfl) ?_
        refine call_pure true (by kernel_rfl : atC _ _ _ true = some (110, [SV.agg [cI f.kind, cI f.n, cF bff, cS Aft f.t.length cft], SV.agg [cI a.kind, cI a.n, cF baf, cS Aat a.t.length cat]], some 20, Rg.sq [true, false] 14)) (by kernel_rfl) (.one (.v (Value.int IntKind.i64 (cmpIt f a)))) (fun L w1 hs => (Go.Proofs.Ytgleoebogikooaa.Dk.iCmpIt_ok (f) ([Value.int IntKind.i64 f.kind, Value.int IntKind.i64 f.n, Value.float FloatKind.f64 bff, Value.slice Aft f.t.length cft]) (a) ([Value.int IntKind.i64 a.kind, Value.int IntKind.i64 a.n, Value.float FloatKind.f64 baf, Value.slice Aat a.t.length cat]) w1 (Go.Proofs.Ytgleoebogikooaa.Dk.kIt_mk (by assumption) hfff (rdRow_ext (hs.old 0 rfl) hrft)) (Go.Proofs.Ytgleoebogikooaa.Dk.kIt_mk (by assumption) hfaf (rdRow_ext (hs.old 0 rfl) hrat)) (by assumption) (by assumption))) ?_
        refine go mixed 2000 [4, 5, 23] 3 (St.mk (Rg.sq [true, false] 17) [KI.code [true, true]] [(4, vR 1 0), (5, vR 2 0), (23, vB (decide (cmpIt f a ≤ 0)))] [LB.mk [cI f.kind, cI f.n, cF bff, cS Aft f.t.length cft] 46, LB.mk [cI t.kind, cI t.n, cF btf, cS Att t.t.length ctt] 46, LB.mk [cI a.kind, cI a.n, cF baf, cS Aat a.t.length cat] 46]) (by kernel_rfl) (by kernel_rfl) (by kernel_rfl) ?_
        refine split_at 23 (b := decide (cmpIt f a ≤ 0)) (by kernel_rfl) (by kernel_rfl) ?_ ?_
        · intro hb4
          replace hb4 := of_decide_eq_true hb4
          refine go mixed 2000 [23, 24, 25] 0 (St.mk (Rg.sq [true, false] 19) [KI.code [true, true]] [(23, vL true), (24, SV.agg [cI a.kind, cI a.n, cF baf, cS Aat a.t.length cat]), (25, SV.agg [cI t.kind, cI t.n, cF btf, cS Att t.t.length ctt])] []) (by kernel_rfl) (by kernel_rfl) (by kernel_rfl) ?_
          refine call_pure true (by kernel_rfl : atC _ _ _ true = some (110, [SV.agg [cI a.kind, cI a.n, cF baf, cS Aat a.t.length cat], SV.agg [cI t.kind, cI t.n, cF btf, cS Att t.t.length ctt]], some 26, Rg.sq [true, false] 20)) (by kernel_rfl) (.one (.v (Value.int IntKind.i64 (cmpIt a t)))) (fun L w1 hs => (Go.Proofs.Ytgleoebogikooaa.Dk.iCmpIt_ok (a) ([Value.int IntKind.i64 a.kind, Value.int IntKind.i64 a.n, Value.float FloatKind.f64 baf, Value.slice Aat a.t.length cat]) (t) ([Value.int IntKind.i64 t.kind, Value.int IntKind.i64 t.n, Value.float FloatKind.f64 btf, Value.slice Att t.t.length ctt]) w1 (Go.Proofs.Ytgleoebogikooaa.Dk.kIt_mk (by assumption) hfaf (rdRow_ext (hs.old 0 rfl) hrat)) (Go.Proofs.Ytgleoebogikooaa.Dk.kIt_mk (by assumption) hftf (rdRow_ext (hs.old 0 rfl) hrtt)) (by assumption) (by assumption))) ?_
          refine go mixed 2000 [6] 0 (St.mk Rg.no [KI.code [true, true]] [(6, vB (decide (cmpIt a t ≤ 0)))] []) (by kernel_rfl) (by kernel_rfl) (by kernel_rfl) ?_
          refine ret_ok (vs := [vB (decide (cmpIt a t ≤ 0))]) (by kernel_rfl) ?_
          intro L w1 hs
          exact ⟨retB (by simp [inSpan, *]), hs.out0⟩
        · intro hb4
          replace hb4 := of_decide_eq_false hb4
          refine go mixed 2000 [6] 0 (St.mk Rg.no [KI.code [true, true]] [(6, vL false)] []) (by kernel_rfl) (by kernel_rfl) (by kernel_rfl) ?_
          refine ret_ok (vs := [vL false]) (by kernel_rfl) ?_
          intro L w1 hs
          exact ⟨retB (by rw [Bool.eq_iff_iff]; simp only [inSpan, Bool.and_eq_true, Bool.or_eq_true, Bool.not_eq_true', Bool.not_eq_false', Bool.and_eq_false_imp, Bool.or_eq_false_iff, decide_eq_true_eq, decide_eq_false_iff_not, beq_iff_eq, bne_iff_ne, Bool.false_eq_true, Bool.true_eq_false, ne_eq, true_iff, false_iff, iff_true, iff_false]; omega), hs.out0⟩
      · intro hb3
        refine go mixed 2000 [6] 0 (St.mk Rg.no [KI.code [true, true]] [(6, vL false)] []) (by kernel_rfl) (by kernel_rfl) (by kernel_rfl) ?_
        refine ret_ok (vs := [vL false]) (by kernel_rfl) ?_
        intro L w1 hs
        exact ⟨retB (by simp [inSpan, *]), hs.out0⟩
    · intro hb2
      refine go mixed 2000 [6] 0 (St.mk Rg.no [KI.code [true, true]] [(6, vL false)] []) (by kernel_rfl) (by kernel_rfl) (by kernel_rfl) ?_
      refine ret_ok (vs := [vL false]) (by kernel_rfl) ?_
      intro L w1 hs
      exact ⟨retB (by simp [inSpan, *]), hs.out0⟩
  · intro hb1
    refine go mixed 2000 [6] 0 (St.mk Rg.no [KI.code [true, true]] [(6, vL false)] []) (by kernel_rfl) (by kernel_rfl) (by kernel_rfl) ?_
    refine ret_ok (vs := [vL false]) (by kernel_rfl) ?_
    intro L w1 hs
    exact ⟨retB (by simp [inSpan, *]), hs.out0⟩

def entOk (e : En) : Bool := keyOk e.key && (decide (0 ≤ e.id) && decide (e.id ≤ 255))
def cmpEn (a b : En) : Int := orI [cmpIt a.key b.key, cmpI a.id b.id]
theorem iIsEntry_ok (a : En) (csa : List Value) (w : World) (ha : kEn.rd w.heap a csa) :
    Calls Try.prog 141 #[.agg csa.toArray] w fun e w' => e = .returned (.bool (entOk a)) ∧ Below w.heap.size w w' := by
  obtain ⟨bakey_f, Aakey_t, cakey_t, rfl, hbakey_f, hfakey_f, hrakey_t⟩ := kEn_inv ha
  refine enter (args := [.agg [.v (.int .i64 a.key.kind), .v (.int .i64 a.key.n), .v (.float .f64 bakey_f), .v (.slice Aakey_t a.key.t.length cakey_t), .v (.int .i64 a.id)]]) Try.func141 (c := bodyOf Try.f141) rfl rfl (start_LOK _) (start_old w) ?_
  refine go mixed 2000 [1, 4] 1 (St.mk (Rg.sq [true, false] 2) [KI.code [true, true]] [(1, vR 0 0), (4, SV.agg [cI a.key.kind, cI a.key.n, cF bakey_f, cS Aakey_t a.key.t.length cakey_t])] [LB.mk [cI a.key.kind, cI a.key.n, cF bakey_f, cS Aakey_t a.key.t.length cakey_t, cI a.id] 101]) (by kernel_rfl) (by kernel_rfl) (by kernel_rfl) ?_
  refine call_pure true (by kernel_rfl : atC _ _ _ true = some (109, [SV.agg [cI a.key.kind, cI a.key.n, cF bakey_f, cS Aakey_t a.key.t.length cakey_t]], some 5, Rg.sq [true, false] 3)) (by kernel_rfl) (.one (.bo (keyOk a.key))) (fun L w1 hs => (Go.Proofs.Ytgleoebogikooaa.Dk.iKeyOk_ok (a.key) ([Value.int IntKind.i64 a.key.kind, Value.int IntKind.i64 a.key.n, Value.float FloatKind.f64 bakey_f, Value.slice Aakey_t a.key.t.length cakey_t]) w1 (Go.Proofs.Ytgleoebogikooaa.Dk.kIt_mk (by assumption) hfakey_f (rdRow_ext (hs.old 0 rfl) hrakey_t)))) ?_
  refine go mixed 2000 [1, 6] 1 (St.mk (Rg.sq [true, false] 4) [KI.code [true, true]] [(1, vR 0 0), (6, vB (keyOk a.key))] [LB.mk [cI a.key.kind, cI a.key.n, cF bakey_f, cS Aakey_t a.key.t.length cakey_t, cI a.id] 101]) (by kernel_rfl) (by kernel_rfl) (by kernel_rfl) ?_
  refine split_at 6 (b := keyOk a.key) (by kernel_rfl) (by kernel_rfl) ?_ ?_
  · intro hb1
    refine go mixed 2000 [6, 8] 0 (St.mk (Rg.sq [true, false] 6) [KI.code [true, true]] [(6, vL true), (8, vI a.id)] []) (by kernel_rfl) (by kernel_rfl) (by kernel_rfl) ?_
    refine call_pure true (by kernel_rfl : atC _ _ _ true = some (55, [vI a.id, vI 0, vI 255], some 9, Rg.sq [true, false] 7)) (by kernel_rfl) (.one (.bo (decide (0 ≤ a.id) && decide (a.id ≤ 255)))) (fun L w1 hs => (Go.Proofs.Ytgleoebogikooaa.Dk.within_ok (a.id) (0) (255) w1)) ?_
    refine go mixed 2000 [2] 0 (St.mk Rg.no [KI.code [true, true]] [(2, vB (decide (0 ≤ a.id) && decide (a.id ≤ 255)))] []) (by kernel_rfl) (by kernel_rfl) (by kernel_rfl) ?_
    refine ret_ok (vs := [vB (decide (0 ≤ a.id) && decide (a.id ≤ 255))]) (by kernel_rfl) ?_
    intro L w1 hs
    exact ⟨retB (by simp [entOk, *]), hs.out0⟩
  · intro hb1
    refine go mixed 2000 [2] 0 (St.mk Rg.no [KI.code [true, true]] [(2, vL false)] []) (by kernel_rfl) (by kernel_rfl) (by kernel_rfl) ?_
    refine ret_ok (vs := [vL false]) (by kernel_rfl) ?_
    intro L w1 hs
    exact ⟨retB (by simp [entOk, *]), hs.out0⟩

theorem iCmpEn_ok (a : En) (csa : List Value) (b : En) (csb : List Value) (w : World) (ha : kEn.rd w.heap a csa) (hb : kEn.rd w.heap b csb) (pa : byOk a.key.t) (pb : byOk b.key.t) :
    Calls Try.prog 100 #[.agg csa.toArray, .agg csb.toArray] w fun e w' => e = .returned (.int .i64 (cmpEn a b)) ∧ Below w.heap.size w w' := by
  obtain ⟨bakey_f, Aakey_t, cakey_t, rfl, hbakey_f, hfakey_f, hrakey_t⟩ := kEn_inv ha
  obtain ⟨bbkey_f, Abkey_t, cbkey_t, rfl, hbbkey_f, hfbkey_f, hrbkey_t⟩ := kEn_inv hb
  refine enter (args := [.agg [.v (.int .i64 a.key.kind), .v (.int .i64 a.key.n), .v (.float .f64 bakey_f), .v (.slice Aakey_t a.key.t.length cakey_t), .v (.int .i64 a.id)], .agg [.v (.int .i64 b.key.kind), .v (.int .i64 b.key.n), .v (.float .f64 bbkey_f), .v (.slice Abkey_t b.key.t.length cbkey_t), .v (.int .i64 b.id)]]) Try.func100 (c := bodyOf Try.f100) rfl rfl (start_LOK _) (start_old w) ?_
  refine go mixed 2000 [6, 8, 11, 13] 0 (St.mk (Rg.dr [true, false] (bitL 13 495) 5 2) [KI.code [true, true]] [(6, SV.agg [cI a.key.kind, cI a.key.n, cF bakey_f, cS Aakey_t a.key.t.length cakey_t]), (8, SV.agg [cI b.key.kind, cI b.key.n, cF bbkey_f, cS Abkey_t b.key.t.length cbkey_t]), (11, vI a.id), (13, vI b.id)] []) (by kernel_rfl) (by kernel_rfl) (by kernel_rfl) ?_
  refine call_pure true (by kernel_rfl : atC _ _ _ true = some (110, [SV.agg [cI a.key.kind, cI a.key.n, cF bakey_f, cS Aakey_t a.key.t.length cakey_t], SV.agg [cI b.key.kind, cI b.key.n, cF bbkey_f, cS Abkey_t b.key.t.length cbkey_t]], some 9, Rg.dr [true, false] (bitL 13 511) 4 10)) (by kernel_rfl) (.one (.v (Value.int IntKind.i64 (cmpIt a.key b.key)))) (fun L w1 hs => (Go.Proofs.Ytgleoebogikooaa.Dk.iCmpIt_ok (a.key) ([Value.int IntKind.i64 a.key.kind, Value.int IntKind.i64 a.key.n, Value.float FloatKind.f64 bakey_f, Value.slice Aakey_t a.key.t.length cakey_t]) (b.key) ([Value.int IntKind.i64 b.key.kind, Value.int IntKind.i64 b.key.n, Value.float FloatKind.f64 bbkey_f, Value.slice Abkey_t b.key.t.length cbkey_t]) w1 (Go.Proofs.Ytgleoebogikooaa.Dk.kIt_mk (by assumption) hfakey_f (rdRow_ext (hs.old 0 rfl) hrakey_t)) (Go.Proofs.Ytgleoebogikooaa.Dk.kIt_mk (by assumption) hfbkey_f (rdRow_ext (hs.old 0 rfl) hrbkey_t)) (by assumption) (by assumption))) ?_
  refine go mixed 2000 [9, 11, 13] 0 (St.mk (Rg.dr [true, false] (bitL 13 511) 4 10) [KI.code [true, true]] [(9, vI (cmpIt a.key b.key)), (11, vI a.id), (13, vI b.id)] []) (by kernel_rfl) (by kernel_rfl) (by kernel_rfl) ?_
  refine call_pure true (by kernel_rfl : atC _ _ _ true = some (143, [vI a.id, vI b.id], some 14, Rg.dr [true, false] (bitL 13 1023) 3 10)) (by kernel_rfl) (.one (.v (Value.int IntKind.i64 (cmpI a.id b.id)))) (fun L w1 hs => (Go.Proofs.Ytgleoebogikooaa.Dk.cmpI_ok (a.id) (b.id) w1)) ?_
  refine go mixed 2000 [15] 1 (St.mk (Rg.dr [true, false] (bitL 13 2047) 2 10) [KI.code [true, true]] [(15, SV.one (SC.sl 0 0 2 2))] [LB.mk [cI (cmpIt a.key b.key), cI (cmpI a.id b.id)] 3]) (by kernel_rfl) (by kernel_rfl) (by kernel_rfl) ?_
  refine export_lit (A := []) (d := kI64) [cmpIt a.key b.key, cmpI a.id b.id] rfl rfl (by kernel_rfl) (by kernel_rfl) (by kernel_rfl) rfl (by simp [maxLen]) (fun h S _ => els_sc _) ?_
  intro g_
  refine go mixed 2000 [15] 0 (St.mk (Rg.dr [true, false] (bitL 13 2047) 2 10) [KI.code [true, true]] [(15, vS (some (Addr.mk g_ 0 none)) 2 2)] []) (by kernel_rfl) (by kernel_rfl) (by kernel_rfl) ?_
  refine call_pure true (by kernel_rfl : atC _ _ _ true = some (142, [vS (some (Addr.mk g_ 0 none)) 2 2], some 16, Rg.dr [true, false] (bitL 13 4095) 1 10)) (by kernel_rfl) (.one (.v (Value.int IntKind.i64 (orI [cmpIt a.key b.key, cmpI a.id b.id])))) (fun L w1 hs => (Go.Proofs.Ytgleoebogikooaa.Dk.cmpOr_ok ([cmpIt a.key b.key, cmpI a.id b.id]) (Value.slice (some (Addr.mk g_ 0 none)) 2 2) w1 (hs.rd 0 rfl) (by simp))) ?_
  refine go mixed 2000 [4] 0 (St.mk Rg.no [KI.code [true, true]] [(4, vI (orI [cmpIt a.key b.key, cmpI a.id b.id]))] []) (by kernel_rfl) (by kernel_rfl) (by kernel_rfl) ?_
  refine ret_ok (vs := [vI (orI [cmpIt a.key b.key, cmpI a.id b.id])]) (by kernel_rfl) ?_
  intro L w1 hs
  exact ⟨retI (rfl), (hs.erases [0]).out0⟩

end Go.Proofs.Ytgleoebogikooaa.Dk
