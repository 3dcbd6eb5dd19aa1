/- Walks of functions of the program: what each call returns and what it leaves in memory. Conditions: those that each theorem names. -/
import Derived.Test.YtgleoebogikooaaGreatA5
namespace Go.Proofs.YtgleoebogikooaaGreat.Dk
set_option linter.unusedVariables false
set_option linter.unusedSimpArgs false
open Go.Proofs.YtgleoebogikooaaGreat.Sx Go.Proofs Go.RowKit
set_option maxRecDepth 100000
set_option maxHeartbeats 1000000
theorem sItemCmp_ok (a : It) (csa : List Value) (b : It) (csb : List Value) (w : World) (ha : kIt.rd w.heap a csa) (hb : kIt.rd w.heap b csb) (la : a.t.length ≤ 1048576) (lb : b.t.length ≤ 1048576) :
  Calls Tryz.prog 42 #[.agg csa.toArray, .agg csb.toArray] w fun e w' => e = .returned (.int .i64 (if itemOk a && itemOk b then cmpIt a b else -2)) ∧ Below w.heap.size w w' := by
 obtain ⟨baf, Aat, cat, rfl, hbaf, hfaf, hrat⟩ := kIt_inv ha
 obtain ⟨bbf, Abt, cbt, rfl, hbbf, hfbf, hrbt⟩ := kIt_inv hb
 refine enter (args := [.agg [.v (.int .i64 a.kind), .v (.int .i64 a.n), .v (.float .f64 baf), .v (.slice Aat a.t.length cat)], .agg [.v (.int .i64 b.kind), .v (.int .i64 b.n), .v (.float .f64 bbf), .v (.slice Abt b.t.length cbt)]]) Tryz.func42 (c := bodyOf Tryz.f42) rfl rfl (start_LOK _) (start_old w) ?_
 refine gn 2 (Rg.sq (bitL 3 1) 1) [kCd (bitL 3 5), KI.code [true, true]] [(2, vR 0 0), (3, vR 1 0), (6, SV.agg [cI a.kind, cI a.n, cF baf, cS Aat a.t.length cat])] [LB.mk [cI a.kind, cI a.n, cF baf, cS Aat a.t.length cat] 49, LB.mk [cI b.kind, cI b.n, cF bbf, cS Abt b.t.length cbt] 49] ?_
 refine cpk 65 [SV.agg [cI a.kind, cI a.n, cF baf, cS Aat a.t.length cat]] (some 7) (Rg.sq (bitL 3 1) 2) (.one (.bo (itemOk a))) (fun L w1 hs => (sItemOk_ok (a) ([Value.int IntKind.i64 a.kind, Value.int IntKind.i64 a.n, Value.float FloatKind.f64 baf, Value.slice Aat a.t.length cat]) w1 (kIt_mk ‹_› hfaf (rdRow_ext (hs.old 0 rfl) hrat)))) ?_
 refine gn 2 (Rg.sq (bitL 3 1) 4) [kCd (bitL 3 5), KI.code [true, true]] [(2, vR 0 0), (3, vR 1 0), (9, vB !itemOk a)] [LB.mk [cI a.kind, cI a.n, cF baf, cS Aat a.t.length cat] 49, LB.mk [cI b.kind, cI b.n, cF bbf, cS Abt b.t.length cbt] 49] ?_
 refine spl 9 (!itemOk a) ?_ ?_
 ·intro hb1
  try simp only [sbb] at hb1
  refine gn 0 Rg.no [kCd (bitL 5 21), KI.code [true, true]] [(4, vI (-2))] [] ?_
  refine rtk [vI (-2)] ?_
  intro L w1 hs
  exact ⟨retI (by simp [cmpIt, orI, cmpI, *]), hs.out0⟩
 ·intro hb1
  try simp only [sbb] at hb1
  refine gn 2 (Rg.sq (bitL 3 1) 5) [kCd (bitL 3 5), KI.code [true, true]] [(2, vR 0 0), (3, vR 1 0), (9, vL false), (10, SV.agg [cI b.kind, cI b.n, cF bbf, cS Abt b.t.length cbt])] [LB.mk [cI a.kind, cI a.n, cF baf, cS Aat a.t.length cat] 49, LB.mk [cI b.kind, cI b.n, cF bbf, cS Abt b.t.length cbt] 49] ?_
  refine cpk 65 [SV.agg [cI b.kind, cI b.n, cF bbf, cS Abt b.t.length cbt]] (some 11) (Rg.sq (bitL 3 1) 6) (.one (.bo (itemOk b))) (fun L w1 hs => (sItemOk_ok (b) ([Value.int IntKind.i64 b.kind, Value.int IntKind.i64 b.n, Value.float FloatKind.f64 bbf, Value.slice Abt b.t.length cbt]) w1 (kIt_mk ‹_› hfbf (rdRow_ext (hs.old 0 rfl) hrbt)))) ?_
  refine gn 2 Rg.no [kCd (bitL 3 5), KI.code [true, true]] [(2, vR 0 0), (3, vR 1 0), (13, vB !itemOk b)] [LB.mk [cI a.kind, cI a.n, cF baf, cS Aat a.t.length cat] 49, LB.mk [cI b.kind, cI b.n, cF bbf, cS Abt b.t.length cbt] 49] ?_
  refine spl 13 (!itemOk b) ?_ ?_
  ·intro hb2
   try simp only [sbb] at hb2
   refine gn 0 Rg.no [kCd (bitL 5 21), KI.code [true, true]] [(4, vI (-2))] [] ?_
   refine rtk [vI (-2)] ?_
   intro L w1 hs
   exact ⟨retI (by simp [cmpIt, orI, cmpI, *]), hs.out0⟩
  ·intro hb2
   try simp only [sbb] at hb2
   refine gn 2 Rg.no [kCd (bitL 4 11), kCd (bitL 3 7)] [(2, vR 0 0), (3, vR 1 0), (18, vB (a.kind != b.kind))] [LB.mk [cI a.kind, cI a.n, cF baf, cS Aat a.t.length cat] 49, LB.mk [cI b.kind, cI b.n, cF bbf, cS Abt b.t.length cbt] 49] ?_
   refine spl 18 (a.kind != b.kind) ?_ ?_
   ·intro hb3
    replace hb3 := bne_iff_ne.1 hb3
    refine gn 0 Rg.no [kCd (bitL 7 75), kCd (bitL 6 43), kCd (bitL 3 7)] [(23, vB (decide (a.kind < b.kind)))] [] ?_
    refine spl 23 (decide (a.kind < b.kind)) ?_ ?_
    ·intro hb4
     replace hb4 := of_decide_eq_true hb4
     refine gn 0 Rg.no [kCd (bitL 9 331), kCd (bitL 6 43), kCd (bitL 3 7)] [(4, vI (-1))] [] ?_
     refine rtk [vI (-1)] ?_
     intro L w1 hs
     exact ⟨retI (by simp [cmpIt, orI, cmpI, *]), hs.out0⟩
    ·intro hb4
     replace hb4 := of_decide_eq_false hb4
     refine gn 0 Rg.no [kCd (bitL 7 107), kCd (bitL 3 7)] [(4, vI 1)] [] ?_
     refine rtk [vI 1] ?_
     intro L w1 hs
     exact ⟨retI (by simp [cmpIt, orI, cmpI, *]; omega), hs.out0⟩
   ·intro hb3
    replace hb3 := bne_eq_false_iff_eq.1 hb3
    refine gn 2 Rg.no [kCd (bitL 5 23), kCd (bitL 4 15)] [(2, vR 0 0), (3, vR 1 0), (28, vB (a.n != b.n))] [LB.mk [cI a.kind, cI a.n, cF baf, cS Aat a.t.length cat] 49, LB.mk [cI b.kind, cI b.n, cF bbf, cS Abt b.t.length cbt] 49] ?_
    refine spl 28 (a.n != b.n) ?_ ?_
    ·intro hb4
     replace hb4 := bne_iff_ne.1 hb4
     refine gn 0 Rg.no [kCd (bitL 8 151), kCd (bitL 7 87), kCd (bitL 4 15)] [(33, vB (decide (a.n < b.n)))] [] ?_
     refine spl 33 (decide (a.n < b.n)) ?_ ?_
     ·intro hb5
      replace hb5 := of_decide_eq_true hb5
      refine gn 0 Rg.no [kCd (bitL 10 663), kCd (bitL 7 87), kCd (bitL 4 15)] [(4, vI (-1))] [] ?_
      refine rtk [vI (-1)] ?_
      intro L w1 hs
      exact ⟨retI (by simp [cmpIt, orI, cmpI, *]), hs.out0⟩
     ·intro hb5
      replace hb5 := of_decide_eq_false hb5
      refine gn 0 Rg.no [kCd (bitL 8 215), kCd (bitL 4 15)] [(4, vI 1)] [] ?_
      refine rtk [vI 1] ?_
      intro L w1 hs
      exact ⟨retI (by simp [cmpIt, orI, cmpI, *]; omega), hs.out0⟩
    ·intro hb4
     replace hb4 := bne_eq_false_iff_eq.1 hb4
     refine gn 2 (Rg.sq (bitL 5 15) 4) [kCd (bitL 5 31)] [(2, vR 0 0), (3, vR 1 0), (35, SV.one (cF baf)), (37, SV.one (cF bbf))] [LB.mk [cI a.kind, cI a.n, cF baf, cS Aat a.t.length cat] 49, LB.mk [cI b.kind, cI b.n, cF bbf, cS Abt b.t.length cbt] 49] ?_
     refine cpk 67 [SV.one (cF baf), SV.one (cF bbf)] (some 38) (Rg.sq (bitL 5 15) 5) (.one (.v (Value.int IntKind.i64 (cmpI (fRank (canonF baf)) (fRank (canonF bbf)))))) (fun L w1 hs => (sFCmp_ok (baf) (bbf) w1 ‹_› ‹_›)) ?_
     refine gn 2 Rg.no [kCd (bitL 7 95), kCd (bitL 6 63)] [(2, vR 0 0), (3, vR 1 0), (5, vI (cmpI (fRank (canonF baf)) (fRank (canonF bbf)))), (40, vB (cmpI (fRank (canonF baf)) (fRank (canonF bbf)) != 0))] [LB.mk [cI a.kind, cI a.n, cF baf, cS Aat a.t.length cat] 49, LB.mk [cI b.kind, cI b.n, cF bbf, cS Abt b.t.length cbt] 49] ?_
     try simp only [flx, hbaf, hfaf, hbbf, hfbf]
     refine spl 40 (cmpI (fRank a.f) (fRank b.f) != 0) ?_ ?_
     ·intro hb5
      replace hb5 := bne_iff_ne.1 hb5
      refine gn 0 Rg.no [kCd (bitL 9 351), kCd (bitL 6 63)] [(4, vI (cmpI (fRank a.f) (fRank b.f)))] [] ?_
      refine rtk [vI (cmpI (fRank a.f) (fRank b.f))] ?_
      intro L w1 hs
      exact ⟨retI (by simp_all [cmpIt, orI, cmpI]), hs.out0⟩
     ·intro hb5
      replace hb5 := bne_eq_false_iff_eq.1 hb5
      refine gn 0 (Rg.sq (bitL 7 63) 4) [kCd (bitL 7 127)] [(43, vS Aat a.t.length cat), (45, vS Abt b.t.length cbt)] [] ?_
      refine cpk 68 [vS Aat a.t.length cat, vS Abt b.t.length cbt] (some 46) (Rg.sq (bitL 7 63) 5) (.one (.v (Value.int IntKind.i64 (cmpB a.t b.t)))) (fun L w1 hs => (l3texts_ok (a.t) (Value.slice Aat a.t.length cat) (b.t) (Value.slice Abt b.t.length cbt) w1 (rdRow_ext (hs.old 0 rfl) hrat) (rdRow_ext (hs.old 0 rfl) hrbt) ‹_› ‹_›)) ?_
      refine gn 0 Rg.no [kCd (bitL 7 127)] [(4, vI (cmpB a.t b.t))] [] ?_
      refine rtk [vI (cmpB a.t b.t)] ?_
      intro L w1 hs
      exact ⟨retI (by simp_all [cmpIt, orI, cmpI]), hs.out0⟩
theorem keyOk_ok {a : It} (h : keyOk a = true) : itemOk a = true := by
 unfold keyOk at h
 simp only [Bool.and_eq_true] at h
 exact h.1
end Go.Proofs.YtgleoebogikooaaGreat.Dk
