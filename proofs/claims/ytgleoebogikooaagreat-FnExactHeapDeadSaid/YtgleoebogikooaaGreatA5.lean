/- Walks of functions of the program: what each call returns and what it leaves in memory. Conditions: those that each theorem names. -/
import Derived.Test.YtgleoebogikooaaGreatA4
namespace Go.Proofs.YtgleoebogikooaaGreat.Dk
set_option linter.unusedVariables false
set_option linter.unusedSimpArgs false
open Go.Proofs.YtgleoebogikooaaGreat.Sx Go.Proofs Go.RowKit
set_option maxRecDepth 100000
set_option maxHeartbeats 1000000
theorem sItemOk_ok (a : It) (csa : List Value) (w : World) (ha : kIt.rd w.heap a csa) :
  Calls Tryz.prog 65 #[.agg csa.toArray] w fun e w' => e = .returned (.bool (itemOk a)) ∧ Below w.heap.size w w' := by
 obtain ⟨baf, Aat, cat, rfl, hbaf, hfaf, hrat⟩ := kIt_inv ha
 refine enter (args := [.agg [.v (.int .i64 a.kind), .v (.int .i64 a.n), .v (.float .f64 baf), .v (.slice Aat a.t.length cat)]]) Tryz.func65 (c := bodyOf Tryz.f65) rfl rfl (start_LOK _) (start_old w) ?_
 have hz := iff_of_eq (canon0 baf)
 rw [hfaf] at hz
 refine gn 1 (Rg.sq (bitL 3 1) 4) [kCd (bitL 3 5), KI.code [true, true]] [(1, vR 0 0), (6, vB (decide (a.kind < 0)))] [LB.mk [cI a.kind, cI a.n, cF baf, cS Aat a.t.length cat] 49] ?_
 refine spl 6 (decide (a.kind < 0)) ?_ ?_
 ·intro hb1
  replace hb1 := of_decide_eq_true hb1
  refine gn 0 Rg.no [kCd (bitL 5 21), KI.code [true, true]] [(2, vL false)] [] ?_
  refine rtk [vL false] ?_
  intro L w1 hs
  exact ⟨retB (by rw [Bool.eq_iff_iff]; simp only [itemOk, Bool.and_eq_true, Bool.or_eq_true, Bool.not_eq_true', Bool.not_eq_false', Bool.and_eq_false_imp, Bool.or_eq_false_iff, decide_eq_true_eq, decide_eq_false_iff_not, beq_iff_eq, bne_iff_ne, Bool.false_eq_true, Bool.true_eq_false, ne_eq, true_iff, false_iff, iff_true, iff_false]; omega), hs.out0⟩
 ·intro hb1
  replace hb1 := of_decide_eq_false hb1
  refine gn 1 (Rg.sq (bitL 3 1) 9) [kCd (bitL 3 5), KI.code [true, true]] [(1, vR 0 0), (11, vB (decide (a.kind > 3)))] [LB.mk [cI a.kind, cI a.n, cF baf, cS Aat a.t.length cat] 49] ?_
  refine spl 11 (decide (a.kind > 3)) ?_ ?_
  ·intro hb2
   replace hb2 := of_decide_eq_true hb2
   refine gn 0 Rg.no [kCd (bitL 5 21), KI.code [true, true]] [(2, vL false)] [] ?_
   refine rtk [vL false] ?_
   intro L w1 hs
   exact ⟨retB (by rw [Bool.eq_iff_iff]; simp only [itemOk, Bool.and_eq_true, Bool.or_eq_true, Bool.not_eq_true', Bool.not_eq_false', Bool.and_eq_false_imp, Bool.or_eq_false_iff, decide_eq_true_eq, decide_eq_false_iff_not, beq_iff_eq, bne_iff_ne, Bool.false_eq_true, Bool.true_eq_false, ne_eq, true_iff, false_iff, iff_true, iff_false]; omega), hs.out0⟩
  ·intro hb2
   replace hb2 := of_decide_eq_false hb2
   refine gn 1 Rg.no [kCd (bitL 3 5), KI.code [true, true]] [(1, vR 0 0), (16, vB (decide ((↑a.t.length : Int) > 40)))] [LB.mk [cI a.kind, cI a.n, cF baf, cS Aat a.t.length cat] 49] ?_
   refine spl 16 (decide ((↑a.t.length : Int) > 40)) ?_ ?_
   ·intro hb3
    replace hb3 := of_decide_eq_true hb3
    refine gn 0 Rg.no [kCd (bitL 5 21), KI.code [true, true]] [(2, vL false)] [] ?_
    refine rtk [vL false] ?_
    intro L w1 hs
    exact ⟨retB (by rw [Bool.eq_iff_iff]; simp only [itemOk, Bool.and_eq_true, Bool.or_eq_true, Bool.not_eq_true', Bool.not_eq_false', Bool.and_eq_false_imp, Bool.or_eq_false_iff, decide_eq_true_eq, decide_eq_false_iff_not, beq_iff_eq, bne_iff_ne, Bool.false_eq_true, Bool.true_eq_false, ne_eq, true_iff, false_iff, iff_true, iff_false]; omega), hs.out0⟩
   ·intro hb3
    replace hb3 := of_decide_eq_false hb3
    refine gn 1 (Rg.sq (bitL 4 3) 4) [kCd (bitL 4 11), kCd (bitL 3 7)] [(1, vR 0 0), (20, vB (a.kind != 1))] [LB.mk [cI a.kind, cI a.n, cF baf, cS Aat a.t.length cat] 49] ?_
    refine spl 20 (a.kind != 1) ?_ ?_
    ·intro hb4
     replace hb4 := bne_iff_ne.1 hb4
     refine gn 1 Rg.no [kCd (bitL 4 11), kCd (bitL 3 7)] [(1, vR 0 0), (24, vB (a.n != 0))] [LB.mk [cI a.kind, cI a.n, cF baf, cS Aat a.t.length cat] 49] ?_
     refine spl 24 (a.n != 0) ?_ ?_
     ·intro hb5
      replace hb5 := bne_iff_ne.1 hb5
      refine gn 0 Rg.no [kCd (bitL 6 43), kCd (bitL 3 7)] [(2, vL false)] [] ?_
      refine rtk [vL false] ?_
      intro L w1 hs
      exact ⟨retB (by rw [Bool.eq_iff_iff]; simp only [itemOk, Bool.and_eq_true, Bool.or_eq_true, Bool.not_eq_true', Bool.not_eq_false', Bool.and_eq_false_imp, Bool.or_eq_false_iff, decide_eq_true_eq, decide_eq_false_iff_not, beq_iff_eq, bne_iff_ne, Bool.false_eq_true, Bool.true_eq_false, ne_eq, true_iff, false_iff, iff_true, iff_false]; omega), hs.out0⟩
     ·intro hb5
      replace hb5 := bne_eq_false_iff_eq.1 hb5
      refine gn 1 (Rg.sq (bitL 5 7) 4) [kCd (bitL 5 23), kCd (bitL 4 15)] [(1, vR 0 0), (28, vB (a.kind != 2))] [LB.mk [cI a.kind, cI a.n, cF baf, cS Aat a.t.length cat] 49] ?_
      refine spl 28 (a.kind != 2) ?_ ?_
      ·intro hb6
       replace hb6 := bne_iff_ne.1 hb6
       refine gn 1 (Rg.sq (bitL 5 7) 6) [kCd (bitL 5 23), kCd (bitL 4 15)] [(1, vR 0 0), (28, vL true), (30, SV.one (cF baf))] [LB.mk [cI a.kind, cI a.n, cF baf, cS Aat a.t.length cat] 49] ?_
       refine cpk 66 [SV.one (cF baf)] (some 31) (Rg.sq (bitL 5 7) 7) (.one (.v (Value.int IntKind.u64 (↑(canonF baf) : Int)))) (fun L w1 hs => (sFloatBits_ok (baf) w1 ‹_›)) ?_
       refine gn 1 Rg.no [kCd (bitL 5 23), kCd (bitL 4 15)] [(1, vR 0 0), (33, vB ((↑(canonF baf) : Int) != 0))] [LB.mk [cI a.kind, cI a.n, cF baf, cS Aat a.t.length cat] 49] ?_
       try simp only [flx, hbaf, hfaf]
       refine spl 33 ((↑a.f : Int) != 0) ?_ ?_
       ·intro hb7
        replace hb7 := bne_iff_ne.1 hb7
        refine gn 0 Rg.no [kCd (bitL 7 87), kCd (bitL 4 15)] [(2, vL false)] [] ?_
        refine rtk [vL false] ?_
        intro L w1 hs
        exact ⟨retB (by rw [Bool.eq_iff_iff]; simp only [itemOk, Bool.and_eq_true, Bool.or_eq_true, Bool.not_eq_true', Bool.not_eq_false', Bool.and_eq_false_imp, Bool.or_eq_false_iff, decide_eq_true_eq, decide_eq_false_iff_not, beq_iff_eq, bne_iff_ne, Bool.false_eq_true, Bool.true_eq_false, ne_eq, true_iff, false_iff, iff_true, iff_false]; omega), hs.out0⟩
       ·intro hb7
        replace hb7 := bne_eq_false_iff_eq.1 hb7
        refine gn 1 (Rg.sq (bitL 5 15) 4) [kCd (bitL 5 31)] [(1, vR 0 0), (37, vB (a.kind == 3))] [LB.mk [cI a.kind, cI a.n, cF baf, cS Aat a.t.length cat] 49] ?_
        refine spl 37 (a.kind == 3) ?_ ?_
        ·intro hb8
         replace hb8 := beq_iff_eq.1 hb8
         refine gn 0 Rg.no [kCd (bitL 5 31)] [(2, vL true)] [] ?_
         refine rtk [vL true] ?_
         intro L w1 hs
         exact ⟨retB (by rw [Bool.eq_iff_iff]; simp only [itemOk, Bool.and_eq_true, Bool.or_eq_true, Bool.not_eq_true', Bool.not_eq_false', Bool.and_eq_false_imp, Bool.or_eq_false_iff, decide_eq_true_eq, decide_eq_false_iff_not, beq_iff_eq, bne_iff_ne, Bool.false_eq_true, Bool.true_eq_false, ne_eq, true_iff, false_iff, iff_true, iff_false]; omega), hs.out0⟩
        ·intro hb8
         replace hb8 := beq_eq_false_iff_ne.1 hb8
         refine gn 0 Rg.no [kCd (bitL 5 31)] [(2, vB ((↑a.t.length : Int) == 0))] [] ?_
         refine rtk [vB ((↑a.t.length : Int) == 0)] ?_
         intro L w1 hs
         exact ⟨retB (by rw [Bool.eq_iff_iff]; simp only [itemOk, Bool.and_eq_true, Bool.or_eq_true, Bool.not_eq_true', Bool.not_eq_false', Bool.and_eq_false_imp, Bool.or_eq_false_iff, decide_eq_true_eq, decide_eq_false_iff_not, beq_iff_eq, bne_iff_ne, Bool.false_eq_true, Bool.true_eq_false, ne_eq, true_iff, false_iff, iff_true, iff_false]; omega), hs.out0⟩
      ·intro hb6
       replace hb6 := bne_eq_false_iff_eq.1 hb6
       refine gn 1 (Rg.sq (bitL 5 15) 4) [kCd (bitL 5 31)] [(1, vR 0 0), (37, vB (a.kind == 3))] [LB.mk [cI a.kind, cI a.n, cF baf, cS Aat a.t.length cat] 49] ?_
       refine spl 37 (a.kind == 3) ?_ ?_
       ·intro hb7
        replace hb7 := beq_iff_eq.1 hb7
        (exfalso; omega)
       ·intro hb7
        replace hb7 := beq_eq_false_iff_ne.1 hb7
        refine gn 0 Rg.no [kCd (bitL 5 31)] [(2, vB ((↑a.t.length : Int) == 0))] [] ?_
        refine rtk [vB ((↑a.t.length : Int) == 0)] ?_
        intro L w1 hs
        exact ⟨retB (by rw [Bool.eq_iff_iff]; simp only [itemOk, Bool.and_eq_true, Bool.or_eq_true, Bool.not_eq_true', Bool.not_eq_false', Bool.and_eq_false_imp, Bool.or_eq_false_iff, decide_eq_true_eq, decide_eq_false_iff_not, beq_iff_eq, bne_iff_ne, Bool.false_eq_true, Bool.true_eq_false, ne_eq, true_iff, false_iff, iff_true, iff_false]; omega), hs.out0⟩
    ·intro hb4
     replace hb4 := bne_eq_false_iff_eq.1 hb4
     refine gn 1 (Rg.sq (bitL 5 7) 4) [kCd (bitL 5 23), kCd (bitL 4 15)] [(1, vR 0 0), (28, vB (a.kind != 2))] [LB.mk [cI a.kind, cI a.n, cF baf, cS Aat a.t.length cat] 49] ?_
     refine spl 28 (a.kind != 2) ?_ ?_
     ·intro hb5
      replace hb5 := bne_iff_ne.1 hb5
      refine gn 1 (Rg.sq (bitL 5 7) 6) [kCd (bitL 5 23), kCd (bitL 4 15)] [(1, vR 0 0), (28, vL true), (30, SV.one (cF baf))] [LB.mk [cI a.kind, cI a.n, cF baf, cS Aat a.t.length cat] 49] ?_
      refine cpk 66 [SV.one (cF baf)] (some 31) (Rg.sq (bitL 5 7) 7) (.one (.v (Value.int IntKind.u64 (↑(canonF baf) : Int)))) (fun L w1 hs => (sFloatBits_ok (baf) w1 ‹_›)) ?_
      refine gn 1 Rg.no [kCd (bitL 5 23), kCd (bitL 4 15)] [(1, vR 0 0), (33, vB ((↑(canonF baf) : Int) != 0))] [LB.mk [cI a.kind, cI a.n, cF baf, cS Aat a.t.length cat] 49] ?_
      try simp only [flx, hbaf, hfaf]
      refine spl 33 ((↑a.f : Int) != 0) ?_ ?_
      ·intro hb6
       replace hb6 := bne_iff_ne.1 hb6
       refine gn 0 Rg.no [kCd (bitL 7 87), kCd (bitL 4 15)] [(2, vL false)] [] ?_
       refine rtk [vL false] ?_
       intro L w1 hs
       exact ⟨retB (by rw [Bool.eq_iff_iff]; simp only [itemOk, Bool.and_eq_true, Bool.or_eq_true, Bool.not_eq_true', Bool.not_eq_false', Bool.and_eq_false_imp, Bool.or_eq_false_iff, decide_eq_true_eq, decide_eq_false_iff_not, beq_iff_eq, bne_iff_ne, Bool.false_eq_true, Bool.true_eq_false, ne_eq, true_iff, false_iff, iff_true, iff_false]; omega), hs.out0⟩
      ·intro hb6
       replace hb6 := bne_eq_false_iff_eq.1 hb6
       refine gn 1 (Rg.sq (bitL 5 15) 4) [kCd (bitL 5 31)] [(1, vR 0 0), (37, vB (a.kind == 3))] [LB.mk [cI a.kind, cI a.n, cF baf, cS Aat a.t.length cat] 49] ?_
       refine spl 37 (a.kind == 3) ?_ ?_
       ·intro hb7
        replace hb7 := beq_iff_eq.1 hb7
        (exfalso; omega)
       ·intro hb7
        replace hb7 := beq_eq_false_iff_ne.1 hb7
        refine gn 0 Rg.no [kCd (bitL 5 31)] [(2, vB ((↑a.t.length : Int) == 0))] [] ?_
        refine rtk [vB ((↑a.t.length : Int) == 0)] ?_
        intro L w1 hs
        exact ⟨retB (by rw [Bool.eq_iff_iff]; simp only [itemOk, Bool.and_eq_true, Bool.or_eq_true, Bool.not_eq_true', Bool.not_eq_false', Bool.and_eq_false_imp, Bool.or_eq_false_iff, decide_eq_true_eq, decide_eq_false_iff_not, beq_iff_eq, bne_iff_ne, Bool.false_eq_true, Bool.true_eq_false, ne_eq, true_iff, false_iff, iff_true, iff_false]; omega), hs.out0⟩
     ·intro hb5
      replace hb5 := bne_eq_false_iff_eq.1 hb5
      (exfalso; omega)
theorem sKeyOk_ok (a : It) (csa : List Value) (w : World) (ha : kIt.rd w.heap a csa) :
  Calls Tryz.prog 41 #[.agg csa.toArray] w fun e w' => e = .returned (.bool (keyOk a)) ∧ Below w.heap.size w w' := by
 obtain ⟨baf, Aat, cat, rfl, hbaf, hfaf, hrat⟩ := kIt_inv ha
 refine enter (args := [.agg [.v (.int .i64 a.kind), .v (.int .i64 a.n), .v (.float .f64 baf), .v (.slice Aat a.t.length cat)]]) Tryz.func41 (c := bodyOf Tryz.f41) rfl rfl (start_LOK _) (start_old w) ?_
 have hz := iff_of_eq (canonTop hbaf)
 have hz0 := iff_of_eq (canon0 baf)
 rw [hfaf] at hz hz0
 refine gn 1 (Rg.sq [true, false] 1) [KI.code [true, true]] [(1, vR 0 0), (3, SV.agg [cI a.kind, cI a.n, cF baf, cS Aat a.t.length cat])] [LB.mk [cI a.kind, cI a.n, cF baf, cS Aat a.t.length cat] 49] ?_
 refine cpk 65 [SV.agg [cI a.kind, cI a.n, cF baf, cS Aat a.t.length cat]] (some 4) (Rg.sq [true, false] 2) (.one (.bo (itemOk a))) (fun L w1 hs => (sItemOk_ok (a) ([Value.int IntKind.i64 a.kind, Value.int IntKind.i64 a.n, Value.float FloatKind.f64 baf, Value.slice Aat a.t.length cat]) w1 (kIt_mk ‹_› hfaf (rdRow_ext (hs.old 0 rfl) hrat)))) ?_
 refine gn 1 (Rg.sq [true, false] 3) [KI.code [true, true]] [(1, vR 0 0), (5, vB (itemOk a))] [LB.mk [cI a.kind, cI a.n, cF baf, cS Aat a.t.length cat] 49] ?_
 refine spl 5 (itemOk a) ?_ ?_
 ·intro hb1
  refine gn 1 (Rg.sq [true, false] 8) [KI.code [true, true]] [(1, vR 0 0), (10, vB (a.kind != 0))] [LB.mk [cI a.kind, cI a.n, cF baf, cS Aat a.t.length cat] 49] ?_
  refine spl 10 (a.kind != 0) ?_ ?_
  ·intro hb2
   replace hb2 := bne_iff_ne.1 hb2
   refine gn 1 (Rg.sq [true, false] 12) [KI.code [true, true]] [(1, vR 0 0), (10, vL true), (14, vB (FloatKind.f64.format.order baf 0 == some Ordering.eq))] [LB.mk [cI a.kind, cI a.n, cF baf, cS Aat a.t.length cat] 49] ?_
   try simp only [flx, hbaf, hfaf]
   refine spl 14 (decide (baf % 9223372036854775808 = 0)) ?_ ?_
   ·intro hb3
    replace hb3 := of_decide_eq_true hb3
    refine gn 0 (Rg.sq [true, false] 14) [KI.code [true, true]] [(10, vL true), (14, vL true), (16, SV.one (cF baf))] [] ?_
    refine cpk 66 [SV.one (cF baf)] (some 17) (Rg.sq [true, false] 15) (.one (.v (Value.int IntKind.u64 (↑(canonF baf) : Int)))) (fun L w1 hs => (sFloatBits_ok (baf) w1 ‹_›)) ?_
    refine gn 0 Rg.no [KI.code [true, true]] [(2, vB !(↑(canonF baf) : Int) != 0)] [] ?_
    try simp only [flx, hbaf, hfaf]
    refine rtk [vB !(↑a.f : Int) != 0] ?_
    intro L w1 hs
    exact ⟨retB (by rw [Bool.eq_iff_iff]; simp [keyOk, *]; omega), hs.out0⟩
   ·intro hb3
    replace hb3 := of_decide_eq_false hb3
    refine gn 0 Rg.no [KI.code [true, true]] [(2, vL true)] [] ?_
    refine rtk [vL true] ?_
    intro L w1 hs
    exact ⟨retB (by simp [keyOk, *]), hs.out0⟩
  ·intro hb2
   replace hb2 := bne_eq_false_iff_eq.1 hb2
   refine gn 0 Rg.no [KI.code [true, true]] [(2, vL false)] [] ?_
   refine rtk [vL false] ?_
   intro L w1 hs
   exact ⟨retB (by rw [Bool.eq_iff_iff]; simp only [keyOk, Bool.and_eq_true, Bool.or_eq_true, Bool.not_eq_true', Bool.not_eq_false', Bool.and_eq_false_imp, Bool.or_eq_false_iff, decide_eq_true_eq, decide_eq_false_iff_not, beq_iff_eq, bne_iff_ne, Bool.false_eq_true, Bool.true_eq_false, ne_eq, true_iff, false_iff, iff_true, iff_false]; omega), hs.out0⟩
 ·intro hb1
  refine gn 0 Rg.no [KI.code [true, true]] [(2, vL false)] [] ?_
  refine rtk [vL false] ?_
  intro L w1 hs
  exact ⟨retB (by simp [keyOk, *]), hs.out0⟩
end Go.Proofs.YtgleoebogikooaaGreat.Dk
