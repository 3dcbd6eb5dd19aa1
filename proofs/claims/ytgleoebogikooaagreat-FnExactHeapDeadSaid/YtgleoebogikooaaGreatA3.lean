/- Walks of functions of the program: what each call returns and what it leaves in memory. Conditions: those that each theorem names. -/
import Derived.Test.YtgleoebogikooaaGreatA2
namespace Go.Proofs.YtgleoebogikooaaGreat.Dk
set_option linter.unusedVariables false
set_option linter.unusedSimpArgs false
open Go.Proofs.YtgleoebogikooaaGreat.Sx Go.Proofs Go.RowKit
set_option maxRecDepth 100000
set_option maxHeartbeats 1000000
def keyOk (a : It) : Bool := itemOk a && (!decide (a.kind = 0) && !decide (a.f = 9223372036854775808))
theorem iKeyOk_ok (a : It) (csa : List Value) (w : World) (ha : kIt.rd w.heap a csa) :
  Calls Tryz.prog 44 #[.agg csa.toArray] w fun e w' => e = .returned (.bool (keyOk a)) ∧ Below w.heap.size w w' := by
 obtain ⟨baf, Aat, cat, rfl, hbaf, hfaf, hrat⟩ := kIt_inv ha
 refine enter (args := [.agg [.v (.int .i64 a.kind), .v (.int .i64 a.n), .v (.float .f64 baf), .v (.slice Aat a.t.length cat)]]) Tryz.func44 (c := bodyOf Tryz.f44) rfl rfl (start_LOK _) (start_old w) ?_
 have hz := iff_of_eq (canonTop hbaf)
 rw [hfaf] at hz
 refine gn 1 (Rg.sq [true, false] 1) [KI.code [true, true]] [(1, vR 0 0), (3, SV.agg [cI a.kind, cI a.n, cF baf, cS Aat a.t.length cat])] [LB.mk [cI a.kind, cI a.n, cF baf, cS Aat a.t.length cat] 49] ?_
 refine cpk 69 [SV.agg [cI a.kind, cI a.n, cF baf, cS Aat a.t.length cat]] (some 4) (Rg.sq [true, false] 2) (.one (.bo (itemOk a))) (fun L w1 hs => (iItemOk_ok (a) ([Value.int IntKind.i64 a.kind, Value.int IntKind.i64 a.n, Value.float FloatKind.f64 baf, Value.slice Aat a.t.length cat]) w1 (kIt_mk ‹_› hfaf (rdRow_ext (hs.old 0 rfl) hrat)))) ?_
 refine gn 1 (Rg.sq [true, false] 3) [KI.code [true, true]] [(1, vR 0 0), (5, vB (itemOk a))] [LB.mk [cI a.kind, cI a.n, cF baf, cS Aat a.t.length cat] 49] ?_
 refine spl 5 (itemOk a) ?_ ?_
 ·intro hb1
  refine gn 1 (Rg.sq [true, false] 8) [KI.code [true, true]] [(1, vR 0 0), (10, vB (a.kind != 0))] [LB.mk [cI a.kind, cI a.n, cF baf, cS Aat a.t.length cat] 49] ?_
  refine spl 10 (a.kind != 0) ?_ ?_
  ·intro hb2
   replace hb2 := bne_iff_ne.1 hb2
   refine gn 1 (Rg.sq [true, false] 12) [KI.code [true, true]] [(1, vR 0 0), (10, vL true), (14, vB (FloatKind.f64.format.order baf 0 != some Ordering.eq))] [LB.mk [cI a.kind, cI a.n, cF baf, cS Aat a.t.length cat] 49] ?_
   try simp only [flx, hbaf, hfaf]
   refine spl 14 (!decide (baf % 9223372036854775808 = 0)) ?_ ?_
   ·intro hb3
    try simp only [sbb] at hb3
    refine gn 0 Rg.no [KI.code [true, true]] [(2, vL true)] [] ?_
    refine rtk [vL true] ?_
    intro L w1 hs
    exact ⟨retB (by simp [keyOk, *]), hs.out0⟩
   ·intro hb3
    try simp only [sbb] at hb3
    refine gn 0 (Rg.sq [true, false] 14) [KI.code [true, true]] [(10, vL true), (14, vL false), (16, SV.one (cF baf))] [] ?_
    refine ext_pure true (by kernel_rfl : atC _ _ _ true = some (70, [SV.one (cF baf)], some 17, Rg.sq [true, false] 15)) (.one (.v (Value.int IntKind.u64 (↑baf : Int)))) (fun L w1 hs => (bits64_ext (baf) w1)) ?_
    refine gn 0 Rg.no [KI.code [true, true]] [(2, vB ((↑baf : Int) == 0))] [] ?_
    refine rtk [vB ((↑baf : Int) == 0)] ?_
    intro L w1 hs
    exact ⟨retB (by rw [Bool.eq_iff_iff]; simp [keyOk, *]), hs.out0⟩
  ·intro hb2
   replace hb2 := bne_eq_false_iff_eq.1 hb2
   refine gn 0 Rg.no [KI.code [true, true]] [(2, vL false)] [] ?_
   refine rtk [vL false] ?_
   intro L w1 hs
   exact ⟨retB (by rw [Bool.eq_iff_iff]; simp only [keyOk, Bool.and_eq_true, Bool.or_eq_true, Bool.not_eq_true', Bool.not_eq_false', Bool.and_eq_false_imp, Bool.or_eq_false_iff, decide_eq_true_eq, decide_eq_false_iff_not, beq_iff_eq, bne_iff_ne, Bool.false_eq_true, Bool.true_eq_false, ne_eq, true_iff, false_iff, iff_true, iff_false]; omega), hs.out0⟩
 ·intro hb1
  refine gn 0 Rg.no [KI.code [true, true]] [(2, vL false)] [] ?_
  refine rtk [vL false] ?_
  intro L w1 hs
  exact ⟨retB (by simp [keyOk, *]), hs.out0⟩
end Go.Proofs.YtgleoebogikooaaGreat.Dk
