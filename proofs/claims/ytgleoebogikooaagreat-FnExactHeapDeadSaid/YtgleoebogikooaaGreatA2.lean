/- Walks of functions of the program: what each call returns and what it leaves in memory. Conditions: those that each theorem names. -/
import Derived.Test.YtgleoebogikooaaGreatA1
namespace Go.Proofs.YtgleoebogikooaaGreat.Dk
set_option linter.unusedVariables false
set_option linter.unusedSimpArgs false
open Go.Proofs.YtgleoebogikooaaGreat.Sx Go.Proofs Go.RowKit
set_option maxRecDepth 100000
set_option maxHeartbeats 1000000
theorem bits64_ext (b : Nat) (w : World) : (callFunc 70 #[.float .f64 b]).run Tryz.prog w = .ok (.value (.int .u64 b)) w := run_bits64 Tryz.func70 (by kernel_rfl) (by kernel_rfl) (by kernel_rfl) (by kernel_rfl) b w
theorem iRank_ok (bx : Nat) (w : World) (hbx : bx < 18446744073709551616) :
  Calls Tryz.prog 98 #[.float .f64 bx] w fun e w' => e = .returned (.int .u64 (fRank (canonF bx))) ∧ Below w.heap.size w w' := by
 refine enter (args := [.one (.v (.float .f64 bx))]) Tryz.func98 (c := bodyOf Tryz.f98) rfl rfl (start_LOK _) (start_old w) ?_
 refine gn 0 Rg.no [kCd (bitL 4 13), KI.block 0, KI.code [true, true]] [(0, SV.one (cF bx)), (3, vB (FloatKind.f64.format.order bx bx != some Ordering.eq))] [] ?_
 try simp only [flx, hbx]
 refine spl 3 (isNaN bx) ?_ ?_
 ·intro hb1
  try simp only [sbb] at hb1
  refine gn 0 Rg.no [kCd (bitL 6 45), KI.block 0, KI.code [true, true]] [(2, SV.one (SC.v (Value.int IntKind.u64 18446744073709551615)))] [] ?_
  refine rtk [SV.one (SC.v (Value.int IntKind.u64 18446744073709551615))] ?_
  intro L w1 hs
  exact ⟨retI (rank_nan hbx ‹_›), hs.out0⟩
 ·intro hb1
  try simp only [sbb] at hb1
  refine gn 0 Rg.no [kCd (bitL 6 61), KI.block 0, KI.code [true, true]] [(0, SV.one (cF bx)), (7, vB (FloatKind.f64.format.order bx 0 == some Ordering.eq))] [] ?_
  try simp only [flx, hbx, hb1]
  refine spl 7 (decide (bx % 9223372036854775808 = 0)) ?_ ?_
  ·intro hb2
   replace hb2 := of_decide_eq_true hb2
   refine gn 0 Rg.no [kCd (bitL 8 189), KI.block 0, KI.code [true, true]] [(2, SV.one (SC.v (Value.int IntKind.u64 9223372036854775808)))] [] ?_
   refine rtk [SV.one (SC.v (Value.int IntKind.u64 9223372036854775808))] ?_
   intro L w1 hs
   exact ⟨retI (rank_zero hbx ‹_›), hs.out0⟩
  ·intro hb2
   replace hb2 := of_decide_eq_false hb2
   refine gn 0 Rg.no [kCd (bitL 8 253), KI.block 0, KI.code [true, true]] [(0, SV.one (cF bx)), (10, vB (FloatKind.f64.format.order bx 0 == some Ordering.gt))] [] ?_
   try simp only [flx, hbx, hb1]
   refine spl 10 (decide (0 < bx ∧ bx ≤ 9218868437227405312)) ?_ ?_
   ·intro hb3
    replace hb3 := of_decide_eq_true hb3
    refine gn 0 (Rg.sq (bitL 10 253) 1) [kCd (bitL 10 765), KI.block 0, KI.code [true, true]] [(13, SV.one (cF bx))] [] ?_
    refine ext_pure true (by kernel_rfl : atC _ _ _ true = some (70, [SV.one (cF bx)], some 14, Rg.sq (bitL 10 253) 2)) (.one (.v (Value.int IntKind.u64 (↑bx : Int)))) (fun L w1 hs => (bits64_ext (bx) w1)) ?_
    refine gn 0 Rg.no [kCd (bitL 10 765), KI.block 0, KI.code [true, true]] [(2, SV.one (SC.v (Value.int IntKind.u64 (IntKind.u64.wrap (↑(BitVec.ofInt IntKind.u64.bits (↑bx : Int) ||| BitVec.ofInt IntKind.u64.bits 9223372036854775808).toNat : Int)))))] [] ?_
    refine rtk [SV.one (SC.v (Value.int IntKind.u64 (IntKind.u64.wrap (↑(BitVec.ofInt IntKind.u64.bits (↑bx : Int) ||| BitVec.ofInt IntKind.u64.bits 9223372036854775808).toNat : Int))))] ?_
    intro L w1 hs
    exact ⟨retI (rank_or hbx ‹_›), hs.out0⟩
   ·intro hb3
    replace hb3 := of_decide_eq_false hb3
    refine gn 0 (Rg.sq (bitL 3 3) 1) [kCd (bitL 3 7)] [(16, SV.one (cF bx))] [] ?_
    refine ext_pure true (by kernel_rfl : atC _ _ _ true = some (70, [SV.one (cF bx)], some 17, Rg.sq (bitL 3 3) 2)) (.one (.v (Value.int IntKind.u64 (↑bx : Int)))) (fun L w1 hs => (bits64_ext (bx) w1)) ?_
    refine gn 0 Rg.no [kCd (bitL 3 7)] [(2, SV.one (SC.v (Value.int IntKind.u64 (IntKind.u64.wrap (↑(BitVec.ofInt IntKind.u64.bits (if IntKind.u64.signed = true then -1 else IntKind.u64.max) ^^^ BitVec.ofInt IntKind.u64.bits (↑bx : Int)).toNat : Int)))))] [] ?_
    refine rtk [SV.one (SC.v (Value.int IntKind.u64 (IntKind.u64.wrap (↑(BitVec.ofInt IntKind.u64.bits (if IntKind.u64.signed = true then -1 else IntKind.u64.max) ^^^ BitVec.ofInt IntKind.u64.bits (↑bx : Int)).toNat : Int))))] ?_
    intro L w1 hs
    exact ⟨retI (rank_not hbx (by simp_all) ‹_› ‹_›), hs.out0⟩
def itemOk (a : It) : Bool := decide (0 ≤ a.kind) && decide (a.kind ≤ 3) && (decide (a.n = 0) || decide (a.kind = 1)) && (decide (a.f = 0) || decide (a.kind = 2)) && (decide (a.t.length = 0) || decide (a.kind = 3) && decide (a.t.length ≤ 40))
theorem iItemOk_ok (a : It) (csa : List Value) (w : World) (ha : kIt.rd w.heap a csa) :
  Calls Tryz.prog 69 #[.agg csa.toArray] w fun e w' => e = .returned (.bool (itemOk a)) ∧ Below w.heap.size w w' := by
 obtain ⟨baf, Aat, cat, rfl, hbaf, hfaf, hrat⟩ := kIt_inv ha
 refine enter (args := [.agg [.v (.int .i64 a.kind), .v (.int .i64 a.n), .v (.float .f64 baf), .v (.slice Aat a.t.length cat)]]) Tryz.func69 (c := bodyOf Tryz.f69) rfl rfl (start_LOK _) (start_old w) ?_
 have hz := iff_of_eq (canon0 baf)
 rw [hfaf] at hz
 refine gn 1 (Rg.sq [true, false] 2) [KI.code [true, true]] [(1, vR 0 0), (4, vI a.kind)] [LB.mk [cI a.kind, cI a.n, cF baf, cS Aat a.t.length cat] 49] ?_
 refine cpk 94 [vI a.kind, vI 0, vI 3] (some 5) (Rg.sq [true, false] 3) (.one (.bo (decide (0 ≤ a.kind) && decide (a.kind ≤ 3)))) (fun L w1 hs => (within_ok (a.kind) (0) (3) w1)) ?_
 refine gn 1 (Rg.sq [true, false] 4) [KI.code [true, true]] [(1, vR 0 0), (6, vB (decide (0 ≤ a.kind) && decide (a.kind ≤ 3)))] [LB.mk [cI a.kind, cI a.n, cF baf, cS Aat a.t.length cat] 49] ?_
 refine spl 6 (decide (0 ≤ a.kind) && decide (a.kind ≤ 3)) ?_ ?_
 ·intro hb1
  try simp only [sbb] at hb1
  refine gn 1 (Rg.sq [true, false] 8) [KI.code [true, true]] [(1, vR 0 0), (6, vL true), (10, vB (a.n == 0))] [LB.mk [cI a.kind, cI a.n, cF baf, cS Aat a.t.length cat] 49] ?_
  refine spl 10 (a.n == 0) ?_ ?_
  ·intro hb2
   replace hb2 := beq_iff_eq.1 hb2
   refine gn 1 (Rg.sq [true, false] 16) [KI.code [true, true]] [(1, vR 0 0), (16, vL true), (18, SV.one (cF baf))] [LB.mk [cI a.kind, cI a.n, cF baf, cS Aat a.t.length cat] 49] ?_
   refine ext_pure true (by kernel_rfl : atC _ _ _ true = some (70, [SV.one (cF baf)], some 19, Rg.sq [true, false] 17)) (.one (.v (Value.int IntKind.u64 (↑baf : Int)))) (fun L w1 hs => (bits64_ext (baf) w1)) ?_
   refine gn 1 (Rg.sq [true, false] 19) [KI.code [true, true]] [(1, vR 0 0), (16, vL true), (21, vB ((↑baf : Int) == 0))] [LB.mk [cI a.kind, cI a.n, cF baf, cS Aat a.t.length cat] 49] ?_
   refine spl 21 ((↑baf : Int) == 0) ?_ ?_
   ·intro hb3
    replace hb3 := beq_iff_eq.1 hb3
    refine gn 1 (Rg.sq [true, false] 30) [KI.code [true, true]] [(1, vR 0 0), (27, vL true), (32, vB ((↑a.t.length : Int) == 0))] [LB.mk [cI a.kind, cI a.n, cF baf, cS Aat a.t.length cat] 49] ?_
    refine spl 32 ((↑a.t.length : Int) == 0) ?_ ?_
    ·intro hb4
     replace hb4 := beq_iff_eq.1 hb4
     refine gn 0 Rg.no [KI.code [true, true]] [(2, vL true)] [] ?_
     refine rtk [vL true] ?_
     intro L w1 hs
     exact ⟨retB (by rw [Bool.eq_iff_iff]; simp only [itemOk, Bool.and_eq_true, Bool.or_eq_true, Bool.not_eq_true', Bool.not_eq_false', Bool.and_eq_false_imp, Bool.or_eq_false_iff, decide_eq_true_eq, decide_eq_false_iff_not, beq_iff_eq, bne_iff_ne, Bool.false_eq_true, Bool.true_eq_false, ne_eq, true_iff, false_iff, iff_true, iff_false]; omega), hs.out0⟩
    ·intro hb4
     replace hb4 := beq_eq_false_iff_ne.1 hb4
     refine gn 1 (Rg.sq [true, false] 34) [KI.code [true, true]] [(1, vR 0 0), (27, vL true), (32, vL false), (36, vB (a.kind == 3))] [LB.mk [cI a.kind, cI a.n, cF baf, cS Aat a.t.length cat] 49] ?_
     refine spl 36 (a.kind == 3) ?_ ?_
     ·intro hb5
      replace hb5 := beq_iff_eq.1 hb5
      refine gn 0 Rg.no [KI.code [true, true]] [(2, vB (decide ((↑a.t.length : Int) ≤ 40)))] [] ?_
      refine rtk [vB (decide ((↑a.t.length : Int) ≤ 40))] ?_
      intro L w1 hs
      exact ⟨retB (by rw [Bool.eq_iff_iff]; simp only [itemOk, Bool.and_eq_true, Bool.or_eq_true, Bool.not_eq_true', Bool.not_eq_false', Bool.and_eq_false_imp, Bool.or_eq_false_iff, decide_eq_true_eq, decide_eq_false_iff_not, beq_iff_eq, bne_iff_ne, Bool.false_eq_true, Bool.true_eq_false, ne_eq, true_iff, false_iff, iff_true, iff_false]; omega), hs.out0⟩
     ·intro hb5
      replace hb5 := beq_eq_false_iff_ne.1 hb5
      refine gn 0 Rg.no [KI.code [true, true]] [(2, vL false)] [] ?_
      refine rtk [vL false] ?_
      intro L w1 hs
      exact ⟨retB (by rw [Bool.eq_iff_iff]; simp only [itemOk, Bool.and_eq_true, Bool.or_eq_true, Bool.not_eq_true', Bool.not_eq_false', Bool.and_eq_false_imp, Bool.or_eq_false_iff, decide_eq_true_eq, decide_eq_false_iff_not, beq_iff_eq, bne_iff_ne, Bool.false_eq_true, Bool.true_eq_false, ne_eq, true_iff, false_iff, iff_true, iff_false]; omega), hs.out0⟩
   ·intro hb3
    replace hb3 := beq_eq_false_iff_ne.1 hb3
    refine gn 1 (Rg.sq [true, false] 25) [KI.code [true, true]] [(1, vR 0 0), (27, vB (a.kind == 2))] [LB.mk [cI a.kind, cI a.n, cF baf, cS Aat a.t.length cat] 49] ?_
    refine spl 27 (a.kind == 2) ?_ ?_
    ·intro hb4
     replace hb4 := beq_iff_eq.1 hb4
     refine gn 1 (Rg.sq [true, false] 30) [KI.code [true, true]] [(1, vR 0 0), (27, vL true), (32, vB ((↑a.t.length : Int) == 0))] [LB.mk [cI a.kind, cI a.n, cF baf, cS Aat a.t.length cat] 49] ?_
     refine spl 32 ((↑a.t.length : Int) == 0) ?_ ?_
     ·intro hb5
      replace hb5 := beq_iff_eq.1 hb5
      refine gn 0 Rg.no [KI.code [true, true]] [(2, vL true)] [] ?_
      refine rtk [vL true] ?_
      intro L w1 hs
      exact ⟨retB (by rw [Bool.eq_iff_iff]; simp only [itemOk, Bool.and_eq_true, Bool.or_eq_true, Bool.not_eq_true', Bool.not_eq_false', Bool.and_eq_false_imp, Bool.or_eq_false_iff, decide_eq_true_eq, decide_eq_false_iff_not, beq_iff_eq, bne_iff_ne, Bool.false_eq_true, Bool.true_eq_false, ne_eq, true_iff, false_iff, iff_true, iff_false]; omega), hs.out0⟩
     ·intro hb5
      replace hb5 := beq_eq_false_iff_ne.1 hb5
      refine gn 1 (Rg.sq [true, false] 34) [KI.code [true, true]] [(1, vR 0 0), (27, vL true), (32, vL false), (36, vB (a.kind == 3))] [LB.mk [cI a.kind, cI a.n, cF baf, cS Aat a.t.length cat] 49] ?_
      refine spl 36 (a.kind == 3) ?_ ?_
      ·intro hb6
       replace hb6 := beq_iff_eq.1 hb6
       (exfalso; omega)
      ·intro hb6
       replace hb6 := beq_eq_false_iff_ne.1 hb6
       refine gn 0 Rg.no [KI.code [true, true]] [(2, vL false)] [] ?_
       refine rtk [vL false] ?_
       intro L w1 hs
       exact ⟨retB (by rw [Bool.eq_iff_iff]; simp only [itemOk, Bool.and_eq_true, Bool.or_eq_true, Bool.not_eq_true', Bool.not_eq_false', Bool.and_eq_false_imp, Bool.or_eq_false_iff, decide_eq_true_eq, decide_eq_false_iff_not, beq_iff_eq, bne_iff_ne, Bool.false_eq_true, Bool.true_eq_false, ne_eq, true_iff, false_iff, iff_true, iff_false]; omega), hs.out0⟩
    ·intro hb4
     replace hb4 := beq_eq_false_iff_ne.1 hb4
     refine gn 0 Rg.no [KI.code [true, true]] [(2, vL false)] [] ?_
     refine rtk [vL false] ?_
     intro L w1 hs
     exact ⟨retB (by rw [Bool.eq_iff_iff]; simp only [itemOk, Bool.and_eq_true, Bool.or_eq_true, Bool.not_eq_true', Bool.not_eq_false', Bool.and_eq_false_imp, Bool.or_eq_false_iff, decide_eq_true_eq, decide_eq_false_iff_not, beq_iff_eq, bne_iff_ne, Bool.false_eq_true, Bool.true_eq_false, ne_eq, true_iff, false_iff, iff_true, iff_false]; omega), hs.out0⟩
  ·intro hb2
   replace hb2 := beq_eq_false_iff_ne.1 hb2
   refine gn 1 (Rg.sq [true, false] 14) [KI.code [true, true]] [(1, vR 0 0), (16, vB (a.kind == 1))] [LB.mk [cI a.kind, cI a.n, cF baf, cS Aat a.t.length cat] 49] ?_
   refine spl 16 (a.kind == 1) ?_ ?_
   ·intro hb3
    replace hb3 := beq_iff_eq.1 hb3
    refine gn 1 (Rg.sq [true, false] 16) [KI.code [true, true]] [(1, vR 0 0), (16, vL true), (18, SV.one (cF baf))] [LB.mk [cI a.kind, cI a.n, cF baf, cS Aat a.t.length cat] 49] ?_
    refine ext_pure true (by kernel_rfl : atC _ _ _ true = some (70, [SV.one (cF baf)], some 19, Rg.sq [true, false] 17)) (.one (.v (Value.int IntKind.u64 (↑baf : Int)))) (fun L w1 hs => (bits64_ext (baf) w1)) ?_
    refine gn 1 (Rg.sq [true, false] 19) [KI.code [true, true]] [(1, vR 0 0), (16, vL true), (21, vB ((↑baf : Int) == 0))] [LB.mk [cI a.kind, cI a.n, cF baf, cS Aat a.t.length cat] 49] ?_
    refine spl 21 ((↑baf : Int) == 0) ?_ ?_
    ·intro hb4
     replace hb4 := beq_iff_eq.1 hb4
     refine gn 1 (Rg.sq [true, false] 30) [KI.code [true, true]] [(1, vR 0 0), (27, vL true), (32, vB ((↑a.t.length : Int) == 0))] [LB.mk [cI a.kind, cI a.n, cF baf, cS Aat a.t.length cat] 49] ?_
     refine spl 32 ((↑a.t.length : Int) == 0) ?_ ?_
     ·intro hb5
      replace hb5 := beq_iff_eq.1 hb5
      refine gn 0 Rg.no [KI.code [true, true]] [(2, vL true)] [] ?_
      refine rtk [vL true] ?_
      intro L w1 hs
      exact ⟨retB (by rw [Bool.eq_iff_iff]; simp only [itemOk, Bool.and_eq_true, Bool.or_eq_true, Bool.not_eq_true', Bool.not_eq_false', Bool.and_eq_false_imp, Bool.or_eq_false_iff, decide_eq_true_eq, decide_eq_false_iff_not, beq_iff_eq, bne_iff_ne, Bool.false_eq_true, Bool.true_eq_false, ne_eq, true_iff, false_iff, iff_true, iff_false]; omega), hs.out0⟩
     ·intro hb5
      replace hb5 := beq_eq_false_iff_ne.1 hb5
      refine gn 1 (Rg.sq [true, false] 34) [KI.code [true, true]] [(1, vR 0 0), (27, vL true), (32, vL false), (36, vB (a.kind == 3))] [LB.mk [cI a.kind, cI a.n, cF baf, cS Aat a.t.length cat] 49] ?_
      refine spl 36 (a.kind == 3) ?_ ?_
      ·intro hb6
       replace hb6 := beq_iff_eq.1 hb6
       (exfalso; omega)
      ·intro hb6
       replace hb6 := beq_eq_false_iff_ne.1 hb6
       refine gn 0 Rg.no [KI.code [true, true]] [(2, vL false)] [] ?_
       refine rtk [vL false] ?_
       intro L w1 hs
       exact ⟨retB (by rw [Bool.eq_iff_iff]; simp only [itemOk, Bool.and_eq_true, Bool.or_eq_true, Bool.not_eq_true', Bool.not_eq_false', Bool.and_eq_false_imp, Bool.or_eq_false_iff, decide_eq_true_eq, decide_eq_false_iff_not, beq_iff_eq, bne_iff_ne, Bool.false_eq_true, Bool.true_eq_false, ne_eq, true_iff, false_iff, iff_true, iff_false]; omega), hs.out0⟩
    ·intro hb4
     replace hb4 := beq_eq_false_iff_ne.1 hb4
     refine gn 1 (Rg.sq [true, false] 25) [KI.code [true, true]] [(1, vR 0 0), (27, vB (a.kind == 2))] [LB.mk [cI a.kind, cI a.n, cF baf, cS Aat a.t.length cat] 49] ?_
     refine spl 27 (a.kind == 2) ?_ ?_
     ·intro hb5
      replace hb5 := beq_iff_eq.1 hb5
      (exfalso; omega)
     ·intro hb5
      replace hb5 := beq_eq_false_iff_ne.1 hb5
      refine gn 0 Rg.no [KI.code [true, true]] [(2, vL false)] [] ?_
      refine rtk [vL false] ?_
      intro L w1 hs
      exact ⟨retB (by rw [Bool.eq_iff_iff]; simp only [itemOk, Bool.and_eq_true, Bool.or_eq_true, Bool.not_eq_true', Bool.not_eq_false', Bool.and_eq_false_imp, Bool.or_eq_false_iff, decide_eq_true_eq, decide_eq_false_iff_not, beq_iff_eq, bne_iff_ne, Bool.false_eq_true, Bool.true_eq_false, ne_eq, true_iff, false_iff, iff_true, iff_false]; omega), hs.out0⟩
   ·intro hb3
    replace hb3 := beq_eq_false_iff_ne.1 hb3
    refine gn 0 Rg.no [KI.code [true, true]] [(2, vL false)] [] ?_
    refine rtk [vL false] ?_
    intro L w1 hs
    exact ⟨retB (by rw [Bool.eq_iff_iff]; simp only [itemOk, Bool.and_eq_true, Bool.or_eq_true, Bool.not_eq_true', Bool.not_eq_false', Bool.and_eq_false_imp, Bool.or_eq_false_iff, decide_eq_true_eq, decide_eq_false_iff_not, beq_iff_eq, bne_iff_ne, Bool.false_eq_true, Bool.true_eq_false, ne_eq, true_iff, false_iff, iff_true, iff_false]; omega), hs.out0⟩
 ·intro hb1
  try simp only [sbb] at hb1
  refine gn 0 Rg.no [KI.code [true, true]] [(2, vL false)] [] ?_
  refine rtk [vL false] ?_
  intro L w1 hs
  exact ⟨retB (by rw [Bool.eq_iff_iff]; simp only [itemOk, Bool.and_eq_true, Bool.or_eq_true, Bool.not_eq_true', Bool.not_eq_false', Bool.and_eq_false_imp, Bool.or_eq_false_iff, decide_eq_true_eq, decide_eq_false_iff_not, beq_iff_eq, bne_iff_ne, Bool.false_eq_true, Bool.true_eq_false, ne_eq, true_iff, false_iff, iff_true, iff_false]; omega), hs.out0⟩
end Go.Proofs.YtgleoebogikooaaGreat.Dk
