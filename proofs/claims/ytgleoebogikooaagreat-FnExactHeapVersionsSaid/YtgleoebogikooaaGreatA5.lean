/- Walks of functions of the program: what each call returns and what it leaves in memory. Conditions: those that each theorem names. -/
import Derived.Test.YtgleoebogikooaaGreatA4
namespace Go.Proofs.YtgleoebogikooaaGreat.Dk
set_option linter.unusedVariables false
set_option linter.unusedSimpArgs false
open Go.Proofs.YtgleoebogikooaaGreat.Sx Go.Proofs Go.RowKit
set_option maxRecDepth 100000
set_option maxHeartbeats 1000000
theorem sFCmp_ok (bx : Nat) (by_ : Nat) (w : World) (hbx : bx < 18446744073709551616) (hby : by_ < 18446744073709551616) :
  Calls Tryz.prog 67 #[.float .f64 bx, .float .f64 by_] w fun e w' => e = .returned (.int .i64 (cmpI (fRank (canonF bx)) (fRank (canonF by_)))) ∧ Below w.heap.size w w' := by
 refine enter (args := [.one (.v (.float .f64 bx)), .one (.v (.float .f64 by_))]) Tryz.func67 (c := bodyOf Tryz.f67) rfl rfl (start_LOK _) (start_old w) ?_
 refine gn 0 (Rg.sq [true, false] 1) [KI.code [true, true]] [(1, SV.one (cF by_)), (7, SV.one (cF bx))] [] ?_
 refine cpk 95 [SV.one (cF bx)] (some 8) (Rg.sq [true, false] 2) (.one (.v (Value.int IntKind.u64 (fRank (canonF bx))))) (fun L w1 hs => (sRank_ok (bx) w1 ‹_›)) ?_
 refine gn 0 (Rg.sq (bitL 3 3) 1) [kCd (bitL 3 7)] [(5, SV.one (SC.v (Value.int IntKind.u64 (fRank (canonF bx))))), (9, SV.one (cF by_))] [] ?_
 refine cpk 95 [SV.one (cF by_)] (some 10) (Rg.sq (bitL 3 3) 2) (.one (.v (Value.int IntKind.u64 (fRank (canonF by_))))) (fun L w1 hs => (sRank_ok (by_) w1 ‹_›)) ?_
 refine gn 0 Rg.no [kCd (bitL 5 23), kCd (bitL 4 15)] [(5, SV.one (SC.v (Value.int IntKind.u64 (fRank (canonF bx))))), (6, SV.one (SC.v (Value.int IntKind.u64 (fRank (canonF by_))))), (13, vB (decide (fRank (canonF bx) < fRank (canonF by_))))] [] ?_
 refine spl 13 (decide (fRank (canonF bx) < fRank (canonF by_))) ?_ ?_
 ·intro hb1
  replace hb1 := of_decide_eq_true hb1
  refine gn 0 Rg.no [kCd (bitL 7 87), kCd (bitL 4 15)] [(4, vI (-1))] [] ?_
  refine rtk [vI (-1)] ?_
  intro L w1 hs
  exact ⟨retI (by simp [cmpI, *]), hs.out0⟩
 ·intro hb1
  replace hb1 := of_decide_eq_false hb1
  refine gn 0 Rg.no [kCd (bitL 6 47), kCd (bitL 5 31)] [(16, vB (decide (fRank (canonF bx) > fRank (canonF by_))))] [] ?_
  refine spl 16 (decide (fRank (canonF bx) > fRank (canonF by_))) ?_ ?_
  ·intro hb2
   replace hb2 := of_decide_eq_true hb2
   refine gn 0 Rg.no [kCd (bitL 8 175), kCd (bitL 5 31)] [(4, vI 1)] [] ?_
   refine rtk [vI 1] ?_
   intro L w1 hs
   exact ⟨retI (by simp [cmpI, *]), hs.out0⟩
  ·intro hb2
   replace hb2 := of_decide_eq_false hb2
   refine gn 0 Rg.no [kCd (bitL 6 63)] [(4, vI 0)] [] ?_
   refine rtk [vI 0] ?_
   intro L w1 hs
   exact ⟨retI (by simp [cmpI, *]), hs.out0⟩
theorem cmpB_drop {xs ys : List Int} {i : Nat} (h : i < xs.length) (h2 : i < ys.length) : cmpB (xs.drop i) (ys.drop i) = if xs[i] < ys[i] then -1 else if ys[i] < xs[i] then 1 else cmpB (xs.drop (i + 1)) (ys.drop (i + 1)) := by
 rw [List.drop_eq_getElem_cons h, List.drop_eq_getElem_cons h2]; rfl
theorem cmpB_end {xs ys : List Int} {i : Nat} (hx : i ≤ xs.length) (hy : i ≤ ys.length) (h : ¬ (i < xs.length ∧ i < ys.length)) : cmpB (xs.drop i) (ys.drop i) = if xs.length < ys.length then -1 else if ys.length < xs.length then 1 else 0 := by
 rcases Nat.lt_or_ge i xs.length with h1 | h1
 ·have h2 : ys.length ≤ i := by omega
  rw [List.drop_eq_getElem_cons h1, List.drop_eq_nil_of_le h2, if_neg (by omega), if_pos (by omega)]; rfl
 ·rw [List.drop_eq_nil_of_le h1]
  rcases Nat.lt_or_ge i ys.length with h2 | h2
  ·rw [List.drop_eq_getElem_cons h2, if_pos (by omega)]; rfl
  ·rw [List.drop_eq_nil_of_le h2, if_neg (by omega), if_neg (by omega)]; rfl
theorem l3texts_ok (xs : List Int) (vxs : Value) (ys : List Int) (vys : Value) (w : World) (hxs : rdRow kU8 w.heap xs vxs) (hys : rdRow kU8 w.heap ys vys) (lx : xs.length ≤ 1048576) (ly : ys.length ≤ 1048576) :
  Calls Tryz.prog 68 #[vxs, vys] w fun e w' => e = .returned (.int .i64 (cmpB xs ys)) ∧ Below w.heap.size w w' := by
 obtain ⟨Axs, cxs, rfl⟩ := rdRow_form hxs
 obtain ⟨Ays, cys, rfl⟩ := rdRow_form hys
 refine enter (args := [.one (.v (.slice Axs xs.length cxs)), .one (.v (.slice Ays ys.length cys))]) Tryz.func68 (c := bodyOf Tryz.f68) rfl rfl (start_LOK _) (start_old w) ?_
 refine gn 0 Rg.no [kLp (bitL 5 29), KI.block 0, KI.code [true, true]] [(0, vS Axs xs.length cxs), (1, vS Ays ys.length cys), (5, vI 0)] [] ?_
 refine loop_at (ι := Nat) (fun i => [(5, .one (.v (.int .i64 i)))]) (fun _ => []) (fun i => [oldA w]) (fun i => i ≤ xs.length ∧ i ≤ ys.length ∧ cmpB xs ys = cmpB (xs.drop i) (ys.drop i)) (fun i => xs.length - i) 0 rfl rfl rfl ⟨Nat.zero_le _, Nat.zero_le _, rfl⟩ ?_
 intro i hi ih
 refine gn 0 (Rg.sq (bitL 7 29) 5) [kCd (bitL 7 93), kCd (bitL 6 61), kLp (bitL 5 29), KI.block 0, KI.code [true, true]] [(0, vS Axs xs.length cxs), (1, vS Ays ys.length cys), (5, vI (↑i : Int)), (10, vB (decide ((↑i : Int) < (↑xs.length : Int))))] [] ?_
 refine spl 10 (decide ((↑i : Int) < (↑xs.length : Int))) ?_ ?_
 ·intro hb1
  replace hb1 := of_decide_eq_true hb1
  refine gn 0 Rg.no [kCd (bitL 7 93), kCd (bitL 6 61), kLp (bitL 5 29), KI.block 0, KI.code [true, true]] [(0, vS Axs xs.length cxs), (1, vS Ays ys.length cys), (5, vI (↑i : Int)), (15, vB (decide ((↑i : Int) < (↑ys.length : Int))))] [] ?_
  refine spl 15 (decide ((↑i : Int) < (↑ys.length : Int))) ?_ ?_
  ·intro hb2
   replace hb2 := of_decide_eq_true hb2
   refine gn 0 (Rg.dr (bitL 10 189) (bitL 9 51) 5 2) [kCd (bitL 10 701), kCd (bitL 9 445), KI.block 1, kCd (bitL 7 125), kLp (bitL 5 29), KI.block 0, KI.code [true, true]] [(0, vS Axs xs.length cxs), (1, vS Ays ys.length cys), (5, vI (↑i : Int)), (18, vS Axs xs.length cxs), (19, vI (↑i : Int)), (22, vS Ays ys.length cys), (23, vI (↑i : Int))] [] ?_
   refine index_at 2 (by kernel_rfl : atP _ _ _ 2 false = some (Op.indexAddr 44 (tmpO 18) (tmpO 19), 0, some 20, Rg.dr (bitL 10 189) (bitL 9 55) 4 2)) (ni := i) (sz := 1) (by kernel_rfl) rfl rfl rfl (by omega) (fun L w1 hs => rd_some (i := i) (rdRow_ext (hs.old 0 rfl) hxs) (by omega)) ?_
   intro a_1 ha_1
   cases ha_1
   refine gn 0 (Rg.dr (bitL 10 189) (bitL 9 55) 4 2) [kCd (bitL 10 701), kCd (bitL 9 445), KI.block 1, kCd (bitL 7 125), kLp (bitL 5 29), KI.block 0, KI.code [true, true]] [(0, vS (some a_1) xs.length cxs), (1, vS Ays ys.length cys), (5, vI (↑i : Int)), (20, vP (a_1.add (i * 1))), (22, vS Ays ys.length cys), (23, vI (↑i : Int))] [] ?_
   refine index_at 6 (by kernel_rfl : atP _ _ _ 6 false = some (Op.indexAddr 44 (tmpO 22) (tmpO 23), 0, some 24, Rg.dr (bitL 10 189) (bitL 9 119) 3 2)) (ni := i) (sz := 1) (by kernel_rfl) rfl rfl rfl (by omega) (fun L w1 hs => rd_some (i := i) (rdRow_ext (hs.old 0 rfl) hys) (by omega)) ?_
   intro a_2 ha_2
   cases ha_2
   refine gn 0 (Rg.dr (bitL 10 189) (bitL 9 119) 3 2) [kCd (bitL 10 701), kCd (bitL 9 445), KI.block 1, kCd (bitL 7 125), kLp (bitL 5 29), KI.block 0, KI.code [true, true]] [(0, vS (some a_1) xs.length cxs), (1, vS (some a_2) ys.length cys), (5, vI (↑i : Int)), (20, vP (a_1.add (i * 1))), (24, vP (a_2.add (i * 1)))] [] ?_
   refine load_one 3 (by kernel_rfl : atP _ _ _ 3 true = some (Op.load 5 (tmpO 20), 5, some 21, Rg.dr (bitL 10 189) (bitL 9 127) 2 2)) (n := 1) (by kernel_rfl) rfl ?_
   intro L w1 hs
   refine ⟨.v (Value.int IntKind.u8 ((xs)[i]'(by omega))), rd_sc (rdRow_ext (hs.old 0 rfl) hxs) (by omega), ?_⟩
   clear hs
   refine gn 0 (Rg.dr (bitL 10 189) (bitL 9 127) 2 2) [kCd (bitL 10 701), kCd (bitL 9 445), KI.block 1, kCd (bitL 7 125), kLp (bitL 5 29), KI.block 0, KI.code [true, true]] [(0, vS (some a_1) xs.length cxs), (1, vS (some a_2) ys.length cys), (5, vI (↑i : Int)), (21, SV.one (SC.v (Value.int IntKind.u8 xs[i]))), (24, vP (a_2.add (i * 1)))] [] ?_
   refine load_one 7 (by kernel_rfl : atP _ _ _ 7 true = some (Op.load 5 (tmpO 24), 5, some 25, Rg.dr (bitL 10 189) (bitL 9 255) 1 2)) (n := 1) (by kernel_rfl) rfl ?_
   intro L w1 hs
   refine ⟨.v (Value.int IntKind.u8 ((ys)[i]'(by omega))), rd_sc (rdRow_ext (hs.old 0 rfl) hys) (by omega), ?_⟩
   clear hs
   refine gn 0 Rg.no [kCd (bitL 10 701), kCd (bitL 9 445), KI.block 1, kCd (bitL 7 125), kLp (bitL 5 29), KI.block 0, KI.code [true, true]] [(0, vS (some a_1) xs.length cxs), (1, vS (some a_2) ys.length cys), (5, vI (↑i : Int)), (26, vB (decide (xs[i] < ys[i])))] [] ?_
   refine spl 26 (decide (xs[i] < ys[i])) ?_ ?_
   ·intro hb3
    replace hb3 := of_decide_eq_true hb3
    refine gn 0 Rg.no [kCd (bitL 12 2749), kCd (bitL 9 445), KI.block 1, kCd (bitL 7 125), kLp (bitL 5 29), KI.block 0, KI.code [true, true]] [(4, vI (-1))] [] ?_
    refine rtk [vI (-1)] ?_
    intro L w1 hs
    exact ⟨retI (by rw [hi.2.2, cmpB_drop (by omega) (by omega), if_pos (by omega)]), hs.out0⟩
   ·intro hb3
    replace hb3 := of_decide_eq_false hb3
    refine gn 0 (Rg.dr (bitL 10 445) (bitL 9 51) 5 2) [kCd (bitL 10 957), KI.block 1, kCd (bitL 7 125), kLp (bitL 5 29), KI.block 0, KI.code [true, true]] [(0, vS (some a_1) xs.length cxs), (1, vS (some a_2) ys.length cys), (5, vI (↑i : Int)), (27, vS (some a_1) xs.length cxs), (28, vI (↑i : Int)), (31, vS (some a_2) ys.length cys), (32, vI (↑i : Int))] [] ?_
    refine index_at 2 (by kernel_rfl : atP _ _ _ 2 false = some (Op.indexAddr 44 (tmpO 27) (tmpO 28), 0, some 29, Rg.dr (bitL 10 445) (bitL 9 55) 4 2)) (ni := i) (sz := 1) (by kernel_rfl) rfl rfl rfl (by omega) (fun L w1 hs => rd_some (i := i) (rdRow_ext (hs.old 0 rfl) hxs) (by omega)) ?_
    intro a_3 ha_3
    cases ha_3
    refine gn 0 (Rg.dr (bitL 10 445) (bitL 9 55) 4 2) [kCd (bitL 10 957), KI.block 1, kCd (bitL 7 125), kLp (bitL 5 29), KI.block 0, KI.code [true, true]] [(0, vS (some a_1) xs.length cxs), (1, vS (some a_2) ys.length cys), (5, vI (↑i : Int)), (29, vP (a_1.add (i * 1))), (31, vS (some a_2) ys.length cys), (32, vI (↑i : Int))] [] ?_
    refine index_at 6 (by kernel_rfl : atP _ _ _ 6 false = some (Op.indexAddr 44 (tmpO 31) (tmpO 32), 0, some 33, Rg.dr (bitL 10 445) (bitL 9 119) 3 2)) (ni := i) (sz := 1) (by kernel_rfl) rfl rfl rfl (by omega) (fun L w1 hs => rd_some (i := i) (rdRow_ext (hs.old 0 rfl) hys) (by omega)) ?_
    intro a_3 ha_3
    cases ha_3
    refine gn 0 (Rg.dr (bitL 10 445) (bitL 9 119) 3 2) [kCd (bitL 10 957), KI.block 1, kCd (bitL 7 125), kLp (bitL 5 29), KI.block 0, KI.code [true, true]] [(0, vS (some a_1) xs.length cxs), (1, vS (some a_2) ys.length cys), (5, vI (↑i : Int)), (29, vP (a_1.add (i * 1))), (33, vP (a_2.add (i * 1)))] [] ?_
    refine load_one 3 (by kernel_rfl : atP _ _ _ 3 true = some (Op.load 5 (tmpO 29), 5, some 30, Rg.dr (bitL 10 445) (bitL 9 127) 2 2)) (n := 1) (by kernel_rfl) rfl ?_
    intro L w1 hs
    refine ⟨.v (Value.int IntKind.u8 ((xs)[i]'(by omega))), rd_sc (rdRow_ext (hs.old 0 rfl) hxs) (by omega), ?_⟩
    clear hs
    refine gn 0 (Rg.dr (bitL 10 445) (bitL 9 127) 2 2) [kCd (bitL 10 957), KI.block 1, kCd (bitL 7 125), kLp (bitL 5 29), KI.block 0, KI.code [true, true]] [(0, vS (some a_1) xs.length cxs), (1, vS (some a_2) ys.length cys), (5, vI (↑i : Int)), (30, SV.one (SC.v (Value.int IntKind.u8 xs[i]))), (33, vP (a_2.add (i * 1)))] [] ?_
    refine load_one 7 (by kernel_rfl : atP _ _ _ 7 true = some (Op.load 5 (tmpO 33), 5, some 34, Rg.dr (bitL 10 445) (bitL 9 255) 1 2)) (n := 1) (by kernel_rfl) rfl ?_
    intro L w1 hs
    refine ⟨.v (Value.int IntKind.u8 ((ys)[i]'(by omega))), rd_sc (rdRow_ext (hs.old 0 rfl) hys) (by omega), ?_⟩
    clear hs
    refine gn 0 Rg.no [kCd (bitL 10 957), KI.block 1, kCd (bitL 7 125), kLp (bitL 5 29), KI.block 0, KI.code [true, true]] [(0, vS (some a_1) xs.length cxs), (1, vS (some a_2) ys.length cys), (5, vI (↑i : Int)), (35, vB (decide (xs[i] > ys[i])))] [] ?_
    refine spl 35 (decide (xs[i] > ys[i])) ?_ ?_
    ·intro hb4
     replace hb4 := of_decide_eq_true hb4
     refine gn 0 Rg.no [kCd (bitL 12 3005), KI.block 1, kCd (bitL 7 125), kLp (bitL 5 29), KI.block 0, KI.code [true, true]] [(4, vI 1)] [] ?_
     refine rtk [vI 1] ?_
     intro L w1 hs
     exact ⟨retI (by rw [hi.2.2, cmpB_drop (by omega) (by omega), if_neg (by omega), if_pos (by omega)]), hs.out0⟩
    ·intro hb4
     replace hb4 := of_decide_eq_false hb4
     refine gn 0 Rg.no [kLp (bitL 5 29), KI.block 0, KI.code [true, true]] [(0, vS (some a_1) xs.length cxs), (1, vS (some a_2) ys.length cys), (5, vI (IntKind.i64.wrap ((↑i : Int) + 1)))] [] ?_
     rw [wrap_succ (by omega)]; exact ih (i + 1) ⟨by omega, by omega, by rw [hi.2.2, cmpB_drop (by omega) (by omega), if_neg (by omega), if_neg (by omega)]⟩ (by omega)
  ·intro hb2
   replace hb2 := of_decide_eq_false hb2
   refine gn 0 Rg.no [kCd (bitL 4 11), kCd (bitL 3 7)] [(0, vS Axs xs.length cxs), (1, vS Ays ys.length cys), (40, vB (decide ((↑xs.length : Int) < (↑ys.length : Int))))] [] ?_
   refine spl 40 (decide ((↑xs.length : Int) < (↑ys.length : Int))) ?_ ?_
   ·intro hb3
    replace hb3 := of_decide_eq_true hb3
    (exfalso; omega)
   ·intro hb3
    replace hb3 := of_decide_eq_false hb3
    refine gn 0 Rg.no [kCd (bitL 5 23), kCd (bitL 4 15)] [(45, vB (decide ((↑xs.length : Int) > (↑ys.length : Int))))] [] ?_
    refine spl 45 (decide ((↑xs.length : Int) > (↑ys.length : Int))) ?_ ?_
    ·intro hb4
     replace hb4 := of_decide_eq_true hb4
     refine gn 0 Rg.no [kCd (bitL 7 87), kCd (bitL 4 15)] [(4, vI 1)] [] ?_
     refine rtk [vI 1] ?_
     intro L w1 hs
     exact ⟨retI (by rw [hi.2.2, cmpB_end hi.1 hi.2.1 (by omega)]; rw [if_neg (by omega), if_pos (by omega)]), hs.out0⟩
    ·intro hb4
     replace hb4 := of_decide_eq_false hb4
     (exfalso; omega)
 ·intro hb1
  replace hb1 := of_decide_eq_false hb1
  refine gn 0 Rg.no [kCd (bitL 4 11), kCd (bitL 3 7)] [(0, vS Axs xs.length cxs), (1, vS Ays ys.length cys), (40, vB (decide ((↑xs.length : Int) < (↑ys.length : Int))))] [] ?_
  refine spl 40 (decide ((↑xs.length : Int) < (↑ys.length : Int))) ?_ ?_
  ·intro hb2
   replace hb2 := of_decide_eq_true hb2
   refine gn 0 Rg.no [kCd (bitL 6 43), kCd (bitL 3 7)] [(4, vI (-1))] [] ?_
   refine rtk [vI (-1)] ?_
   intro L w1 hs
   exact ⟨retI (by rw [hi.2.2, cmpB_end hi.1 hi.2.1 (by omega)]; rw [if_pos (by omega)]), hs.out0⟩
  ·intro hb2
   replace hb2 := of_decide_eq_false hb2
   refine gn 0 Rg.no [kCd (bitL 5 23), kCd (bitL 4 15)] [(45, vB (decide ((↑xs.length : Int) > (↑ys.length : Int))))] [] ?_
   refine spl 45 (decide ((↑xs.length : Int) > (↑ys.length : Int))) ?_ ?_
   ·intro hb3
    replace hb3 := of_decide_eq_true hb3
    (exfalso; omega)
   ·intro hb3
    replace hb3 := of_decide_eq_false hb3
    refine gn 0 Rg.no [kCd (bitL 5 31)] [(4, vI 0)] [] ?_
    refine rtk [vI 0] ?_
    intro L w1 hs
    exact ⟨retI (by rw [hi.2.2, cmpB_end hi.1 hi.2.1 (by omega)]; rw [if_neg (by omega), if_neg (by omega)]), hs.out0⟩
theorem sItemOk_ok (a : It) (csa : List Value) (w : World) (ha : kIt.rd w.heap a csa) :
  Calls Tryz.prog 65 #[.agg csa.toArray] w fun e w' => e = .returned (.bool (itemOk a)) ∧ Below w.heap.size w w' := by
 obtain ⟨baf, Aat, cat, rfl, hbaf, hfaf, hrat⟩ := kIt_inv ha
 refine enter (args := [.agg [.v (.int .i64 a.kind), .v (.int .i64 a.n), .v (.float .f64 baf), .v (.slice Aat a.t.length cat)]]) Tryz.func65 (c := bodyOf Tryz.f65) rfl rfl (start_LOK _) (start_old w) ?_
 have hz := iff_of_eq (canon0 baf)
 rw [hfaf] at hz
 refine gn 1 (Rg.sq (bitL 3 1) 4) [kCd (bitL 3 5), KI.code [true, true]] [(1, vR 0 0), (6, vB (decide (a.kind < 0)))] [LB.mk [cI a.kind, cI a.n, cF baf, cS Aat a.t.length cat] 49] ?_
 refine spl 6 (decide (a.kind < 0)) ?_ ?_
 ·intro hb1
  replace hb1 := of_decide_eq_true hb1
  refine gn 0 Rg.no [kCd (bitL 5 21), KI.code [true, true]] [(2, vL false)] [] ?_
  refine rtk [vL false] ?_
  intro L w1 hs
  exact ⟨retB (by rw [Bool.eq_iff_iff]; simp only [itemOk, Bool.and_eq_true, Bool.or_eq_true, Bool.not_eq_true', Bool.not_eq_false', Bool.and_eq_false_imp, Bool.or_eq_false_iff, decide_eq_true_eq, decide_eq_false_iff_not, beq_iff_eq, bne_iff_ne, Bool.false_eq_true, Bool.true_eq_false, ne_eq, true_iff, false_iff, iff_true, iff_false]; omega), hs.out0⟩
 ·intro hb1
  replace hb1 := of_decide_eq_false hb1
  refine gn 1 (Rg.sq (bitL 3 1) 9) [kCd (bitL 3 5), KI.code [true, true]] [(1, vR 0 0), (11, vB (decide (a.kind > 3)))] [LB.mk [cI a.kind, cI a.n, cF baf, cS Aat a.t.length cat] 49] ?_
  refine spl 11 (decide (a.kind > 3)) ?_ ?_
  ·intro hb2
   replace hb2 := of_decide_eq_true hb2
   refine gn 0 Rg.no [kCd (bitL 5 21), KI.code [true, true]] [(2, vL false)] [] ?_
   refine rtk [vL false] ?_
   intro L w1 hs
   exact ⟨retB (by rw [Bool.eq_iff_iff]; simp only [itemOk, Bool.and_eq_true, Bool.or_eq_true, Bool.not_eq_true', Bool.not_eq_false', Bool.and_eq_false_imp, Bool.or_eq_false_iff, decide_eq_true_eq, decide_eq_false_iff_not, beq_iff_eq, bne_iff_ne, Bool.false_eq_true, Bool.true_eq_false, ne_eq, true_iff, false_iff, iff_true, iff_false]; omega), hs.out0⟩
  ·intro hb2
   replace hb2 := of_decide_eq_false hb2
   refine gn 1 Rg.no [kCd (bitL 3 5), KI.code [true, true]] [(1, vR 0 0), (16, vB (decide ((↑a.t.length : Int) > 40)))] [LB.mk [cI a.kind, cI a.n, cF baf, cS Aat a.t.length cat] 49] ?_
   refine spl 16 (decide ((↑a.t.length : Int) > 40)) ?_ ?_
   ·intro hb3
    replace hb3 := of_decide_eq_true hb3
    refine gn 0 Rg.no [kCd (bitL 5 21), KI.code [true, true]] [(2, vL false)] [] ?_
    refine rtk [vL false] ?_
    intro L w1 hs
    exact ⟨retB (by rw [Bool.eq_iff_iff]; simp only [itemOk, Bool.and_eq_true, Bool.or_eq_true, Bool.not_eq_true', Bool.not_eq_false', Bool.and_eq_false_imp, Bool.or_eq_false_iff, decide_eq_true_eq, decide_eq_false_iff_not, beq_iff_eq, bne_iff_ne, Bool.false_eq_true, Bool.true_eq_false, ne_eq, true_iff, false_iff, iff_true, iff_false]; omega), hs.out0⟩
   ·intro hb3
    replace hb3 := of_decide_eq_false hb3
    refine gn 1 (Rg.sq (bitL 4 3) 4) [kCd (bitL 4 11), kCd (bitL 3 7)] [(1, vR 0 0), (20, vB (a.kind != 1))] [LB.mk [cI a.kind, cI a.n, cF baf, cS Aat a.t.length cat] 49] ?_
    refine spl 20 (a.kind != 1) ?_ ?_
    ·intro hb4
     replace hb4 := bne_iff_ne.1 hb4
     refine gn 1 Rg.no [kCd (bitL 4 11), kCd (bitL 3 7)] [(1, vR 0 0), (24, vB (a.n != 0))] [LB.mk [cI a.kind, cI a.n, cF baf, cS Aat a.t.length cat] 49] ?_
     refine spl 24 (a.n != 0) ?_ ?_
     ·intro hb5
      replace hb5 := bne_iff_ne.1 hb5
      refine gn 0 Rg.no [kCd (bitL 6 43), kCd (bitL 3 7)] [(2, vL false)] [] ?_
      refine rtk [vL false] ?_
      intro L w1 hs
      exact ⟨retB (by rw [Bool.eq_iff_iff]; simp only [itemOk, Bool.and_eq_true, Bool.or_eq_true, Bool.not_eq_true', Bool.not_eq_false', Bool.and_eq_false_imp, Bool.or_eq_false_iff, decide_eq_true_eq, decide_eq_false_iff_not, beq_iff_eq, bne_iff_ne, Bool.false_eq_true, Bool.true_eq_false, ne_eq, true_iff, false_iff, iff_true, iff_false]; omega), hs.out0⟩
     ·intro hb5
      replace hb5 := bne_eq_false_iff_eq.1 hb5
      refine gn 1 (Rg.sq (bitL 5 7) 4) [kCd (bitL 5 23), kCd (bitL 4 15)] [(1, vR 0 0), (28, vB (a.kind != 2))] [LB.mk [cI a.kind, cI a.n, cF baf, cS Aat a.t.length cat] 49] ?_
      refine spl 28 (a.kind != 2) ?_ ?_
      ·intro hb6
       replace hb6 := bne_iff_ne.1 hb6
       refine gn 1 (Rg.sq (bitL 5 7) 6) [kCd (bitL 5 23), kCd (bitL 4 15)] [(1, vR 0 0), (28, vL true), (30, SV.one (cF baf))] [LB.mk [cI a.kind, cI a.n, cF baf, cS Aat a.t.length cat] 49] ?_
       refine cpk 66 [SV.one (cF baf)] (some 31) (Rg.sq (bitL 5 7) 7) (.one (.v (Value.int IntKind.u64 (↑(canonF baf) : Int)))) (fun L w1 hs => (sFloatBits_ok (baf) w1 ‹_›)) ?_
       refine gn 1 Rg.no [kCd (bitL 5 23), kCd (bitL 4 15)] [(1, vR 0 0), (33, vB ((↑(canonF baf) : Int) != 0))] [LB.mk [cI a.kind, cI a.n, cF baf, cS Aat a.t.length cat] 49] ?_
       try simp only [flx, hbaf, hfaf]
       refine spl 33 ((↑a.f : Int) != 0) ?_ ?_
       ·intro hb7
        replace hb7 := bne_iff_ne.1 hb7
        refine gn 0 Rg.no [kCd (bitL 7 87), kCd (bitL 4 15)] [(2, vL false)] [] ?_
        refine rtk [vL false] ?_
        intro L w1 hs
        exact ⟨retB (by rw [Bool.eq_iff_iff]; simp only [itemOk, Bool.and_eq_true, Bool.or_eq_true, Bool.not_eq_true', Bool.not_eq_false', Bool.and_eq_false_imp, Bool.or_eq_false_iff, decide_eq_true_eq, decide_eq_false_iff_not, beq_iff_eq, bne_iff_ne, Bool.false_eq_true, Bool.true_eq_false, ne_eq, true_iff, false_iff, iff_true, iff_false]; omega), hs.out0⟩
       ·intro hb7
        replace hb7 := bne_eq_false_iff_eq.1 hb7
        refine gn 1 (Rg.sq (bitL 5 15) 4) [kCd (bitL 5 31)] [(1, vR 0 0), (37, vB (a.kind == 3))] [LB.mk [cI a.kind, cI a.n, cF baf, cS Aat a.t.length cat] 49] ?_
        refine spl 37 (a.kind == 3) ?_ ?_
        ·intro hb8
         replace hb8 := beq_iff_eq.1 hb8
         refine gn 0 Rg.no [kCd (bitL 5 31)] [(2, vL true)] [] ?_
         refine rtk [vL true] ?_
         intro L w1 hs
         exact ⟨retB (by rw [Bool.eq_iff_iff]; simp only [itemOk, Bool.and_eq_true, Bool.or_eq_true, Bool.not_eq_true', Bool.not_eq_false', Bool.and_eq_false_imp, Bool.or_eq_false_iff, decide_eq_true_eq, decide_eq_false_iff_not, beq_iff_eq, bne_iff_ne, Bool.false_eq_true, Bool.true_eq_false, ne_eq, true_iff, false_iff, iff_true, iff_false]; omega), hs.out0⟩
        ·intro hb8
         replace hb8 := beq_eq_false_iff_ne.1 hb8
         refine gn 0 Rg.no [kCd (bitL 5 31)] [(2, vB ((↑a.t.length : Int) == 0))] [] ?_
         refine rtk [vB ((↑a.t.length : Int) == 0)] ?_
         intro L w1 hs
         exact ⟨retB (by rw [Bool.eq_iff_iff]; simp only [itemOk, Bool.and_eq_true, Bool.or_eq_true, Bool.not_eq_true', Bool.not_eq_false', Bool.and_eq_false_imp, Bool.or_eq_false_iff, decide_eq_true_eq, decide_eq_false_iff_not, beq_iff_eq, bne_iff_ne, Bool.false_eq_true, Bool.true_eq_false, ne_eq, true_iff, false_iff, iff_true, iff_false]; omega), hs.out0⟩
      ·intro hb6
       replace hb6 := bne_eq_false_iff_eq.1 hb6
       refine gn 1 (Rg.sq (bitL 5 15) 4) [kCd (bitL 5 31)] [(1, vR 0 0), (37, vB (a.kind == 3))] [LB.mk [cI a.kind, cI a.n, cF baf, cS Aat a.t.length cat] 49] ?_
       refine spl 37 (a.kind == 3) ?_ ?_
       ·intro hb7
        replace hb7 := beq_iff_eq.1 hb7
        (exfalso; omega)
       ·intro hb7
        replace hb7 := beq_eq_false_iff_ne.1 hb7
        refine gn 0 Rg.no [kCd (bitL 5 31)] [(2, vB ((↑a.t.length : Int) == 0))] [] ?_
        refine rtk [vB ((↑a.t.length : Int) == 0)] ?_
        intro L w1 hs
        exact ⟨retB (by rw [Bool.eq_iff_iff]; simp only [itemOk, Bool.and_eq_true, Bool.or_eq_true, Bool.not_eq_true', Bool.not_eq_false', Bool.and_eq_false_imp, Bool.or_eq_false_iff, decide_eq_true_eq, decide_eq_false_iff_not, beq_iff_eq, bne_iff_ne, Bool.false_eq_true, Bool.true_eq_false, ne_eq, true_iff, false_iff, iff_true, iff_false]; omega), hs.out0⟩
    ·intro hb4
     replace hb4 := bne_eq_false_iff_eq.1 hb4
     refine gn 1 (Rg.sq (bitL 5 7) 4) [kCd (bitL 5 23), kCd (bitL 4 15)] [(1, vR 0 0), (28, vB (a.kind != 2))] [LB.mk [cI a.kind, cI a.n, cF baf, cS Aat a.t.length cat] 49] ?_
     refine spl 28 (a.kind != 2) ?_ ?_
     ·intro hb5
      replace hb5 := bne_iff_ne.1 hb5
      refine gn 1 (Rg.sq (bitL 5 7) 6) [kCd (bitL 5 23), kCd (bitL 4 15)] [(1, vR 0 0), (28, vL true), (30, SV.one (cF baf))] [LB.mk [cI a.kind, cI a.n, cF baf, cS Aat a.t.length cat] 49] ?_
      refine cpk 66 [SV.one (cF baf)] (some 31) (Rg.sq (bitL 5 7) 7) (.one (.v (Value.int IntKind.u64 (↑(canonF baf) : Int)))) (fun L w1 hs => (sFloatBits_ok (baf) w1 ‹_›)) ?_
      refine gn 1 Rg.no [kCd (bitL 5 23), kCd (bitL 4 15)] [(1, vR 0 0), (33, vB ((↑(canonF baf) : Int) != 0))] [LB.mk [cI a.kind, cI a.n, cF baf, cS Aat a.t.length cat] 49] ?_
      try simp only [flx, hbaf, hfaf]
      refine spl 33 ((↑a.f : Int) != 0) ?_ ?_
      ·intro hb6
       replace hb6 := bne_iff_ne.1 hb6
       refine gn 0 Rg.no [kCd (bitL 7 87), kCd (bitL 4 15)] [(2, vL false)] [] ?_
       refine rtk [vL false] ?_
       intro L w1 hs
       exact ⟨retB (by rw [Bool.eq_iff_iff]; simp only [itemOk, Bool.and_eq_true, Bool.or_eq_true, Bool.not_eq_true', Bool.not_eq_false', Bool.and_eq_false_imp, Bool.or_eq_false_iff, decide_eq_true_eq, decide_eq_false_iff_not, beq_iff_eq, bne_iff_ne, Bool.false_eq_true, Bool.true_eq_false, ne_eq, true_iff, false_iff, iff_true, iff_false]; omega), hs.out0⟩
      ·intro hb6
       replace hb6 := bne_eq_false_iff_eq.1 hb6
       refine gn 1 (Rg.sq (bitL 5 15) 4) [kCd (bitL 5 31)] [(1, vR 0 0), (37, vB (a.kind == 3))] [LB.mk [cI a.kind, cI a.n, cF baf, cS Aat a.t.length cat] 49] ?_
       refine spl 37 (a.kind == 3) ?_ ?_
       ·intro hb7
        replace hb7 := beq_iff_eq.1 hb7
        (exfalso; omega)
       ·intro hb7
        replace hb7 := beq_eq_false_iff_ne.1 hb7
        refine gn 0 Rg.no [kCd (bitL 5 31)] [(2, vB ((↑a.t.length : Int) == 0))] [] ?_
        refine rtk [vB ((↑a.t.length : Int) == 0)] ?_
        intro L w1 hs
        exact ⟨retB (by rw [Bool.eq_iff_iff]; simp only [itemOk, Bool.and_eq_true, Bool.or_eq_true, Bool.not_eq_true', Bool.not_eq_false', Bool.and_eq_false_imp, Bool.or_eq_false_iff, decide_eq_true_eq, decide_eq_false_iff_not, beq_iff_eq, bne_iff_ne, Bool.false_eq_true, Bool.true_eq_false, ne_eq, true_iff, false_iff, iff_true, iff_false]; omega), hs.out0⟩
     ·intro hb5
      replace hb5 := bne_eq_false_iff_eq.1 hb5
      (exfalso; omega)
theorem sKeyOk_ok (a : It) (csa : List Value) (w : World) (ha : kIt.rd w.heap a csa) :
  Calls Tryz.prog 41 #[.agg csa.toArray] w fun e w' => e = .returned (.bool (keyOk a)) ∧ Below w.heap.size w w' := by
 obtain ⟨baf, Aat, cat, rfl, hbaf, hfaf, hrat⟩ := kIt_inv ha
 refine enter (args := [.agg [.v (.int .i64 a.kind), .v (.int .i64 a.n), .v (.float .f64 baf), .v (.slice Aat a.t.length cat)]]) Tryz.func41 (c := bodyOf Tryz.f41) rfl rfl (start_LOK _) (start_old w) ?_
 have hz := iff_of_eq (canonTop hbaf)
 have hz0 := iff_of_eq (canon0 baf)
 rw [hfaf] at hz hz0
 refine gn 1 (Rg.sq [true, false] 1) [KI.code [true, true]] [(1, vR 0 0), (3, SV.agg [cI a.kind, cI a.n, cF baf, cS Aat a.t.length cat])] [LB.mk [cI a.kind, cI a.n, cF baf, cS Aat a.t.length cat] 49] ?_
 refine cpk 65 [SV.agg [cI a.kind, cI a.n, cF baf, cS Aat a.t.length cat]] (some 4) (Rg.sq [true, false] 2) (.one (.bo (itemOk a))) (fun L w1 hs => (sItemOk_ok (a) ([Value.int IntKind.i64 a.kind, Value.int IntKind.i64 a.n, Value.float FloatKind.f64 baf, Value.slice Aat a.t.length cat]) w1 (kIt_mk ‹_› hfaf (rdRow_ext (hs.old 0 rfl) hrat)))) ?_
 refine gn 1 (Rg.sq [true, false] 3) [KI.code [true, true]] [(1, vR 0 0), (5, vB (itemOk a))] [LB.mk [cI a.kind, cI a.n, cF baf, cS Aat a.t.length cat] 49] ?_
 refine spl 5 (itemOk a) ?_ ?_
 ·intro hb1
  refine gn 1 (Rg.sq [true, false] 8) [KI.code [true, true]] [(1, vR 0 0), (10, vB (a.kind != 0))] [LB.mk [cI a.kind, cI a.n, cF baf, cS Aat a.t.length cat] 49] ?_
  refine spl 10 (a.kind != 0) ?_ ?_
  ·intro hb2
   replace hb2 := bne_iff_ne.1 hb2
   refine gn 1 (Rg.sq [true, false] 12) [KI.code [true, true]] [(1, vR 0 0), (10, vL true), (14, vB (FloatKind.f64.format.order baf 0 == some Ordering.eq))] [LB.mk [cI a.kind, cI a.n, cF baf, cS Aat a.t.length cat] 49] ?_
   try simp only [flx, hbaf, hfaf]
   refine spl 14 (decide (baf % 9223372036854775808 = 0)) ?_ ?_
   ·intro hb3
    replace hb3 := of_decide_eq_true hb3
    refine gn 0 (Rg.sq [true, false] 14) [KI.code [true, true]] [(10, vL true), (14, vL true), (16, SV.one (cF baf))] [] ?_
    refine cpk 66 [SV.one (cF baf)] (some 17) (Rg.sq [true, false] 15) (.one (.v (Value.int IntKind.u64 (↑(canonF baf) : Int)))) (fun L w1 hs => (sFloatBits_ok (baf) w1 ‹_›)) ?_
    refine gn 0 Rg.no [KI.code [true, true]] [(2, vB !(↑(canonF baf) : Int) != 0)] [] ?_
    try simp only [flx, hbaf, hfaf]
    refine rtk [vB !(↑a.f : Int) != 0] ?_
    intro L w1 hs
    exact ⟨retB (by rw [Bool.eq_iff_iff]; simp [keyOk, *]; omega), hs.out0⟩
   ·intro hb3
    replace hb3 := of_decide_eq_false hb3
    refine gn 0 Rg.no [KI.code [true, true]] [(2, vL true)] [] ?_
    refine rtk [vL true] ?_
    intro L w1 hs
    exact ⟨retB (by simp [keyOk, *]), hs.out0⟩
  ·intro hb2
   replace hb2 := bne_eq_false_iff_eq.1 hb2
   refine gn 0 Rg.no [KI.code [true, true]] [(2, vL false)] [] ?_
   refine rtk [vL false] ?_
   intro L w1 hs
   exact ⟨retB (by rw [Bool.eq_iff_iff]; simp only [keyOk, Bool.and_eq_true, Bool.or_eq_true, Bool.not_eq_true', Bool.not_eq_false', Bool.and_eq_false_imp, Bool.or_eq_false_iff, decide_eq_true_eq, decide_eq_false_iff_not, beq_iff_eq, bne_iff_ne, Bool.false_eq_true, Bool.true_eq_false, ne_eq, true_iff, false_iff, iff_true, iff_false]; omega), hs.out0⟩
 ·intro hb1
  refine gn 0 Rg.no [KI.code [true, true]] [(2, vL false)] [] ?_
  refine rtk [vL false] ?_
  intro L w1 hs
  exact ⟨retB (by simp [keyOk, *]), hs.out0⟩
end Go.Proofs.YtgleoebogikooaaGreat.Dk
