/- Walks of functions of the program: what each call returns and what it leaves in memory. Conditions: those that each theorem names. -/
import Derived.Test.YtgleoebogikooaaGreatTa
namespace Go.Proofs.YtgleoebogikooaaGreat.Dk
set_option linter.unusedVariables false
set_option linter.unusedSimpArgs false
open Go.Proofs.YtgleoebogikooaaGreat.Sx Go.Proofs Go.RowKit
set_option maxRecDepth 100000
set_option maxHeartbeats 1000000
def stOf (l : List Int) (xid : Int) : Int := if (1 ≤ xid ∧ xid ≤ 400) ∧ xid < (l.length : Int) then (if 0 ≤ l.getD xid.toNat 0 ∧ l.getD xid.toNat 0 ≤ 2 then l.getD xid.toNat 0 else 0) else 0
theorem stOf_in {l : List Int} {xid : Int} (h : (1 ≤ xid ∧ xid ≤ 400) ∧ xid < (l.length : Int)) (hx : xid.toNat < l.length) : stOf l xid = if 0 ≤ l[xid.toNat] ∧ l[xid.toNat] ≤ 2 then l[xid.toNat] else 0 := by
 unfold stOf
 rw [if_pos h]
 simp only [List.getD_eq_getElem?_getD, List.getElem?_eq_getElem hx, Option.getD_some]
def deadB (l : List Int) (xmin xmax hz : Int) : Bool := (stOf l xmin == 2) || ((stOf l xmax == 1) && decide (xmax < hz))
def deadR (h : He) (l : List Int) (hz : Int) : List Rw := rowsQ h (fun x => deadB l x.xmin x.xmax hz)
theorem iStOf_ok (ls : List Int) (vls : Value) (xid : Int) (w : World) (hls : rdRow kI64 w.heap ls vls) (hl : ls.length ≤ 1048576) :
  Calls Tryz.prog 64 #[vls, .int .i64 xid] w fun e w' => e = .returned (.int .i64 (stOf ls xid)) ∧ Below w.heap.size w w' := by
 obtain ⟨Als, cls, rfl⟩ := rdRow_form hls
 refine enter (args := [.one (.v (.slice Als ls.length cls)), .one (.v (.int .i64 xid))]) Tryz.func64 (c := bodyOf Tryz.f64) rfl rfl (start_LOK _) (start_old w) ?_
 by_cases hb : ¬ ((1 ≤ xid ∧ xid ≤ 400) ∧ xid < (ls.length : Int))
 ·have hno : stOf ls xid = 0 := if_neg hb
  refine gn 0 (Rg.sq (bitL 3 1) 1) [kCd (bitL 3 5), KI.code [true, true]] [(0, vS Als ls.length cls), (1, vI xid), (5, vI xid)] [] ?_
  refine cpk 93 [vI xid] (some 6) (Rg.sq (bitL 3 1) 2) (.one (.bo (decide (1 ≤ xid) && decide (xid ≤ 400)))) (fun L w1 hs => (isXid_ok (xid) w1)) ?_
  refine gn 0 (Rg.sq (bitL 3 1) 4) [kCd (bitL 3 5), KI.code [true, true]] [(0, vS Als ls.length cls), (1, vI xid), (8, vB !(decide (1 ≤ xid) && decide (xid ≤ 400)))] [] ?_
  refine spl 8 (!(decide (1 ≤ xid) && decide (xid ≤ 400))) ?_ ?_
  ·intro hb1
   try simp only [sbb] at hb1
   refine gn 0 Rg.no [kCd (bitL 5 21), KI.code [true, true]] [(4, vI 0)] [] ?_
   refine rtk [vI 0] ?_
   intro L w1 hs
   exact ⟨retI hno.symm, hs.out0⟩
  ·intro hb1
   try simp only [sbb] at hb1
   refine gn 0 (Rg.sq (bitL 3 1) 10) [kCd (bitL 3 5), KI.code [true, true]] [(0, vS Als ls.length cls), (1, vI xid), (14, vB (decide (xid ≥ (↑ls.length : Int))))] [] ?_
   refine spl 14 (decide (xid ≥ (↑ls.length : Int))) ?_ ?_
   ·intro hb2
    replace hb2 := of_decide_eq_true hb2
    refine gn 0 Rg.no [kCd (bitL 5 21), KI.code [true, true]] [(4, vI 0)] [] ?_
    refine rtk [vI 0] ?_
    intro L w1 hs
    exact ⟨retI hno.symm, hs.out0⟩
   ·intro hb2
    replace hb2 := of_decide_eq_false hb2
    (exfalso; omega)
 replace hb := Classical.not_not.1 hb
 have hx : xid.toNat < ls.length := by omega
 have hin := stOf_in hb hx
 by_cases hy : 0 ≤ ls[xid.toNat] ∧ ls[xid.toNat] ≤ 2
 ·rw [if_pos hy] at hin
  refine gn 0 (Rg.sq (bitL 3 1) 1) [kCd (bitL 3 5), KI.code [true, true]] [(0, vS Als ls.length cls), (1, vI xid), (5, vI xid)] [] ?_
  refine cpk 93 [vI xid] (some 6) (Rg.sq (bitL 3 1) 2) (.one (.bo (decide (1 ≤ xid) && decide (xid ≤ 400)))) (fun L w1 hs => (isXid_ok (xid) w1)) ?_
  refine gn 0 (Rg.sq (bitL 3 1) 4) [kCd (bitL 3 5), KI.code [true, true]] [(0, vS Als ls.length cls), (1, vI xid), (8, vB !(decide (1 ≤ xid) && decide (xid ≤ 400)))] [] ?_
  refine spl 8 (!(decide (1 ≤ xid) && decide (xid ≤ 400))) ?_ ?_
  ·intro hb1
   try simp only [sbb] at hb1
   (exfalso; omega)
  ·intro hb1
   try simp only [sbb] at hb1
   refine gn 0 (Rg.sq (bitL 3 1) 10) [kCd (bitL 3 5), KI.code [true, true]] [(0, vS Als ls.length cls), (1, vI xid), (14, vB (decide (xid ≥ (↑ls.length : Int))))] [] ?_
   refine spl 14 (decide (xid ≥ (↑ls.length : Int))) ?_ ?_
   ·intro hb2
    replace hb2 := of_decide_eq_true hb2
    (exfalso; omega)
   ·intro hb2
    replace hb2 := of_decide_eq_false hb2
    refine gn 0 (Rg.sq (bitL 3 1) 12) [kCd (bitL 3 5), KI.code [true, true]] [(0, vS Als ls.length cls), (1, vI xid), (14, vL false), (15, vS Als ls.length cls), (16, vI xid)] [] ?_
    refine index_at 12 (by kernel_rfl : atP _ _ _ 12 false = some (Op.indexAddr 37 (tmpO 15) (tmpO 16), 0, some 17, Rg.sq (bitL 3 1) 13)) (ni := xid.toNat) (sz := 1) (by kernel_rfl) rfl rfl (by omega) ‹_› (fun L w1 hs => rd_some (i := xid.toNat) (rdRow_ext (hs.old 0 rfl) hls) ‹_›) ?_
    intro a_1 ha_1
    cases ha_1
    refine gn 0 (Rg.sq (bitL 3 1) 13) [kCd (bitL 3 5), KI.code [true, true]] [(0, vS (some a_1) ls.length cls), (1, vI xid), (14, vL false), (17, vP (a_1.add (xid.toNat * 1)))] [] ?_
    refine load_one 13 (by kernel_rfl : atP _ _ _ 13 true = some (Op.load 3 (tmpO 17), 3, some 18, Rg.sq (bitL 3 1) 14)) (n := 1) (by kernel_rfl) rfl ?_
    intro L w1 hs
    refine ⟨.v (Value.int IntKind.i64 ((ls)[xid.toNat]'‹_›)), rd_sc (rdRow_ext (hs.old 0 rfl) hls) ‹_›, ?_⟩
    clear hs
    refine gn 0 (Rg.sq (bitL 3 1) 14) [kCd (bitL 3 5), KI.code [true, true]] [(0, vS (some a_1) ls.length cls), (1, vI xid), (14, vL false), (18, vI ls[xid.toNat])] [] ?_
    refine cpk 94 [vI ls[xid.toNat], vI 0, vI 2] (some 19) (Rg.sq (bitL 3 1) 15) (.one (.bo (decide (0 ≤ ls[xid.toNat]) && decide (ls[xid.toNat] ≤ 2)))) (fun L w1 hs => (within_ok (ls[xid.toNat]) (0) (2) w1)) ?_
    refine gn 0 Rg.no [kCd (bitL 3 5), KI.code [true, true]] [(0, vS (some a_1) ls.length cls), (1, vI xid), (21, vB !(decide (0 ≤ ls[xid.toNat]) && decide (ls[xid.toNat] ≤ 2)))] [] ?_
    refine spl 21 (!(decide (0 ≤ ls[xid.toNat]) && decide (ls[xid.toNat] ≤ 2))) ?_ ?_
    ·intro hb3
     try simp only [sbb] at hb3
     (exfalso; omega)
    ·intro hb3
     try simp only [sbb] at hb3
     refine gn 0 (Rg.sq (bitL 3 3) 2) [kCd (bitL 3 7)] [(22, vS (some a_1) ls.length cls), (23, vI xid)] [] ?_
     refine index_at 2 (by kernel_rfl : atP _ _ _ 2 false = some (Op.indexAddr 37 (tmpO 22) (tmpO 23), 0, some 24, Rg.sq (bitL 3 3) 3)) (ni := xid.toNat) (sz := 1) (by kernel_rfl) rfl rfl (by omega) ‹_› (fun L w1 hs => rd_some (i := xid.toNat) (rdRow_ext (hs.old 0 rfl) hls) ‹_›) ?_
     intro a_2 ha_2
     cases ha_2
     refine gn 0 (Rg.sq (bitL 3 3) 3) [kCd (bitL 3 7)] [(24, vP (a_1.add (xid.toNat * 1)))] [] ?_
     refine load_one 3 (by kernel_rfl : atP _ _ _ 3 true = some (Op.load 3 (tmpO 24), 3, some 25, Rg.sq (bitL 3 3) 4)) (n := 1) (by kernel_rfl) rfl ?_
     intro L w1 hs
     refine ⟨.v (Value.int IntKind.i64 ((ls)[xid.toNat]'‹_›)), rd_sc (rdRow_ext (hs.old 0 rfl) hls) ‹_›, ?_⟩
     clear hs
     refine gn 0 Rg.no [kCd (bitL 3 7)] [(4, vI ls[xid.toNat])] [] ?_
     refine rtk [vI ls[xid.toNat]] ?_
     intro L w1 hs
     exact ⟨retI hin.symm, hs.out0⟩
 rw [if_neg hy] at hin
 refine gn 0 (Rg.sq (bitL 3 1) 1) [kCd (bitL 3 5), KI.code [true, true]] [(0, vS Als ls.length cls), (1, vI xid), (5, vI xid)] [] ?_
 refine cpk 93 [vI xid] (some 6) (Rg.sq (bitL 3 1) 2) (.one (.bo (decide (1 ≤ xid) && decide (xid ≤ 400)))) (fun L w1 hs => (isXid_ok (xid) w1)) ?_
 refine gn 0 (Rg.sq (bitL 3 1) 4) [kCd (bitL 3 5), KI.code [true, true]] [(0, vS Als ls.length cls), (1, vI xid), (8, vB !(decide (1 ≤ xid) && decide (xid ≤ 400)))] [] ?_
 refine spl 8 (!(decide (1 ≤ xid) && decide (xid ≤ 400))) ?_ ?_
 ·intro hb1
  try simp only [sbb] at hb1
  (exfalso; omega)
 ·intro hb1
  try simp only [sbb] at hb1
  refine gn 0 (Rg.sq (bitL 3 1) 10) [kCd (bitL 3 5), KI.code [true, true]] [(0, vS Als ls.length cls), (1, vI xid), (14, vB (decide (xid ≥ (↑ls.length : Int))))] [] ?_
  refine spl 14 (decide (xid ≥ (↑ls.length : Int))) ?_ ?_
  ·intro hb2
   replace hb2 := of_decide_eq_true hb2
   (exfalso; omega)
  ·intro hb2
   replace hb2 := of_decide_eq_false hb2
   refine gn 0 (Rg.sq (bitL 3 1) 12) [kCd (bitL 3 5), KI.code [true, true]] [(0, vS Als ls.length cls), (1, vI xid), (14, vL false), (15, vS Als ls.length cls), (16, vI xid)] [] ?_
   refine index_at 12 (by kernel_rfl : atP _ _ _ 12 false = some (Op.indexAddr 37 (tmpO 15) (tmpO 16), 0, some 17, Rg.sq (bitL 3 1) 13)) (ni := xid.toNat) (sz := 1) (by kernel_rfl) rfl rfl (by omega) ‹_› (fun L w1 hs => rd_some (i := xid.toNat) (rdRow_ext (hs.old 0 rfl) hls) ‹_›) ?_
   intro a_1 ha_1
   cases ha_1
   refine gn 0 (Rg.sq (bitL 3 1) 13) [kCd (bitL 3 5), KI.code [true, true]] [(0, vS (some a_1) ls.length cls), (1, vI xid), (14, vL false), (17, vP (a_1.add (xid.toNat * 1)))] [] ?_
   refine load_one 13 (by kernel_rfl : atP _ _ _ 13 true = some (Op.load 3 (tmpO 17), 3, some 18, Rg.sq (bitL 3 1) 14)) (n := 1) (by kernel_rfl) rfl ?_
   intro L w1 hs
   refine ⟨.v (Value.int IntKind.i64 ((ls)[xid.toNat]'‹_›)), rd_sc (rdRow_ext (hs.old 0 rfl) hls) ‹_›, ?_⟩
   clear hs
   refine gn 0 (Rg.sq (bitL 3 1) 14) [kCd (bitL 3 5), KI.code [true, true]] [(0, vS (some a_1) ls.length cls), (1, vI xid), (14, vL false), (18, vI ls[xid.toNat])] [] ?_
   refine cpk 94 [vI ls[xid.toNat], vI 0, vI 2] (some 19) (Rg.sq (bitL 3 1) 15) (.one (.bo (decide (0 ≤ ls[xid.toNat]) && decide (ls[xid.toNat] ≤ 2)))) (fun L w1 hs => (within_ok (ls[xid.toNat]) (0) (2) w1)) ?_
   refine gn 0 Rg.no [kCd (bitL 3 5), KI.code [true, true]] [(0, vS (some a_1) ls.length cls), (1, vI xid), (21, vB !(decide (0 ≤ ls[xid.toNat]) && decide (ls[xid.toNat] ≤ 2)))] [] ?_
   refine spl 21 (!(decide (0 ≤ ls[xid.toNat]) && decide (ls[xid.toNat] ≤ 2))) ?_ ?_
   ·intro hb3
    try simp only [sbb] at hb3
    refine gn 0 Rg.no [kCd (bitL 5 21), KI.code [true, true]] [(4, vI 0)] [] ?_
    refine rtk [vI 0] ?_
    intro L w1 hs
    exact ⟨retI hin.symm, hs.out0⟩
   ·intro hb3
    try simp only [sbb] at hb3
    (exfalso; omega)
theorem sStOf_ok (ls : List Int) (vls : Value) (xid : Int) (w : World) (hls : rdRow kI64 w.heap ls vls) (hl : ls.length ≤ 1048576) :
  Calls Tryz.prog 63 #[vls, .int .i64 xid] w fun e w' => e = .returned (.int .i64 (stOf ls xid)) ∧ Below w.heap.size w w' := by
 obtain ⟨Als, cls, rfl⟩ := rdRow_form hls
 refine enter (args := [.one (.v (.slice Als ls.length cls)), .one (.v (.int .i64 xid))]) Tryz.func63 (c := bodyOf Tryz.f63) rfl rfl (start_LOK _) (start_old w) ?_
 by_cases hb : ¬ ((1 ≤ xid ∧ xid ≤ 400) ∧ xid < (ls.length : Int))
 ·have hno : stOf ls xid = 0 := if_neg hb
  refine gn 0 (Rg.sq (bitL 3 1) 1) [kCd (bitL 3 5), KI.code [true, true]] [(0, vS Als ls.length cls), (1, vI xid), (5, vI xid)] [] ?_
  refine cpk 76 [vI xid, vI 1, vI 400] (some 6) (Rg.sq (bitL 3 1) 2) (.one (.bo (decide (1 ≤ xid) && decide (xid ≤ 400)))) (fun L w1 hs => (l5in_ok (xid) (1) (400) w1)) ?_
  refine gn 0 (Rg.sq (bitL 3 1) 4) [kCd (bitL 3 5), KI.code [true, true]] [(0, vS Als ls.length cls), (1, vI xid), (8, vB !(decide (1 ≤ xid) && decide (xid ≤ 400)))] [] ?_
  refine spl 8 (!(decide (1 ≤ xid) && decide (xid ≤ 400))) ?_ ?_
  ·intro hb1
   try simp only [sbb] at hb1
   refine gn 0 Rg.no [kCd (bitL 5 21), KI.code [true, true]] [(4, vI 0)] [] ?_
   refine rtk [vI 0] ?_
   intro L w1 hs
   exact ⟨retI hno.symm, hs.out0⟩
  ·intro hb1
   try simp only [sbb] at hb1
   refine gn 0 (Rg.sq (bitL 3 1) 10) [kCd (bitL 3 5), KI.code [true, true]] [(0, vS Als ls.length cls), (1, vI xid), (14, vB (decide (xid ≥ (↑ls.length : Int))))] [] ?_
   refine spl 14 (decide (xid ≥ (↑ls.length : Int))) ?_ ?_
   ·intro hb2
    replace hb2 := of_decide_eq_true hb2
    refine gn 0 Rg.no [kCd (bitL 5 21), KI.code [true, true]] [(4, vI 0)] [] ?_
    refine rtk [vI 0] ?_
    intro L w1 hs
    exact ⟨retI hno.symm, hs.out0⟩
   ·intro hb2
    replace hb2 := of_decide_eq_false hb2
    (exfalso; omega)
 replace hb := Classical.not_not.1 hb
 have hx : xid.toNat < ls.length := by omega
 have hin := stOf_in hb hx
 by_cases hy : 0 ≤ ls[xid.toNat] ∧ ls[xid.toNat] ≤ 2
 ·rw [if_pos hy] at hin
  refine gn 0 (Rg.sq (bitL 3 1) 1) [kCd (bitL 3 5), KI.code [true, true]] [(0, vS Als ls.length cls), (1, vI xid), (5, vI xid)] [] ?_
  refine cpk 76 [vI xid, vI 1, vI 400] (some 6) (Rg.sq (bitL 3 1) 2) (.one (.bo (decide (1 ≤ xid) && decide (xid ≤ 400)))) (fun L w1 hs => (l5in_ok (xid) (1) (400) w1)) ?_
  refine gn 0 (Rg.sq (bitL 3 1) 4) [kCd (bitL 3 5), KI.code [true, true]] [(0, vS Als ls.length cls), (1, vI xid), (8, vB !(decide (1 ≤ xid) && decide (xid ≤ 400)))] [] ?_
  refine spl 8 (!(decide (1 ≤ xid) && decide (xid ≤ 400))) ?_ ?_
  ·intro hb1
   try simp only [sbb] at hb1
   (exfalso; omega)
  ·intro hb1
   try simp only [sbb] at hb1
   refine gn 0 (Rg.sq (bitL 3 1) 10) [kCd (bitL 3 5), KI.code [true, true]] [(0, vS Als ls.length cls), (1, vI xid), (14, vB (decide (xid ≥ (↑ls.length : Int))))] [] ?_
   refine spl 14 (decide (xid ≥ (↑ls.length : Int))) ?_ ?_
   ·intro hb2
    replace hb2 := of_decide_eq_true hb2
    (exfalso; omega)
   ·intro hb2
    replace hb2 := of_decide_eq_false hb2
    refine gn 0 (Rg.sq (bitL 3 1) 12) [kCd (bitL 3 5), KI.code [true, true]] [(0, vS Als ls.length cls), (1, vI xid), (14, vL false), (15, vS Als ls.length cls), (16, vI xid)] [] ?_
    refine index_at 12 (by kernel_rfl : atP _ _ _ 12 false = some (Op.indexAddr 37 (tmpO 15) (tmpO 16), 0, some 17, Rg.sq (bitL 3 1) 13)) (ni := xid.toNat) (sz := 1) (by kernel_rfl) rfl rfl (by omega) ‹_› (fun L w1 hs => rd_some (i := xid.toNat) (rdRow_ext (hs.old 0 rfl) hls) ‹_›) ?_
    intro a_1 ha_1
    cases ha_1
    refine gn 0 (Rg.sq (bitL 3 1) 13) [kCd (bitL 3 5), KI.code [true, true]] [(0, vS (some a_1) ls.length cls), (1, vI xid), (14, vL false), (17, vP (a_1.add (xid.toNat * 1)))] [] ?_
    refine load_one 13 (by kernel_rfl : atP _ _ _ 13 true = some (Op.load 3 (tmpO 17), 3, some 18, Rg.sq (bitL 3 1) 14)) (n := 1) (by kernel_rfl) rfl ?_
    intro L w1 hs
    refine ⟨.v (Value.int IntKind.i64 ((ls)[xid.toNat]'‹_›)), rd_sc (rdRow_ext (hs.old 0 rfl) hls) ‹_›, ?_⟩
    clear hs
    refine gn 0 (Rg.sq (bitL 3 1) 14) [kCd (bitL 3 5), KI.code [true, true]] [(0, vS (some a_1) ls.length cls), (1, vI xid), (14, vL false), (18, vI ls[xid.toNat])] [] ?_
    refine cpk 76 [vI ls[xid.toNat], vI 1, vI 2] (some 19) (Rg.sq (bitL 3 1) 15) (.one (.bo (decide (1 ≤ ls[xid.toNat]) && decide (ls[xid.toNat] ≤ 2)))) (fun L w1 hs => (l5in_ok (ls[xid.toNat]) (1) (2) w1)) ?_
    refine gn 0 Rg.no [kCd (bitL 3 5), KI.code [true, true]] [(0, vS (some a_1) ls.length cls), (1, vI xid), (21, vB !(decide (1 ≤ ls[xid.toNat]) && decide (ls[xid.toNat] ≤ 2)))] [] ?_
    refine spl 21 (!(decide (1 ≤ ls[xid.toNat]) && decide (ls[xid.toNat] ≤ 2))) ?_ ?_
    ·intro hb3
     try simp only [sbb] at hb3
     refine gn 0 Rg.no [kCd (bitL 5 21), KI.code [true, true]] [(4, vI 0)] [] ?_
     refine rtk [vI 0] ?_
     intro L w1 hs
     exact ⟨retI (by omega), hs.out0⟩
    ·intro hb3
     try simp only [sbb] at hb3
     refine gn 0 (Rg.sq (bitL 3 3) 2) [kCd (bitL 3 7)] [(22, vS (some a_1) ls.length cls), (23, vI xid)] [] ?_
     refine index_at 2 (by kernel_rfl : atP _ _ _ 2 false = some (Op.indexAddr 37 (tmpO 22) (tmpO 23), 0, some 24, Rg.sq (bitL 3 3) 3)) (ni := xid.toNat) (sz := 1) (by kernel_rfl) rfl rfl (by omega) ‹_› (fun L w1 hs => rd_some (i := xid.toNat) (rdRow_ext (hs.old 0 rfl) hls) ‹_›) ?_
     intro a_2 ha_2
     cases ha_2
     refine gn 0 (Rg.sq (bitL 3 3) 3) [kCd (bitL 3 7)] [(24, vP (a_1.add (xid.toNat * 1)))] [] ?_
     refine load_one 3 (by kernel_rfl : atP _ _ _ 3 true = some (Op.load 3 (tmpO 24), 3, some 25, Rg.sq (bitL 3 3) 4)) (n := 1) (by kernel_rfl) rfl ?_
     intro L w1 hs
     refine ⟨.v (Value.int IntKind.i64 ((ls)[xid.toNat]'‹_›)), rd_sc (rdRow_ext (hs.old 0 rfl) hls) ‹_›, ?_⟩
     clear hs
     refine gn 0 Rg.no [kCd (bitL 3 7)] [(4, vI ls[xid.toNat])] [] ?_
     refine rtk [vI ls[xid.toNat]] ?_
     intro L w1 hs
     exact ⟨retI hin.symm, hs.out0⟩
 rw [if_neg hy] at hin
 refine gn 0 (Rg.sq (bitL 3 1) 1) [kCd (bitL 3 5), KI.code [true, true]] [(0, vS Als ls.length cls), (1, vI xid), (5, vI xid)] [] ?_
 refine cpk 76 [vI xid, vI 1, vI 400] (some 6) (Rg.sq (bitL 3 1) 2) (.one (.bo (decide (1 ≤ xid) && decide (xid ≤ 400)))) (fun L w1 hs => (l5in_ok (xid) (1) (400) w1)) ?_
 refine gn 0 (Rg.sq (bitL 3 1) 4) [kCd (bitL 3 5), KI.code [true, true]] [(0, vS Als ls.length cls), (1, vI xid), (8, vB !(decide (1 ≤ xid) && decide (xid ≤ 400)))] [] ?_
 refine spl 8 (!(decide (1 ≤ xid) && decide (xid ≤ 400))) ?_ ?_
 ·intro hb1
  try simp only [sbb] at hb1
  (exfalso; omega)
 ·intro hb1
  try simp only [sbb] at hb1
  refine gn 0 (Rg.sq (bitL 3 1) 10) [kCd (bitL 3 5), KI.code [true, true]] [(0, vS Als ls.length cls), (1, vI xid), (14, vB (decide (xid ≥ (↑ls.length : Int))))] [] ?_
  refine spl 14 (decide (xid ≥ (↑ls.length : Int))) ?_ ?_
  ·intro hb2
   replace hb2 := of_decide_eq_true hb2
   (exfalso; omega)
  ·intro hb2
   replace hb2 := of_decide_eq_false hb2
   refine gn 0 (Rg.sq (bitL 3 1) 12) [kCd (bitL 3 5), KI.code [true, true]] [(0, vS Als ls.length cls), (1, vI xid), (14, vL false), (15, vS Als ls.length cls), (16, vI xid)] [] ?_
   refine index_at 12 (by kernel_rfl : atP _ _ _ 12 false = some (Op.indexAddr 37 (tmpO 15) (tmpO 16), 0, some 17, Rg.sq (bitL 3 1) 13)) (ni := xid.toNat) (sz := 1) (by kernel_rfl) rfl rfl (by omega) ‹_› (fun L w1 hs => rd_some (i := xid.toNat) (rdRow_ext (hs.old 0 rfl) hls) ‹_›) ?_
   intro a_1 ha_1
   cases ha_1
   refine gn 0 (Rg.sq (bitL 3 1) 13) [kCd (bitL 3 5), KI.code [true, true]] [(0, vS (some a_1) ls.length cls), (1, vI xid), (14, vL false), (17, vP (a_1.add (xid.toNat * 1)))] [] ?_
   refine load_one 13 (by kernel_rfl : atP _ _ _ 13 true = some (Op.load 3 (tmpO 17), 3, some 18, Rg.sq (bitL 3 1) 14)) (n := 1) (by kernel_rfl) rfl ?_
   intro L w1 hs
   refine ⟨.v (Value.int IntKind.i64 ((ls)[xid.toNat]'‹_›)), rd_sc (rdRow_ext (hs.old 0 rfl) hls) ‹_›, ?_⟩
   clear hs
   refine gn 0 (Rg.sq (bitL 3 1) 14) [kCd (bitL 3 5), KI.code [true, true]] [(0, vS (some a_1) ls.length cls), (1, vI xid), (14, vL false), (18, vI ls[xid.toNat])] [] ?_
   refine cpk 76 [vI ls[xid.toNat], vI 1, vI 2] (some 19) (Rg.sq (bitL 3 1) 15) (.one (.bo (decide (1 ≤ ls[xid.toNat]) && decide (ls[xid.toNat] ≤ 2)))) (fun L w1 hs => (l5in_ok (ls[xid.toNat]) (1) (2) w1)) ?_
   refine gn 0 Rg.no [kCd (bitL 3 5), KI.code [true, true]] [(0, vS (some a_1) ls.length cls), (1, vI xid), (21, vB !(decide (1 ≤ ls[xid.toNat]) && decide (ls[xid.toNat] ≤ 2)))] [] ?_
   refine spl 21 (!(decide (1 ≤ ls[xid.toNat]) && decide (ls[xid.toNat] ≤ 2))) ?_ ?_
   ·intro hb3
    try simp only [sbb] at hb3
    refine gn 0 Rg.no [kCd (bitL 5 21), KI.code [true, true]] [(4, vI 0)] [] ?_
    refine rtk [vI 0] ?_
    intro L w1 hs
    exact ⟨retI hin.symm, hs.out0⟩
   ·intro hb3
    try simp only [sbb] at hb3
    (exfalso; omega)
theorem iDead_ok (ls : List Int) (vls : Value) (xmin : Int) (xmax : Int) (hz : Int) (w : World) (hls : rdRow kI64 w.heap ls vls) (hl : ls.length ≤ 1048576) :
  Calls Tryz.prog 39 #[vls, .int .i64 xmin, .int .i64 xmax, .int .i64 hz] w fun e w' => e = .returned (.bool (deadB ls xmin xmax hz)) ∧ Below w.heap.size w w' := by
 obtain ⟨Als, cls, rfl⟩ := rdRow_form hls
 refine enter (args := [.one (.v (.slice Als ls.length cls)), .one (.v (.int .i64 xmin)), .one (.v (.int .i64 xmax)), .one (.v (.int .i64 hz))]) Tryz.func39 (c := bodyOf Tryz.f39) rfl rfl (start_LOK _) (start_old w) ?_
 refine gn 0 (Rg.sq [true, false] 2) [KI.code [true, true]] [(0, vS Als ls.length cls), (2, vI xmax), (3, vI hz), (9, vS Als ls.length cls), (10, vI xmin)] [] ?_
 refine cpk 64 [vS Als ls.length cls, vI xmin] (some 11) (Rg.sq [true, false] 3) (.one (.v (Value.int IntKind.i64 (stOf ls xmin)))) (fun L w1 hs => (iStOf_ok (ls) (Value.slice Als ls.length cls) (xmin) w1 (rdRow_ext (hs.old 0 rfl) hls) ‹_›)) ?_
 refine gn 0 (Rg.sq [true, false] 5) [KI.code [true, true]] [(0, vS Als ls.length cls), (2, vI xmax), (3, vI hz), (13, vB (stOf ls xmin == 2))] [] ?_
 refine spl 13 (stOf ls xmin == 2) ?_ ?_
 ·intro hb1
  replace hb1 := beq_iff_eq.1 hb1
  refine gn 0 Rg.no [KI.code [true, true]] [(8, vL true)] [] ?_
  refine rtk [vL true] ?_
  intro L w1 hs
  exact ⟨retB (by unfold deadB; simp_all), hs.out0⟩
 ·intro hb1
  replace hb1 := beq_eq_false_iff_ne.1 hb1
  refine gn 0 (Rg.sq [true, false] 7) [KI.code [true, true]] [(2, vI xmax), (3, vI hz), (13, vL false), (14, vS Als ls.length cls), (15, vI xmax)] [] ?_
  refine cpk 64 [vS Als ls.length cls, vI xmax] (some 16) (Rg.sq [true, false] 8) (.one (.v (Value.int IntKind.i64 (stOf ls xmax)))) (fun L w1 hs => (iStOf_ok (ls) (Value.slice Als ls.length cls) (xmax) w1 (rdRow_ext (hs.old 0 rfl) hls) ‹_›)) ?_
  refine gn 0 (Rg.sq [true, false] 10) [KI.code [true, true]] [(2, vI xmax), (3, vI hz), (13, vL false), (18, vB (stOf ls xmax == 1))] [] ?_
  refine spl 18 (stOf ls xmax == 1) ?_ ?_
  ·intro hb2
   replace hb2 := beq_iff_eq.1 hb2
   refine gn 0 Rg.no [KI.code [true, true]] [(8, vB (decide (xmax < hz)))] [] ?_
   refine rtk [vB (decide (xmax < hz))] ?_
   intro L w1 hs
   exact ⟨retB (by unfold deadB; simp_all), hs.out0⟩
  ·intro hb2
   replace hb2 := beq_eq_false_iff_ne.1 hb2
   refine gn 0 Rg.no [KI.code [true, true]] [(8, vL false)] [] ?_
   refine rtk [vL false] ?_
   intro L w1 hs
   exact ⟨retB (by unfold deadB; simp_all), hs.out0⟩
theorem sDead_ok (ls : List Int) (vls : Value) (xmin : Int) (xmax : Int) (hz : Int) (w : World) (hls : rdRow kI64 w.heap ls vls) (hl : ls.length ≤ 1048576) :
  Calls Tryz.prog 37 #[vls, .int .i64 xmin, .int .i64 xmax, .int .i64 hz] w fun e w' => e = .returned (.bool (deadB ls xmin xmax hz)) ∧ Below w.heap.size w w' := by
 obtain ⟨Als, cls, rfl⟩ := rdRow_form hls
 refine enter (args := [.one (.v (.slice Als ls.length cls)), .one (.v (.int .i64 xmin)), .one (.v (.int .i64 xmax)), .one (.v (.int .i64 hz))]) Tryz.func37 (c := bodyOf Tryz.f37) rfl rfl (start_LOK _) (start_old w) ?_
 refine gn 0 (Rg.sq [true, false] 2) [KI.code [true, true]] [(0, vS Als ls.length cls), (2, vI xmax), (3, vI hz), (9, vS Als ls.length cls), (10, vI xmin)] [] ?_
 refine cpk 63 [vS Als ls.length cls, vI xmin] (some 11) (Rg.sq [true, false] 3) (.one (.v (Value.int IntKind.i64 (stOf ls xmin)))) (fun L w1 hs => (sStOf_ok (ls) (Value.slice Als ls.length cls) (xmin) w1 (rdRow_ext (hs.old 0 rfl) hls) ‹_›)) ?_
 refine gn 0 (Rg.sq [true, false] 5) [KI.code [true, true]] [(0, vS Als ls.length cls), (2, vI xmax), (3, vI hz), (13, vB (stOf ls xmin == 2))] [] ?_
 refine spl 13 (stOf ls xmin == 2) ?_ ?_
 ·intro hb1
  replace hb1 := beq_iff_eq.1 hb1
  refine gn 0 Rg.no [KI.code [true, true]] [(8, vL true)] [] ?_
  refine rtk [vL true] ?_
  intro L w1 hs
  exact ⟨retB (by unfold deadB; simp_all), hs.out0⟩
 ·intro hb1
  replace hb1 := beq_eq_false_iff_ne.1 hb1
  refine gn 0 (Rg.sq [true, false] 7) [KI.code [true, true]] [(2, vI xmax), (3, vI hz), (13, vL false), (14, vS Als ls.length cls), (15, vI xmax)] [] ?_
  refine cpk 63 [vS Als ls.length cls, vI xmax] (some 16) (Rg.sq [true, false] 8) (.one (.v (Value.int IntKind.i64 (stOf ls xmax)))) (fun L w1 hs => (sStOf_ok (ls) (Value.slice Als ls.length cls) (xmax) w1 (rdRow_ext (hs.old 0 rfl) hls) ‹_›)) ?_
  refine gn 0 (Rg.sq [true, false] 10) [KI.code [true, true]] [(2, vI xmax), (3, vI hz), (13, vL false), (18, vB (stOf ls xmax == 1))] [] ?_
  refine spl 18 (stOf ls xmax == 1) ?_ ?_
  ·intro hb2
   replace hb2 := beq_iff_eq.1 hb2
   refine gn 0 Rg.no [KI.code [true, true]] [(8, vB (decide (xmax < hz)))] [] ?_
   refine rtk [vB (decide (xmax < hz))] ?_
   intro L w1 hs
   exact ⟨retB (by unfold deadB; simp_all), hs.out0⟩
  ·intro hb2
   replace hb2 := beq_eq_false_iff_ne.1 hb2
   refine gn 0 Rg.no [KI.code [true, true]] [(8, vL false)] [] ?_
   refine rtk [vL false] ?_
   intro L w1 hs
   exact ⟨retB (by unfold deadB; simp_all), hs.out0⟩
theorem dead1_ok (ls : List Int) (vl : Value) (hz : Int) (x : Tu) (csx : List Value) (g1 g2 : Nat) (w : World) (b1 : w.heap[g1]? = some (.cells #[vl] 37 (0, 0))) (b2 : w.heap[g2]? = some (.cells #[.int .i64 hz] 3 (0, 0))) (hls : rdRow kI64 w.heap ls vl) (hx : kTu.rd w.heap x csx) (hl : ls.length ≤ 1048576) :
  Calls Tryz.prog 38 #[.agg csx.toArray, .pointer (some ⟨g1, 0, none⟩), .pointer (some ⟨g2, 0, none⟩)] w fun e w' => e = .returned (.bool (deadB ls x.xmin x.xmax hz)) ∧ Below w.heap.size w w' := by
 obtain ⟨bxkey_f, Axkey_t, cxkey_t, bxvalue_f, Axvalue_t, cxvalue_t, rfl, hbxkey_f, hfxkey_f, hrxkey_t, hbxvalue_f, hfxvalue_f, hrxvalue_t⟩ := kTu_inv hx
 obtain ⟨Als, cls, rfl⟩ := rdRow_form hls
 have l1 := (Array.getElem?_eq_some_iff.1 b1).1
 have l2 := (Array.getElem?_eq_some_iff.1 b2).1
 refine enter (args := [.agg [.v (.int .i64 x.xmin), .v (.int .i64 x.xmax), .v (.int .i64 x.key.kind), .v (.int .i64 x.key.n), .v (.float .f64 bxkey_f), .v (.slice Axkey_t x.key.t.length cxkey_t), .v (.int .i64 x.value.kind), .v (.int .i64 x.value.n), .v (.float .f64 bxvalue_f), .v (.slice Axvalue_t x.value.t.length cxvalue_t)], .one (.v (.pointer (some ⟨g1, 0, none⟩))), .one (.v (.pointer (some ⟨g2, 0, none⟩)))]) Tryz.func38 (c := bodyOf Tryz.f38) rfl rfl (start_LOK _) (start_old w) ?_
 refine gn 1 (Rg.sq [true, false] 0) [KI.code [true, true]] [(1, vP (Addr.mk g1 0 none)), (2, vP (Addr.mk g2 0 none)), (3, vR 0 0)] [LB.mk [cI x.xmin, cI x.xmax, cI x.key.kind, cI x.key.n, cF bxkey_f, cS Axkey_t x.key.t.length cxkey_t, cI x.value.kind, cI x.value.n, cF bxvalue_f, cS Axvalue_t x.value.t.length cxvalue_t] 60] ?_
 refine load_one 0 (by kernel_rfl : atP _ _ _ 0 true = some (Op.load 37 (tmpO 1), 37, some 5, Rg.sq [true, false] 1)) (n := 1) (by kernel_rfl) rfl ?_
 intro L w1 hs
 refine ⟨.v (.slice Als ls.length cls), cellH_ext (hs.old 0 rfl) (by simp [cellH, b1]; rfl), ?_⟩
 clear hs
 refine gn 0 (Rg.sq [true, false] 5) [KI.code [true, true]] [(2, vP (Addr.mk g2 0 none)), (5, vS Als ls.length cls), (7, vI x.xmin), (9, vI x.xmax)] [] ?_
 refine load_one 5 (by kernel_rfl : atP _ _ _ 5 true = some (Op.load 3 (tmpO 2), 3, some 10, Rg.sq [true, false] 6)) (n := 1) (by kernel_rfl) rfl ?_
 intro L w1 hs
 refine ⟨.v (.int .i64 hz), cellH_ext (hs.old 0 rfl) (by simp [cellH, b2]; rfl), ?_⟩
 clear hs
 refine gn 0 (Rg.sq [true, false] 6) [KI.code [true, true]] [(5, vS Als ls.length cls), (7, vI x.xmin), (9, vI x.xmax), (10, vI hz)] [] ?_
 refine cpk 39 [vS Als ls.length cls, vI x.xmin, vI x.xmax, vI hz] (some 11) (Rg.sq [true, false] 7) (.one (.bo (deadB ls x.xmin x.xmax hz))) (fun L w1 hs => (iDead_ok (ls) (Value.slice Als ls.length cls) (x.xmin) (x.xmax) (hz) w1 (rdRow_ext (hs.old 0 rfl) hls) ‹_›)) ?_
 refine gn 0 Rg.no [KI.code [true, true]] [(4, vB (deadB ls x.xmin x.xmax hz))] [] ?_
 refine rtk [vB (deadB ls x.xmin x.xmax hz)] ?_
 intro L w1 hs
 exact ⟨rfl, hs.out0⟩
theorem iHDead_ok (h : He) (csh : List Value) (ls : List Int) (vls : Value) (hz : Int) (w : World) (hh : kHe.rd w.heap h csh) (hls : rdRow kI64 w.heap ls vls) (hz0 : zHe h ≤ 1048576) (hb : byHe h) (hl : ls.length ≤ 1048576) :
  Calls Tryz.prog 17 #[.agg csh.toArray, vls, .int .i64 hz] w fun e w' => ∃ (B : Option Addr) (d : Nat), e = .returned (.slice B (deadR h ls hz).length d) ∧ Fresh w w' [rowA 64 kRw (deadR h ls hz) (.slice B (deadR h ls hz).length d)] := by
 obtain ⟨Ahpages, chpages, rfl, hrhpages⟩ := kHe_inv hh
 obtain ⟨Als, cls, rfl⟩ := rdRow_form hls
 refine enter (args := [.agg [.v (.slice Ahpages h.pages.length chpages)], .one (.v (.slice Als ls.length cls)), .one (.v (.int .i64 hz))]) Tryz.func17 (c := bodyOf Tryz.f17) rfl rfl (start_LOK _) (start_old w) ?_
 refine gn 3 (Rg.sq [true, false] 2) [KI.code [true, true]] [(7, SV.agg [cS Ahpages h.pages.length chpages]), (8, SV.one (SC.fn 38 [Cap.p 1 0, Cap.p 2 0]))] [LB.mk [cS Ahpages h.pages.length chpages] 30, LB.mk [cS Als ls.length cls] 37, LB.mk [cI hz] 3] ?_
 refine cak 30 [SV.agg [cS Ahpages h.pages.length chpages], SV.one (SC.fn 38 [Cap.p 1 0, Cap.p 2 0])] (some 9) (Rg.sq [true, false] 3) (fun L w1 hs => (rowsOf2_ok 38 (by kernel_rfl) (.pointer (some ⟨L.getD 1 0, 0, none⟩)) (.pointer (some ⟨L.getD 2 0, 0, none⟩)) (fun x => deadB ls x.xmin x.xmax hz) h _ w1 (kHe_mk (rdRow_ext (hs.old 0 rfl) hrhpages)) hz0 hb (fun r hr w2 hag cs hcs => by
  have h3 := hs.2.1.2.2 1 _ rfl
  have h4 := (hag _ (Array.getElem?_eq_some_iff.1 h3).1).trans h3
  have h5 := hs.2.1.2.2 2 _ rfl
  have h6 := (hag _ (Array.getElem?_eq_some_iff.1 h5).1).trans h5
  exact dead1_ok ls _ hz r.tuple cs _ _ w2 h4 h6 (rdRow_ext (fun b hb => (hag b (Nat.lt_of_lt_of_le hb hs.1.1.size)).trans (hs.old 0 rfl b hb)) hls) hcs hl)).mono ?_)
 rintro e w2 ⟨B1, d1, rfl, hf⟩
 refine ⟨.one (.v (.slice B1 _ d1)), _, _, rfl, fun _ => hf.1.block, hs.fresh hf, ?_⟩
 clear hs hf
 refine gn 0 Rg.no [KI.code [true, true]] [(6, vS B1 (rowsQ h fun x => deadB ls x.xmin x.xmax hz).length d1)] [] ?_
 refine rtk [vS B1 (rowsQ h fun x => deadB ls x.xmin x.xmax hz).length d1] ?_
 intro L w1 hs
 exact ⟨_, _, rfl, hs.out (As := [_])⟩
theorem sHDead_ok (h : He) (csh : List Value) (ls : List Int) (vls : Value) (hz : Int) (w : World) (hh : kHe.rd w.heap h csh) (hls : rdRow kI64 w.heap ls vls) (hz0 : zHe h ≤ 1048576) (hb : byHe h) (hl : ls.length ≤ 1048576) :
  Calls Tryz.prog 15 #[.agg csh.toArray, vls, .int .i64 hz] w fun e w' => ∃ (B : Option Addr) (d : Nat), e = .returned (.slice B (deadR h ls hz).length d) ∧ Fresh w w' [rowA 64 kRw (deadR h ls hz) (.slice B (deadR h ls hz).length d)] := by
 obtain ⟨Ahpages, chpages, rfl, hrhpages⟩ := kHe_inv hh
 obtain ⟨Als, cls, rfl⟩ := rdRow_form hls
 refine enter (args := [.agg [.v (.slice Ahpages h.pages.length chpages)], .one (.v (.slice Als ls.length cls)), .one (.v (.int .i64 hz))]) Tryz.func15 (c := bodyOf Tryz.f15) rfl rfl (start_LOK _) (start_old w) ?_
 unfold deadR
 rw [rowsQ_R]
 obtain ⟨xs, hxs⟩ : ∃ xs, rowsR h = xs := ⟨_, rfl⟩
 refine gn 0 (Rg.sq (bitL 3 3) 1) [kCd (bitL 3 7)] [(1, vS Als ls.length cls), (2, vI hz), (7, vS none 0 0), (10, SV.agg [cS Ahpages h.pages.length chpages])] [] ?_
 refine cak 7 [SV.agg [cS Ahpages h.pages.length chpages]] (some 11) (Rg.sq (bitL 3 3) 2) (fun L w1 hs => (sHRowsX_ok (h) ([Value.slice Ahpages h.pages.length chpages]) w1 (xs) (kHe_mk (rdRow_ext (hs.old 0 rfl) hrhpages)) ‹_› ‹_› hxs).mono ?_)
 rintro e_ w2_ ⟨B_1, d_1, rfl, hf_⟩
 refine ⟨.one (.v (Value.slice B_1 xs.length d_1)), _, _, rfl, fun _ => hf_.1.block, hs.fresh hf_, ?_⟩
 clear hs hf_
 refine gn 0 Rg.no [kLp (bitL 7 119), KI.block 0, kCd (bitL 4 15)] [(1, vS Als ls.length cls), (2, vI hz), (7, vS none 0 0), (8, vS B_1 xs.length d_1), (9, vI 0)] [] ?_
 subst hxs
 have hrn := rowsR_len h
 refine h_apart RC.len RC.one (f := RC.cs) (n := 12) rfl kRw_rc (fun l hl1 hrel => ?_)
 have hlen : (rowsR h).length = (l.map Prod.snd).length := by rw [← hl1, List.length_map, List.length_map]
 have hln : l.length = (rowsR h).length := by rw [← hl1, List.length_map]
 have hmem : ∀ p ∈ l, p.1 ∈ rowsR h := fun p hp => by rw [← hl1]; exact List.mem_map_of_mem hp
 have hsp : (rowsR h).filter (fun r => deadB ls r.tuple.xmin r.tuple.xmax hz) = (l.filter fun p => deadB ls p.1.tuple.xmin p.1.tuple.xmax hz).map Prod.fst := by rw [rfilt_fst (q := fun r => deadB ls r.tuple.xmin r.tuple.xmax hz), hl1]
 have hsl : ((rowsR h).filter (fun r => deadB ls r.tuple.xmin r.tuple.xmax hz)).length = ((l.filter fun p => deadB ls p.1.tuple.xmin p.1.tuple.xmax hz).map Prod.snd).length := by rw [hsp, List.length_map, List.length_map]
 rw [hlen]
 refine h_nil 64 kRC ?_
 refine loop_at (ι := Nat × Option Addr × Nat) (fun s => [(9, .one (.v (.int .i64 s.1))), (7, .one (.v (.slice s.2.1 (((l.take s.1).filter fun p => deadB ls p.1.tuple.xmin p.1.tuple.xmax hz).map Prod.snd).length s.2.2)))]) (fun _ => []) (fun s => [rowA 64 kRC (((l.take s.1).filter fun p => deadB ls p.1.tuple.xmin p.1.tuple.xmax hz).map Prod.snd) (.slice s.2.1 (((l.take s.1).filter fun p => deadB ls p.1.tuple.xmin p.1.tuple.xmax hz).map Prod.snd).length s.2.2), rowA 64 kRC (l.map Prod.snd) (.slice B_1 (l.map Prod.snd).length d_1), hangA kRw RC.cs l, oldA w]) (fun s => s.1 ≤ l.length) (fun s => l.length - s.1) (0, none, 0) rfl rfl rfl (Nat.zero_le _) ?_
 rintro ⟨i, B, d⟩ hi ih
 simp only at hi ih ⊢
 have ho1 := outs_len (l := l) (q := fun p => deadB ls p.1.tuple.xmin p.1.tuple.xmax hz) i
 rcases Nat.lt_or_ge i l.length with hlt | hge
 ·have hlt2 : i < (l.map Prod.snd).length := by rw [List.length_map]; exact hlt
  have hget : (l.map Prod.snd)[i]? = some l[i].2 := by simp [hlt]
  have hri := hrel _ (List.getElem_mem hlt)
  refine gn 0 Rg.no [kCd (bitL 9 375), kCd (bitL 8 247), kLp (bitL 7 119), KI.block 0, kCd (bitL 4 15)] [(1, vS Als ls.length cls), (2, vI hz), (7, vS B (List.map Prod.snd (List.filter (fun p => deadB ls p.fst.tuple.xmin p.fst.tuple.xmax hz) (List.take i l))).length d), (8, vS B_1 (List.map Prod.snd l).length d_1), (9, vI (↑i : Int)), (15, vB (decide ((↑i : Int) < (↑(List.map Prod.snd l).length : Int))))] [] ?_
  refine spl 15 (decide ((↑i : Int) < (↑(List.map Prod.snd l).length : Int))) ?_ ?_
  rotate_left
  ·intro hb1
   replace hb1 := of_decide_eq_false hb1
   (exfalso; omega)
  intro hb1
  replace hb1 := of_decide_eq_true hb1
  refine gn 0 (Rg.dr (bitL 11 759) (bitL 15 8583) 9 2) [kCd (bitL 11 1783), KI.block 1, kCd (bitL 9 503), kLp (bitL 7 119), KI.block 0, kCd (bitL 4 15)] [(1, vS Als ls.length cls), (2, vI hz), (7, vS B (List.map Prod.snd (List.filter (fun p => deadB ls p.fst.tuple.xmin p.fst.tuple.xmax hz) (List.take i l))).length d), (8, vS B_1 (List.map Prod.snd l).length d_1), (9, vI (↑i : Int)), (18, vS Als ls.length cls), (19, vS B_1 (List.map Prod.snd l).length d_1), (20, vI (↑i : Int)), (25, vS B_1 (List.map Prod.snd l).length d_1), (26, vI (↑i : Int)), (31, vI hz)] [] ?_
  refine index_at 3 (by kernel_rfl : atP _ _ _ 3 false = some (Op.indexAddr 26 (tmpO 19) (tmpO 20), 0, some 21, Rg.dr (bitL 11 759) (bitL 15 8591) 8 2)) (ni := i) (sz := 12) (by kernel_rfl) rfl rfl rfl ‹_› (fun L w1 hs => rd_some (i := i) (hs.rd 1 rfl) ‹_›) ?_
  intro a_1 ha_1
  cases ha_1
  refine gn 0 (Rg.dr (bitL 11 759) (bitL 15 8639) 6 2) [kCd (bitL 11 1783), KI.block 1, kCd (bitL 9 503), kLp (bitL 7 119), KI.block 0, kCd (bitL 4 15)] [(1, vS Als ls.length cls), (2, vI hz), (7, vS B (List.map Prod.snd (List.filter (fun p => deadB ls p.fst.tuple.xmin p.fst.tuple.xmax hz) (List.take i l))).length d), (8, vS (some a_1) (List.map Prod.snd l).length d_1), (9, vI (↑i : Int)), (18, vS Als ls.length cls), (23, vP (((a_1.add (i * 12)).add 2).add 0)), (25, vS (some a_1) (List.map Prod.snd l).length d_1), (26, vI (↑i : Int)), (31, vI hz)] [] ?_
  refine index_at 9 (by kernel_rfl : atP _ _ _ 9 false = some (Op.indexAddr 26 (tmpO 25) (tmpO 26), 0, some 27, Rg.dr (bitL 11 759) (bitL 15 9151) 5 2)) (ni := i) (sz := 12) (by kernel_rfl) rfl rfl rfl ‹_› (fun L w1 hs => rd_some (i := i) (hs.rd 1 rfl) ‹_›) ?_
  intro a_2 ha_2
  cases ha_2
  refine gn 0 (Rg.dr (bitL 11 759) (bitL 15 12223) 3 2) [kCd (bitL 11 1783), KI.block 1, kCd (bitL 9 503), kLp (bitL 7 119), KI.block 0, kCd (bitL 4 15)] [(1, vS Als ls.length cls), (2, vI hz), (7, vS B (List.map Prod.snd (List.filter (fun p => deadB ls p.fst.tuple.xmin p.fst.tuple.xmax hz) (List.take i l))).length d), (8, vS (some a_1) (List.map Prod.snd l).length d_1), (9, vI (↑i : Int)), (18, vS Als ls.length cls), (23, vP (((a_1.add (i * 12)).add 2).add 0)), (29, vP (((a_1.add (i * 12)).add 2).add 1)), (31, vI hz)] [] ?_
  refine load_one 6 (by kernel_rfl : atP _ _ _ 6 true = some (Op.load 3 (tmpO 23), 3, some 24, Rg.dr (bitL 11 759) (bitL 15 12287) 2 2)) (n := 1) (by kernel_rfl) rfl ?_
  intro L w1 hs
  refine ⟨.v (.int .i64 l[i].2.x.tuple.xmin), rc_at (hs.rd 1 rfl) hget 2 _ rfl, ?_⟩
  clear hs
  refine gn 0 (Rg.dr (bitL 11 759) (bitL 15 12287) 2 2) [kCd (bitL 11 1783), KI.block 1, kCd (bitL 9 503), kLp (bitL 7 119), KI.block 0, kCd (bitL 4 15)] [(1, vS Als ls.length cls), (2, vI hz), (7, vS B (List.map Prod.snd (List.filter (fun p => deadB ls p.fst.tuple.xmin p.fst.tuple.xmax hz) (List.take i l))).length d), (8, vS (some a_1) (List.map Prod.snd l).length d_1), (9, vI (↑i : Int)), (18, vS Als ls.length cls), (24, vI l[i].snd.x.tuple.xmin), (29, vP (((a_1.add (i * 12)).add 2).add 1)), (31, vI hz)] [] ?_
  refine load_one 12 (by kernel_rfl : atP _ _ _ 12 true = some (Op.load 3 (tmpO 29), 3, some 30, Rg.dr (bitL 11 759) (bitL 15 16383) 1 2)) (n := 1) (by kernel_rfl) rfl ?_
  intro L w1 hs
  refine ⟨.v (.int .i64 l[i].2.x.tuple.xmax), rc_at (hs.rd 1 rfl) hget 3 _ rfl, ?_⟩
  clear hs
  refine gn 0 (Rg.dr (bitL 11 759) (bitL 15 16383) 1 2) [kCd (bitL 11 1783), KI.block 1, kCd (bitL 9 503), kLp (bitL 7 119), KI.block 0, kCd (bitL 4 15)] [(1, vS Als ls.length cls), (2, vI hz), (7, vS B (List.map Prod.snd (List.filter (fun p => deadB ls p.fst.tuple.xmin p.fst.tuple.xmax hz) (List.take i l))).length d), (8, vS (some a_1) (List.map Prod.snd l).length d_1), (9, vI (↑i : Int)), (18, vS Als ls.length cls), (24, vI l[i].snd.x.tuple.xmin), (30, vI l[i].snd.x.tuple.xmax), (31, vI hz)] [] ?_
  refine cpk 37 [vS Als ls.length cls, vI l[i].snd.x.tuple.xmin, vI l[i].snd.x.tuple.xmax, vI hz] (some 32) (Rg.dr (bitL 11 759) (bitL 15 32767) 0 10) (.one (.bo (deadB ls l[i].1.tuple.xmin l[i].1.tuple.xmax hz))) (fun L w1 hs => by
   rw [← hri]
   exact sDead_ok ls _ _ _ _ w1 (rdRow_ext (hs.old 3 rfl) hls) hl) ?_
  refine gn 0 Rg.no [kCd (bitL 11 1783), KI.block 1, kCd (bitL 9 503), kLp (bitL 7 119), KI.block 0, kCd (bitL 4 15)] [(1, vS Als ls.length cls), (2, vI hz), (7, vS B (List.map Prod.snd (List.filter (fun p => deadB ls p.fst.tuple.xmin p.fst.tuple.xmax hz) (List.take i l))).length d), (8, vS (some a_1) (List.map Prod.snd l).length d_1), (9, vI (↑i : Int)), (32, vB (deadB ls l[i].fst.tuple.xmin l[i].fst.tuple.xmax hz))] [] ?_
  refine spl 32 (deadB ls l[i].fst.tuple.xmin l[i].fst.tuple.xmax hz) ?_ ?_
  ·intro hb
   refine gn 0 (Rg.sq (bitL 12 1783) 3) [KI.block 1, kCd (bitL 9 503), kLp (bitL 7 119), KI.block 0, kCd (bitL 4 15)] [(1, vS Als ls.length cls), (2, vI hz), (8, vS (some a_1) (List.map Prod.snd l).length d_1), (9, vI (↑i : Int)), (33, vS B (List.map Prod.snd (List.filter (fun p => deadB ls p.fst.tuple.xmin p.fst.tuple.xmax hz) (List.take i l))).length d), (34, vS (some a_1) (List.map Prod.snd l).length d_1), (35, vI (↑i : Int))] [] ?_
   refine index_at 3 (by kernel_rfl : atP _ _ _ 3 false = some (Op.indexAddr 26 (tmpO 34) (tmpO 35), 0, some 36, Rg.sq (bitL 12 1783) 4)) (ni := i) (sz := 12) (by kernel_rfl) rfl rfl rfl ‹_› (fun L w1 hs => rd_some (i := i) (hs.rd 1 rfl) ‹_›) ?_
   intro a_2 ha_2
   cases ha_2
   refine gn 0 (Rg.sq (bitL 12 1783) 4) [KI.block 1, kCd (bitL 9 503), kLp (bitL 7 119), KI.block 0, kCd (bitL 4 15)] [(1, vS Als ls.length cls), (2, vI hz), (8, vS (some a_1) (List.map Prod.snd l).length d_1), (9, vI (↑i : Int)), (33, vS B (List.map Prod.snd (List.filter (fun p => deadB ls p.fst.tuple.xmin p.fst.tuple.xmax hz) (List.take i l))).length d), (36, vP (a_1.add (i * 12)))] [] ?_
   refine load_agg 4 (by kernel_rfl : atP _ _ _ 4 true = some (Op.load 64 (tmpO 36), 64, some 37, Rg.sq (bitL 12 1783) 5)) (n := 12) (by kernel_rfl) rfl ?_
   intro L w1 hs
   refine ⟨RC.scs l[i].2, rfl, cells_at0 (scs := RC.scs l[i].2) (rc_at (hs.rd 1 rfl) hget) rfl, ?_⟩
   clear hs
   unfold RC.scs
   refine gn 1 (Rg.sq (bitL 12 1783) 6) [KI.block 1, kCd (bitL 9 503), kLp (bitL 7 119), KI.block 0, kCd (bitL 4 15)] [(1, vS Als ls.length cls), (2, vI hz), (8, vS (some a_1) (List.map Prod.snd l).length d_1), (9, vI (↑i : Int)), (33, vS B (List.map Prod.snd (List.filter (fun p => deadB ls p.fst.tuple.xmin p.fst.tuple.xmax hz) (List.take i l))).length d), (38, SV.one (SC.sl 0 0 1 1))] [LB.mk [cI l[i].snd.x.page, cI l[i].snd.x.slot, cI l[i].snd.x.tuple.xmin, cI l[i].snd.x.tuple.xmax, cI l[i].snd.x.tuple.key.kind, cI l[i].snd.x.tuple.key.n, cF l[i].snd.b1, cS l[i].snd.3 l[i].snd.x.tuple.key.t.length l[i].snd.c1, cI l[i].snd.x.tuple.value.kind, cI l[i].snd.x.tuple.value.n, cF l[i].snd.b2, cS l[i].snd.6 l[i].snd.x.tuple.value.t.length l[i].snd.c2] 64] ?_
   refine h_conseq (fun L w hs => ⟨_, hs.triv (A := elA kRC l[i].2 (RC.cs l[i].2)) rfl, ?_⟩)
   refine h_swap ?_
   refine append_lit (d := kRC) (y := l[i].2) (by_ := 128) (by kernel_rfl : atB _ _ _ false = some (Op.call (Call.mk (Callee.builtin Builtin.append) #[tmpO 33, tmpO 38] #[26, 26]), 26, some 39, Rg.sq (bitL 12 1783) 7)) (by kernel_rfl) rfl rfl rfl rfl (by simp only [maxLen]; omega) (by omega) ?_
   intro B' d'
   rw [outs_step (q := fun p => deadB ls p.1.tuple.xmin p.1.tuple.xmax hz) hlt hb]
   refine gn 0 Rg.no [kLp (bitL 7 119), KI.block 0, kCd (bitL 4 15)] [(1, vS Als ls.length cls), (2, vI hz), (7, vS B' (List.map Prod.snd (List.filter (fun p => deadB ls p.fst.tuple.xmin p.fst.tuple.xmax hz) (List.take (i + 1) l))).length d'), (8, vS (some a_1) (List.map Prod.snd l).length d_1), (9, vI (IntKind.i64.wrap ((↑i : Int) + 1)))] [] ?_
   rw [wrap_succ (by omega)]
   exact ih (i + 1, B', d') hlt (by simp only; omega)
  ·intro hb
   rw [outs_skip (q := fun p => deadB ls p.1.tuple.xmin p.1.tuple.xmax hz) hlt hb]
   refine gn 0 Rg.no [kLp (bitL 7 119), KI.block 0, kCd (bitL 4 15)] [(1, vS Als ls.length cls), (2, vI hz), (7, vS B (List.map Prod.snd (List.filter (fun p => deadB ls p.fst.tuple.xmin p.fst.tuple.xmax hz) (List.take (i + 1) l))).length d), (8, vS (some a_1) (List.map Prod.snd l).length d_1), (9, vI (IntKind.i64.wrap ((↑i : Int) + 1)))] [] ?_
   rw [wrap_succ (by omega)]
   exact ih (i + 1, B, d) hlt (by simp only; omega)
 ·obtain rfl : i = l.length := by omega
  have hge2 : (l.map Prod.snd).length ≤ l.length := by rw [List.length_map]; omega
  rw [List.take_length]
  refine h_erase 1 _ rfl ?_
  refine h_turn (A := [_, _]) (B := [rowA 64 kRw ((l.filter fun p => deadB ls p.1.tuple.xmin p.1.tuple.xmax hz).map Prod.fst) (.slice B ((l.filter fun p => deadB ls p.1.tuple.xmin p.1.tuple.xmax hz).map Prod.snd).length d)]) (fun h S ho => ⟨S, fun _ => False, fun _ hb => hb, fun _ hb => hb.elim, fun _ _ hb => hb, rowA_holds.2 (join_row (hl := RC.len) (h1 := RC.one) rfl (by
   obtain ⟨S1, S2, s1, s2, sd, hrow, S3, S4, s3, s4, sd2, hh, _⟩ := ho
   exact ⟨S1, S2, s1, s2, sd, hrow, S3, S4, s3, s4, sd2, hang_sub List.filter_sublist hh, trivial⟩)), trivial⟩) ?_
  rw [hsl, hsp]
  refine gn 0 Rg.no [kCd (bitL 9 375), kCd (bitL 8 247), kLp (bitL 7 119), KI.block 0, kCd (bitL 4 15)] [(1, vS Als ls.length cls), (2, vI hz), (7, vS B (List.map Prod.snd (List.filter (fun p => deadB ls p.fst.tuple.xmin p.fst.tuple.xmax hz) l)).length d), (8, vS B_1 (List.map Prod.snd l).length d_1), (9, vI (↑l.length : Int)), (15, vB (decide ((↑l.length : Int) < (↑(List.map Prod.snd l).length : Int))))] [] ?_
  refine spl 15 (decide ((↑l.length : Int) < (↑(List.map Prod.snd l).length : Int))) ?_ ?_
  ·intro hb1
   replace hb1 := of_decide_eq_true hb1
   (exfalso; omega)
  ·intro hb1
   replace hb1 := of_decide_eq_false hb1
   refine gn 0 Rg.no [kCd (bitL 5 31)] [(6, vS B (List.map Prod.snd (List.filter (fun p => deadB ls p.fst.tuple.xmin p.fst.tuple.xmax hz) l)).length d)] [] ?_
   refine rtk [vS B (List.map Prod.snd (List.filter (fun p => deadB ls p.fst.tuple.xmin p.fst.tuple.xmax hz) l)).length d] ?_
   intro L w1 hs
   exact ⟨_, _, rfl, hs.out (As := [_])⟩
end Go.Proofs.YtgleoebogikooaaGreat.Dk
