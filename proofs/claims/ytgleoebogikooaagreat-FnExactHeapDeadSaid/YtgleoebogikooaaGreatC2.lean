/- Walks of functions of the program: what each call returns and what it leaves in memory. Conditions: those that each theorem names. -/
import Derived.Test.YtgleoebogikooaaGreatC1
namespace Go.Proofs.YtgleoebogikooaaGreat.Dk
set_option linter.unusedVariables false
set_option linter.unusedSimpArgs false
open Go.Proofs.YtgleoebogikooaaGreat.Sx Go.Proofs Go.RowKit
set_option maxRecDepth 100000
set_option maxHeartbeats 1000000
theorem sameFloat_ok (b1 b2 : Nat) (x : Nat) (w : World) (hb1 : b1 < 18446744073709551616) (hb2 : b2 < 18446744073709551616) (hf1 : canonF b1 = x) (hf2 : canonF b2 = x) :
  Calls Tryz.prog 47 #[.float .f64 b1, .float .f64 b2] w fun e w' => e = .returned (.bool true) ∧ Below w.heap.size w w' := by
 refine enter (args := [.one (.v (.float .f64 b1)), .one (.v (.float .f64 b2))]) Tryz.func47 (c := bodyOf Tryz.f47) rfl rfl (start_LOK _) (start_old w) ?_
 rcases canon_cases hb1 with ⟨e0, e1, _⟩ | ⟨e0, e1, e2⟩
 ·have d0 : isNaN b2 = true := by
   rcases canon_cases hb2 with ⟨d0, _⟩ | ⟨d0, d1, d2⟩
   ·exact d0
   ·rw [e1] at hf1; rw [d1, ← hf1] at hf2; rw [hf2] at d2; omega
  clear hf1 hf2 e1
  refine gn 0 (Rg.sq (bitL 3 1) 4) [kCd (bitL 3 5), KI.code [true, true]] [(0, SV.one (cF b1)), (1, SV.one (cF b2)), (8, vB (FloatKind.f64.format.order b1 b1 != some Ordering.eq))] [] ?_
  try simp only [flx, hb1, hb2, e0, d0]
  refine gn 0 (Rg.sq (bitL 3 1) 4) [kCd (bitL 3 5), KI.code [true, true]] [(0, SV.one (cF b1)), (1, SV.one (cF b2)), (8, vB true)] [] ?_
  refine ltk 8 true ?_
  refine gn 0 (Rg.sq (bitL 5 5) 4) [kCd (bitL 5 21), KI.code [true, true]] [(1, SV.one (cF b2)), (16, vB (FloatKind.f64.format.order b1 b1 != some Ordering.eq))] [] ?_
  try simp only [flx, hb1, hb2, e0, d0]
  refine gn 0 (Rg.sq (bitL 5 5) 4) [kCd (bitL 5 21), KI.code [true, true]] [(1, SV.one (cF b2)), (16, vB true)] [] ?_
  refine ltk 16 true ?_
  refine gn 0 Rg.no [kCd (bitL 5 21), KI.code [true, true]] [(4, vB (FloatKind.f64.format.order b2 b2 != some Ordering.eq))] [] ?_
  try simp only [flx, hb1, hb2, e0, d0]
  refine rtk [vB true] ?_
  intro L w1 hs
  exact ⟨rfl, hs.out0⟩
 obtain rfl : b2 = b1 := by
  rcases canon_cases hb2 with ⟨d0, d1, d2⟩ | ⟨d0, d1, d2⟩
  ·rw [d1] at hf2; rw [e1, ← hf2] at hf1; rw [hf1] at e2; omega
  ·rw [d1] at hf2; rw [e1, ← hf2] at hf1; exact hf1.symm
 clear hf1 hf2 e1
 by_cases hz : b2 % 9223372036854775808 = 0
 ·obtain rfl | rfl : b2 = 0 ∨ b2 = 9223372036854775808 := by omega
  ·have q : HFloat.floatBits' .quo .f64 4607182418800017408 0 = some 9218868437227405312 := HFloat.div_zero
   refine gn 0 (Rg.sq (bitL 3 1) 4) [kCd (bitL 3 5), KI.code [true, true]] [(0, SV.one (cF 0)), (1, SV.one (cF 0)), (8, vB false)] [] ?_
   refine ltk 8 false ?_
   refine gn 0 Rg.no [kCd (bitL 3 5), KI.code [true, true]] [(0, SV.one (cF 0)), (1, SV.one (cF 0)), (12, vB false)] [] ?_
   refine ltk 12 false ?_
   refine gn 0 (Rg.sq (bitL 4 3) 3) [kCd (bitL 4 11), kCd (bitL 3 7)] [(0, SV.one (cF 0)), (1, SV.one (cF 0)), (23, vB true)] [] ?_
   refine ltk 23 true ?_
   refine gn 0 Rg.no [kCd (bitL 4 11), kCd (bitL 3 7)] [(0, SV.one (cF 0)), (1, SV.one (cF 0)), (26, vB true)] [] ?_
   refine ltk 26 true ?_
   refine gn 0 (Rg.sq (bitL 6 11) 1) [kCd (bitL 6 43), kCd (bitL 3 7)] [(1, SV.one (cF 0)), (27, SV.one (cF 0))] [] ?_
   refine fop_at 1 (by kernel_rfl : atP _ _ _ 1 false = some (Op.binOp BinOp.quo 43 (Operand.const (Value.float FloatKind.f64 4607182418800017408)) (tmpO 27) 43, 43, some 28, Rg.sq (bitL 6 11) 2)) rfl rfl q ?_
   refine gn 0 (Rg.sq (bitL 6 11) 4) [kCd (bitL 6 43), kCd (bitL 3 7)] [(29, vB true), (30, SV.one (cF 0))] [] ?_
   refine fop_at 4 (by kernel_rfl : atP _ _ _ 4 false = some (Op.binOp BinOp.quo 43 (Operand.const (Value.float FloatKind.f64 4607182418800017408)) (tmpO 30) 43, 43, some 31, Rg.sq (bitL 6 11) 5)) rfl rfl q ?_
   refine gn 0 Rg.no [kCd (bitL 6 43), kCd (bitL 3 7)] [(4, vB true)] [] ?_
   refine rtk [vB true] ?_
   intro L w1 hs
   exact ⟨rfl, hs.out0⟩
  ·have q : HFloat.floatBits' .quo .f64 4607182418800017408 9223372036854775808 = some (9223372036854775808 + 9218868437227405312) := HFloat.div_zeroN
   refine gn 0 (Rg.sq (bitL 3 1) 4) [kCd (bitL 3 5), KI.code [true, true]] [(0, SV.one (cF 9223372036854775808)), (1, SV.one (cF 9223372036854775808)), (8, vB false)] [] ?_
   refine ltk 8 false ?_
   refine gn 0 Rg.no [kCd (bitL 3 5), KI.code [true, true]] [(0, SV.one (cF 9223372036854775808)), (1, SV.one (cF 9223372036854775808)), (12, vB false)] [] ?_
   refine ltk 12 false ?_
   refine gn 0 (Rg.sq (bitL 4 3) 3) [kCd (bitL 4 11), kCd (bitL 3 7)] [(0, SV.one (cF 9223372036854775808)), (1, SV.one (cF 9223372036854775808)), (23, vB true)] [] ?_
   refine ltk 23 true ?_
   refine gn 0 Rg.no [kCd (bitL 4 11), kCd (bitL 3 7)] [(0, SV.one (cF 9223372036854775808)), (1, SV.one (cF 9223372036854775808)), (26, vB true)] [] ?_
   refine ltk 26 true ?_
   refine gn 0 (Rg.sq (bitL 6 11) 1) [kCd (bitL 6 43), kCd (bitL 3 7)] [(1, SV.one (cF 9223372036854775808)), (27, SV.one (cF 9223372036854775808))] [] ?_
   refine fop_at 1 (by kernel_rfl : atP _ _ _ 1 false = some (Op.binOp BinOp.quo 43 (Operand.const (Value.float FloatKind.f64 4607182418800017408)) (tmpO 27) 43, 43, some 28, Rg.sq (bitL 6 11) 2)) rfl rfl q ?_
   refine gn 0 (Rg.sq (bitL 6 11) 4) [kCd (bitL 6 43), kCd (bitL 3 7)] [(29, vB false), (30, SV.one (cF 9223372036854775808))] [] ?_
   refine fop_at 4 (by kernel_rfl : atP _ _ _ 4 false = some (Op.binOp BinOp.quo 43 (Operand.const (Value.float FloatKind.f64 4607182418800017408)) (tmpO 30) 43, 43, some 31, Rg.sq (bitL 6 11) 5)) rfl rfl q ?_
   refine gn 0 Rg.no [kCd (bitL 6 43), kCd (bitL 3 7)] [(4, vB true)] [] ?_
   refine rtk [vB true] ?_
   intro L w1 hs
   exact ⟨rfl, hs.out0⟩
 refine gn 0 (Rg.sq (bitL 3 1) 4) [kCd (bitL 3 5), KI.code [true, true]] [(0, SV.one (cF b2)), (1, SV.one (cF b2)), (8, vB (FloatKind.f64.format.order b2 b2 != some Ordering.eq))] [] ?_
 try simp only [flx, hb2, hb1, e0]
 refine gn 0 (Rg.sq (bitL 3 1) 4) [kCd (bitL 3 5), KI.code [true, true]] [(0, SV.one (cF b2)), (1, SV.one (cF b2)), (8, vB false)] [] ?_
 refine ltk 8 false ?_
 refine gn 0 Rg.no [kCd (bitL 3 5), KI.code [true, true]] [(0, SV.one (cF b2)), (1, SV.one (cF b2)), (12, vB (FloatKind.f64.format.order b2 b2 != some Ordering.eq))] [] ?_
 try simp only [flx, hb2, hb1, e0]
 refine gn 0 Rg.no [kCd (bitL 3 5), KI.code [true, true]] [(0, SV.one (cF b2)), (1, SV.one (cF b2)), (12, vB false)] [] ?_
 refine ltk 12 false ?_
 refine gn 0 (Rg.sq (bitL 4 3) 3) [kCd (bitL 4 11), kCd (bitL 3 7)] [(0, SV.one (cF b2)), (1, SV.one (cF b2)), (23, vB (FloatKind.f64.format.order b2 0 == some Ordering.eq))] [] ?_
 try simp only [flx, hb2, hb1, e0]
 refine spl 23 (decide (b2 % 9223372036854775808 = 0)) ?_ ?_
 ·intro hb3
  replace hb3 := of_decide_eq_true hb3
  (exfalso; omega)
 ·intro hb3
  replace hb3 := of_decide_eq_false hb3
  refine gn 0 Rg.no [kCd (bitL 4 15)] [(4, vB (FloatKind.f64.format.order b2 b2 == some Ordering.eq))] [] ?_
  try simp only [flx, hb2, hb1, e0]
  refine rtk [vB true] ?_
  intro L w1 hs
  exact ⟨rfl, hs.out0⟩
theorem eqByteS_ok (xs : List Int) (v1 v2 : Value) (w : World) (h1 : rdRow kU8 w.heap xs v1) (h2 : rdRow kU8 w.heap xs v2) (hz : xs.length ≤ 1048576) :
  Calls Tryz.prog 48 #[v1, v2] w fun e w' => e = .returned (.bool true) ∧ Below w.heap.size w w' := by
 obtain ⟨A1, c1, rfl⟩ := rdRow_form h1
 obtain ⟨A2, c2, rfl⟩ := rdRow_form h2
 refine enter (args := [.one (.v (.slice A1 xs.length c1)), .one (.v (.slice A2 xs.length c2))]) Tryz.func48 (c := bodyOf Tryz.f48) rfl rfl (start_LOK _) (start_old w) ?_
 have hzl : xs.length ≤ 1048576 := by omega
 refine gn 0 Rg.no [kCd (bitL 3 5), KI.code [true, true]] [(0, vS A1 xs.length c1), (1, vS A2 xs.length c2), (10, vB ((↑xs.length : Int) != (↑xs.length : Int)))] [] ?_
 refine spl 10 ((↑xs.length : Int) != (↑xs.length : Int)) ?_ ?_
 ·intro hb1
  replace hb1 := bne_iff_ne.1 hb1
  (exfalso; omega)
 intro hb1
 replace hb1 := bne_eq_false_iff_eq.1 hb1
 refine gn 0 Rg.no [kLp (bitL 6 59), KI.block 0, kCd (bitL 3 7)] [(0, vS A1 xs.length c1), (1, vS A2 xs.length c2), (5, vI 0)] [] ?_
 refine loop_at (ι := Nat) (fun i => [(5, .one (.v (.int .i64 i)))]) (fun _ => []) (fun i => [oldA w]) (fun i => i ≤ xs.length) (fun i => xs.length - i) 0 rfl rfl rfl (Nat.zero_le _) ?_
 intro i hi ih
 refine gn 0 Rg.no [kCd (bitL 8 187), kCd (bitL 7 123), kLp (bitL 6 59), KI.block 0, kCd (bitL 3 7)] [(0, vS A1 xs.length c1), (1, vS A2 xs.length c2), (5, vI (↑i : Int)), (14, vB (decide ((↑i : Int) < (↑xs.length : Int))))] [] ?_
 refine spl 14 (decide ((↑i : Int) < (↑xs.length : Int))) ?_ ?_
 ·intro hb2
  replace hb2 := of_decide_eq_true hb2
  refine gn 0 (Rg.dr (bitL 10 379) (bitL 9 51) 5 2) [kCd (bitL 10 891), KI.block 1, kCd (bitL 8 251), kLp (bitL 6 59), KI.block 0, kCd (bitL 3 7)] [(0, vS A1 xs.length c1), (1, vS A2 xs.length c2), (5, vI (↑i : Int)), (17, vS A1 xs.length c1), (18, vI (↑i : Int)), (21, vS A2 xs.length c2), (22, vI (↑i : Int))] [] ?_
  refine index_at 2 (by kernel_rfl : atP _ _ _ 2 false = some (Op.indexAddr 44 (tmpO 17) (tmpO 18), 0, some 19, Rg.dr (bitL 10 379) (bitL 9 55) 4 2)) (ni := i) (sz := 1) (by kernel_rfl) rfl rfl rfl (by omega) (fun L w1 hs => rd_some (i := i) (rdRow_ext (hs.old 0 rfl) h1) (by omega)) ?_
  intro a_1 ha_1
  cases ha_1
  refine gn 0 (Rg.dr (bitL 10 379) (bitL 9 55) 4 2) [kCd (bitL 10 891), KI.block 1, kCd (bitL 8 251), kLp (bitL 6 59), KI.block 0, kCd (bitL 3 7)] [(0, vS (some a_1) xs.length c1), (1, vS A2 xs.length c2), (5, vI (↑i : Int)), (19, vP (a_1.add (i * 1))), (21, vS A2 xs.length c2), (22, vI (↑i : Int))] [] ?_
  refine index_at 6 (by kernel_rfl : atP _ _ _ 6 false = some (Op.indexAddr 44 (tmpO 21) (tmpO 22), 0, some 23, Rg.dr (bitL 10 379) (bitL 9 119) 3 2)) (ni := i) (sz := 1) (by kernel_rfl) rfl rfl rfl (by omega) (fun L w1 hs => rd_some (i := i) (rdRow_ext (hs.old 0 rfl) h2) (by omega)) ?_
  intro a_2 ha_2
  cases ha_2
  refine gn 0 (Rg.dr (bitL 10 379) (bitL 9 119) 3 2) [kCd (bitL 10 891), KI.block 1, kCd (bitL 8 251), kLp (bitL 6 59), KI.block 0, kCd (bitL 3 7)] [(0, vS (some a_1) xs.length c1), (1, vS (some a_2) xs.length c2), (5, vI (↑i : Int)), (19, vP (a_1.add (i * 1))), (23, vP (a_2.add (i * 1)))] [] ?_
  refine load_one 3 (by kernel_rfl : atP _ _ _ 3 true = some (Op.load 5 (tmpO 19), 5, some 20, Rg.dr (bitL 10 379) (bitL 9 127) 2 2)) (n := 1) (by kernel_rfl) rfl ?_
  intro L w1 hs
  refine ⟨.v (Value.int IntKind.u8 ((xs)[i]'(by omega))), rd_sc (rdRow_ext (hs.old 0 rfl) h1) (by omega), ?_⟩
  clear hs
  refine gn 0 (Rg.dr (bitL 10 379) (bitL 9 127) 2 2) [kCd (bitL 10 891), KI.block 1, kCd (bitL 8 251), kLp (bitL 6 59), KI.block 0, kCd (bitL 3 7)] [(0, vS (some a_1) xs.length c1), (1, vS (some a_2) xs.length c2), (5, vI (↑i : Int)), (20, SV.one (SC.v (Value.int IntKind.u8 xs[i]))), (23, vP (a_2.add (i * 1)))] [] ?_
  refine load_one 7 (by kernel_rfl : atP _ _ _ 7 true = some (Op.load 5 (tmpO 23), 5, some 24, Rg.dr (bitL 10 379) (bitL 9 255) 1 2)) (n := 1) (by kernel_rfl) rfl ?_
  intro L w1 hs
  refine ⟨.v (Value.int IntKind.u8 ((xs)[i]'(by omega))), rd_sc (rdRow_ext (hs.old 0 rfl) h2) (by omega), ?_⟩
  clear hs
  refine gn 0 Rg.no [kCd (bitL 10 891), KI.block 1, kCd (bitL 8 251), kLp (bitL 6 59), KI.block 0, kCd (bitL 3 7)] [(0, vS (some a_1) xs.length c1), (1, vS (some a_2) xs.length c2), (5, vI (↑i : Int)), (25, vB (xs[i] != xs[i]))] [] ?_
  refine spl 25 (xs[i] != xs[i]) ?_ ?_
  ·intro hb3
   replace hb3 := bne_iff_ne.1 hb3
   (exfalso; omega)
  ·intro hb3
   replace hb3 := bne_eq_false_iff_eq.1 hb3
   refine gn 0 Rg.no [kLp (bitL 6 59), KI.block 0, kCd (bitL 3 7)] [(0, vS (some a_1) xs.length c1), (1, vS (some a_2) xs.length c2), (5, vI (IntKind.i64.wrap ((↑i : Int) + 1)))] [] ?_
   rw [wrap_succ (by omega)]; exact ih (i + 1) (by omega) (by omega)
 ·intro hb2
  replace hb2 := of_decide_eq_false hb2
  refine gn 0 Rg.no [kCd (bitL 4 15)] [(4, vL true)] [] ?_
  refine rtk [vL true] ?_
  intro L w1 hs
  exact ⟨rfl, hs.out0⟩
theorem eqIntS_ok (xs : List Int) (v1 v2 : Value) (w : World) (h1 : rdRow kI64 w.heap xs v1) (h2 : rdRow kI64 w.heap xs v2) (hz : xs.length ≤ 1048576) :
  Calls Tryz.prog 18 #[v1, v2] w fun e w' => e = .returned (.bool true) ∧ Below w.heap.size w w' := by
 obtain ⟨A1, c1, rfl⟩ := rdRow_form h1
 obtain ⟨A2, c2, rfl⟩ := rdRow_form h2
 refine enter (args := [.one (.v (.slice A1 xs.length c1)), .one (.v (.slice A2 xs.length c2))]) Tryz.func18 (c := bodyOf Tryz.f18) rfl rfl (start_LOK _) (start_old w) ?_
 have hzl : xs.length ≤ 1048576 := by omega
 refine gn 0 Rg.no [kCd (bitL 3 5), KI.code [true, true]] [(0, vS A1 xs.length c1), (1, vS A2 xs.length c2), (10, vB ((↑xs.length : Int) != (↑xs.length : Int)))] [] ?_
 refine spl 10 ((↑xs.length : Int) != (↑xs.length : Int)) ?_ ?_
 ·intro hb1
  replace hb1 := bne_iff_ne.1 hb1
  (exfalso; omega)
 intro hb1
 replace hb1 := bne_eq_false_iff_eq.1 hb1
 refine gn 0 Rg.no [kLp (bitL 6 59), KI.block 0, kCd (bitL 3 7)] [(0, vS A1 xs.length c1), (1, vS A2 xs.length c2), (5, vI 0)] [] ?_
 refine loop_at (ι := Nat) (fun i => [(5, .one (.v (.int .i64 i)))]) (fun _ => []) (fun i => [oldA w]) (fun i => i ≤ xs.length) (fun i => xs.length - i) 0 rfl rfl rfl (Nat.zero_le _) ?_
 intro i hi ih
 refine gn 0 Rg.no [kCd (bitL 8 187), kCd (bitL 7 123), kLp (bitL 6 59), KI.block 0, kCd (bitL 3 7)] [(0, vS A1 xs.length c1), (1, vS A2 xs.length c2), (5, vI (↑i : Int)), (14, vB (decide ((↑i : Int) < (↑xs.length : Int))))] [] ?_
 refine spl 14 (decide ((↑i : Int) < (↑xs.length : Int))) ?_ ?_
 ·intro hb2
  replace hb2 := of_decide_eq_true hb2
  refine gn 0 (Rg.dr (bitL 10 379) (bitL 9 51) 5 2) [kCd (bitL 10 891), KI.block 1, kCd (bitL 8 251), kLp (bitL 6 59), KI.block 0, kCd (bitL 3 7)] [(0, vS A1 xs.length c1), (1, vS A2 xs.length c2), (5, vI (↑i : Int)), (17, vS A1 xs.length c1), (18, vI (↑i : Int)), (21, vS A2 xs.length c2), (22, vI (↑i : Int))] [] ?_
  refine index_at 2 (by kernel_rfl : atP _ _ _ 2 false = some (Op.indexAddr 37 (tmpO 17) (tmpO 18), 0, some 19, Rg.dr (bitL 10 379) (bitL 9 55) 4 2)) (ni := i) (sz := 1) (by kernel_rfl) rfl rfl rfl (by omega) (fun L w1 hs => rd_some (i := i) (rdRow_ext (hs.old 0 rfl) h1) (by omega)) ?_
  intro a_1 ha_1
  cases ha_1
  refine gn 0 (Rg.dr (bitL 10 379) (bitL 9 55) 4 2) [kCd (bitL 10 891), KI.block 1, kCd (bitL 8 251), kLp (bitL 6 59), KI.block 0, kCd (bitL 3 7)] [(0, vS (some a_1) xs.length c1), (1, vS A2 xs.length c2), (5, vI (↑i : Int)), (19, vP (a_1.add (i * 1))), (21, vS A2 xs.length c2), (22, vI (↑i : Int))] [] ?_
  refine index_at 6 (by kernel_rfl : atP _ _ _ 6 false = some (Op.indexAddr 37 (tmpO 21) (tmpO 22), 0, some 23, Rg.dr (bitL 10 379) (bitL 9 119) 3 2)) (ni := i) (sz := 1) (by kernel_rfl) rfl rfl rfl (by omega) (fun L w1 hs => rd_some (i := i) (rdRow_ext (hs.old 0 rfl) h2) (by omega)) ?_
  intro a_2 ha_2
  cases ha_2
  refine gn 0 (Rg.dr (bitL 10 379) (bitL 9 119) 3 2) [kCd (bitL 10 891), KI.block 1, kCd (bitL 8 251), kLp (bitL 6 59), KI.block 0, kCd (bitL 3 7)] [(0, vS (some a_1) xs.length c1), (1, vS (some a_2) xs.length c2), (5, vI (↑i : Int)), (19, vP (a_1.add (i * 1))), (23, vP (a_2.add (i * 1)))] [] ?_
  refine load_one 3 (by kernel_rfl : atP _ _ _ 3 true = some (Op.load 3 (tmpO 19), 3, some 20, Rg.dr (bitL 10 379) (bitL 9 127) 2 2)) (n := 1) (by kernel_rfl) rfl ?_
  intro L w1 hs
  refine ⟨.v (Value.int IntKind.i64 ((xs)[i]'(by omega))), rd_sc (rdRow_ext (hs.old 0 rfl) h1) (by omega), ?_⟩
  clear hs
  refine gn 0 (Rg.dr (bitL 10 379) (bitL 9 127) 2 2) [kCd (bitL 10 891), KI.block 1, kCd (bitL 8 251), kLp (bitL 6 59), KI.block 0, kCd (bitL 3 7)] [(0, vS (some a_1) xs.length c1), (1, vS (some a_2) xs.length c2), (5, vI (↑i : Int)), (20, vI xs[i]), (23, vP (a_2.add (i * 1)))] [] ?_
  refine load_one 7 (by kernel_rfl : atP _ _ _ 7 true = some (Op.load 3 (tmpO 23), 3, some 24, Rg.dr (bitL 10 379) (bitL 9 255) 1 2)) (n := 1) (by kernel_rfl) rfl ?_
  intro L w1 hs
  refine ⟨.v (Value.int IntKind.i64 ((xs)[i]'(by omega))), rd_sc (rdRow_ext (hs.old 0 rfl) h2) (by omega), ?_⟩
  clear hs
  refine gn 0 Rg.no [kCd (bitL 10 891), KI.block 1, kCd (bitL 8 251), kLp (bitL 6 59), KI.block 0, kCd (bitL 3 7)] [(0, vS (some a_1) xs.length c1), (1, vS (some a_2) xs.length c2), (5, vI (↑i : Int)), (25, vB (xs[i] != xs[i]))] [] ?_
  refine spl 25 (xs[i] != xs[i]) ?_ ?_
  ·intro hb3
   replace hb3 := bne_iff_ne.1 hb3
   (exfalso; omega)
  ·intro hb3
   replace hb3 := bne_eq_false_iff_eq.1 hb3
   refine gn 0 Rg.no [kLp (bitL 6 59), KI.block 0, kCd (bitL 3 7)] [(0, vS (some a_1) xs.length c1), (1, vS (some a_2) xs.length c2), (5, vI (IntKind.i64.wrap ((↑i : Int) + 1)))] [] ?_
   rw [wrap_succ (by omega)]; exact ih (i + 1) (by omega) (by omega)
 ·intro hb2
  replace hb2 := of_decide_eq_false hb2
  refine gn 0 Rg.no [kCd (bitL 4 15)] [(4, vL true)] [] ?_
  refine rtk [vL true] ?_
  intro L w1 hs
  exact ⟨rfl, hs.out0⟩
theorem eqItem_ok (x : It) (cs1 cs2 : List Value) (w : World) (h1 : kIt.rd w.heap x cs1) (h2 : kIt.rd w.heap x cs2) (hz : zIt x ≤ 1048576) :
  Calls Tryz.prog 24 #[.agg cs1.toArray, .agg cs2.toArray] w fun e w' => e = .returned (.bool true) ∧ Below w.heap.size w w' := by
 obtain ⟨b1f, A1t, c1t, rfl, hb1f, hf1f, hr1t⟩ := kIt_inv h1
 obtain ⟨b2f, A2t, c2t, rfl, hb2f, hf2f, hr2t⟩ := kIt_inv h2
 have hzz : zIt x = x.t.length := rfl
 refine enter (args := [.agg [.v (.int .i64 x.kind), .v (.int .i64 x.n), .v (.float .f64 b1f), .v (.slice A1t x.t.length c1t)], .agg [.v (.int .i64 x.kind), .v (.int .i64 x.n), .v (.float .f64 b2f), .v (.slice A2t x.t.length c2t)]]) Tryz.func24 (c := bodyOf Tryz.f24) rfl rfl (start_LOK _) (start_old w) ?_
 refine gn 2 Rg.no [kCd (bitL 3 5), KI.code [true, true]] [(2, vR 0 0), (3, vR 1 0), (9, vB (x.kind != x.kind))] [LB.mk [cI x.kind, cI x.n, cF b1f, cS A1t x.t.length c1t] 49, LB.mk [cI x.kind, cI x.n, cF b2f, cS A2t x.t.length c2t] 49] ?_
 refine spl 9 (x.kind != x.kind) ?_ ?_
 ·intro hb1
  replace hb1 := bne_iff_ne.1 hb1
  (exfalso; omega)
 ·intro hb1
  replace hb1 := bne_eq_false_iff_eq.1 hb1
  refine gn 2 Rg.no [kCd (bitL 4 11), kCd (bitL 3 7)] [(2, vR 0 0), (3, vR 1 0), (14, vB (x.n != x.n))] [LB.mk [cI x.kind, cI x.n, cF b1f, cS A1t x.t.length c1t] 49, LB.mk [cI x.kind, cI x.n, cF b2f, cS A2t x.t.length c2t] 49] ?_
  refine spl 14 (x.n != x.n) ?_ ?_
  ·intro hb2
   replace hb2 := bne_iff_ne.1 hb2
   (exfalso; omega)
  ·intro hb2
   replace hb2 := bne_eq_false_iff_eq.1 hb2
   refine gn 2 (Rg.sq (bitL 5 7) 4) [kCd (bitL 5 23), kCd (bitL 4 15)] [(2, vR 0 0), (3, vR 1 0), (16, SV.one (cF b1f)), (18, SV.one (cF b2f))] [LB.mk [cI x.kind, cI x.n, cF b1f, cS A1t x.t.length c1t] 49, LB.mk [cI x.kind, cI x.n, cF b2f, cS A2t x.t.length c2t] 49] ?_
   refine cpk 47 [SV.one (cF b1f), SV.one (cF b2f)] (some 19) (Rg.sq (bitL 5 7) 5) (.one (.bo (true))) (fun L w1 hs => (sameFloat_ok (b1f) (b2f) (x.f) w1 ‹_› ‹_› hf1f ‹_›)) ?_
   refine gn 2 Rg.no [kCd (bitL 5 23), kCd (bitL 4 15)] [(2, vR 0 0), (3, vR 1 0), (20, vB false)] [LB.mk [cI x.kind, cI x.n, cF b1f, cS A1t x.t.length c1t] 49, LB.mk [cI x.kind, cI x.n, cF b2f, cS A2t x.t.length c2t] 49] ?_
   refine ltk 20 false ?_
   refine gn 0 (Rg.sq (bitL 6 15) 4) [kCd (bitL 6 47), kCd (bitL 5 31)] [(22, vS A1t x.t.length c1t), (24, vS A2t x.t.length c2t)] [] ?_
   refine cpk 48 [vS A1t x.t.length c1t, vS A2t x.t.length c2t] (some 25) (Rg.sq (bitL 6 15) 5) (.one (.bo (true))) (fun L w1 hs => (eqByteS_ok (x.t) (Value.slice A1t x.t.length c1t) (Value.slice A2t x.t.length c2t) w1 (rdRow_ext (hs.old 0 rfl) hr1t) (rdRow_ext (hs.old 0 rfl) hr2t) ‹_›)) ?_
   refine gn 0 Rg.no [kCd (bitL 6 47), kCd (bitL 5 31)] [(26, vB false)] [] ?_
   refine ltk 26 false ?_
   refine gn 0 Rg.no [kCd (bitL 6 63)] [(4, vL true)] [] ?_
   refine rtk [vL true] ?_
   intro L w1 hs
   exact ⟨rfl, hs.out0⟩
end Go.Proofs.YtgleoebogikooaaGreat.Dk
