/- Walks of functions of the program: what each call returns and what it leaves in memory. Conditions: those that each theorem names. -/
import Derived.Test.YtgleoebogikooaaGreatA3
namespace Go.Proofs.YtgleoebogikooaaGreat.Dk
set_option linter.unusedVariables false
set_option linter.unusedSimpArgs false
open Go.Proofs.YtgleoebogikooaaGreat.Sx Go.Proofs Go.RowKit
set_option maxRecDepth 100000
set_option maxHeartbeats 1000000
theorem fbA {s k g bx : Nat} (hs : s = 0 ∨ s = 9223372036854775808) (hg : g < 4503599627370496) (hk : k < 1024) (hb : bx = s + (k + 1023) * 4503599627370496 + g) :
  Go.bits .or .u64 (Go.bits .or .u64 (s : Int) (IntKind.u64.wrap (IntKind.u64.wrap (IntKind.i64.wrap ((k : Int) + 1023)) * 2 ^ min (Int.toNat 52) IntKind.u64.bits))) (g : Int) = (bx : Int) := by
 have w1 : IntKind.u64.wrap (IntKind.u64.wrap (IntKind.i64.wrap ((k : Int) + 1023)) * 2 ^ min (Int.toNat 52) IntKind.u64.bits) = (((k + 1023) * 4503599627370496 : Nat) : Int) := by
  rw [show (2 : Int) ^ min (Int.toNat 52) IntKind.u64.bits = 4503599627370496 by decide, IntKind.wrap_u64, IntKind.wrap_u64, IntKind.wrap_i64]
  omega
 rw [w1, hb]
 exact (fb_or2 (s := s) (e := k + 1023) (f := g) hs (by omega) hg).trans (congrArg (fun z : Nat => (z : Int)) (by omega))
theorem fbB {s g bx : Nat} (hs : s = 0 ∨ s = 9223372036854775808) (hg : g < 4503599627370496) (hb : bx = s + g) : Go.bits .or .u64 (s : Int) (g : Int) = (bx : Int) := by
 rw [hb]; exact fb_or hs (by omega)
theorem fbC {s k g bx : Nat} (hs : s = 0 ∨ s = 9223372036854775808) (hg : g < 4503599627370496) (hk : k ≤ 1022) (hb : bx + k * 4503599627370496 = s + 1023 * 4503599627370496 + g) :
  Go.bits .or .u64 (Go.bits .or .u64 (s : Int) (IntKind.u64.wrap (IntKind.u64.wrap (IntKind.i64.wrap (-(k : Int) + 1023)) * 2 ^ min (Int.toNat 52) IntKind.u64.bits))) (g : Int) = (bx : Int) := by
 have w1 : IntKind.u64.wrap (IntKind.u64.wrap (IntKind.i64.wrap (-(k : Int) + 1023)) * 2 ^ min (Int.toNat 52) IntKind.u64.bits) = (((1023 - k) * 4503599627370496 : Nat) : Int) := by
  rw [show (2 : Int) ^ min (Int.toNat 52) IntKind.u64.bits = 4503599627370496 by decide, IntKind.wrap_u64, IntKind.wrap_u64, IntKind.wrap_i64]
  omega
 rw [w1, show bx = s + (1023 - k) * 4503599627370496 + g by omega]
 exact (fb_or2 (s := s) (e := 1023 - k) (f := g) hs (by omega) hg).trans (congrArg (fun z : Nat => (z : Int)) (by omega))
theorem fbTail (bx : Nat) (w : World) (s x : Nat) (hsg : s = 0 ∨ s = 9223372036854775808) (h0 : 0 < x) (hx : x < 9218868437227405312) (hb : bx = s + x) :
  Holds ⟨Tryz.prog, Tryz.f66, bodyOf Tryz.f66, fun e w' => e = .returned (.int .u64 (bx : Int)) ∧ Below w.heap.size w w', w, []⟩ [oldA w]
   ⟨.no, [KI.loop [true, true, true, true, true, true, true, true, false, true, true], KI.block 0, KI.code [true, true, true, true, true, true, true, true, true]], [(3, .one (.v (.int .u64 s))), (4, .one (.v (.float .f64 x))), (5, .one (.v (.int .i64 0)))], []⟩ := by
 refine loop_at (ι := Nat × Nat) (fun s => [(4, .one (.v (.float .f64 s.2))), (5, .one (.v (.int .i64 s.1)))]) (fun _ => []) (fun _ => [oldA w]) (fun s => (4607182418800017408 ≤ x ∧ s.2 + s.1 * 4503599627370496 = x ∧ 4607182418800017408 ≤ s.2) ∨ (x < 4607182418800017408 ∧ s.1 = 0 ∧ s.2 = x)) (fun s => s.2) (0, x) rfl rfl rfl (by show (4607182418800017408 ≤ x ∧ x + 0 * 4503599627370496 = x ∧ 4607182418800017408 ≤ x) ∨ (x < 4607182418800017408 ∧ 0 = 0 ∧ x = x); omega) ?_
 rintro ⟨k, y⟩ hi ih
 simp only at hi ih ⊢
 have hy : y < 9218868437227405312 := by omega
 have q1 := fl_geq2 (x := y) hy
 by_cases h2 : 4611686018427387904 ≤ y
 ·rw [decide_eq_true h2] at q1
  obtain ⟨z, hz⟩ : ∃ z, z = y - 4503599627370496 := ⟨_, rfl⟩
  have q2 : HFloat.floatBits' .quo .f64 y 4611686018427387904 = some z := by rw [hz]; exact HFloat.div_two h2 hy
  refine gn 0 Rg.no [kCd (bitL 13 5887), kCd (bitL 12 3839), kLp (bitL 11 1791), KI.block 0, kCd (bitL 9 511)] [(3, SV.one (SC.v (Value.int IntKind.u64 (↑s : Int)))), (4, SV.one (cF y)), (5, vI (↑k : Int)), (31, vB (FloatKind.f64.format.order y 4611686018427387904 == some Ordering.gt || FloatKind.f64.format.order y 4611686018427387904 == some Ordering.eq))] [] ?_
  try simp only [flx, q1]
  refine gn 0 Rg.no [kCd (bitL 13 5887), kCd (bitL 12 3839), kLp (bitL 11 1791), KI.block 0, kCd (bitL 9 511)] [(3, SV.one (SC.v (Value.int IntKind.u64 (↑s : Int)))), (4, SV.one (cF y)), (5, vI (↑k : Int)), (31, vB true)] [] ?_
  refine ltk 31 true ?_
  refine gn 0 (Rg.sq (bitL 14 7935) 1) [kCd (bitL 14 16127), KI.block 1, kLp (bitL 11 1791), KI.block 0, kCd (bitL 9 511)] [(3, SV.one (SC.v (Value.int IntKind.u64 (↑s : Int)))), (5, vI (↑k : Int)), (32, SV.one (cF y))] [] ?_
  refine fop_at 1 (by kernel_rfl : atP _ _ _ 1 false = some (Op.binOp BinOp.quo 43 (tmpO 32) (Operand.const (Value.float FloatKind.f64 4611686018427387904)) 43, 43, some 33, Rg.sq (bitL 14 7935) 2)) rfl rfl q2 ?_
  refine gn 0 Rg.no [kLp (bitL 11 1791), KI.block 0, kCd (bitL 9 511)] [(3, SV.one (SC.v (Value.int IntKind.u64 (↑s : Int)))), (4, SV.one (cF z)), (5, vI (IntKind.i64.wrap ((↑k : Int) + 1)))] [] ?_
  rw [wrap_succ (by omega)]; exact ih (k + 1, z) (by simp only; omega) (by simp only; omega)
 rw [decide_eq_false h2] at q1
 have q3 := fl_lt1 (x := y) hy
 by_cases h3 : 4607182418800017408 ≤ y
 ·rw [decide_eq_false (by omega)] at q3
  obtain ⟨g, hg, hyg⟩ : ∃ g, g < 4503599627370496 ∧ y = 4607182418800017408 + g := ⟨y - 4607182418800017408, by omega, by omega⟩
  have p3 : HFloat.floatBits' .sub .f64 y 4607182418800017408 = some (HFloat.dbls 1022 g) := by rw [hyg]; exact HFloat.sub_one hg
  have p4 : HFloat.floatBits' .mul .f64 (HFloat.dbls 1022 g) 4841369599423283200 = some (HFloat.whole g) := HFloat.mul_big hg
  have p5 := HFloat.floor_whole hg
  refine gn 0 Rg.no [kCd (bitL 13 5887), kCd (bitL 12 3839), kLp (bitL 11 1791), KI.block 0, kCd (bitL 9 511)] [(3, SV.one (SC.v (Value.int IntKind.u64 (↑s : Int)))), (4, SV.one (cF y)), (5, vI (↑k : Int)), (31, vB (FloatKind.f64.format.order y 4611686018427387904 == some Ordering.gt || FloatKind.f64.format.order y 4611686018427387904 == some Ordering.eq))] [] ?_
  try simp only [flx, q1, q3]
  refine gn 0 Rg.no [kCd (bitL 13 5887), kCd (bitL 12 3839), kLp (bitL 11 1791), KI.block 0, kCd (bitL 9 511)] [(3, SV.one (SC.v (Value.int IntKind.u64 (↑s : Int)))), (4, SV.one (cF y)), (5, vI (↑k : Int)), (31, vB false)] [] ?_
  refine ltk 31 false ?_
  refine gn 0 Rg.no [kLp (bitL 12 3583), KI.block 2, kCd (bitL 10 1023)] [(3, SV.one (SC.v (Value.int IntKind.u64 (↑s : Int)))), (4, SV.one (cF y)), (5, vI (↑k : Int))] [] ?_
  refine round_at ?_
  refine gn 0 (Rg.sq (bitL 14 3583) 3) [kCd (bitL 14 11775), kCd (bitL 13 7679), kLp (bitL 12 3583), KI.block 2, kCd (bitL 10 1023)] [(3, SV.one (SC.v (Value.int IntKind.u64 (↑s : Int)))), (4, SV.one (cF y)), (5, vI (↑k : Int)), (38, vB (FloatKind.f64.format.order y 4607182418800017408 == some Ordering.lt))] [] ?_
  try simp only [flx, q1, q3]
  refine gn 0 (Rg.sq (bitL 14 3583) 3) [kCd (bitL 14 11775), kCd (bitL 13 7679), kLp (bitL 12 3583), KI.block 2, kCd (bitL 10 1023)] [(3, SV.one (SC.v (Value.int IntKind.u64 (↑s : Int)))), (4, SV.one (cF y)), (5, vI (↑k : Int)), (38, vB false)] [] ?_
  refine ltk 38 false ?_
  refine gn 0 Rg.no [kCd (bitL 12 3071), kCd (bitL 11 2047)] [(3, SV.one (SC.v (Value.int IntKind.u64 (↑s : Int)))), (4, SV.one (cF y)), (5, vI (↑k : Int)), (47, vB (FloatKind.f64.format.order y 4607182418800017408 == some Ordering.lt))] [] ?_
  try simp only [flx, q1, q3]
  refine gn 0 Rg.no [kCd (bitL 12 3071), kCd (bitL 11 2047)] [(3, SV.one (SC.v (Value.int IntKind.u64 (↑s : Int)))), (4, SV.one (cF y)), (5, vI (↑k : Int)), (47, vB false)] [] ?_
  refine ltk 47 false ?_
  refine gn 0 (Rg.sq (bitL 12 2047) 7) [kCd (bitL 12 4095)] [(58, SV.one (SC.v (Value.int IntKind.u64 (IntKind.u64.wrap (↑(BitVec.ofInt IntKind.u64.bits (↑s : Int) ||| BitVec.ofInt IntKind.u64.bits (IntKind.u64.wrap (IntKind.u64.wrap (IntKind.i64.wrap ((↑k : Int) + 1023)) * 2 ^ min (Int.toNat 52) IntKind.u64.bits))).toNat : Int))))), (59, SV.one (cF y))] [] ?_
  refine fop_at 7 (by kernel_rfl : atP _ _ _ 7 false = some (Op.binOp BinOp.sub 43 (tmpO 59) (Operand.const (Value.float FloatKind.f64 4607182418800017408)) 43, 43, some 60, Rg.sq (bitL 12 2047) 8)) rfl rfl p3 ?_
  refine gn 0 (Rg.sq (bitL 12 2047) 8) [kCd (bitL 12 4095)] [(58, SV.one (SC.v (Value.int IntKind.u64 (IntKind.u64.wrap (↑(BitVec.ofInt IntKind.u64.bits (↑s : Int) ||| BitVec.ofInt IntKind.u64.bits (IntKind.u64.wrap (IntKind.u64.wrap (IntKind.i64.wrap ((↑k : Int) + 1023)) * 2 ^ min (Int.toNat 52) IntKind.u64.bits))).toNat : Int))))), (60, SV.one (cF (HFloat.dbls 1022 g)))] [] ?_
  refine fop_at 8 (by kernel_rfl : atP _ _ _ 8 false = some (Op.binOp BinOp.mul 43 (tmpO 60) (Operand.const (Value.float FloatKind.f64 4841369599423283200)) 43, 43, some 61, Rg.sq (bitL 12 2047) 9)) rfl rfl p4 ?_
  refine gn 0 (Rg.sq (bitL 12 2047) 9) [kCd (bitL 12 4095)] [(58, SV.one (SC.v (Value.int IntKind.u64 (IntKind.u64.wrap (↑(BitVec.ofInt IntKind.u64.bits (↑s : Int) ||| BitVec.ofInt IntKind.u64.bits (IntKind.u64.wrap (IntKind.u64.wrap (IntKind.i64.wrap ((↑k : Int) + 1023)) * 2 ^ min (Int.toNat 52) IntKind.u64.bits))).toNat : Int))))), (61, SV.one (cF (HFloat.whole g)))] [] ?_
  refine conv_at 9 (by kernel_rfl : atP _ _ _ 9 false = some (Op.convert 43 93 (tmpO 61), 93, some 62, Rg.sq (bitL 12 2047) 10)) (by kernel_rfl) (by kernel_rfl) rfl p5 ?_
  refine gn 0 Rg.no [kCd (bitL 12 4095)] [(2, SV.one (SC.v (Value.int IntKind.u64 (IntKind.u64.wrap (↑(BitVec.ofInt IntKind.u64.bits (IntKind.u64.wrap (↑(BitVec.ofInt IntKind.u64.bits (↑s : Int) ||| BitVec.ofInt IntKind.u64.bits (IntKind.u64.wrap (IntKind.u64.wrap (IntKind.i64.wrap ((↑k : Int) + 1023)) * 2 ^ min (Int.toNat 52) IntKind.u64.bits))).toNat : Int)) ||| BitVec.ofInt IntKind.u64.bits (↑g : Int)).toNat : Int)))))] [] ?_
  refine rtk [SV.one (SC.v (Value.int IntKind.u64 (IntKind.u64.wrap (↑(BitVec.ofInt IntKind.u64.bits (IntKind.u64.wrap (↑(BitVec.ofInt IntKind.u64.bits (↑s : Int) ||| BitVec.ofInt IntKind.u64.bits (IntKind.u64.wrap (IntKind.u64.wrap (IntKind.i64.wrap ((↑k : Int) + 1023)) * 2 ^ min (Int.toNat 52) IntKind.u64.bits))).toNat : Int)) ||| BitVec.ofInt IntKind.u64.bits (↑g : Int)).toNat : Int))))] ?_
  intro L w1 hs
  exact ⟨retI (fbA hsg hg (by omega) (by omega)), hs.out0⟩
 obtain ⟨rfl, rfl⟩ : k = 0 ∧ y = x := by omega
 refine gn 0 Rg.no [kCd (bitL 13 5887), kCd (bitL 12 3839), kLp (bitL 11 1791), KI.block 0, kCd (bitL 9 511)] [(3, SV.one (SC.v (Value.int IntKind.u64 (↑s : Int)))), (4, SV.one (cF y)), (5, vI 0), (31, vB (FloatKind.f64.format.order y 4611686018427387904 == some Ordering.gt || FloatKind.f64.format.order y 4611686018427387904 == some Ordering.eq))] [] ?_
 try simp only [flx, q1, q3]
 refine gn 0 Rg.no [kCd (bitL 13 5887), kCd (bitL 12 3839), kLp (bitL 11 1791), KI.block 0, kCd (bitL 9 511)] [(3, SV.one (SC.v (Value.int IntKind.u64 (↑s : Int)))), (4, SV.one (cF y)), (5, vI 0), (31, vB false)] [] ?_
 refine ltk 31 false ?_
 refine gn 0 Rg.no [kLp (bitL 12 3583), KI.block 2, kCd (bitL 10 1023)] [(3, SV.one (SC.v (Value.int IntKind.u64 (↑s : Int)))), (4, SV.one (cF y)), (5, vI 0)] [] ?_
 clear ih hi q1
 refine loop_at (ι := Nat) (fun k => [(4, .one (.v (.float .f64 (HFloat.dbls k y)))), (5, .one (.v (.int .i64 (-(k : Int)))))]) (fun _ => []) (fun _ => [oldA w]) (fun k => k ≤ 1022 ∧ (0 < k → HFloat.dbls k y < 4611686018427387904)) (fun k => 1022 - k) 0 rfl rfl rfl ⟨by omega, fun h => by omega⟩ ?_
 intro k hk ih
 obtain ⟨hk, hk2⟩ := hk
 have hdn : 4503599627370496 ≤ y → HFloat.dbls k y = y + k * 4503599627370496 := fun h => fb_dbls h k
 have hds : y < 4503599627370496 → HFloat.dbls k y < 4607182418800017408 := fun h => HFloat.dbls_lt h hk
 have hd2 : HFloat.dbls k y < 4611686018427387904 := by
  rcases Nat.eq_zero_or_pos k with rfl | h
  ·show y < _; omega
  ·exact hk2 h
 have q4 := fl_lt1 (x := HFloat.dbls k y) (by omega)
 by_cases h5 : HFloat.dbls k y < 4607182418800017408
 ·rw [decide_eq_true h5] at q4
  by_cases h6 : k < 1022
  ·have hdb : HFloat.dbl (HFloat.dbls k y) < 4611686018427387904 := by
    unfold HFloat.dbl; split <;> omega
   have p6 : HFloat.floatBits' .mul .f64 (HFloat.dbls k y) 4611686018427387904 = some (HFloat.dbls (k + 1) y) := by
    rw [HFloat.dbls_succ]
    exact HFloat.mul_two (by omega)
   refine gn 0 (Rg.sq (bitL 14 3583) 3) [kCd (bitL 14 11775), kCd (bitL 13 7679), kLp (bitL 12 3583), KI.block 2, kCd (bitL 10 1023)] [(3, SV.one (SC.v (Value.int IntKind.u64 (↑s : Int)))), (4, SV.one (cF (HFloat.dbls k y))), (5, vI (-(↑k : Int))), (38, vB (FloatKind.f64.format.order (HFloat.dbls k y) 4607182418800017408 == some Ordering.lt))] [] ?_
   try simp only [flx, q3, q4]
   refine gn 0 (Rg.sq (bitL 14 3583) 3) [kCd (bitL 14 11775), kCd (bitL 13 7679), kLp (bitL 12 3583), KI.block 2, kCd (bitL 10 1023)] [(3, SV.one (SC.v (Value.int IntKind.u64 (↑s : Int)))), (4, SV.one (cF (HFloat.dbls k y))), (5, vI (-(↑k : Int))), (38, vB true)] [] ?_
   refine ltk 38 true ?_
   refine gn 0 Rg.no [kCd (bitL 14 11775), kCd (bitL 13 7679), kLp (bitL 12 3583), KI.block 2, kCd (bitL 10 1023)] [(3, SV.one (SC.v (Value.int IntKind.u64 (↑s : Int)))), (4, SV.one (cF (HFloat.dbls k y))), (5, vI (-(↑k : Int))), (41, vB (decide (-(↑k : Int) > -1022)))] [] ?_
   refine spl 41 (decide (-(↑k : Int) > -1022)) ?_ ?_
   ·intro hb1
    replace hb1 := of_decide_eq_true hb1
    refine gn 0 (Rg.sq (bitL 15 15871) 1) [kCd (bitL 15 32255), KI.block 3, kLp (bitL 12 3583), KI.block 2, kCd (bitL 10 1023)] [(3, SV.one (SC.v (Value.int IntKind.u64 (↑s : Int)))), (5, vI (-(↑k : Int))), (42, SV.one (cF (HFloat.dbls k y)))] [] ?_
    refine fop_at 1 (by kernel_rfl : atP _ _ _ 1 false = some (Op.binOp BinOp.mul 43 (tmpO 42) (Operand.const (Value.float FloatKind.f64 4611686018427387904)) 43, 43, some 43, Rg.sq (bitL 15 15871) 2)) rfl rfl p6 ?_
    refine gn 0 Rg.no [kLp (bitL 12 3583), KI.block 2, kCd (bitL 10 1023)] [(3, SV.one (SC.v (Value.int IntKind.u64 (↑s : Int)))), (4, SV.one (cF (HFloat.dbls (k + 1) y))), (5, vI (IntKind.i64.wrap (-(↑k : Int) - 1)))] [] ?_
    rw [show IntKind.i64.wrap (-(k : Int) - 1) = -((k + 1 : Nat) : Int) by rw [IntKind.wrap_i64]; omega]; exact ih (k + 1) ⟨by omega, fun _ => by rw [HFloat.dbls_succ]; exact hdb⟩ (by omega)
   ·intro hb1
    replace hb1 := of_decide_eq_false hb1
    (exfalso; omega)
  obtain rfl : k = 1022 := by omega
  have hyl : y < 4503599627370496 := by
   rcases Nat.lt_or_ge y 4503599627370496 with h | h
   ·exact h
   ·have := hdn h; omega
  have p4 : HFloat.floatBits' .mul .f64 (HFloat.dbls 1022 y) 4841369599423283200 = some (HFloat.whole y) := HFloat.mul_big hyl
  have p5 := HFloat.floor_whole hyl
  refine gn 0 (Rg.sq (bitL 14 3583) 3) [kCd (bitL 14 11775), kCd (bitL 13 7679), kLp (bitL 12 3583), KI.block 2, kCd (bitL 10 1023)] [(3, SV.one (SC.v (Value.int IntKind.u64 (↑s : Int)))), (4, SV.one (cF (HFloat.dbls 1022 y))), (5, vI (-1022)), (38, vB (FloatKind.f64.format.order (HFloat.dbls 1022 y) 4607182418800017408 == some Ordering.lt))] [] ?_
  try simp only [flx, q3, q4]
  refine gn 0 (Rg.sq (bitL 14 3583) 3) [kCd (bitL 14 11775), kCd (bitL 13 7679), kLp (bitL 12 3583), KI.block 2, kCd (bitL 10 1023)] [(3, SV.one (SC.v (Value.int IntKind.u64 (↑s : Int)))), (4, SV.one (cF (HFloat.dbls 1022 y))), (5, vI (-1022)), (38, vB true)] [] ?_
  refine ltk 38 true ?_
  refine gn 0 Rg.no [kCd (bitL 14 11775), kCd (bitL 13 7679), kLp (bitL 12 3583), KI.block 2, kCd (bitL 10 1023)] [(3, SV.one (SC.v (Value.int IntKind.u64 (↑s : Int)))), (4, SV.one (cF (HFloat.dbls 1022 y))), (5, vI (-1022)), (41, vB false)] [] ?_
  refine ltk 41 false ?_
  refine gn 0 Rg.no [kCd (bitL 12 3071), kCd (bitL 11 2047)] [(3, SV.one (SC.v (Value.int IntKind.u64 (↑s : Int)))), (4, SV.one (cF (HFloat.dbls 1022 y))), (5, vI (-1022)), (47, vB (FloatKind.f64.format.order (HFloat.dbls 1022 y) 4607182418800017408 == some Ordering.lt))] [] ?_
  try simp only [flx, q3, q4]
  refine gn 0 Rg.no [kCd (bitL 12 3071), kCd (bitL 11 2047)] [(3, SV.one (SC.v (Value.int IntKind.u64 (↑s : Int)))), (4, SV.one (cF (HFloat.dbls 1022 y))), (5, vI (-1022)), (47, vB true)] [] ?_
  refine ltk 47 true ?_
  refine gn 0 (Rg.sq (bitL 14 3071) 2) [kCd (bitL 14 11263), kCd (bitL 11 2047)] [(48, SV.one (SC.v (Value.int IntKind.u64 (↑s : Int)))), (49, SV.one (cF (HFloat.dbls 1022 y)))] [] ?_
  refine fop_at 2 (by kernel_rfl : atP _ _ _ 2 false = some (Op.binOp BinOp.mul 43 (tmpO 49) (Operand.const (Value.float FloatKind.f64 4841369599423283200)) 43, 43, some 50, Rg.sq (bitL 14 3071) 3)) rfl rfl p4 ?_
  refine gn 0 (Rg.sq (bitL 14 3071) 3) [kCd (bitL 14 11263), kCd (bitL 11 2047)] [(48, SV.one (SC.v (Value.int IntKind.u64 (↑s : Int)))), (50, SV.one (cF (HFloat.whole y)))] [] ?_
  refine conv_at 3 (by kernel_rfl : atP _ _ _ 3 false = some (Op.convert 43 93 (tmpO 50), 93, some 51, Rg.sq (bitL 14 3071) 4)) (by kernel_rfl) (by kernel_rfl) rfl p5 ?_
  refine gn 0 Rg.no [kCd (bitL 14 11263), kCd (bitL 11 2047)] [(2, SV.one (SC.v (Value.int IntKind.u64 (IntKind.u64.wrap (↑(BitVec.ofInt IntKind.u64.bits (↑s : Int) ||| BitVec.ofInt IntKind.u64.bits (↑y : Int)).toNat : Int)))))] [] ?_
  refine rtk [SV.one (SC.v (Value.int IntKind.u64 (IntKind.u64.wrap (↑(BitVec.ofInt IntKind.u64.bits (↑s : Int) ||| BitVec.ofInt IntKind.u64.bits (↑y : Int)).toNat : Int))))] ?_
  intro L w1 hs
  exact ⟨retI (fbB hsg hyl (by omega)), hs.out0⟩
 rw [decide_eq_false h5] at q4
 have hyl : 4503599627370496 ≤ y := by
  rcases Nat.lt_or_ge y 4503599627370496 with h | h
  ·have := hds h; omega
  ·exact h
 obtain ⟨g, hg, hge⟩ : ∃ g, g < 4503599627370496 ∧ HFloat.dbls k y = 4607182418800017408 + g := ⟨HFloat.dbls k y - 4607182418800017408, by omega, by omega⟩
 have hkn : k ≤ 1022 := hk
 have hgy := hdn hyl
 generalize HFloat.dbls k y = z at *
 have p3 : HFloat.floatBits' .sub .f64 z 4607182418800017408 = some (HFloat.dbls 1022 g) := by rw [hge]; exact HFloat.sub_one hg
 have p4 : HFloat.floatBits' .mul .f64 (HFloat.dbls 1022 g) 4841369599423283200 = some (HFloat.whole g) := HFloat.mul_big hg
 have p5 := HFloat.floor_whole hg
 refine gn 0 (Rg.sq (bitL 14 3583) 3) [kCd (bitL 14 11775), kCd (bitL 13 7679), kLp (bitL 12 3583), KI.block 2, kCd (bitL 10 1023)] [(3, SV.one (SC.v (Value.int IntKind.u64 (↑s : Int)))), (4, SV.one (cF z)), (5, vI (-(↑k : Int))), (38, vB (FloatKind.f64.format.order z 4607182418800017408 == some Ordering.lt))] [] ?_
 try simp only [flx, q3, q4]
 refine gn 0 (Rg.sq (bitL 14 3583) 3) [kCd (bitL 14 11775), kCd (bitL 13 7679), kLp (bitL 12 3583), KI.block 2, kCd (bitL 10 1023)] [(3, SV.one (SC.v (Value.int IntKind.u64 (↑s : Int)))), (4, SV.one (cF z)), (5, vI (-(↑k : Int))), (38, vB false)] [] ?_
 refine ltk 38 false ?_
 refine gn 0 Rg.no [kCd (bitL 12 3071), kCd (bitL 11 2047)] [(3, SV.one (SC.v (Value.int IntKind.u64 (↑s : Int)))), (4, SV.one (cF z)), (5, vI (-(↑k : Int))), (47, vB (FloatKind.f64.format.order z 4607182418800017408 == some Ordering.lt))] [] ?_
 try simp only [flx, q3, q4]
 refine gn 0 Rg.no [kCd (bitL 12 3071), kCd (bitL 11 2047)] [(3, SV.one (SC.v (Value.int IntKind.u64 (↑s : Int)))), (4, SV.one (cF z)), (5, vI (-(↑k : Int))), (47, vB false)] [] ?_
 refine ltk 47 false ?_
 refine gn 0 (Rg.sq (bitL 12 2047) 7) [kCd (bitL 12 4095)] [(58, SV.one (SC.v (Value.int IntKind.u64 (IntKind.u64.wrap (↑(BitVec.ofInt IntKind.u64.bits (↑s : Int) ||| BitVec.ofInt IntKind.u64.bits (IntKind.u64.wrap (IntKind.u64.wrap (IntKind.i64.wrap (-(↑k : Int) + 1023)) * 2 ^ min (Int.toNat 52) IntKind.u64.bits))).toNat : Int))))), (59, SV.one (cF z))] [] ?_
 refine fop_at 7 (by kernel_rfl : atP _ _ _ 7 false = some (Op.binOp BinOp.sub 43 (tmpO 59) (Operand.const (Value.float FloatKind.f64 4607182418800017408)) 43, 43, some 60, Rg.sq (bitL 12 2047) 8)) rfl rfl p3 ?_
 refine gn 0 (Rg.sq (bitL 12 2047) 8) [kCd (bitL 12 4095)] [(58, SV.one (SC.v (Value.int IntKind.u64 (IntKind.u64.wrap (↑(BitVec.ofInt IntKind.u64.bits (↑s : Int) ||| BitVec.ofInt IntKind.u64.bits (IntKind.u64.wrap (IntKind.u64.wrap (IntKind.i64.wrap (-(↑k : Int) + 1023)) * 2 ^ min (Int.toNat 52) IntKind.u64.bits))).toNat : Int))))), (60, SV.one (cF (HFloat.dbls 1022 g)))] [] ?_
 refine fop_at 8 (by kernel_rfl : atP _ _ _ 8 false = some (Op.binOp BinOp.mul 43 (tmpO 60) (Operand.const (Value.float FloatKind.f64 4841369599423283200)) 43, 43, some 61, Rg.sq (bitL 12 2047) 9)) rfl rfl p4 ?_
 refine gn 0 (Rg.sq (bitL 12 2047) 9) [kCd (bitL 12 4095)] [(58, SV.one (SC.v (Value.int IntKind.u64 (IntKind.u64.wrap (↑(BitVec.ofInt IntKind.u64.bits (↑s : Int) ||| BitVec.ofInt IntKind.u64.bits (IntKind.u64.wrap (IntKind.u64.wrap (IntKind.i64.wrap (-(↑k : Int) + 1023)) * 2 ^ min (Int.toNat 52) IntKind.u64.bits))).toNat : Int))))), (61, SV.one (cF (HFloat.whole g)))] [] ?_
 refine conv_at 9 (by kernel_rfl : atP _ _ _ 9 false = some (Op.convert 43 93 (tmpO 61), 93, some 62, Rg.sq (bitL 12 2047) 10)) (by kernel_rfl) (by kernel_rfl) rfl p5 ?_
 refine gn 0 Rg.no [kCd (bitL 12 4095)] [(2, SV.one (SC.v (Value.int IntKind.u64 (IntKind.u64.wrap (↑(BitVec.ofInt IntKind.u64.bits (IntKind.u64.wrap (↑(BitVec.ofInt IntKind.u64.bits (↑s : Int) ||| BitVec.ofInt IntKind.u64.bits (IntKind.u64.wrap (IntKind.u64.wrap (IntKind.i64.wrap (-(↑k : Int) + 1023)) * 2 ^ min (Int.toNat 52) IntKind.u64.bits))).toNat : Int)) ||| BitVec.ofInt IntKind.u64.bits (↑g : Int)).toNat : Int)))))] [] ?_
 refine rtk [SV.one (SC.v (Value.int IntKind.u64 (IntKind.u64.wrap (↑(BitVec.ofInt IntKind.u64.bits (IntKind.u64.wrap (↑(BitVec.ofInt IntKind.u64.bits (↑s : Int) ||| BitVec.ofInt IntKind.u64.bits (IntKind.u64.wrap (IntKind.u64.wrap (IntKind.i64.wrap (-(↑k : Int) + 1023)) * 2 ^ min (Int.toNat 52) IntKind.u64.bits))).toNat : Int)) ||| BitVec.ofInt IntKind.u64.bits (↑g : Int)).toNat : Int))))] ?_
 intro L w1 hs
 exact ⟨retI (fbC hsg hg hkn (by omega)), hs.out0⟩
theorem sFloatBits_ok (bx : Nat) (w : World) (hbx : bx < 18446744073709551616) :
  Calls Tryz.prog 66 #[.float .f64 bx] w fun e w' => e = .returned (.int .u64 ((canonF bx : Nat) : Int)) ∧ Below w.heap.size w w' := by
 refine enter (args := [.one (.v (.float .f64 bx))]) Tryz.func66 (c := bodyOf Tryz.f66) rfl rfl (start_LOK _) (start_old w) ?_
 rcases canon_cases hbx with ⟨e0, e1, _⟩ | ⟨e0, e1, e2⟩
 ·refine gn 0 Rg.no [kCd (bitL 3 5), KI.code [true, true]] [(0, SV.one (cF bx)), (8, vB (FloatKind.f64.format.order bx bx != some Ordering.eq))] [] ?_
  try simp only [flx, hbx, e0, e1]
  refine gn 0 Rg.no [kCd (bitL 3 5), KI.code [true, true]] [(0, SV.one (cF bx)), (8, vB true)] [] ?_
  refine ltk 8 true ?_
  refine gn 0 Rg.no [kCd (bitL 5 21), KI.code [true, true]] [(2, SV.one (SC.v (Value.int IntKind.u64 9221120237041090560)))] [] ?_
  refine rtk [SV.one (SC.v (Value.int IntKind.u64 9221120237041090560))] ?_
  intro L w1 hs
  exact ⟨retI (rfl), hs.out0⟩
 rw [e1]
 clear e1
 by_cases hz : bx % 9223372036854775808 = 0
 ·obtain rfl | rfl : bx = 0 ∨ bx = 9223372036854775808 := by omega
  ·have q : HFloat.floatBits' .quo .f64 4607182418800017408 0 = some 9218868437227405312 := HFloat.div_zero
   refine gn 0 Rg.no [kCd (bitL 3 5), KI.code [true, true]] [(0, SV.one (cF 0)), (8, vB false)] [] ?_
   refine ltk 8 false ?_
   refine gn 0 (Rg.sq (bitL 6 15) 3) [kCd (bitL 6 47), kCd (bitL 5 31)] [(0, SV.one (cF 0)), (3, SV.one (SC.v (Value.int IntKind.u64 0))), (4, SV.one (cF 0)), (12, vB false)] [] ?_
   refine ltk 12 false ?_
   refine gn 0 (Rg.sq (bitL 6 15) 6) [kCd (bitL 6 47), kCd (bitL 5 31)] [(0, SV.one (cF 0)), (3, SV.one (SC.v (Value.int IntKind.u64 0))), (4, SV.one (cF 0)), (12, vL false), (15, vB true)] [] ?_
   refine ltk 15 true ?_
   refine gn 0 (Rg.sq (bitL 6 15) 7) [kCd (bitL 6 47), kCd (bitL 5 31)] [(0, SV.one (cF 0)), (3, SV.one (SC.v (Value.int IntKind.u64 0))), (4, SV.one (cF 0)), (12, vL false), (15, vL true), (16, SV.one (cF 0))] [] ?_
   refine fop_at 7 (by kernel_rfl : atP _ _ _ 7 false = some (Op.binOp BinOp.quo 43 (Operand.const (Value.float FloatKind.f64 4607182418800017408)) (tmpO 16) 43, 43, some 17, Rg.sq (bitL 6 15) 8)) rfl rfl q ?_
   refine gn 0 Rg.no [kCd (bitL 6 47), kCd (bitL 5 31)] [(0, SV.one (cF 0)), (3, SV.one (SC.v (Value.int IntKind.u64 0))), (4, SV.one (cF 0)), (20, vB false)] [] ?_
   refine ltk 20 false ?_
   refine gn 0 Rg.no [kCd (bitL 7 95), kCd (bitL 6 63)] [(3, SV.one (SC.v (Value.int IntKind.u64 0))), (4, SV.one (cF 0)), (24, vB true)] [] ?_
   refine ltk 24 true ?_
   refine gn 0 Rg.no [kCd (bitL 9 351), kCd (bitL 6 63)] [(2, SV.one (SC.v (Value.int IntKind.u64 0)))] [] ?_
   refine rtk [SV.one (SC.v (Value.int IntKind.u64 0))] ?_
   intro L w1 hs
   exact ⟨retI (rfl), hs.out0⟩
  ·have q : HFloat.floatBits' .quo .f64 4607182418800017408 9223372036854775808 = some (9223372036854775808 + 9218868437227405312) := HFloat.div_zeroN
   refine gn 0 Rg.no [kCd (bitL 3 5), KI.code [true, true]] [(0, SV.one (cF 9223372036854775808)), (8, vB false)] [] ?_
   refine ltk 8 false ?_
   refine gn 0 (Rg.sq (bitL 6 15) 3) [kCd (bitL 6 47), kCd (bitL 5 31)] [(0, SV.one (cF 9223372036854775808)), (3, SV.one (SC.v (Value.int IntKind.u64 0))), (4, SV.one (cF 9223372036854775808)), (12, vB false)] [] ?_
   refine ltk 12 false ?_
   refine gn 0 (Rg.sq (bitL 6 15) 6) [kCd (bitL 6 47), kCd (bitL 5 31)] [(0, SV.one (cF 9223372036854775808)), (3, SV.one (SC.v (Value.int IntKind.u64 0))), (4, SV.one (cF 9223372036854775808)), (12, vL false), (15, vB true)] [] ?_
   refine ltk 15 true ?_
   refine gn 0 (Rg.sq (bitL 6 15) 7) [kCd (bitL 6 47), kCd (bitL 5 31)] [(0, SV.one (cF 9223372036854775808)), (3, SV.one (SC.v (Value.int IntKind.u64 0))), (4, SV.one (cF 9223372036854775808)), (12, vL false), (15, vL true), (16, SV.one (cF 9223372036854775808))] [] ?_
   refine fop_at 7 (by kernel_rfl : atP _ _ _ 7 false = some (Op.binOp BinOp.quo 43 (Operand.const (Value.float FloatKind.f64 4607182418800017408)) (tmpO 16) 43, 43, some 17, Rg.sq (bitL 6 15) 8)) rfl rfl q ?_
   refine gn 0 Rg.no [kCd (bitL 6 47), kCd (bitL 5 31)] [(0, SV.one (cF 9223372036854775808)), (3, SV.one (SC.v (Value.int IntKind.u64 0))), (4, SV.one (cF 9223372036854775808)), (20, vB true)] [] ?_
   refine ltk 20 true ?_
   refine gn 0 Rg.no [kCd (bitL 7 95), kCd (bitL 6 63)] [(3, SV.one (SC.v (Value.int IntKind.u64 9223372036854775808))), (4, SV.one (cF 0)), (24, vB true)] [] ?_
   refine ltk 24 true ?_
   refine gn 0 Rg.no [kCd (bitL 9 351), kCd (bitL 6 63)] [(2, SV.one (SC.v (Value.int IntKind.u64 9223372036854775808)))] [] ?_
   refine rtk [SV.one (SC.v (Value.int IntKind.u64 9223372036854775808))] ?_
   intro L w1 hs
   exact ⟨retI (rfl), hs.out0⟩
 by_cases hi : bx % 9223372036854775808 = 9218868437227405312
 ·obtain rfl | rfl : bx = 9218868437227405312 ∨ bx = 18442240474082181120 := by omega
  ·refine gn 0 Rg.no [kCd (bitL 3 5), KI.code [true, true]] [(0, SV.one (cF 9218868437227405312)), (8, vB false)] [] ?_
   refine ltk 8 false ?_
   refine gn 0 (Rg.sq (bitL 6 15) 3) [kCd (bitL 6 47), kCd (bitL 5 31)] [(0, SV.one (cF 9218868437227405312)), (3, SV.one (SC.v (Value.int IntKind.u64 0))), (4, SV.one (cF 9218868437227405312)), (12, vB false)] [] ?_
   refine ltk 12 false ?_
   refine gn 0 (Rg.sq (bitL 6 15) 6) [kCd (bitL 6 47), kCd (bitL 5 31)] [(0, SV.one (cF 9218868437227405312)), (3, SV.one (SC.v (Value.int IntKind.u64 0))), (4, SV.one (cF 9218868437227405312)), (12, vL false), (15, vB false)] [] ?_
   refine ltk 15 false ?_
   refine gn 0 Rg.no [kCd (bitL 7 95), kCd (bitL 6 63)] [(3, SV.one (SC.v (Value.int IntKind.u64 0))), (4, SV.one (cF 9218868437227405312)), (24, vB false)] [] ?_
   refine ltk 24 false ?_
   refine gn 0 Rg.no [kCd (bitL 8 191), kCd (bitL 7 127)] [(3, SV.one (SC.v (Value.int IntKind.u64 0))), (4, SV.one (cF 9218868437227405312)), (27, vB true)] [] ?_
   refine ltk 27 true ?_
   refine gn 0 Rg.no [kCd (bitL 10 703), kCd (bitL 7 127)] [(2, SV.one (SC.v (Value.int IntKind.u64 9218868437227405312)))] [] ?_
   refine rtk [SV.one (SC.v (Value.int IntKind.u64 9218868437227405312))] ?_
   intro L w1 hs
   exact ⟨retI (rfl), hs.out0⟩
  ·refine gn 0 Rg.no [kCd (bitL 3 5), KI.code [true, true]] [(0, SV.one (cF 18442240474082181120)), (8, vB false)] [] ?_
   refine ltk 8 false ?_
   refine gn 0 (Rg.sq (bitL 6 15) 3) [kCd (bitL 6 47), kCd (bitL 5 31)] [(0, SV.one (cF 18442240474082181120)), (3, SV.one (SC.v (Value.int IntKind.u64 0))), (4, SV.one (cF 18442240474082181120)), (12, vB true)] [] ?_
   refine ltk 12 true ?_
   refine gn 0 Rg.no [kCd (bitL 7 95), kCd (bitL 6 63)] [(3, SV.one (SC.v (Value.int IntKind.u64 9223372036854775808))), (4, SV.one (cF 9218868437227405312)), (24, vB false)] [] ?_
   refine ltk 24 false ?_
   refine gn 0 Rg.no [kCd (bitL 8 191), kCd (bitL 7 127)] [(3, SV.one (SC.v (Value.int IntKind.u64 9223372036854775808))), (4, SV.one (cF 9218868437227405312)), (27, vB true)] [] ?_
   refine ltk 27 true ?_
   refine gn 0 Rg.no [kCd (bitL 10 703), kCd (bitL 7 127)] [(2, SV.one (SC.v (Value.int IntKind.u64 18442240474082181120)))] [] ?_
   refine rtk [SV.one (SC.v (Value.int IntKind.u64 18442240474082181120))] ?_
   intro L w1 hs
   exact ⟨retI (rfl), hs.out0⟩
 rcases Nat.lt_or_ge bx 9223372036854775808 with h1 | h1
 ·have q8 := fl_max (x := bx) (by omega)
  refine gn 0 Rg.no [kCd (bitL 3 5), KI.code [true, true]] [(0, SV.one (cF bx)), (8, vB (FloatKind.f64.format.order bx bx != some Ordering.eq))] [] ?_
  try simp only [flx, hbx, e0, q8]
  refine gn 0 Rg.no [kCd (bitL 3 5), KI.code [true, true]] [(0, SV.one (cF bx)), (8, vB false)] [] ?_
  refine ltk 8 false ?_
  refine gn 0 (Rg.sq (bitL 6 15) 3) [kCd (bitL 6 47), kCd (bitL 5 31)] [(0, SV.one (cF bx)), (3, SV.one (SC.v (Value.int IntKind.u64 0))), (4, SV.one (cF bx)), (12, vB (FloatKind.f64.format.order bx 0 == some Ordering.lt))] [] ?_
  try simp only [flx, hbx, e0, q8]
  refine spl 12 (decide (9223372036854775808 < bx ∧ bx ≤ 18442240474082181120)) ?_ ?_
  ·intro hb1
   replace hb1 := of_decide_eq_true hb1
   (exfalso; omega)
  intro hb1
  replace hb1 := of_decide_eq_false hb1
  refine gn 0 (Rg.sq (bitL 6 15) 6) [kCd (bitL 6 47), kCd (bitL 5 31)] [(0, SV.one (cF bx)), (3, SV.one (SC.v (Value.int IntKind.u64 0))), (4, SV.one (cF bx)), (12, vL false), (15, vB (FloatKind.f64.format.order bx 0 == some Ordering.eq))] [] ?_
  try simp only [flx, hbx, e0, q8]
  refine spl 15 (decide (bx % 9223372036854775808 = 0)) ?_ ?_
  ·intro hb2
   replace hb2 := of_decide_eq_true hb2
   (exfalso; omega)
  intro hb2
  replace hb2 := of_decide_eq_false hb2
  refine gn 0 Rg.no [kCd (bitL 7 95), kCd (bitL 6 63)] [(3, SV.one (SC.v (Value.int IntKind.u64 0))), (4, SV.one (cF bx)), (24, vB (FloatKind.f64.format.order bx 0 == some Ordering.eq))] [] ?_
  try simp only [flx, hbx, e0, q8]
  refine spl 24 (decide (bx % 9223372036854775808 = 0)) ?_ ?_
  ·intro hb3
   replace hb3 := of_decide_eq_true hb3
   (exfalso; omega)
  intro hb3
  replace hb3 := of_decide_eq_false hb3
  refine gn 0 Rg.no [kCd (bitL 8 191), kCd (bitL 7 127)] [(3, SV.one (SC.v (Value.int IntKind.u64 0))), (4, SV.one (cF bx)), (27, vB (FloatKind.f64.format.order bx 9218868437227405311 == some Ordering.gt))] [] ?_
  try simp only [flx, hbx, e0, q8]
  refine gn 0 Rg.no [kCd (bitL 8 191), kCd (bitL 7 127)] [(3, SV.one (SC.v (Value.int IntKind.u64 0))), (4, SV.one (cF bx)), (27, vB false)] [] ?_
  refine ltk 27 false ?_
  refine gn 0 Rg.no [kLp (bitL 11 1791), KI.block 0, kCd (bitL 9 511)] [(3, SV.one (SC.v (Value.int IntKind.u64 0))), (4, SV.one (cF bx)), (5, vI 0)] [] ?_
  exact fbTail bx w 0 bx (.inl rfl) (by omega) (by omega) (by omega)
 obtain ⟨x, rfl⟩ : ∃ x, bx = 9223372036854775808 + x := ⟨bx - 9223372036854775808, by omega⟩
 have q6 : Op.negFloat .f64 (9223372036854775808 + x) = x := HFloat.neg_pos (by omega)
 have hbx2 : x < 18446744073709551616 := by omega
 have q8 := fl_max (x := x) (by omega)
 refine gn 0 Rg.no [kCd (bitL 3 5), KI.code [true, true]] [(0, SV.one (cF (9223372036854775808 + x))), (8, vB (FloatKind.f64.format.order (9223372036854775808 + x) (9223372036854775808 + x) != some Ordering.eq))] [] ?_
 try simp only [flx, hbx, e0, q6, hbx2, q8]
 refine gn 0 Rg.no [kCd (bitL 3 5), KI.code [true, true]] [(0, SV.one (cF (9223372036854775808 + x))), (8, vB false)] [] ?_
 refine ltk 8 false ?_
 refine gn 0 (Rg.sq (bitL 6 15) 3) [kCd (bitL 6 47), kCd (bitL 5 31)] [(0, SV.one (cF (9223372036854775808 + x))), (3, SV.one (SC.v (Value.int IntKind.u64 0))), (4, SV.one (cF (9223372036854775808 + x))), (12, vB (FloatKind.f64.format.order (9223372036854775808 + x) 0 == some Ordering.lt))] [] ?_
 try simp only [flx, hbx, e0, q6, hbx2, q8]
 refine spl 12 (decide (9223372036854775808 < 9223372036854775808 + x ∧ 9223372036854775808 + x ≤ 18442240474082181120)) ?_ ?_
 rotate_left
 ·intro hb1
  replace hb1 := of_decide_eq_false hb1
  (exfalso; omega)
 intro hb1
 replace hb1 := of_decide_eq_true hb1
 refine gn 0 Rg.no [kCd (bitL 7 95), kCd (bitL 6 63)] [(3, SV.one (SC.v (Value.int IntKind.u64 9223372036854775808))), (4, SV.one (cF (Op.negFloat FloatKind.f64 (9223372036854775808 + x)))), (24, vB (FloatKind.f64.format.order (Op.negFloat FloatKind.f64 (9223372036854775808 + x)) 0 == some Ordering.eq))] [] ?_
 try simp only [flx, hbx, e0, q6, hbx2, q8]
 refine spl 24 (decide (x % 9223372036854775808 = 0)) ?_ ?_
 ·intro hb2
  replace hb2 := of_decide_eq_true hb2
  (exfalso; omega)
 intro hb2
 replace hb2 := of_decide_eq_false hb2
 refine gn 0 Rg.no [kCd (bitL 8 191), kCd (bitL 7 127)] [(3, SV.one (SC.v (Value.int IntKind.u64 9223372036854775808))), (4, SV.one (cF x)), (27, vB (FloatKind.f64.format.order x 9218868437227405311 == some Ordering.gt))] [] ?_
 try simp only [flx, hbx, e0, q6, hbx2, q8]
 refine gn 0 Rg.no [kCd (bitL 8 191), kCd (bitL 7 127)] [(3, SV.one (SC.v (Value.int IntKind.u64 9223372036854775808))), (4, SV.one (cF x)), (27, vB false)] [] ?_
 refine ltk 27 false ?_
 refine gn 0 Rg.no [kLp (bitL 11 1791), KI.block 0, kCd (bitL 9 511)] [(3, SV.one (SC.v (Value.int IntKind.u64 9223372036854775808))), (4, SV.one (cF x)), (5, vI 0)] [] ?_
 exact fbTail _ w 9223372036854775808 x (.inr rfl) (by omega) (by omega) rfl
theorem sRank_ok (bx : Nat) (w : World) (hbx : bx < 18446744073709551616) :
  Calls Tryz.prog 95 #[.float .f64 bx] w fun e w' => e = .returned (.int .u64 (fRank (canonF bx))) ∧ Below w.heap.size w w' := by
 refine enter (args := [.one (.v (.float .f64 bx))]) Tryz.func95 (c := bodyOf Tryz.f95) rfl rfl (start_LOK _) (start_old w) ?_
 rcases canon_cases hbx with ⟨e0, e1, e2⟩ | ⟨e0, e1, e2⟩
 ·rw [e1]
  refine gn 0 (Rg.sq [true, false] 1) [KI.code [true, true]] [(0, SV.one (cF bx)), (4, SV.one (cF bx))] [] ?_
  refine cpk 66 [SV.one (cF bx)] (some 5) (Rg.sq [true, false] 2) (.one (.v (Value.int IntKind.u64 (↑(canonF bx) : Int)))) (fun L w1 hs => (sFloatBits_ok (bx) w1 ‹_›)) ?_
  refine gn 0 Rg.no [kCd (bitL 4 11), kCd (bitL 3 7)] [(0, SV.one (cF bx)), (3, SV.one (SC.v (Value.int IntKind.u64 (↑(canonF bx) : Int)))), (7, vB ((↑(canonF bx) : Int) == 9221120237041090560))] [] ?_
  try simp only [flx, hbx, e0, e1]
  refine gn 0 Rg.no [kCd (bitL 4 11), kCd (bitL 3 7)] [(0, SV.one (cF bx)), (3, SV.one (SC.v (Value.int IntKind.u64 9221120237041090560))), (7, vB true)] [] ?_
  refine ltk 7 true ?_
  refine gn 0 Rg.no [kCd (bitL 6 43), kCd (bitL 3 7)] [(2, SV.one (SC.v (Value.int IntKind.u64 18446744073709551615)))] [] ?_
  refine rtk [SV.one (SC.v (Value.int IntKind.u64 18446744073709551615))] ?_
  intro L w1 hs
  exact ⟨retI (rfl), hs.out0⟩
 have e3 := rank_zero hbx
 have e4 := rank_or hbx
 have e5 := rank_not hbx e0
 rw [e1] at e3 e4 e5 ⊢
 have nf_1 := shr63
 refine gn 0 (Rg.sq [true, false] 1) [KI.code [true, true]] [(0, SV.one (cF bx)), (4, SV.one (cF bx))] [] ?_
 refine cpk 66 [SV.one (cF bx)] (some 5) (Rg.sq [true, false] 2) (.one (.v (Value.int IntKind.u64 (↑(canonF bx) : Int)))) (fun L w1 hs => (sFloatBits_ok (bx) w1 ‹_›)) ?_
 refine gn 0 Rg.no [kCd (bitL 4 11), kCd (bitL 3 7)] [(0, SV.one (cF bx)), (3, SV.one (SC.v (Value.int IntKind.u64 (↑(canonF bx) : Int)))), (7, vB ((↑(canonF bx) : Int) == 9221120237041090560))] [] ?_
 try simp only [flx, hbx, e0, e1, nf_1]
 refine spl 7 ((↑bx : Int) == 9221120237041090560) ?_ ?_
 ·intro hb1
  replace hb1 := beq_iff_eq.1 hb1
  (exfalso; omega)
 ·intro hb1
  replace hb1 := beq_eq_false_iff_ne.1 hb1
  refine gn 0 Rg.no [kCd (bitL 5 23), kCd (bitL 4 15)] [(3, SV.one (SC.v (Value.int IntKind.u64 (↑bx : Int)))), (9, vB (FloatKind.f64.format.order bx 0 == some Ordering.eq))] [] ?_
  try simp only [flx, hbx, e0, e1, nf_1]
  refine spl 9 (decide (bx % 9223372036854775808 = 0)) ?_ ?_
  ·intro hb2
   replace hb2 := of_decide_eq_true hb2
   refine gn 0 Rg.no [kCd (bitL 7 87), kCd (bitL 4 15)] [(2, SV.one (SC.v (Value.int IntKind.u64 9223372036854775808)))] [] ?_
   refine rtk [SV.one (SC.v (Value.int IntKind.u64 9223372036854775808))] ?_
   intro L w1 hs
   exact ⟨retI (e3 ‹_›), hs.out0⟩
  ·intro hb2
   replace hb2 := of_decide_eq_false hb2
   refine gn 0 Rg.no [kCd (bitL 6 47), kCd (bitL 5 31)] [(3, SV.one (SC.v (Value.int IntKind.u64 (↑bx : Int)))), (12, vB ((↑bx : Int).fdiv (2 ^ min (Int.toNat 63) IntKind.u64.bits) == 1))] [] ?_
   try simp only [flx, hbx, e0, e1, nf_1]
   refine spl 12 ((↑bx : Int) / 9223372036854775808 == 1) ?_ ?_
   ·intro hb3
    replace hb3 := beq_iff_eq.1 hb3
    refine gn 0 Rg.no [kCd (bitL 8 175), kCd (bitL 5 31)] [(2, SV.one (SC.v (Value.int IntKind.u64 (IntKind.u64.wrap (↑(BitVec.ofInt IntKind.u64.bits (if IntKind.u64.signed = true then -1 else IntKind.u64.max) ^^^ BitVec.ofInt IntKind.u64.bits (↑bx : Int)).toNat : Int)))))] [] ?_
    refine rtk [SV.one (SC.v (Value.int IntKind.u64 (IntKind.u64.wrap (↑(BitVec.ofInt IntKind.u64.bits (if IntKind.u64.signed = true then -1 else IntKind.u64.max) ^^^ BitVec.ofInt IntKind.u64.bits (↑bx : Int)).toNat : Int))))] ?_
    intro L w1 hs
    exact ⟨retI (e5 ‹_› (by omega)), hs.out0⟩
   ·intro hb3
    replace hb3 := beq_eq_false_iff_ne.1 hb3
    refine gn 0 Rg.no [kCd (bitL 6 63)] [(2, SV.one (SC.v (Value.int IntKind.u64 (IntKind.u64.wrap (↑(BitVec.ofInt IntKind.u64.bits (↑bx : Int) ||| BitVec.ofInt IntKind.u64.bits 9223372036854775808).toNat : Int)))))] [] ?_
    refine rtk [SV.one (SC.v (Value.int IntKind.u64 (IntKind.u64.wrap (↑(BitVec.ofInt IntKind.u64.bits (↑bx : Int) ||| BitVec.ofInt IntKind.u64.bits 9223372036854775808).toNat : Int))))] ?_
    intro L w1 hs
    exact ⟨retI (e4 (by omega)), hs.out0⟩
end Go.Proofs.YtgleoebogikooaaGreat.Dk
