/- Walks of functions of the program: what each call returns and what it leaves in memory. Conditions: those that each theorem names. -/
import Derived.Test.YtgleoebogikooaaGreatU3
namespace Go.Proofs.YtgleoebogikooaaGreat.Dk
set_option linter.unusedVariables false
set_option linter.unusedSimpArgs false
open Go.Proofs.YtgleoebogikooaaGreat.Sx Go.Proofs Go.RowKit
set_option maxRecDepth 100000
set_option maxHeartbeats 1000000
def unr (n : Int) : Nat := (if n = 18446744073709551615 then 9221120237041090560 else if n < 9223372036854775808 then 18446744073709551615 - n else n - 9223372036854775808).toNat
def unrank (n : Int) : Option Nat := if fRank (canonF (unr n)) = n then some (canonF (unr n)) else none
theorem and63 {x : Int} (h0 : 0 ≤ x) (h1 : x < 18446744073709551616) : Go.bits .and .u64 x 9223372036854775807 = x % 9223372036854775808 := by
 obtain ⟨a, rfl⟩ := Int.eq_ofNat_of_zero_le h0
 have := bits_and_u64_nat a 9223372036854775807 (by omega) (by omega)
 rw [show ((9223372036854775807 : Nat) : Int) = 9223372036854775807 by rfl] at this
 rw [this, show (9223372036854775807 : Nat) = 2 ^ 63 - 1 by decide, Nat.and_two_pow_sub_one_eq_mod]
 omega
theorem andnot63 {x : Int} (h0 : 0 ≤ x) (h1 : x < 18446744073709551616) : IntKind.u64.wrap (((BitVec.ofInt IntKind.u64.bits x &&& ~~~BitVec.ofInt IntKind.u64.bits 9223372036854775808).toNat : Nat) : Int) = x % 9223372036854775808 := by
 rw [show ~~~BitVec.ofInt IntKind.u64.bits 9223372036854775808 = BitVec.ofInt IntKind.u64.bits 9223372036854775807 by decide]
 exact and63 h0 h1
theorem frombits_ext (b : Int) (w : World) : (callFunc 126 #[.int .u64 b]).run Tryz.prog w = .ok (.value (.float .f64 b.toNat)) w := run_frombits64 Tryz.func126 (by kernel_rfl) (by kernel_rfl) (by kernel_rfl) (by kernel_rfl) b w
theorem mathNaN_ok (w : World) :
  Calls Tryz.prog 127 #[] w fun e w' => ∃ r : Nat, e = .returned (.float .f64 r) ∧ Below w.heap.size w w' ∧ r < 18446744073709551616 ∧ canonF r = 9221120237041090560 := by
 refine enter (args := []) Tryz.func127 (c := bodyOf Tryz.f127) rfl rfl (start_LOK _) (start_old w) ?_
 refine gn 0 (Rg.sq [true, false] 0) [KI.code [true, true]] [] [] ?_
 refine ext_pure true (by kernel_rfl : atC _ _ _ true = some (126, [SV.one (SC.v (Value.int IntKind.u64 9221120237041090561))], some 1, Rg.sq [true, false] 1)) (.one (.v (Value.float FloatKind.f64 (Int.toNat 9221120237041090561)))) (fun L w1 hs => (frombits_ext (9221120237041090561) w1)) ?_
 refine gn 0 Rg.no [KI.code [true, true]] [(0, SV.one (cF 9221120237041090561))] [] ?_
 refine rtk [SV.one (cF 9221120237041090561)] ?_
 intro L w1 hs
 exact ⟨9221120237041090561, rfl, hs.out0, by omega, by decide⟩
theorem iFloatOf_ok (n : Int) (h0 : 0 ≤ n) (h1 : n < 18446744073709551616) (w : World) :
  Calls Tryz.prog 120 #[.int .u64 n] w fun e w' => ∃ r : Nat, e = .returned (.float .f64 r) ∧ Below w.heap.size w w' ∧ r = n.toNat := by
 refine enter (args := [.one (.v (.int .u64 n))]) Tryz.func120 (c := bodyOf Tryz.f120) rfl rfl (start_LOK _) (start_old w) ?_
 refine gn 0 (Rg.sq [true, false] 1) [KI.code [true, true]] [(3, SV.one (SC.v (Value.int IntKind.u64 n)))] [] ?_
 refine ext_pure true (by kernel_rfl : atC _ _ _ true = some (126, [SV.one (SC.v (Value.int IntKind.u64 n))], some 4, Rg.sq [true, false] 2)) (.one (.v (Value.float FloatKind.f64 n.toNat))) (fun L w1 hs => (frombits_ext (n) w1)) ?_
 refine gn 0 Rg.no [KI.code [true, true]] [(2, SV.one (cF n.toNat))] [] ?_
 refine rtk [SV.one (cF n.toNat)] ?_
 intro L w1 hs
 exact ⟨_, rfl, hs.out0, rfl⟩
theorem iFloatBits_ok (bx : Nat) (w : World) (hbx : bx < 18446744073709551616) :
  Calls Tryz.prog 129 #[.float .f64 bx] w fun e w' => e = .returned (.int .u64 ((canonF bx : Nat) : Int)) ∧ Below w.heap.size w w' := by
 refine enter (args := [.one (.v (.float .f64 bx))]) Tryz.func129 (c := bodyOf Tryz.f129) rfl rfl (start_LOK _) (start_old w) ?_
 rcases canon_cases hbx with ⟨e0, e1, _⟩ | ⟨e0, e1, e2⟩
 ·refine gn 0 Rg.no [kCd (bitL 3 5), KI.code [true, true]] [(0, SV.one (cF bx)), (5, vB (FloatKind.f64.format.order bx bx != some Ordering.eq))] [] ?_
  try simp only [flx, hbx, e0, e1]
  refine gn 0 Rg.no [kCd (bitL 3 5), KI.code [true, true]] [(0, SV.one (cF bx)), (5, vB true)] [] ?_
  refine ltk 5 true ?_
  refine gn 0 Rg.no [kCd (bitL 5 21), KI.code [true, true]] [(2, SV.one (SC.v (Value.int IntKind.u64 9221120237041090560)))] [] ?_
  refine rtk [SV.one (SC.v (Value.int IntKind.u64 9221120237041090560))] ?_
  intro L w1 hs
  exact ⟨retI (rfl), hs.out0⟩
 rw [e1]
 refine gn 0 Rg.no [kCd (bitL 3 5), KI.code [true, true]] [(0, SV.one (cF bx)), (5, vB (FloatKind.f64.format.order bx bx != some Ordering.eq))] [] ?_
 try simp only [flx, hbx, e0, e1]
 refine gn 0 Rg.no [kCd (bitL 3 5), KI.code [true, true]] [(0, SV.one (cF bx)), (5, vB false)] [] ?_
 refine ltk 5 false ?_
 refine gn 0 (Rg.sq (bitL 3 3) 1) [kCd (bitL 3 7)] [(6, SV.one (cF bx))] [] ?_
 refine ext_pure true (by kernel_rfl : atC _ _ _ true = some (70, [SV.one (cF bx)], some 7, Rg.sq (bitL 3 3) 2)) (.one (.v (Value.int IntKind.u64 (↑bx : Int)))) (fun L w1 hs => (bits64_ext (bx) w1)) ?_
 refine gn 0 Rg.no [kCd (bitL 3 7)] [(2, SV.one (SC.v (Value.int IntKind.u64 (↑bx : Int))))] [] ?_
 refine rtk [SV.one (SC.v (Value.int IntKind.u64 (↑bx : Int)))] ?_
 intro L w1 hs
 exact ⟨retI (rfl), hs.out0⟩
theorem xnot {n : Int} (h0 : 0 ≤ n) (h1 : n < 18446744073709551616) : IntKind.u64.wrap (((BitVec.ofInt IntKind.u64.bits (if IntKind.u64.signed = true then -1 else IntKind.u64.max) ^^^ BitVec.ofInt IntKind.u64.bits n).toNat : Nat) : Int) = 18446744073709551615 - n := by
 have hh : (BitVec.ofInt 64 (18446744073709551615 : Int) ^^^ BitVec.ofInt 64 n) = ~~~ BitVec.ofInt 64 n := by
  rw [show BitVec.ofInt 64 (18446744073709551615 : Int) = BitVec.allOnes 64 by decide, BitVec.allOnes_xor]
 show IntKind.u64.wrap (((BitVec.ofInt 64 (18446744073709551615 : Int) ^^^ BitVec.ofInt 64 n).toNat : Nat) : Int) = _
 rw [hh, BitVec.toNat_not, BitVec.toNat_ofInt, IntKind.wrap_u64]
 omega
theorem unr_lt {n : Int} (h0 : 0 ≤ n) (h1 : n < 18446744073709551616) : unr n < 18446744073709551616 := by unfold unr; (repeat' split) <;> omega
theorem unrank_nan : unrank 18446744073709551615 = some 9221120237041090560 := by decide
theorem unrank_no {n : Int} (h : ¬ fRank (canonF (unr n)) = n) : unrank n = none := by unfold unrank; rw [if_neg h]
theorem unrank_yes {n : Int} (h : fRank (canonF (unr n)) = n) : unrank n = some (canonF (unr n)) := by unfold unrank; rw [if_pos h]
theorem rank_isnan {b : Nat} (h : isNaN b = true) : fRank (canonF b) = 18446744073709551615 := by rw [nan_canon h]; decide
theorem iUnrank_ok (n : Int) (h0 : 0 ≤ n) (h1 : n < 18446744073709551616) (w : World) :
  Calls Tryz.prog 118 #[.int .u64 n] w fun e w' => ∃ r : Nat, e = .returned (.tuple #[.float .f64 r, .bool (unrank n).isSome]) ∧ Below w.heap.size w w' ∧ r < 18446744073709551616 ∧ canonF r = (unrank n).getD 0 := by
 refine enter (args := [.one (.v (.int .u64 n))]) Tryz.func118 (c := bodyOf Tryz.f118) rfl rfl (start_LOK _) (start_old w) ?_
 have nf_1 := andnot63 h0 h1
 have nf_2 := xnot h0 h1
 by_cases hnan : n = 18446744073709551615
 ·have hun : unrank n = some 9221120237041090560 := hnan ▸ unrank_nan
  refine gn 0 Rg.no [kCd (bitL 4 11), kCd (bitL 3 7)] [(0, SV.one (SC.v (Value.int IntKind.u64 n))), (4, SV.one (SC.v (Value.int IntKind.u64 (IntKind.u64.wrap (↑(BitVec.ofInt IntKind.u64.bits n &&& ~~~BitVec.ofInt IntKind.u64.bits 9223372036854775808).toNat : Int))))), (9, vB (decide (n < 9223372036854775808)))] [] ?_
  try simp only [flx, h1, nf_1, nf_2]
  refine spl 9 (decide (n < 9223372036854775808)) ?_ ?_
  ·intro hb1
   replace hb1 := of_decide_eq_true hb1
   (exfalso; omega)
  ·intro hb1
   replace hb1 := of_decide_eq_false hb1
   refine gn 0 (Rg.sq (bitL 4 7) 1) [kCd (bitL 4 15)] [(0, SV.one (SC.v (Value.int IntKind.u64 n))), (12, SV.one (SC.v (Value.int IntKind.u64 (n % 9223372036854775808))))] [] ?_
   refine ext_pure true (by kernel_rfl : atC _ _ _ true = some (126, [SV.one (SC.v (Value.int IntKind.u64 (n % 9223372036854775808)))], some 13, Rg.sq (bitL 4 7) 2)) (.one (.v (Value.float FloatKind.f64 (n % 9223372036854775808).toNat))) (fun L w1 hs => (frombits_ext (n % 9223372036854775808) w1)) ?_
   refine gn 0 Rg.no [kCd (bitL 7 111), KI.block 0, kCd (bitL 5 31)] [(0, SV.one (SC.v (Value.int IntKind.u64 n))), (5, SV.one (cF (n % 9223372036854775808).toNat)), (14, vB (n == 18446744073709551615))] [] ?_
   refine spl 14 (n == 18446744073709551615) ?_ ?_
   ·intro hb2
    replace hb2 := beq_iff_eq.1 hb2
    refine gn 0 (Rg.sq (bitL 9 111) 0) [kCd (bitL 9 367), KI.block 0, kCd (bitL 5 31)] [] [] ?_
    refine cak 127 [] (some 17) (Rg.sq (bitL 9 111) 1) (fun L w1 hs => (mathNaN_ok w1).mono ?_)
    rintro e_ w2_ ⟨r_1, rfl, hf_, hq1, hq2⟩
    refine ⟨.one (.v (Value.float FloatKind.f64 r_1)), _, _, rfl, fun _ => hf_.block, hs.below hf_, ?_⟩
    clear hs hf_
    refine gn 0 Rg.no [kCd (bitL 9 367), KI.block 0, kCd (bitL 5 31)] [(2, SV.one (cF r_1)), (3, vL true)] [] ?_
    refine rtk [SV.one (cF r_1), vL true] ?_
    intro L w1 hs
    exact ⟨_, by rw [hun]; rfl, hs.out0, by assumption, by rw [hun]; assumption⟩
   ·intro hb2
    replace hb2 := beq_eq_false_iff_ne.1 hb2
    (exfalso; omega)
 have hml := unr_lt h0 h1
 by_cases hlo : n < 9223372036854775808
 ·have nf_3 : (18446744073709551615 - n).toNat = unr n := by unfold unr; rw [if_neg hnan, if_pos hlo]
  obtain ⟨m, hmu⟩ : ∃ m, unr n = m := ⟨_, rfl⟩
  rw [hmu] at nf_3 hml
  refine gn 0 Rg.no [kCd (bitL 4 11), kCd (bitL 3 7)] [(0, SV.one (SC.v (Value.int IntKind.u64 n))), (4, SV.one (SC.v (Value.int IntKind.u64 (IntKind.u64.wrap (↑(BitVec.ofInt IntKind.u64.bits n &&& ~~~BitVec.ofInt IntKind.u64.bits 9223372036854775808).toNat : Int))))), (9, vB (decide (n < 9223372036854775808)))] [] ?_
  try simp only [flx, h1, hml, nf_1, nf_2, nf_3]
  refine spl 9 (decide (n < 9223372036854775808)) ?_ ?_
  ·intro hb1
   replace hb1 := of_decide_eq_true hb1
   refine gn 0 (Rg.sq (bitL 4 7) 1) [kCd (bitL 4 15)] [(0, SV.one (SC.v (Value.int IntKind.u64 n))), (12, SV.one (SC.v (Value.int IntKind.u64 (IntKind.u64.wrap (↑(BitVec.ofInt IntKind.u64.bits (if IntKind.u64.signed = true then -1 else IntKind.u64.max) ^^^ BitVec.ofInt IntKind.u64.bits n).toNat : Int)))))] [] ?_
   try simp only [flx, h1, hml, nf_1, nf_2, nf_3]
   refine ext_pure true (by kernel_rfl : atC _ _ _ true = some (126, [SV.one (SC.v (Value.int IntKind.u64 (18446744073709551615 - n)))], some 13, Rg.sq (bitL 4 7) 2)) (.one (.v (Value.float FloatKind.f64 (18446744073709551615 - n).toNat))) (fun L w1 hs => (frombits_ext (18446744073709551615 - n) w1)) ?_
   refine gn 0 Rg.no [kCd (bitL 7 111), KI.block 0, kCd (bitL 5 31)] [(0, SV.one (SC.v (Value.int IntKind.u64 n))), (5, SV.one (cF (18446744073709551615 - n).toNat)), (14, vB (n == 18446744073709551615))] [] ?_
   try simp only [flx, h1, hml, nf_1, nf_2, nf_3]
   refine spl 14 (n == 18446744073709551615) ?_ ?_
   ·intro hb2
    replace hb2 := beq_iff_eq.1 hb2
    (exfalso; omega)
   ·intro hb2
    replace hb2 := beq_eq_false_iff_ne.1 hb2
    refine gn 0 (Rg.sq (bitL 9 239) 4) [kCd (bitL 9 495), KI.block 0, kCd (bitL 5 31)] [(0, SV.one (SC.v (Value.int IntKind.u64 n))), (5, SV.one (cF m)), (22, vB (FloatKind.f64.format.order m m != some Ordering.eq))] [] ?_
    try simp only [flx, h1, hml, nf_1, nf_2, nf_3]
    refine spl 22 (isNaN m) ?_ ?_
    ·intro hb3
     try simp only [sbb] at hb3
     refine gn 0 Rg.no [kCd (bitL 11 1519), KI.block 0, kCd (bitL 5 31)] [(2, SV.one (cF 0)), (3, vL false)] [] ?_
     refine rtk [SV.one (cF 0), vL false] ?_
     intro L w1 hs
     exact ⟨0, by rw [unrank_no (by rw [hmu, rank_isnan ‹_›]; omega)]; rfl, hs.out0, by omega, by rw [unrank_no (by rw [hmu, rank_isnan ‹_›]; omega)]; rfl⟩
    ·intro hb3
     try simp only [sbb] at hb3
     refine gn 0 (Rg.sq (bitL 9 239) 5) [kCd (bitL 9 495), KI.block 0, kCd (bitL 5 31)] [(0, SV.one (SC.v (Value.int IntKind.u64 n))), (5, SV.one (cF m)), (22, vL false), (23, SV.one (cF m))] [] ?_
     refine cpk 98 [SV.one (cF m)] (some 24) (Rg.sq (bitL 9 239) 6) (.one (.v (Value.int IntKind.u64 (fRank (canonF m))))) (fun L w1 hs => (iRank_ok (m) w1 ‹_›)) ?_
     refine gn 0 Rg.no [kCd (bitL 9 495), KI.block 0, kCd (bitL 5 31)] [(5, SV.one (cF m)), (18, vB (fRank (canonF m) != n))] [] ?_
     refine spl 18 (fRank (canonF m) != n) ?_ ?_
     ·intro hb4
      replace hb4 := bne_iff_ne.1 hb4
      refine gn 0 Rg.no [kCd (bitL 11 1519), KI.block 0, kCd (bitL 5 31)] [(2, SV.one (cF 0)), (3, vL false)] [] ?_
      refine rtk [SV.one (cF 0), vL false] ?_
      intro L w1 hs
      exact ⟨0, by rw [unrank_no (by rw [hmu]; assumption)]; rfl, hs.out0, by omega, by rw [unrank_no (by rw [hmu]; assumption)]; rfl⟩
     ·intro hb4
      replace hb4 := bne_eq_false_iff_eq.1 hb4
      refine gn 0 Rg.no [kCd (bitL 6 63)] [(2, SV.one (cF m)), (3, vL true)] [] ?_
      refine rtk [SV.one (cF m), vL true] ?_
      intro L w1 hs
      exact ⟨_, by rw [unrank_yes (by rw [hmu]; assumption)]; rfl, hs.out0, hml, by rw [unrank_yes (by rw [hmu]; assumption), hmu]; rfl⟩
  ·intro hb1
   replace hb1 := of_decide_eq_false hb1
   (exfalso; omega)
 have nf_3 : (n % 9223372036854775808).toNat = unr n := by unfold unr; rw [if_neg hnan, if_neg hlo]; congr 1; omega
 obtain ⟨m, hmu⟩ : ∃ m, unr n = m := ⟨_, rfl⟩
 rw [hmu] at nf_3 hml
 refine gn 0 Rg.no [kCd (bitL 4 11), kCd (bitL 3 7)] [(0, SV.one (SC.v (Value.int IntKind.u64 n))), (4, SV.one (SC.v (Value.int IntKind.u64 (IntKind.u64.wrap (↑(BitVec.ofInt IntKind.u64.bits n &&& ~~~BitVec.ofInt IntKind.u64.bits 9223372036854775808).toNat : Int))))), (9, vB (decide (n < 9223372036854775808)))] [] ?_
 try simp only [flx, h1, hml, nf_1, nf_2, nf_3]
 refine spl 9 (decide (n < 9223372036854775808)) ?_ ?_
 ·intro hb1
  replace hb1 := of_decide_eq_true hb1
  (exfalso; omega)
 ·intro hb1
  replace hb1 := of_decide_eq_false hb1
  refine gn 0 (Rg.sq (bitL 4 7) 1) [kCd (bitL 4 15)] [(0, SV.one (SC.v (Value.int IntKind.u64 n))), (12, SV.one (SC.v (Value.int IntKind.u64 (n % 9223372036854775808))))] [] ?_
  refine ext_pure true (by kernel_rfl : atC _ _ _ true = some (126, [SV.one (SC.v (Value.int IntKind.u64 (n % 9223372036854775808)))], some 13, Rg.sq (bitL 4 7) 2)) (.one (.v (Value.float FloatKind.f64 (n % 9223372036854775808).toNat))) (fun L w1 hs => (frombits_ext (n % 9223372036854775808) w1)) ?_
  refine gn 0 Rg.no [kCd (bitL 7 111), KI.block 0, kCd (bitL 5 31)] [(0, SV.one (SC.v (Value.int IntKind.u64 n))), (5, SV.one (cF (n % 9223372036854775808).toNat)), (14, vB (n == 18446744073709551615))] [] ?_
  try simp only [flx, h1, hml, nf_1, nf_2, nf_3]
  refine spl 14 (n == 18446744073709551615) ?_ ?_
  ·intro hb2
   replace hb2 := beq_iff_eq.1 hb2
   (exfalso; omega)
  ·intro hb2
   replace hb2 := beq_eq_false_iff_ne.1 hb2
   refine gn 0 (Rg.sq (bitL 9 239) 4) [kCd (bitL 9 495), KI.block 0, kCd (bitL 5 31)] [(0, SV.one (SC.v (Value.int IntKind.u64 n))), (5, SV.one (cF m)), (22, vB (FloatKind.f64.format.order m m != some Ordering.eq))] [] ?_
   try simp only [flx, h1, hml, nf_1, nf_2, nf_3]
   refine spl 22 (isNaN m) ?_ ?_
   ·intro hb3
    try simp only [sbb] at hb3
    refine gn 0 Rg.no [kCd (bitL 11 1519), KI.block 0, kCd (bitL 5 31)] [(2, SV.one (cF 0)), (3, vL false)] [] ?_
    refine rtk [SV.one (cF 0), vL false] ?_
    intro L w1 hs
    exact ⟨0, by rw [unrank_no (by rw [hmu, rank_isnan ‹_›]; omega)]; rfl, hs.out0, by omega, by rw [unrank_no (by rw [hmu, rank_isnan ‹_›]; omega)]; rfl⟩
   ·intro hb3
    try simp only [sbb] at hb3
    refine gn 0 (Rg.sq (bitL 9 239) 5) [kCd (bitL 9 495), KI.block 0, kCd (bitL 5 31)] [(0, SV.one (SC.v (Value.int IntKind.u64 n))), (5, SV.one (cF m)), (22, vL false), (23, SV.one (cF m))] [] ?_
    refine cpk 98 [SV.one (cF m)] (some 24) (Rg.sq (bitL 9 239) 6) (.one (.v (Value.int IntKind.u64 (fRank (canonF m))))) (fun L w1 hs => (iRank_ok (m) w1 ‹_›)) ?_
    refine gn 0 Rg.no [kCd (bitL 9 495), KI.block 0, kCd (bitL 5 31)] [(5, SV.one (cF m)), (18, vB (fRank (canonF m) != n))] [] ?_
    refine spl 18 (fRank (canonF m) != n) ?_ ?_
    ·intro hb4
     replace hb4 := bne_iff_ne.1 hb4
     refine gn 0 Rg.no [kCd (bitL 11 1519), KI.block 0, kCd (bitL 5 31)] [(2, SV.one (cF 0)), (3, vL false)] [] ?_
     refine rtk [SV.one (cF 0), vL false] ?_
     intro L w1 hs
     exact ⟨0, by rw [unrank_no (by rw [hmu]; assumption)]; rfl, hs.out0, by omega, by rw [unrank_no (by rw [hmu]; assumption)]; rfl⟩
    ·intro hb4
     replace hb4 := bne_eq_false_iff_eq.1 hb4
     refine gn 0 Rg.no [kCd (bitL 6 63)] [(2, SV.one (cF m)), (3, vL true)] [] ?_
     refine rtk [SV.one (cF m), vL true] ?_
     intro L w1 hs
     exact ⟨_, by rw [unrank_yes (by rw [hmu]; assumption)]; rfl, hs.out0, hml, by rw [unrank_yes (by rw [hmu]; assumption), hmu]; rfl⟩
theorem sUnrank_ok (n : Int) (h0 : 0 ≤ n) (h1 : n < 18446744073709551616) (w : World) :
  Calls Tryz.prog 78 #[.int .u64 n] w fun e w' => ∃ r : Nat, e = .returned (.tuple #[.float .f64 r, .bool (unrank n).isSome]) ∧ Below w.heap.size w w' ∧ r < 18446744073709551616 ∧ canonF r = (unrank n).getD 0 := by
 refine enter (args := [.one (.v (.int .u64 n))]) Tryz.func78 (c := bodyOf Tryz.f78) rfl rfl (start_LOK _) (start_old w) ?_
 have nf_1 : IntKind.u64.wrap (((BitVec.ofInt IntKind.u64.bits n &&& BitVec.ofInt IntKind.u64.bits 9223372036854775807).toNat : Nat) : Int) = n % 9223372036854775808 := and63 h0 h1
 have nf_2 := xnot h0 h1
 have nf_6 : n.fdiv (2 ^ min (Int.toNat 63) IntKind.u64.bits) = n / 9223372036854775808 := shr63 _
 have hml := unr_lt h0 h1
 by_cases hnan : n = 18446744073709551615
 ·obtain ⟨m, hmu⟩ : ∃ m, unr n = m := ⟨_, rfl⟩
  have hm : m = 9221120237041090560 := by rw [← hmu, hnan]; decide
  rw [hmu] at hml
  subst hm
  skip
  refine gn 0 Rg.no [kCd (bitL 4 11), kCd (bitL 3 7)] [(0, SV.one (SC.v (Value.int IntKind.u64 n))), (7, vB (n == 18446744073709551615))] [] ?_
  refine spl 7 (n == 18446744073709551615) ?_ ?_
  rotate_left
  ·intro hb1
   replace hb1 := beq_eq_false_iff_ne.1 hb1
   (exfalso; omega)
  intro hb1
  replace hb1 := beq_iff_eq.1 hb1
  refine gn 0 (Rg.sq (bitL 4 7) 1) [kCd (bitL 4 15)] [(0, SV.one (SC.v (Value.int IntKind.u64 n))), (15, SV.one (SC.v (Value.int IntKind.u64 9221120237041090560)))] [] ?_
  skip
  refine cak 80 [SV.one (SC.v (Value.int IntKind.u64 9221120237041090560))] (some 16) (Rg.sq (bitL 4 7) 2) (fun L w1 hs => (sFloatOf_ok 9221120237041090560 w1 hml).mono ?_)
  rintro e_ w2_ ⟨r_1, rfl, hf_, hq1, hq2⟩
  refine ⟨.one (.v (.float .f64 r_1)), _, _, rfl, fun _ => hf_.block, hs.below hf_, ?_⟩
  clear hs hf_
  by_cases hyes : fRank (canonF (unr n)) = n
  ·rw [← hmu] at hq2
   have nf_9 : canonF r_1 = canonF (unr n) := hq2
   have nf_8 : fRank (canonF (unr n)) = n := hyes
   have nf_5 : (n != n) = false := bne_self_eq_false n
   refine gn 0 (Rg.sq (bitL 6 15) 1) [kCd (bitL 6 47), kCd (bitL 5 31)] [(0, SV.one (SC.v (Value.int IntKind.u64 n))), (5, SV.one (cF r_1)), (17, SV.one (cF r_1))] [] ?_
   refine cpk 95 [SV.one (cF r_1)] (some 18) (Rg.sq (bitL 6 15) 2) (.one (.v (Value.int IntKind.u64 (fRank (canonF r_1))))) (fun L w1 hs => (sRank_ok (r_1) w1 ‹_›)) ?_
   refine gn 0 Rg.no [kCd (bitL 6 47), kCd (bitL 5 31)] [(5, SV.one (cF r_1)), (20, vB (fRank (canonF r_1) != n))] [] ?_
   try simp only [flx, h1, hml, hq1, hq2, nf_9, nf_1, nf_2, nf_6, nf_9, nf_8, nf_5]
   refine gn 0 Rg.no [kCd (bitL 6 47), kCd (bitL 5 31)] [(5, SV.one (cF r_1)), (20, vB false)] [] ?_
   refine ltk 20 false ?_
   refine gn 0 Rg.no [kCd (bitL 6 63)] [(2, SV.one (cF r_1)), (3, vL true)] [] ?_
   refine rtk [SV.one (cF r_1), vL true] ?_
   intro L w1 hs
   exact ⟨_, by rw [unrank_yes hyes]; rfl, hs.out0, hq1, by rw [unrank_yes hyes]; exact hq2⟩
  ·rw [← hmu] at hq2
   have nf_9 : canonF r_1 = canonF (unr n) := hq2
   have nf_8 : (fRank (canonF (unr n)) != n) = true := bne_iff_ne.2 hyes
   refine gn 0 (Rg.sq (bitL 6 15) 1) [kCd (bitL 6 47), kCd (bitL 5 31)] [(0, SV.one (SC.v (Value.int IntKind.u64 n))), (5, SV.one (cF r_1)), (17, SV.one (cF r_1))] [] ?_
   refine cpk 95 [SV.one (cF r_1)] (some 18) (Rg.sq (bitL 6 15) 2) (.one (.v (Value.int IntKind.u64 (fRank (canonF r_1))))) (fun L w1 hs => (sRank_ok (r_1) w1 ‹_›)) ?_
   refine gn 0 Rg.no [kCd (bitL 6 47), kCd (bitL 5 31)] [(5, SV.one (cF r_1)), (20, vB (fRank (canonF r_1) != n))] [] ?_
   try simp only [flx, h1, hml, hq1, hq2, nf_9, nf_1, nf_2, nf_6, nf_9, nf_8]
   refine gn 0 Rg.no [kCd (bitL 6 47), kCd (bitL 5 31)] [(5, SV.one (cF r_1)), (20, vB true)] [] ?_
   refine ltk 20 true ?_
   refine gn 0 Rg.no [kCd (bitL 8 175), kCd (bitL 5 31)] [(2, SV.one (cF 0)), (3, vL false)] [] ?_
   refine rtk [SV.one (cF 0), vL false] ?_
   intro L w1 hs
   exact ⟨0, by rw [unrank_no hyes]; rfl, hs.out0, by omega, by rw [unrank_no hyes]; rfl⟩
 by_cases hlo : n < 9223372036854775808
 ·have nf_3 : 18446744073709551615 - n = (unr n : Int) := by unfold unr; rw [if_neg hnan, if_pos hlo]; omega
  obtain ⟨m, hmu⟩ : ∃ m, unr n = m := ⟨_, rfl⟩
  rw [hmu] at nf_3 hml
  skip
  refine gn 0 Rg.no [kCd (bitL 4 11), kCd (bitL 3 7)] [(0, SV.one (SC.v (Value.int IntKind.u64 n))), (7, vB (n == 18446744073709551615))] [] ?_
  refine spl 7 (n == 18446744073709551615) ?_ ?_
  ·intro hb1
   replace hb1 := beq_iff_eq.1 hb1
   (exfalso; omega)
  intro hb1
  replace hb1 := beq_eq_false_iff_ne.1 hb1
  refine gn 0 Rg.no [kCd (bitL 6 59), kCd (bitL 3 7)] [(0, SV.one (SC.v (Value.int IntKind.u64 n))), (10, vB (n.fdiv (2 ^ min (Int.toNat 63) IntKind.u64.bits) == 1))] [] ?_
  try simp only [flx, h1, hml, nf_1, nf_2, nf_6, nf_3]
  refine spl 10 (n / 9223372036854775808 == 1) ?_ ?_
  ·intro hb2
   replace hb2 := beq_iff_eq.1 hb2
   (exfalso; omega)
  intro hb2
  replace hb2 := beq_eq_false_iff_ne.1 hb2
  refine gn 0 (Rg.sq (bitL 4 7) 1) [kCd (bitL 4 15)] [(0, SV.one (SC.v (Value.int IntKind.u64 n))), (15, SV.one (SC.v (Value.int IntKind.u64 (IntKind.u64.wrap (↑(BitVec.ofInt IntKind.u64.bits (if IntKind.u64.signed = true then -1 else IntKind.u64.max) ^^^ BitVec.ofInt IntKind.u64.bits n).toNat : Int)))))] [] ?_
  try simp only [flx, h1, hml, nf_1, nf_2, nf_6, nf_3]
  skip
  refine cak 80 [SV.one (SC.v (Value.int IntKind.u64 (↑m : Int)))] (some 16) (Rg.sq (bitL 4 7) 2) (fun L w1 hs => (sFloatOf_ok m w1 hml).mono ?_)
  rintro e_ w2_ ⟨r_1, rfl, hf_, hq1, hq2⟩
  refine ⟨.one (.v (.float .f64 r_1)), _, _, rfl, fun _ => hf_.block, hs.below hf_, ?_⟩
  clear hs hf_
  by_cases hyes : fRank (canonF (unr n)) = n
  ·rw [← hmu] at hq2
   have nf_9 : canonF r_1 = canonF (unr n) := hq2
   have nf_8 : fRank (canonF (unr n)) = n := hyes
   have nf_5 : (n != n) = false := bne_self_eq_false n
   refine gn 0 (Rg.sq (bitL 6 15) 1) [kCd (bitL 6 47), kCd (bitL 5 31)] [(0, SV.one (SC.v (Value.int IntKind.u64 n))), (5, SV.one (cF r_1)), (17, SV.one (cF r_1))] [] ?_
   refine cpk 95 [SV.one (cF r_1)] (some 18) (Rg.sq (bitL 6 15) 2) (.one (.v (Value.int IntKind.u64 (fRank (canonF r_1))))) (fun L w1 hs => (sRank_ok (r_1) w1 ‹_›)) ?_
   refine gn 0 Rg.no [kCd (bitL 6 47), kCd (bitL 5 31)] [(5, SV.one (cF r_1)), (20, vB (fRank (canonF r_1) != n))] [] ?_
   try simp only [flx, h1, hml, hq1, hq2, nf_9, nf_1, nf_2, nf_6, nf_3, nf_9, nf_8, nf_5]
   refine gn 0 Rg.no [kCd (bitL 6 47), kCd (bitL 5 31)] [(5, SV.one (cF r_1)), (20, vB false)] [] ?_
   refine ltk 20 false ?_
   refine gn 0 Rg.no [kCd (bitL 6 63)] [(2, SV.one (cF r_1)), (3, vL true)] [] ?_
   refine rtk [SV.one (cF r_1), vL true] ?_
   intro L w1 hs
   exact ⟨_, by rw [unrank_yes hyes]; rfl, hs.out0, hq1, by rw [unrank_yes hyes]; exact hq2⟩
  ·rw [← hmu] at hq2
   have nf_9 : canonF r_1 = canonF (unr n) := hq2
   have nf_8 : (fRank (canonF (unr n)) != n) = true := bne_iff_ne.2 hyes
   refine gn 0 (Rg.sq (bitL 6 15) 1) [kCd (bitL 6 47), kCd (bitL 5 31)] [(0, SV.one (SC.v (Value.int IntKind.u64 n))), (5, SV.one (cF r_1)), (17, SV.one (cF r_1))] [] ?_
   refine cpk 95 [SV.one (cF r_1)] (some 18) (Rg.sq (bitL 6 15) 2) (.one (.v (Value.int IntKind.u64 (fRank (canonF r_1))))) (fun L w1 hs => (sRank_ok (r_1) w1 ‹_›)) ?_
   refine gn 0 Rg.no [kCd (bitL 6 47), kCd (bitL 5 31)] [(5, SV.one (cF r_1)), (20, vB (fRank (canonF r_1) != n))] [] ?_
   try simp only [flx, h1, hml, hq1, hq2, nf_9, nf_1, nf_2, nf_6, nf_3, nf_9, nf_8]
   refine gn 0 Rg.no [kCd (bitL 6 47), kCd (bitL 5 31)] [(5, SV.one (cF r_1)), (20, vB true)] [] ?_
   refine ltk 20 true ?_
   refine gn 0 Rg.no [kCd (bitL 8 175), kCd (bitL 5 31)] [(2, SV.one (cF 0)), (3, vL false)] [] ?_
   refine rtk [SV.one (cF 0), vL false] ?_
   intro L w1 hs
   exact ⟨0, by rw [unrank_no hyes]; rfl, hs.out0, by omega, by rw [unrank_no hyes]; rfl⟩
 have nf_3 : n % 9223372036854775808 = (unr n : Int) := by unfold unr; rw [if_neg hnan, if_neg hlo]; omega
 obtain ⟨m, hmu⟩ : ∃ m, unr n = m := ⟨_, rfl⟩
 rw [hmu] at nf_3 hml
 skip
 refine gn 0 Rg.no [kCd (bitL 4 11), kCd (bitL 3 7)] [(0, SV.one (SC.v (Value.int IntKind.u64 n))), (7, vB (n == 18446744073709551615))] [] ?_
 refine spl 7 (n == 18446744073709551615) ?_ ?_
 ·intro hb1
  replace hb1 := beq_iff_eq.1 hb1
  (exfalso; omega)
 intro hb1
 replace hb1 := beq_eq_false_iff_ne.1 hb1
 refine gn 0 Rg.no [kCd (bitL 6 59), kCd (bitL 3 7)] [(0, SV.one (SC.v (Value.int IntKind.u64 n))), (10, vB (n.fdiv (2 ^ min (Int.toNat 63) IntKind.u64.bits) == 1))] [] ?_
 try simp only [flx, h1, hml, nf_1, nf_2, nf_6, nf_3]
 refine spl 10 (n / 9223372036854775808 == 1) ?_ ?_
 rotate_left
 ·intro hb2
  replace hb2 := beq_eq_false_iff_ne.1 hb2
  (exfalso; omega)
 intro hb2
 replace hb2 := beq_iff_eq.1 hb2
 refine gn 0 (Rg.sq (bitL 4 7) 1) [kCd (bitL 4 15)] [(0, SV.one (SC.v (Value.int IntKind.u64 n))), (15, SV.one (SC.v (Value.int IntKind.u64 (IntKind.u64.wrap (↑(BitVec.ofInt IntKind.u64.bits n &&& BitVec.ofInt IntKind.u64.bits 9223372036854775807).toNat : Int)))))] [] ?_
 try simp only [flx, h1, hml, nf_1, nf_2, nf_6, nf_3]
 skip
 refine cak 80 [SV.one (SC.v (Value.int IntKind.u64 (↑m : Int)))] (some 16) (Rg.sq (bitL 4 7) 2) (fun L w1 hs => (sFloatOf_ok m w1 hml).mono ?_)
 rintro e_ w2_ ⟨r_1, rfl, hf_, hq1, hq2⟩
 refine ⟨.one (.v (.float .f64 r_1)), _, _, rfl, fun _ => hf_.block, hs.below hf_, ?_⟩
 clear hs hf_
 by_cases hyes : fRank (canonF (unr n)) = n
 ·rw [← hmu] at hq2
  have nf_9 : canonF r_1 = canonF (unr n) := hq2
  have nf_8 : fRank (canonF (unr n)) = n := hyes
  have nf_5 : (n != n) = false := bne_self_eq_false n
  refine gn 0 (Rg.sq (bitL 6 15) 1) [kCd (bitL 6 47), kCd (bitL 5 31)] [(0, SV.one (SC.v (Value.int IntKind.u64 n))), (5, SV.one (cF r_1)), (17, SV.one (cF r_1))] [] ?_
  refine cpk 95 [SV.one (cF r_1)] (some 18) (Rg.sq (bitL 6 15) 2) (.one (.v (Value.int IntKind.u64 (fRank (canonF r_1))))) (fun L w1 hs => (sRank_ok (r_1) w1 ‹_›)) ?_
  refine gn 0 Rg.no [kCd (bitL 6 47), kCd (bitL 5 31)] [(5, SV.one (cF r_1)), (20, vB (fRank (canonF r_1) != n))] [] ?_
  try simp only [flx, h1, hml, hq1, hq2, nf_9, nf_1, nf_2, nf_6, nf_3, nf_9, nf_8, nf_5]
  refine gn 0 Rg.no [kCd (bitL 6 47), kCd (bitL 5 31)] [(5, SV.one (cF r_1)), (20, vB false)] [] ?_
  refine ltk 20 false ?_
  refine gn 0 Rg.no [kCd (bitL 6 63)] [(2, SV.one (cF r_1)), (3, vL true)] [] ?_
  refine rtk [SV.one (cF r_1), vL true] ?_
  intro L w1 hs
  exact ⟨_, by rw [unrank_yes hyes]; rfl, hs.out0, hq1, by rw [unrank_yes hyes]; exact hq2⟩
 ·rw [← hmu] at hq2
  have nf_9 : canonF r_1 = canonF (unr n) := hq2
  have nf_8 : (fRank (canonF (unr n)) != n) = true := bne_iff_ne.2 hyes
  refine gn 0 (Rg.sq (bitL 6 15) 1) [kCd (bitL 6 47), kCd (bitL 5 31)] [(0, SV.one (SC.v (Value.int IntKind.u64 n))), (5, SV.one (cF r_1)), (17, SV.one (cF r_1))] [] ?_
  refine cpk 95 [SV.one (cF r_1)] (some 18) (Rg.sq (bitL 6 15) 2) (.one (.v (Value.int IntKind.u64 (fRank (canonF r_1))))) (fun L w1 hs => (sRank_ok (r_1) w1 ‹_›)) ?_
  refine gn 0 Rg.no [kCd (bitL 6 47), kCd (bitL 5 31)] [(5, SV.one (cF r_1)), (20, vB (fRank (canonF r_1) != n))] [] ?_
  try simp only [flx, h1, hml, hq1, hq2, nf_9, nf_1, nf_2, nf_6, nf_3, nf_9, nf_8]
  refine gn 0 Rg.no [kCd (bitL 6 47), kCd (bitL 5 31)] [(5, SV.one (cF r_1)), (20, vB true)] [] ?_
  refine ltk 20 true ?_
  refine gn 0 Rg.no [kCd (bitL 8 175), kCd (bitL 5 31)] [(2, SV.one (cF 0)), (3, vL false)] [] ?_
  refine rtk [SV.one (cF 0), vL false] ?_
  intro L w1 hs
  exact ⟨0, by rw [unrank_no hyes]; rfl, hs.out0, by omega, by rw [unrank_no hyes]; rfl⟩
end Go.Proofs.YtgleoebogikooaaGreat.Dk
