/- Walks of functions of the program: what each call returns and what it leaves in memory. Conditions: those that each theorem names. -/
import Derived.Test.YtgleoebogikooaaGreatU2
namespace Go.Proofs.YtgleoebogikooaaGreat.Dk
set_option linter.unusedVariables false
set_option linter.unusedSimpArgs false
open Go.Proofs.YtgleoebogikooaaGreat.Sx Go.Proofs Go.RowKit
set_option maxRecDepth 100000
set_option maxHeartbeats 1000000
theorem and52 {x : Int} (h0 : 0 ≤ x) (h1 : x < 18446744073709551616) : Go.bits .and .u64 x 4503599627370495 = x % 4503599627370496 := by
 obtain ⟨a, rfl⟩ := Int.eq_ofNat_of_zero_le h0
 have := bits_and_u64_nat a 4503599627370495 (by omega) (by omega)
 rw [show ((4503599627370495 : Nat) : Int) = 4503599627370495 by rfl] at this
 rw [this, show (4503599627370495 : Nat) = 2 ^ 52 - 1 by decide, Nat.and_two_pow_sub_one_eq_mod]
 omega
theorem and11 {x : Int} (h0 : 0 ≤ x) (h1 : x < 18446744073709551616) : Go.bits .and .u64 x 2047 = x % 2048 := by
 obtain ⟨a, rfl⟩ := Int.eq_ofNat_of_zero_le h0
 have := bits_and_u64_nat a 2047 (by omega) (by omega)
 rw [show ((2047 : Nat) : Int) = 2047 by rfl] at this
 rw [this, show (2047 : Nat) = 2 ^ 11 - 1 by decide, Nat.and_two_pow_sub_one_eq_mod]
 omega
theorem nan_canon {b : Nat} (h : isNaN b = true) : canonF b = 9221120237041090560 := by unfold canonF; rw [h]; rfl
theorem neg_up {x : Nat} (h : x < 9223372036854775808) : Op.negFloat .f64 x = 9223372036854775808 + x := by
 have h1 := HFloat.neg_pos h
 unfold Op.negFloat at h1 ⊢
 rw [show 2 ^ (FloatKind.f64.format.exponentBits + FloatKind.f64.format.fractionBits) = 9223372036854775808 by rfl] at h1 ⊢
 conv => lhs; rw [← h1]
 rw [Nat.xor_assoc, Nat.xor_self, Nat.xor_zero]
theorem ofTail (n : Nat) (w : World) (s x j : Nat) (hs : s = 0 ∨ s = 9223372036854775808) (hn : n = s + x) (hx : x < 9218868437227405312) (hj : j ≤ 1023) (H : ∀ k, k ≤ j → HFloat.dbls k x < 9218868437227405312) :
  Holds ⟨Tryz.prog, Tryz.f80, bodyOf Tryz.f80, fun e w' => ∃ r, e = .returned (.float .f64 r) ∧ Below w.heap.size w w' ∧ r < 18446744073709551616 ∧ canonF r = canonF n, w, []⟩ [oldA w]
   ⟨.no, [KI.loop [true, true, true, true, true, false, true, true, true, true, true, true, true], KI.block 2, KI.code [true, true, true, true, true, true]], [(0, .one (.v (.int .u64 (n : Int)))), (6, .one (.v (.float .f64 (HFloat.dbls j x)))), (7, .one (.v (.int .i64 (-(j : Int)))))], []⟩ := by
 refine loop_at (ι := Nat) (fun k => [(6, .one (.v (.float .f64 (HFloat.dbls k x)))), (7, .one (.v (.int .i64 (-(k : Int)))))]) (fun _ => []) (fun _ => [oldA w]) (fun k => k ≤ j) (fun k => k) j rfl rfl rfl (Nat.le_refl _) ?_
 intro k hk ih
 have nf_6 : (n : Int).fdiv (2 ^ min (Int.toNat 63) IntKind.u64.bits) = (n : Int) / 9223372036854775808 := shr63 _
 cases k with
 | zero =>
  have nf_8 : HFloat.dbls 0 x = x := rfl
  have nf_7 : Op.negFloat .f64 x = 9223372036854775808 + x := neg_up (by omega)
  refine gn 0 Rg.no [kCd (bitL 15 24543), kCd (bitL 14 16351), kLp (bitL 13 8159), KI.block 2, kCd (bitL 6 63)] [(0, SV.one (SC.v (Value.int IntKind.u64 (↑n : Int)))), (6, SV.one (cF (HFloat.dbls 0 x))), (7, vI 0), (39, vB false)] [] ?_
  refine ltk 39 false ?_
  refine gn 0 Rg.no [kCd (bitL 8 191), kCd (bitL 7 127)] [(6, SV.one (cF (HFloat.dbls 0 x))), (46, vB ((↑n : Int).fdiv (2 ^ min (Int.toNat 63) IntKind.u64.bits) == 1))] [] ?_
  try simp only [flx, nf_7, nf_6, nf_8, nf_7]
  refine spl 46 ((↑n : Int) / 9223372036854775808 == 1) ?_ ?_
  ·intro hb1
   replace hb1 := beq_iff_eq.1 hb1
   refine gn 0 Rg.no [kCd (bitL 10 703), kCd (bitL 7 127)] [(2, SV.one (cF (Op.negFloat FloatKind.f64 x)))] [] ?_
   try simp only [flx, nf_7, nf_6, nf_8, nf_7]
   refine rtk [SV.one (cF (9223372036854775808 + x))] ?_
   intro L w1 hs
   exact ⟨_, rfl, hs.out0, by omega, by rw [show n = 9223372036854775808 + x by omega]⟩
  ·intro hb1
   replace hb1 := beq_eq_false_iff_ne.1 hb1
   refine gn 0 Rg.no [kCd (bitL 8 255)] [(2, SV.one (cF x))] [] ?_
   refine rtk [SV.one (cF x)] ?_
   intro L w1 hs
   exact ⟨_, rfl, hs.out0, by omega, by rw [show n = x by omega]⟩
 | succ k =>
  have q : HFloat.floatBits' .quo .f64 (HFloat.dbls (k + 1) x) 4611686018427387904 = some (HFloat.dbls k x) := by
   have h1 := H (k + 1) hk
   rw [HFloat.dbls_succ] at h1 ⊢
   exact HFloat.half_dbl h1
  have nf_1 : IntKind.i64.wrap (-((k + 1 : Nat) : Int) + 1) = -(k : Int) := by rw [IntKind.wrap_i64]; omega
  refine gn 0 Rg.no [kCd (bitL 15 24543), kCd (bitL 14 16351), kLp (bitL 13 8159), KI.block 2, kCd (bitL 6 63)] [(0, SV.one (SC.v (Value.int IntKind.u64 (↑n : Int)))), (6, SV.one (cF (HFloat.dbls (k + 1) x))), (7, vI (-(↑(k + 1) : Int))), (39, vB (decide (-(↑(k + 1) : Int) < 0)))] [] ?_
  refine spl 39 (decide (-(↑(k + 1) : Int) < 0)) ?_ ?_
  ·intro hb1
   replace hb1 := of_decide_eq_true hb1
   refine gn 0 (Rg.sq (bitL 16 49119) 1) [KI.block 3, kCd (bitL 15 32735), kLp (bitL 13 8159), KI.block 2, kCd (bitL 6 63)] [(0, SV.one (SC.v (Value.int IntKind.u64 (↑n : Int)))), (7, vI (-(↑(k + 1) : Int))), (42, SV.one (cF (HFloat.dbls (k + 1) x)))] [] ?_
   refine fop_at 1 (by kernel_rfl : atP _ _ _ 1 false = some (Op.binOp BinOp.quo 43 (tmpO 42) (Operand.const (Value.float FloatKind.f64 4611686018427387904)) 43, 43, some 43, Rg.sq (bitL 16 49119) 2)) rfl rfl q ?_
   refine gn 0 Rg.no [kLp (bitL 13 8159), KI.block 2, kCd (bitL 6 63)] [(0, SV.one (SC.v (Value.int IntKind.u64 (↑n : Int)))), (6, SV.one (cF (HFloat.dbls k x))), (7, vI (IntKind.i64.wrap (-(↑(k + 1) : Int) + 1)))] [] ?_
   try simp only [flx, nf_6, nf_1]
   exact ih k (by omega) (by omega)
  ·intro hb1
   replace hb1 := of_decide_eq_false hb1
   (exfalso; omega)
theorem sFloatOf_ok (n : Nat) (w : World) (hn : n < 18446744073709551616) :
  Calls Tryz.prog 80 #[.int .u64 n] w fun e w' => ∃ r, e = .returned (.float .f64 r) ∧ Below w.heap.size w w' ∧ r < 18446744073709551616 ∧ canonF r = canonF n := by
 refine enter (args := [.one (.v (.int .u64 n))]) Tryz.func80 (c := bodyOf Tryz.f80) rfl rfl (start_LOK _) (start_old w) ?_
 obtain ⟨s, ex, g, hs, he, hg, hng⟩ : ∃ s ex g : Nat, (s = 0 ∨ s = 9223372036854775808) ∧ ex < 2048 ∧ g < 4503599627370496 ∧ n = s + (ex * 4503599627370496 + g) := ⟨n / 9223372036854775808 * 9223372036854775808, n % 9223372036854775808 / 4503599627370496, n % 4503599627370496, by omega, by omega, by omega, by omega⟩
 have nf_1 : IntKind.u64.wrap (((BitVec.ofInt IntKind.u64.bits ((n : Int).fdiv (2 ^ min (Int.toNat 52) IntKind.u64.bits)) &&& BitVec.ofInt IntKind.u64.bits 2047).toNat : Nat) : Int) = (ex : Int) := by
  rw [shr52]
  exact (and11 (by omega) (by omega)).trans (by omega)
 have nf_2 : IntKind.i64.wrap (ex : Int) = ex := by rw [IntKind.wrap_i64]; omega
 have nf_3 : IntKind.u64.wrap (((BitVec.ofInt IntKind.u64.bits (n : Int) &&& BitVec.ofInt IntKind.u64.bits 4503599627370495).toNat : Nat) : Int) = (g : Int) := (and52 (by omega) (by omega)).trans (by omega)
 have nf_4 : FloatKind.f64.nearest (g : Int) = HFloat.whole g := HFloat.near_whole hg
 have q1 : HFloat.floatBits' .quo .f64 (HFloat.whole g) 4841369599423283200 = some (HFloat.dbls 1022 g) := HFloat.div_big hg
 have q2 : HFloat.floatBits' .add .f64 (HFloat.dbls 1022 g) 4607182418800017408 = some (4607182418800017408 + g) := HFloat.add_one hg
 have q3 : HFloat.floatBits' .quo .f64 4607182418800017408 0 = some 9218868437227405312 := HFloat.div_zero
 have nf_5 : IntKind.i64.wrap ((ex : Int) - 1023) = (ex : Int) - 1023 := by rw [IntKind.wrap_i64]; omega
 have nf_6 : (n : Int).fdiv (2 ^ min (Int.toNat 63) IntKind.u64.bits) = (n : Int) / 9223372036854775808 := shr63 _
 refine gn 0 (Rg.sq (bitL 5 15) 2) [kCd (bitL 5 31)] [(0, SV.one (SC.v (Value.int IntKind.u64 (↑n : Int)))), (3, vI (IntKind.i64.wrap (IntKind.u64.wrap (↑(BitVec.ofInt IntKind.u64.bits ((↑n : Int).fdiv (2 ^ min (Int.toNat 52) IntKind.u64.bits)) &&& BitVec.ofInt IntKind.u64.bits 2047).toNat : Int)))), (4, SV.one (SC.v (Value.int IntKind.u64 (IntKind.u64.wrap (↑(BitVec.ofInt IntKind.u64.bits (↑n : Int) &&& BitVec.ofInt IntKind.u64.bits 4503599627370495).toNat : Int))))), (5, SV.one (cF 0)), (15, SV.one (cF (FloatKind.f64.nearest (IntKind.u64.wrap (↑(BitVec.ofInt IntKind.u64.bits (↑n : Int) &&& BitVec.ofInt IntKind.u64.bits 4503599627370495).toNat : Int)))))] [] ?_
 try simp only [flx, hn, nf_1, nf_2, nf_3, nf_4, nf_5, nf_6]
 refine fop_at 2 (by kernel_rfl : atP _ _ _ 2 false = some (Op.binOp BinOp.quo 43 (tmpO 15) (Operand.const (Value.float FloatKind.f64 4841369599423283200)) 43, 43, some 16, Rg.sq (bitL 5 15) 3)) rfl rfl q1 ?_
 refine gn 0 Rg.no [kCd (bitL 7 95), kCd (bitL 6 63)] [(0, SV.one (SC.v (Value.int IntKind.u64 (↑n : Int)))), (3, vI (↑ex : Int)), (4, SV.one (SC.v (Value.int IntKind.u64 (↑g : Int)))), (5, SV.one (cF 0)), (6, SV.one (cF (HFloat.dbls 1022 g))), (18, vB ((↑ex : Int) == 2047))] [] ?_
 refine spl 18 ((↑ex : Int) == 2047) ?_ ?_
 ·intro hb
  replace hb := beq_iff_eq.1 hb
  refine gn 0 Rg.no [kCd (bitL 10 607), kCd (bitL 9 351), kCd (bitL 6 63)] [(0, SV.one (SC.v (Value.int IntKind.u64 (↑n : Int)))), (5, SV.one (cF 0)), (20, vB ((↑g : Int) != 0))] [] ?_
  refine spl 20 ((↑g : Int) != 0) ?_ ?_
  ·intro hb2
   replace hb2 := bne_iff_ne.1 hb2
   refine gn 0 (Rg.sq (bitL 12 607) 2) [kCd (bitL 12 2655), kCd (bitL 9 351), kCd (bitL 6 63)] [(21, SV.one (cF 0)), (22, SV.one (cF 0))] [] ?_
   refine nan_at true (by kernel_rfl : atB _ _ _ true = some (Op.binOp BinOp.quo 43 (tmpO 21) (tmpO 22) 43, 43, some 23, Rg.sq (bitL 12 607) 3)) rfl rfl rfl HFloat.div_zz ?_
   intro r hr1 hr2
   have hnn : isNaN n = true := by unfold isNaN; exact decide_eq_true (by omega)
   refine gn 0 Rg.no [kCd (bitL 12 2655), kCd (bitL 9 351), kCd (bitL 6 63)] [(2, SV.one (cF r))] [] ?_
   refine rtk [SV.one (cF r)] ?_
   intro L w1 hs
   exact ⟨r, rfl, hs.out0, hr2, by rw [nan_canon hr1, nan_canon hnn]⟩
  ·intro hb2
   replace hb2 := bne_eq_false_iff_eq.1 hb2
   have nf_7 : Op.negFloat .f64 9218868437227405312 = 9223372036854775808 + 9218868437227405312 := neg_up (by omega)
   refine gn 0 (Rg.sq (bitL 9 351) 1) [kCd (bitL 6 63)] [(0, SV.one (SC.v (Value.int IntKind.u64 (↑n : Int)))), (24, SV.one (cF 0))] [] ?_
   refine fop_at 1 (by kernel_rfl : atP _ _ _ 1 false = some (Op.binOp BinOp.quo 43 (Operand.const (Value.float FloatKind.f64 4607182418800017408)) (tmpO 24) 43, 43, some 25, Rg.sq (bitL 9 351) 2)) rfl rfl q3 ?_
   refine gn 0 Rg.no [kCd (bitL 8 191), kCd (bitL 7 127)] [(6, SV.one (cF 9218868437227405312)), (46, vB ((↑n : Int).fdiv (2 ^ min (Int.toNat 63) IntKind.u64.bits) == 1))] [] ?_
   try simp only [flx, hn, nf_7, nf_1, nf_2, nf_3, nf_4, nf_5, nf_6, nf_7]
   refine spl 46 ((↑n : Int) / 9223372036854775808 == 1) ?_ ?_
   ·intro hb1
    replace hb1 := beq_iff_eq.1 hb1
    refine gn 0 Rg.no [kCd (bitL 10 703), kCd (bitL 7 127)] [(2, SV.one (cF 18442240474082181120))] [] ?_
    refine rtk [SV.one (cF 18442240474082181120)] ?_
    intro L w1 hs
    exact ⟨_, rfl, hs.out0, by omega, by rw [show n = 9223372036854775808 + 9218868437227405312 by omega]⟩
   ·intro hb1
    replace hb1 := beq_eq_false_iff_ne.1 hb1
    refine gn 0 Rg.no [kCd (bitL 8 255)] [(2, SV.one (cF 9218868437227405312))] [] ?_
    refine rtk [SV.one (cF 9218868437227405312)] ?_
    intro L w1 hs
    exact ⟨_, rfl, hs.out0, by omega, by rw [show n = 9218868437227405312 by omega]⟩
 intro hb
 replace hb := beq_eq_false_iff_ne.1 hb
 refine gn 0 Rg.no [kCd (bitL 11 1503), kCd (bitL 10 991), kCd (bitL 6 63)] [(0, SV.one (SC.v (Value.int IntKind.u64 (↑n : Int)))), (6, SV.one (cF (HFloat.dbls 1022 g))), (7, vI (IntKind.i64.wrap ((↑ex : Int) - 1023))), (29, vB ((↑ex : Int) == 0))] [] ?_
 try simp only [flx, hn, nf_1, nf_2, nf_3, nf_4, nf_5, nf_6]
 refine spl 29 ((↑ex : Int) == 0) ?_ ?_
 ·intro hb2
  replace hb2 := beq_iff_eq.1 hb2
  refine gn 0 Rg.no [kLp (bitL 13 7135), KI.block 0, kCd (bitL 11 2015), kCd (bitL 6 63)] [(0, SV.one (SC.v (Value.int IntKind.u64 (↑n : Int)))), (6, SV.one (cF (HFloat.dbls 1022 g))), (7, vI (-1022))] [] ?_
  refine round_at ?_
  refine gn 0 Rg.no [kCd (bitL 15 23519), kCd (bitL 14 15327), kLp (bitL 13 7135), KI.block 0, kCd (bitL 11 2015), kCd (bitL 6 63)] [(0, SV.one (SC.v (Value.int IntKind.u64 (↑n : Int)))), (6, SV.one (cF (HFloat.dbls 1022 g))), (7, vI (-1022)), (33, vB false)] [] ?_
  refine ltk 33 false ?_
  refine gn 0 Rg.no [kLp (bitL 13 8159), KI.block 2, kCd (bitL 6 63)] [(0, SV.one (SC.v (Value.int IntKind.u64 (↑n : Int)))), (6, SV.one (cF (HFloat.dbls 1022 g))), (7, vI (-1022))] [] ?_
  exact ofTail n w s g 1022 hs (by omega) (by omega) (by omega) (fun k hk => by have := HFloat.dbls_lt hg hk; omega)
 intro hb2
 replace hb2 := beq_eq_false_iff_ne.1 hb2
 refine gn 0 (Rg.sq (bitL 12 3551) 1) [kCd (bitL 10 991), kCd (bitL 6 63)] [(0, SV.one (SC.v (Value.int IntKind.u64 (↑n : Int)))), (7, vI ((↑ex : Int) - 1023)), (30, SV.one (cF (HFloat.dbls 1022 g)))] [] ?_
 refine fop_at 1 (by kernel_rfl : atP _ _ _ 1 false = some (Op.binOp BinOp.add 43 (tmpO 30) (Operand.const (Value.float FloatKind.f64 4607182418800017408)) 43, 43, some 31, Rg.sq (bitL 12 3551) 2)) rfl rfl q2 ?_
 refine gn 0 Rg.no [kLp (bitL 13 7135), KI.block 0, kCd (bitL 11 2015), kCd (bitL 6 63)] [(0, SV.one (SC.v (Value.int IntKind.u64 (↑n : Int)))), (6, SV.one (cF (4607182418800017408 + g))), (7, vI ((↑ex : Int) - 1023))] [] ?_
 rcases Nat.lt_or_ge ex 1023 with hlt | hge
 ·refine round_at ?_
  refine gn 0 Rg.no [kCd (bitL 15 23519), kCd (bitL 14 15327), kLp (bitL 13 7135), KI.block 0, kCd (bitL 11 2015), kCd (bitL 6 63)] [(0, SV.one (SC.v (Value.int IntKind.u64 (↑n : Int)))), (6, SV.one (cF (4607182418800017408 + g))), (7, vI ((↑ex : Int) - 1023)), (33, vB (decide ((↑ex : Int) - 1023 > 0)))] [] ?_
  refine spl 33 (decide ((↑ex : Int) - 1023 > 0)) ?_ ?_
  ·intro hb1
   replace hb1 := of_decide_eq_true hb1
   (exfalso; omega)
  intro hb1
  replace hb1 := of_decide_eq_false hb1
  refine gn 0 Rg.no [kLp (bitL 13 8159), KI.block 2, kCd (bitL 6 63)] [(0, SV.one (SC.v (Value.int IntKind.u64 (↑n : Int)))), (6, SV.one (cF (4607182418800017408 + g))), (7, vI ((↑ex : Int) - 1023))] [] ?_
  have h1 := fb_dbls (r := ex * 4503599627370496 + g) (by omega) (1023 - ex)
  have h2 := ofTail n w s (ex * 4503599627370496 + g) (1023 - ex) hs (by omega) (by omega) (by omega) (fun k hk => by rw [fb_dbls (by omega)]; omega)
  rw [h1, show ex * 4503599627370496 + g + (1023 - ex) * 4503599627370496 = 4607182418800017408 + g by omega, show -((1023 - ex : Nat) : Int) = (ex : Int) - 1023 by omega] at h2
  exact h2
 obtain ⟨x, hx⟩ : ∃ x, x = ex * 4503599627370496 + g := ⟨_, rfl⟩
 refine loop_at (ι := Nat × Nat) (fun q => [(6, .one (.v (.float .f64 q.2))), (7, .one (.v (.int .i64 (q.1 : Int))))]) (fun _ => []) (fun _ => [oldA w]) (fun q => q.2 + q.1 * 4503599627370496 = x ∧ 4607182418800017408 ≤ q.2) (fun q => q.1) (ex - 1023, 4607182418800017408 + g) (by rw [show (ex : Int) - 1023 = ((ex - 1023 : Nat) : Int) by omega]; rfl) rfl rfl ⟨by simp only; omega, by simp only; omega⟩ ?_
 rintro ⟨k, a⟩ ⟨hk, ha⟩ ih
 simp only at hk ha ih ⊢
 clear nf_1 nf_3 nf_4 q1 q2 q3
 cases k with
 | zero =>
  refine gn 0 Rg.no [kCd (bitL 15 23519), kCd (bitL 14 15327), kLp (bitL 13 7135), KI.block 0, kCd (bitL 11 2015), kCd (bitL 6 63)] [(0, SV.one (SC.v (Value.int IntKind.u64 (↑n : Int)))), (6, SV.one (cF a)), (7, vI 0), (33, vB false)] [] ?_
  refine ltk 33 false ?_
  refine gn 0 Rg.no [kLp (bitL 13 8159), KI.block 2, kCd (bitL 6 63)] [(0, SV.one (SC.v (Value.int IntKind.u64 (↑n : Int)))), (6, SV.one (cF a)), (7, vI 0)] [] ?_
  exact ofTail n w s a 0 hs (by omega) (by omega) (by omega) (fun k hk => (by have e : k = 0 := (by omega); subst e; show a < _; omega))
 | succ k =>
  have hd : HFloat.dbl a = a + 4503599627370496 := by unfold HFloat.dbl; rw [if_neg (by omega)]
  obtain ⟨a2, ha2⟩ : ∃ a2, a2 = a + 4503599627370496 := ⟨_, rfl⟩
  have q : HFloat.floatBits' .mul .f64 a 4611686018427387904 = some a2 := by rw [ha2, ← hd]; exact HFloat.mul_two (by rw [hd]; omega)
  have nf_1 : IntKind.i64.wrap (((k + 1 : Nat) : Int) - 1) = (k : Int) := by rw [IntKind.wrap_i64]; omega
  refine gn 0 Rg.no [kCd (bitL 15 23519), kCd (bitL 14 15327), kLp (bitL 13 7135), KI.block 0, kCd (bitL 11 2015), kCd (bitL 6 63)] [(0, SV.one (SC.v (Value.int IntKind.u64 (↑n : Int)))), (6, SV.one (cF a)), (7, vI (↑(k + 1) : Int)), (33, vB (decide ((↑(k + 1) : Int) > 0)))] [] ?_
  refine spl 33 (decide ((↑(k + 1) : Int) > 0)) ?_ ?_
  ·intro hb1
   replace hb1 := of_decide_eq_true hb1
   refine gn 0 (Rg.sq (bitL 16 48095) 1) [KI.block 1, kCd (bitL 15 31711), kLp (bitL 13 7135), KI.block 0, kCd (bitL 11 2015), kCd (bitL 6 63)] [(0, SV.one (SC.v (Value.int IntKind.u64 (↑n : Int)))), (7, vI (↑(k + 1) : Int)), (36, SV.one (cF a))] [] ?_
   refine fop_at 1 (by kernel_rfl : atP _ _ _ 1 false = some (Op.binOp BinOp.mul 43 (tmpO 36) (Operand.const (Value.float FloatKind.f64 4611686018427387904)) 43, 43, some 37, Rg.sq (bitL 16 48095) 2)) rfl rfl q ?_
   refine gn 0 Rg.no [kLp (bitL 13 7135), KI.block 0, kCd (bitL 11 2015), kCd (bitL 6 63)] [(0, SV.one (SC.v (Value.int IntKind.u64 (↑n : Int)))), (6, SV.one (cF a2)), (7, vI (IntKind.i64.wrap ((↑(k + 1) : Int) - 1)))] [] ?_
   try simp only [flx, hn, nf_2, nf_5, nf_6, nf_1]
   exact ih (k, a2) ⟨by simp only; omega, by simp only; omega⟩ (by simp only; omega)
  ·intro hb1
   replace hb1 := of_decide_eq_false hb1
   (exfalso; omega)
end Go.Proofs.YtgleoebogikooaaGreat.Dk
