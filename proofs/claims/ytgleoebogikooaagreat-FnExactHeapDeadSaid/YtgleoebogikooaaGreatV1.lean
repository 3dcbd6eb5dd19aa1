/- Walks of functions of the program: what each call returns and what it leaves in memory. Conditions: those that each theorem names. -/
import Derived.Test.YtgleoebogikooaaGreatU9
namespace Go.Proofs.YtgleoebogikooaaGreat.Dk
set_option linter.unusedVariables false
set_option linter.unusedSimpArgs false
open Go.Proofs.YtgleoebogikooaaGreat.Sx Go.Proofs Go.RowKit
set_option maxRecDepth 100000
set_option maxHeartbeats 1000000
theorem sValRead_ok (b : List Int) (vb : Value) (w : World) (hb : rdRow kU8 w.heap b vb) (hby : byOk b) (hl : b.length ≤ 1048576) :
  Calls Tryz.prog 53 #[vb] w fun e w' => ∃ (bof : Nat) (Aot : Option Addr) (cot : Nat), e = .returned (.tuple #[.agg #[.int .i64 ((valR b).getD zIt0).kind, .int .i64 ((valR b).getD zIt0).n, .float .f64 bof, .slice Aot ((valR b).getD zIt0).t.length cot], .bool (valR b).isSome]) ∧ Fresh w w' [rowA 5 kU8 ((valR b).getD zIt0).t (.slice Aot ((valR b).getD zIt0).t.length cot)] ∧ bof < 18446744073709551616 ∧ canonF bof = ((valR b).getD zIt0).f := by
 obtain ⟨Ab, cb, rfl⟩ := rdRow_form hb
 refine enter (args := [.one (.v (.slice Ab b.length cb))]) Tryz.func53 (c := bodyOf Tryz.f53) rfl rfl (start_LOK _) (start_old w) ?_
 have q1 := specI_by (g := gVal) hby
 have q2 := specI_n (g := gVal) hby
 have q3 := specI_len (g := gVal) (b := b)
 have q5 := valB_by q1
 by_cases hlen : b.length < 1 ∨ 41 < b.length
 ·refine gn 2 (Rg.sq (bitL 4 3) 4) [kCd (bitL 4 11), kCd (bitL 3 7)] [(0, vS Ab b.length cb), (2, vR 0 0), (4, vR 1 0), (8, vB (decide ((↑b.length : Int) < 1)))] [LB.mk [cI 0, cI 0, cF 0, cS none 0 0] 49, LB.mk [cI 0, cI 0, cF 0, cS none 0 0] 49] ?_
  refine spl 8 (decide ((↑b.length : Int) < 1)) ?_ ?_
  ·intro hb1
   replace hb1 := of_decide_eq_true hb1
   refine gn 1 Rg.no [kCd (bitL 6 43), kCd (bitL 3 7)] [(2, vR 0 0), (3, vL false)] [LB.mk [cI 0, cI 0, cF 0, cS none 0 0] 49] ?_
   refine rtk [SV.agg [cI 0, cI 0, cF 0, cS none 0 0], vL false] ?_
   intro L w1 hs
   exact ⟨0, none, 0, by rw [valR_short (by omega)]; rfl, by rw [valR_short (by omega)]; exact hs.out1 rowA_nil, by decide, by rw [valR_short (by omega)]; rfl⟩
  ·intro hb1
   replace hb1 := of_decide_eq_false hb1
   refine gn 2 Rg.no [kCd (bitL 4 11), kCd (bitL 3 7)] [(0, vS Ab b.length cb), (2, vR 0 0), (4, vR 1 0), (12, vB (decide ((↑b.length : Int) > 41)))] [LB.mk [cI 0, cI 0, cF 0, cS none 0 0] 49, LB.mk [cI 0, cI 0, cF 0, cS none 0 0] 49] ?_
   refine spl 12 (decide ((↑b.length : Int) > 41)) ?_ ?_
   ·intro hb2
    replace hb2 := of_decide_eq_true hb2
    refine gn 1 Rg.no [kCd (bitL 6 43), kCd (bitL 3 7)] [(2, vR 0 0), (3, vL false)] [LB.mk [cI 0, cI 0, cF 0, cS none 0 0] 49] ?_
    refine rtk [SV.agg [cI 0, cI 0, cF 0, cS none 0 0], vL false] ?_
    intro L w1 hs
    exact ⟨0, none, 0, by rw [valR_short (by omega)]; rfl, by rw [valR_short (by omega)]; exact hs.out1 rowA_nil, by decide, by rw [valR_short (by omega)]; rfl⟩
   ·intro hb2
    replace hb2 := of_decide_eq_false hb2
    (exfalso; omega)
 have hpos : 0 < b.length := by omega
 have hh := head_get hpos
 have h0b := hby _ (List.getElem_mem hpos)
 rw [← hh] at h0b
 have hdb := byOk_drop hby 1
 have hbe := be_bnd hdb
 have nf_1 : IntKind.i64.wrap (b[0]'hpos) = b.headD 0 := by rw [← hh, IntKind.wrap_i64]; omega
 have nf_2 : IntKind.i64.wrap (IntKind.u64.wrap (((BitVec.ofInt IntKind.u64.bits (be (b.drop 1)) ^^^ BitVec.ofInt IntKind.u64.bits 9223372036854775808).toNat : Nat) : Int)) = sgn (be (b.drop 1)) := by
  rw [show IntKind.u64.wrap (((BitVec.ofInt IntKind.u64.bits (be (b.drop 1)) ^^^ BitVec.ofInt IntKind.u64.bits 9223372036854775808).toNat : Nat) : Int) = _ from xor63 hbe.1 hbe.2, IntKind.wrap_i64]
  unfold sgn
  split <;> omega
 refine gn 2 (Rg.sq (bitL 4 3) 4) [kCd (bitL 4 11), kCd (bitL 3 7)] [(0, vS Ab b.length cb), (2, vR 0 0), (4, vR 1 0), (8, vB (decide ((↑b.length : Int) < 1)))] [LB.mk [cI 0, cI 0, cF 0, cS none 0 0] 49, LB.mk [cI 0, cI 0, cF 0, cS none 0 0] 49] ?_
 refine spl 8 (decide ((↑b.length : Int) < 1)) ?_ ?_
 ·intro hb1
  replace hb1 := of_decide_eq_true hb1
  (exfalso; omega)
 intro hb1
 replace hb1 := of_decide_eq_false hb1
 refine gn 2 Rg.no [kCd (bitL 4 11), kCd (bitL 3 7)] [(0, vS Ab b.length cb), (2, vR 0 0), (4, vR 1 0), (12, vB (decide ((↑b.length : Int) > 41)))] [LB.mk [cI 0, cI 0, cF 0, cS none 0 0] 49, LB.mk [cI 0, cI 0, cF 0, cS none 0 0] 49] ?_
 refine spl 12 (decide ((↑b.length : Int) > 41)) ?_ ?_
 ·intro hb2
  replace hb2 := of_decide_eq_true hb2
  (exfalso; omega)
 intro hb2
 replace hb2 := of_decide_eq_false hb2
 refine gn 2 (Rg.sq (bitL 4 7) 1) [kCd (bitL 4 15)] [(0, vS Ab b.length cb), (2, vR 0 0), (4, vR 1 0), (14, vS Ab b.length cb)] [LB.mk [cI 0, cI 0, cF 0, cS none 0 0] 49, LB.mk [cI 0, cI 0, cF 0, cS none 0 0] 49] ?_
 refine index_at 1 (by kernel_rfl : atP _ _ _ 1 false = some (Op.indexAddr 44 (tmpO 14) (Operand.const (Value.int IntKind.i64 0)), 0, some 15, Rg.sq (bitL 4 7) 2)) (ni := 0) (sz := 1) (by kernel_rfl) rfl rfl rfl ‹_› (fun L w1 hs => rd_some (i := 0) (rdRow_ext (hs.old 0 rfl) hb) ‹_›) ?_
 intro a_1 ha_1
 cases ha_1
 refine gn 2 (Rg.sq (bitL 4 7) 2) [kCd (bitL 4 15)] [(0, vS (some a_1) b.length cb), (2, vR 0 0), (4, vR 1 0), (15, vP (a_1.add 0))] [LB.mk [cI 0, cI 0, cF 0, cS none 0 0] 49, LB.mk [cI 0, cI 0, cF 0, cS none 0 0] 49] ?_
 refine load_one 2 (by kernel_rfl : atP _ _ _ 2 true = some (Op.load 5 (tmpO 15), 5, some 16, Rg.sq (bitL 4 7) 3)) (n := 1) (by kernel_rfl) rfl ?_
 intro L w1 hs
 refine ⟨.v (.int .u8 b[0]), rd_sc (rdRow_ext (hs.old 0 rfl) hb) hpos, ?_⟩
 clear hs
 refine gn 2 Rg.no [kCd (bitL 8 239), KI.block 0, kCd (bitL 5 31)] [(0, vS (some a_1) b.length cb), (2, vR 0 0), (4, vR 1 0), (20, vI (IntKind.i64.wrap b[0])), (21, vB (IntKind.i64.wrap b[0] == 1))] [LB.mk [cI 0, cI 0, cF 0, cS none 0 0] 49, LB.mk [cI (IntKind.i64.wrap b[0]), cI 0, cF 0, cS none 0 0] 49] ?_
 try simp only [flx, nf_1, nf_2]
 by_cases h1 : b.headD 0 = 1
 ·have hxs : specI gVal b = ⟨1, sgn (be (b.drop 1)), 0, []⟩ := by unfold specI; rw [if_pos h1]
  rw [h1]
  refine gn 2 Rg.no [kCd (bitL 8 239), KI.block 0, kCd (bitL 5 31)] [(0, vS (some a_1) b.length cb), (2, vR 0 0), (4, vR 1 0), (20, vI 1), (21, vB true)] [LB.mk [cI 0, cI 0, cF 0, cS none 0 0] 49, LB.mk [cI 1, cI 0, cF 0, cS none 0 0] 49] ?_
  refine ltk 21 true ?_
  refine gn 2 (Rg.sq (bitL 9 239) 1) [KI.block 0, kCd (bitL 5 31)] [(0, vS (some a_1) b.length cb), (2, vR 0 0), (4, vR 1 0), (23, vS (some a_1) b.length cb)] [LB.mk [cI 0, cI 0, cF 0, cS none 0 0] 49, LB.mk [cI 1, cI 0, cF 0, cS none 0 0] 49] ?_
  obtain ⟨hcap_hrest, hrest⟩ := rd_part (l := 1) (h := b.length) (sz := 1) hb rfl (by omega) (by omega)
  refine slice_at 1 (l := 1) (h := b.length) (m := cb) (sz := 1) (by kernel_rfl : atP _ _ _ 1 false = some (Op.slice 44 (tmpO 23) (some (Operand.const (Value.int IntKind.i64 1))) none none, 44, some 24, Rg.sq (bitL 9 239) 2)) (by kernel_rfl) rfl ⟨_, rfl⟩ rfl rfl (by decide) (by omega) hcap_hrest (by first | exact Nat.le_refl _ | omega) ?_
  generalize (if cb = 1 then (some a_1) else (some a_1).map (·.add (1 * 1))) = A_hrest at *
  rw [show (b.take b.length).drop 1 = b.drop 1 by rw [List.take_length]] at hrest
  rw [hxs] at q1 q2 q3 q5
  have q4 : ((⟨1, sgn (be (b.drop 1)), 0, []⟩ : It) : It).t.length ≤ 1048576 := by omega
  refine gn 2 (Rg.sq (bitL 9 239) 2) [KI.block 0, kCd (bitL 5 31)] [(0, vS (some a_1) b.length cb), (2, vR 0 0), (4, vR 1 0), (24, vS A_hrest (b.length - 1) (cb - 1))] [LB.mk [cI 0, cI 0, cF 0, cS none 0 0] 49, LB.mk [cI 1, cI 0, cF 0, cS none 0 0] 49] ?_
  refine cpk 77 [vS A_hrest (b.length - 1) (cb - 1)] (some 25) (Rg.sq (bitL 9 239) 3) (.one (.v (Value.int IntKind.u64 (be (List.drop 1 b))))) (fun L w1 hs => (l3low_ok (List.drop 1 b) (Value.slice A_hrest (b.length - 1) (cb - 1)) w1 (rdRow_ext (hs.old 0 rfl) hrest) ‹_› (by simp; omega))) ?_
  refine gn 2 (Rg.dr (bitL 7 31) (bitL 6 9) 4 2) [kCd (bitL 7 95), kCd (bitL 6 63)] [(2, vR 0 0), (4, vR 1 0), (43, SV.agg [cI 1, cI (IntKind.i64.wrap (IntKind.u64.wrap (↑(BitVec.ofInt IntKind.u64.bits (be (List.drop 1 b)) ^^^ BitVec.ofInt IntKind.u64.bits 9223372036854775808).toNat : Int))), cF 0, cS none 0 0]), (46, vS (some a_1) b.length cb)] [LB.mk [cI 0, cI 0, cF 0, cS none 0 0] 49, LB.mk [cI 1, cI (IntKind.i64.wrap (IntKind.u64.wrap (↑(BitVec.ofInt IntKind.u64.bits (be (List.drop 1 b)) ^^^ BitVec.ofInt IntKind.u64.bits 9223372036854775808).toNat : Int))), cF 0, cS none 0 0] 49] ?_
  try simp only [flx, nf_1, nf_2]
  refine two_at 1 4 (by kernel_rfl) ?_ ?_ <;> simp only [fxOf]
  ·refine gn 2 (Rg.fx (bitL 7 31) (bitL 6 9) 3 2 1) [kCd (bitL 7 95), kCd (bitL 6 63)] [(2, vR 0 0), (4, vR 1 0), (43, SV.agg [cI 1, cI (sgn (be (List.drop 1 b))), cF 0, cS none 0 0]), (46, vS (some a_1) b.length cb)] [LB.mk [cI 0, cI 0, cF 0, cS none 0 0] 49, LB.mk [cI 1, cI (sgn (be (List.drop 1 b))), cF 0, cS none 0 0] 49] ?_
   refine cak 81 [SV.agg [cI 1, cI (sgn (be (List.drop 1 b))), cF 0, cS none 0 0]] (some 44) (Rg.dr (bitL 7 31) (bitL 6 11) 3 12) (fun L w1 hs => (sValB_ok (It.mk 1 (sgn (be (List.drop 1 b))) 0 []) ([Value.int IntKind.i64 1, Value.int IntKind.i64 (sgn (be (List.drop 1 b))), Value.float FloatKind.f64 0, Value.slice none 0 0]) w1 (kIt_mk (by omega) rfl rdRow_nil) q2 ‹_›).mono ?_)
   rintro e_ w2_ ⟨B_1, d_1, rfl, hf_⟩
   refine ⟨.one (.v (Value.slice B_1 (valB (It.mk 1 (sgn (be (List.drop 1 b))) 0 [])).length d_1)), _, _, rfl, fun _ => hf_.1.block, hs.fresh hf_, ?_⟩
   clear hs hf_
   refine gn 2 (Rg.dr (bitL 7 31) (bitL 6 11) 3 12) [kCd (bitL 7 95), kCd (bitL 6 63)] [(2, vR 0 0), (4, vR 1 0), (44, vS B_1 (valB (It.mk 1 (sgn (be (List.drop 1 b))) 0 [])).length d_1), (46, vS (some a_1) b.length cb)] [LB.mk [cI 0, cI 0, cF 0, cS none 0 0] 49, LB.mk [cI 1, cI (sgn (be (List.drop 1 b))), cF 0, cS none 0 0] 49] ?_
   refine two_at 2 4 (by kernel_rfl) ?_ ?_ <;> simp only [fxOf]
   ·refine bstr_atB true (valB (⟨1, sgn (be (b.drop 1)), 0, []⟩ : It)) (by kernel_rfl : atB _ _ _ true = some (Op.convert 44 9 (tmpO 44), 9, some 45, Rg.dr (bitL 7 31) (bitL 6 15) 2 12)) (by kernel_rfl) rfl (fun L w1 hs => hs.rd 0 rfl) ?_
    refine gn 2 (Rg.dr (bitL 7 31) (bitL 6 15) 2 12) [kCd (bitL 7 95), kCd (bitL 6 63)] [(2, vR 0 0), (4, vR 1 0), (45, SV.one (SC.v (Value.string (strOf (valB (It.mk 1 (sgn (be (List.drop 1 b))) 0 [])))))), (46, vS (some a_1) b.length cb)] [LB.mk [cI 0, cI 0, cF 0, cS none 0 0] 49, LB.mk [cI 1, cI (sgn (be (List.drop 1 b))), cF 0, cS none 0 0] 49] ?_
    refine bstr_atB true (b) (by kernel_rfl : atB _ _ _ true = some (Op.convert 44 9 (tmpO 46), 9, some 47, Rg.dr (bitL 7 31) (bitL 6 31) 1 12)) (by kernel_rfl) rfl (fun L w1 hs => rdRow_ext (hs.old 1 rfl) hb) ?_
    refine gn 2 (Rg.dr (bitL 7 31) (bitL 6 31) 1 12) [kCd (bitL 7 95), kCd (bitL 6 63)] [(2, vR 0 0), (4, vR 1 0), (45, SV.one (SC.v (Value.string (strOf (valB (It.mk 1 (sgn (be (List.drop 1 b))) 0 [])))))), (47, SV.one (SC.v (Value.string (strOf b))))] [LB.mk [cI 0, cI 0, cF 0, cS none 0 0] 49, LB.mk [cI 1, cI (sgn (be (List.drop 1 b))), cF 0, cS none 0 0] 49] ?_
    refine sne_at 5 (by kernel_rfl : atP _ _ _ 5 false = some (Op.binOp BinOp.neq 9 (tmpO 45) (tmpO 47) 9, 4, some 48, Rg.dr (bitL 7 31) (bitL 6 63) 0 12)) rfl rfl q5 hby ?_
    by_cases hq : valB (⟨1, sgn (be (b.drop 1)), 0, []⟩ : It) = b
    ·have hyes := valS_yes hpos (by rw [hxs]; exact hq)
     rw [hxs] at hyes
     have nf_9 : (!decide (valB (⟨1, sgn (be (b.drop 1)), 0, []⟩ : It) = b)) = false := by rw [decide_eq_true hq]; rfl
     refine gn 2 Rg.no [kCd (bitL 7 95), kCd (bitL 6 63)] [(2, vR 0 0), (4, vR 1 0), (48, vB !decide (valB (It.mk 1 (sgn (be (List.drop 1 b))) 0 []) = b))] [LB.mk [cI 0, cI 0, cF 0, cS none 0 0] 49, LB.mk [cI 1, cI (sgn (be (List.drop 1 b))), cF 0, cS none 0 0] 49] ?_
     try simp only [flx, nf_1, nf_2, nf_9]
     refine gn 2 Rg.no [kCd (bitL 7 95), kCd (bitL 6 63)] [(2, vR 0 0), (4, vR 1 0), (48, vB false)] [LB.mk [cI 0, cI 0, cF 0, cS none 0 0] 49, LB.mk [cI 1, cI (sgn (be (List.drop 1 b))), cF 0, cS none 0 0] 49] ?_
     refine ltk 48 false ?_
     refine gn 1 Rg.no [kCd (bitL 7 127)] [(2, vR 0 0), (3, vL true)] [LB.mk [cI 1, cI (sgn (be (List.drop 1 b))), cF 0, cS none 0 0] 49] ?_
     refine rtk [SV.agg [cI 1, cI (sgn (be (List.drop 1 b))), cF 0, cS none 0 0], vL true] ?_
     intro L w1 hs
     exact ⟨_, _, _, by rw [hyes]; rfl, by rw [hyes]; exact (hs.erases [0]).out1 rowA_nil, by first | assumption | decide, by rw [hyes]; first | assumption | rfl⟩
    ·have hno := valS_no (b := b) (by rw [hxs]; exact hq)
     have nf_9 : (!decide (valB (⟨1, sgn (be (b.drop 1)), 0, []⟩ : It) = b)) = true := by rw [decide_eq_false hq]; rfl
     refine gn 2 Rg.no [kCd (bitL 7 95), kCd (bitL 6 63)] [(2, vR 0 0), (4, vR 1 0), (48, vB !decide (valB (It.mk 1 (sgn (be (List.drop 1 b))) 0 []) = b))] [LB.mk [cI 0, cI 0, cF 0, cS none 0 0] 49, LB.mk [cI 1, cI (sgn (be (List.drop 1 b))), cF 0, cS none 0 0] 49] ?_
     try simp only [flx, nf_1, nf_2, nf_9]
     refine gn 2 Rg.no [kCd (bitL 7 95), kCd (bitL 6 63)] [(2, vR 0 0), (4, vR 1 0), (48, vB true)] [LB.mk [cI 0, cI 0, cF 0, cS none 0 0] 49, LB.mk [cI 1, cI (sgn (be (List.drop 1 b))), cF 0, cS none 0 0] 49] ?_
     refine ltk 48 true ?_
     refine gn 1 Rg.no [kCd (bitL 9 351), kCd (bitL 6 63)] [(2, vR 0 0), (3, vL false)] [LB.mk [cI 0, cI 0, cF 0, cS none 0 0] 49] ?_
     refine rtk [SV.agg [cI 0, cI 0, cF 0, cS none 0 0], vL false] ?_
     intro L w1 hs
     exact ⟨0, none, 0, by rw [hno]; rfl, by rw [hno]; exact (hs.erases [0]).out1 rowA_nil, by decide, by rw [hno]; rfl⟩
   ·refine bstr_atB true (b) (by kernel_rfl : atB _ _ _ true = some (Op.convert 44 9 (tmpO 46), 9, some 47, Rg.dr (bitL 7 31) (bitL 6 27) 2 12)) (by kernel_rfl) rfl (fun L w1 hs => rdRow_ext (hs.old 1 rfl) hb) ?_
    refine gn 2 (Rg.dr (bitL 7 31) (bitL 6 27) 2 12) [kCd (bitL 7 95), kCd (bitL 6 63)] [(2, vR 0 0), (4, vR 1 0), (44, vS B_1 (valB (It.mk 1 (sgn (be (List.drop 1 b))) 0 [])).length d_1), (47, SV.one (SC.v (Value.string (strOf b))))] [LB.mk [cI 0, cI 0, cF 0, cS none 0 0] 49, LB.mk [cI 1, cI (sgn (be (List.drop 1 b))), cF 0, cS none 0 0] 49] ?_
    refine bstr_atB true (valB (⟨1, sgn (be (b.drop 1)), 0, []⟩ : It)) (by kernel_rfl : atB _ _ _ true = some (Op.convert 44 9 (tmpO 44), 9, some 45, Rg.dr (bitL 7 31) (bitL 6 31) 1 12)) (by kernel_rfl) rfl (fun L w1 hs => hs.rd 0 rfl) ?_
    refine gn 2 (Rg.dr (bitL 7 31) (bitL 6 31) 1 12) [kCd (bitL 7 95), kCd (bitL 6 63)] [(2, vR 0 0), (4, vR 1 0), (45, SV.one (SC.v (Value.string (strOf (valB (It.mk 1 (sgn (be (List.drop 1 b))) 0 [])))))), (47, SV.one (SC.v (Value.string (strOf b))))] [LB.mk [cI 0, cI 0, cF 0, cS none 0 0] 49, LB.mk [cI 1, cI (sgn (be (List.drop 1 b))), cF 0, cS none 0 0] 49] ?_
    refine sne_at 5 (by kernel_rfl : atP _ _ _ 5 false = some (Op.binOp BinOp.neq 9 (tmpO 45) (tmpO 47) 9, 4, some 48, Rg.dr (bitL 7 31) (bitL 6 63) 0 12)) rfl rfl q5 hby ?_
    by_cases hq : valB (⟨1, sgn (be (b.drop 1)), 0, []⟩ : It) = b
    ·have hyes := valS_yes hpos (by rw [hxs]; exact hq)
     rw [hxs] at hyes
     have nf_9 : (!decide (valB (⟨1, sgn (be (b.drop 1)), 0, []⟩ : It) = b)) = false := by rw [decide_eq_true hq]; rfl
     refine gn 2 Rg.no [kCd (bitL 7 95), kCd (bitL 6 63)] [(2, vR 0 0), (4, vR 1 0), (48, vB !decide (valB (It.mk 1 (sgn (be (List.drop 1 b))) 0 []) = b))] [LB.mk [cI 0, cI 0, cF 0, cS none 0 0] 49, LB.mk [cI 1, cI (sgn (be (List.drop 1 b))), cF 0, cS none 0 0] 49] ?_
     try simp only [flx, nf_1, nf_2, nf_9]
     refine gn 2 Rg.no [kCd (bitL 7 95), kCd (bitL 6 63)] [(2, vR 0 0), (4, vR 1 0), (48, vB false)] [LB.mk [cI 0, cI 0, cF 0, cS none 0 0] 49, LB.mk [cI 1, cI (sgn (be (List.drop 1 b))), cF 0, cS none 0 0] 49] ?_
     refine ltk 48 false ?_
     refine gn 1 Rg.no [kCd (bitL 7 127)] [(2, vR 0 0), (3, vL true)] [LB.mk [cI 1, cI (sgn (be (List.drop 1 b))), cF 0, cS none 0 0] 49] ?_
     refine rtk [SV.agg [cI 1, cI (sgn (be (List.drop 1 b))), cF 0, cS none 0 0], vL true] ?_
     intro L w1 hs
     exact ⟨_, _, _, by rw [hyes]; rfl, by rw [hyes]; exact (hs.erases [0]).out1 rowA_nil, by first | assumption | decide, by rw [hyes]; first | assumption | rfl⟩
    ·have hno := valS_no (b := b) (by rw [hxs]; exact hq)
     have nf_9 : (!decide (valB (⟨1, sgn (be (b.drop 1)), 0, []⟩ : It) = b)) = true := by rw [decide_eq_false hq]; rfl
     refine gn 2 Rg.no [kCd (bitL 7 95), kCd (bitL 6 63)] [(2, vR 0 0), (4, vR 1 0), (48, vB !decide (valB (It.mk 1 (sgn (be (List.drop 1 b))) 0 []) = b))] [LB.mk [cI 0, cI 0, cF 0, cS none 0 0] 49, LB.mk [cI 1, cI (sgn (be (List.drop 1 b))), cF 0, cS none 0 0] 49] ?_
     try simp only [flx, nf_1, nf_2, nf_9]
     refine gn 2 Rg.no [kCd (bitL 7 95), kCd (bitL 6 63)] [(2, vR 0 0), (4, vR 1 0), (48, vB true)] [LB.mk [cI 0, cI 0, cF 0, cS none 0 0] 49, LB.mk [cI 1, cI (sgn (be (List.drop 1 b))), cF 0, cS none 0 0] 49] ?_
     refine ltk 48 true ?_
     refine gn 1 Rg.no [kCd (bitL 9 351), kCd (bitL 6 63)] [(2, vR 0 0), (3, vL false)] [LB.mk [cI 0, cI 0, cF 0, cS none 0 0] 49] ?_
     refine rtk [SV.agg [cI 0, cI 0, cF 0, cS none 0 0], vL false] ?_
     intro L w1 hs
     exact ⟨0, none, 0, by rw [hno]; rfl, by rw [hno]; exact (hs.erases [0]).out1 rowA_nil, by decide, by rw [hno]; rfl⟩
  ·refine bstr_atB true (b) (by kernel_rfl : atB _ _ _ true = some (Op.convert 44 9 (tmpO 46), 9, some 47, Rg.dr (bitL 7 31) (bitL 6 25) 3 12)) (by kernel_rfl) rfl (fun L w1 hs => rdRow_ext (hs.old 0 rfl) hb) ?_
   refine gn 2 (Rg.dr (bitL 7 31) (bitL 6 25) 3 12) [kCd (bitL 7 95), kCd (bitL 6 63)] [(2, vR 0 0), (4, vR 1 0), (43, SV.agg [cI 1, cI (sgn (be (List.drop 1 b))), cF 0, cS none 0 0]), (47, SV.one (SC.v (Value.string (strOf b))))] [LB.mk [cI 0, cI 0, cF 0, cS none 0 0] 49, LB.mk [cI 1, cI (sgn (be (List.drop 1 b))), cF 0, cS none 0 0] 49] ?_
   refine cak 81 [SV.agg [cI 1, cI (sgn (be (List.drop 1 b))), cF 0, cS none 0 0]] (some 44) (Rg.dr (bitL 7 31) (bitL 6 27) 2 12) (fun L w1 hs => (sValB_ok (It.mk 1 (sgn (be (List.drop 1 b))) 0 []) ([Value.int IntKind.i64 1, Value.int IntKind.i64 (sgn (be (List.drop 1 b))), Value.float FloatKind.f64 0, Value.slice none 0 0]) w1 (kIt_mk (by omega) rfl rdRow_nil) q2 ‹_›).mono ?_)
   rintro e_ w2_ ⟨B_1, d_1, rfl, hf_⟩
   refine ⟨.one (.v (Value.slice B_1 (valB (It.mk 1 (sgn (be (List.drop 1 b))) 0 [])).length d_1)), _, _, rfl, fun _ => hf_.1.block, hs.fresh hf_, ?_⟩
   clear hs hf_
   refine gn 2 (Rg.dr (bitL 7 31) (bitL 6 27) 2 12) [kCd (bitL 7 95), kCd (bitL 6 63)] [(2, vR 0 0), (4, vR 1 0), (44, vS B_1 (valB (It.mk 1 (sgn (be (List.drop 1 b))) 0 [])).length d_1), (47, SV.one (SC.v (Value.string (strOf b))))] [LB.mk [cI 0, cI 0, cF 0, cS none 0 0] 49, LB.mk [cI 1, cI (sgn (be (List.drop 1 b))), cF 0, cS none 0 0] 49] ?_
   refine bstr_atB true (valB (⟨1, sgn (be (b.drop 1)), 0, []⟩ : It)) (by kernel_rfl : atB _ _ _ true = some (Op.convert 44 9 (tmpO 44), 9, some 45, Rg.dr (bitL 7 31) (bitL 6 31) 1 12)) (by kernel_rfl) rfl (fun L w1 hs => hs.rd 0 rfl) ?_
   refine gn 2 (Rg.dr (bitL 7 31) (bitL 6 31) 1 12) [kCd (bitL 7 95), kCd (bitL 6 63)] [(2, vR 0 0), (4, vR 1 0), (45, SV.one (SC.v (Value.string (strOf (valB (It.mk 1 (sgn (be (List.drop 1 b))) 0 [])))))), (47, SV.one (SC.v (Value.string (strOf b))))] [LB.mk [cI 0, cI 0, cF 0, cS none 0 0] 49, LB.mk [cI 1, cI (sgn (be (List.drop 1 b))), cF 0, cS none 0 0] 49] ?_
   refine sne_at 5 (by kernel_rfl : atP _ _ _ 5 false = some (Op.binOp BinOp.neq 9 (tmpO 45) (tmpO 47) 9, 4, some 48, Rg.dr (bitL 7 31) (bitL 6 63) 0 12)) rfl rfl q5 hby ?_
   by_cases hq : valB (⟨1, sgn (be (b.drop 1)), 0, []⟩ : It) = b
   ·have hyes := valS_yes hpos (by rw [hxs]; exact hq)
    rw [hxs] at hyes
    have nf_9 : (!decide (valB (⟨1, sgn (be (b.drop 1)), 0, []⟩ : It) = b)) = false := by rw [decide_eq_true hq]; rfl
    refine gn 2 Rg.no [kCd (bitL 7 95), kCd (bitL 6 63)] [(2, vR 0 0), (4, vR 1 0), (48, vB !decide (valB (It.mk 1 (sgn (be (List.drop 1 b))) 0 []) = b))] [LB.mk [cI 0, cI 0, cF 0, cS none 0 0] 49, LB.mk [cI 1, cI (sgn (be (List.drop 1 b))), cF 0, cS none 0 0] 49] ?_
    try simp only [flx, nf_1, nf_2, nf_9]
    refine gn 2 Rg.no [kCd (bitL 7 95), kCd (bitL 6 63)] [(2, vR 0 0), (4, vR 1 0), (48, vB false)] [LB.mk [cI 0, cI 0, cF 0, cS none 0 0] 49, LB.mk [cI 1, cI (sgn (be (List.drop 1 b))), cF 0, cS none 0 0] 49] ?_
    refine ltk 48 false ?_
    refine gn 1 Rg.no [kCd (bitL 7 127)] [(2, vR 0 0), (3, vL true)] [LB.mk [cI 1, cI (sgn (be (List.drop 1 b))), cF 0, cS none 0 0] 49] ?_
    refine rtk [SV.agg [cI 1, cI (sgn (be (List.drop 1 b))), cF 0, cS none 0 0], vL true] ?_
    intro L w1 hs
    exact ⟨_, _, _, by rw [hyes]; rfl, by rw [hyes]; exact (hs.erases [0]).out1 rowA_nil, by first | assumption | decide, by rw [hyes]; first | assumption | rfl⟩
   ·have hno := valS_no (b := b) (by rw [hxs]; exact hq)
    have nf_9 : (!decide (valB (⟨1, sgn (be (b.drop 1)), 0, []⟩ : It) = b)) = true := by rw [decide_eq_false hq]; rfl
    refine gn 2 Rg.no [kCd (bitL 7 95), kCd (bitL 6 63)] [(2, vR 0 0), (4, vR 1 0), (48, vB !decide (valB (It.mk 1 (sgn (be (List.drop 1 b))) 0 []) = b))] [LB.mk [cI 0, cI 0, cF 0, cS none 0 0] 49, LB.mk [cI 1, cI (sgn (be (List.drop 1 b))), cF 0, cS none 0 0] 49] ?_
    try simp only [flx, nf_1, nf_2, nf_9]
    refine gn 2 Rg.no [kCd (bitL 7 95), kCd (bitL 6 63)] [(2, vR 0 0), (4, vR 1 0), (48, vB true)] [LB.mk [cI 0, cI 0, cF 0, cS none 0 0] 49, LB.mk [cI 1, cI (sgn (be (List.drop 1 b))), cF 0, cS none 0 0] 49] ?_
    refine ltk 48 true ?_
    refine gn 1 Rg.no [kCd (bitL 9 351), kCd (bitL 6 63)] [(2, vR 0 0), (3, vL false)] [LB.mk [cI 0, cI 0, cF 0, cS none 0 0] 49] ?_
    refine rtk [SV.agg [cI 0, cI 0, cF 0, cS none 0 0], vL false] ?_
    intro L w1 hs
    exact ⟨0, none, 0, by rw [hno]; rfl, by rw [hno]; exact (hs.erases [0]).out1 rowA_nil, by decide, by rw [hno]; rfl⟩
 by_cases h2 : b.headD 0 = 2
 ·have hxs : specI gVal b = ⟨2, 0, gVal (be (b.drop 1)), []⟩ := by unfold specI; rw [if_neg h1, if_pos h2]
  rw [h2]
  refine gn 2 Rg.no [kCd (bitL 8 239), KI.block 0, kCd (bitL 5 31)] [(0, vS (some a_1) b.length cb), (2, vR 0 0), (4, vR 1 0), (20, vI 2), (21, vB false)] [LB.mk [cI 0, cI 0, cF 0, cS none 0 0] 49, LB.mk [cI 2, cI 0, cF 0, cS none 0 0] 49] ?_
  refine ltk 21 false ?_
  refine gn 2 Rg.no [kCd (bitL 10 1007), KI.block 0, kCd (bitL 5 31)] [(0, vS (some a_1) b.length cb), (2, vR 0 0), (4, vR 1 0), (20, vI 2), (29, vB true)] [LB.mk [cI 0, cI 0, cF 0, cS none 0 0] 49, LB.mk [cI 2, cI 0, cF 0, cS none 0 0] 49] ?_
  refine ltk 29 true ?_
  refine gn 2 (Rg.sq (bitL 11 1007) 1) [KI.block 0, kCd (bitL 5 31)] [(0, vS (some a_1) b.length cb), (2, vR 0 0), (4, vR 1 0), (31, vS (some a_1) b.length cb)] [LB.mk [cI 0, cI 0, cF 0, cS none 0 0] 49, LB.mk [cI 2, cI 0, cF 0, cS none 0 0] 49] ?_
  obtain ⟨hcap_hrest, hrest⟩ := rd_part (l := 1) (h := b.length) (sz := 1) hb rfl (by omega) (by omega)
  refine slice_at 1 (l := 1) (h := b.length) (m := cb) (sz := 1) (by kernel_rfl : atP _ _ _ 1 false = some (Op.slice 44 (tmpO 31) (some (Operand.const (Value.int IntKind.i64 1))) none none, 44, some 32, Rg.sq (bitL 11 1007) 2)) (by kernel_rfl) rfl ⟨_, rfl⟩ rfl rfl (by decide) (by omega) hcap_hrest (by first | exact Nat.le_refl _ | omega) ?_
  generalize (if cb = 1 then (some a_1) else (some a_1).map (·.add (1 * 1))) = A_hrest at *
  rw [show (b.take b.length).drop 1 = b.drop 1 by rw [List.take_length]] at hrest
  skip
  refine gn 2 (Rg.sq (bitL 11 1007) 2) [KI.block 0, kCd (bitL 5 31)] [(0, vS (some a_1) b.length cb), (2, vR 0 0), (4, vR 1 0), (32, vS A_hrest (b.length - 1) (cb - 1))] [LB.mk [cI 0, cI 0, cF 0, cS none 0 0] 49, LB.mk [cI 2, cI 0, cF 0, cS none 0 0] 49] ?_
  refine cpk 77 [vS A_hrest (b.length - 1) (cb - 1)] (some 33) (Rg.sq (bitL 11 1007) 3) (.one (.v (Value.int IntKind.u64 (be (List.drop 1 b))))) (fun L w1 hs => (l3low_ok (List.drop 1 b) (Value.slice A_hrest (b.length - 1) (cb - 1)) w1 (rdRow_ext (hs.old 0 rfl) hrest) ‹_› (by simp; omega))) ?_
  refine gn 2 (Rg.sq (bitL 11 1007) 3) [KI.block 0, kCd (bitL 5 31)] [(0, vS (some a_1) b.length cb), (2, vR 0 0), (4, vR 1 0), (33, SV.one (SC.v (Value.int IntKind.u64 (be (List.drop 1 b)))))] [LB.mk [cI 0, cI 0, cF 0, cS none 0 0] 49, LB.mk [cI 2, cI 0, cF 0, cS none 0 0] 49] ?_
  refine cak 80 [SV.one (SC.v (Value.int IntKind.u64 (be (List.drop 1 b))))] (some 34) (Rg.sq (bitL 11 1007) 4) (fun L w1 hs => (sFloatOfG_ok (be (List.drop 1 b)) w1 (by omega) (by omega)).mono ?_)
  rintro e_ w2_ ⟨r_1, rfl, hf_, hq1, hq2⟩
  refine ⟨.one (.v (Value.float FloatKind.f64 r_1)), _, _, rfl, fun _ => hf_.block, hs.below hf_, ?_⟩
  clear hs hf_
  refine gn 2 (Rg.dr (bitL 7 31) (bitL 6 9) 4 2) [kCd (bitL 7 95), kCd (bitL 6 63)] [(2, vR 0 0), (4, vR 1 0), (43, SV.agg [cI 2, cI 0, cF r_1, cS none 0 0]), (46, vS (some a_1) b.length cb)] [LB.mk [cI 0, cI 0, cF 0, cS none 0 0] 49, LB.mk [cI 2, cI 0, cF r_1, cS none 0 0] 49] ?_
  skip
  rw [hxs] at q1 q2 q3 q5
  have q4 : ((⟨2, 0, gVal (be (b.drop 1)), []⟩ : It) : It).t.length ≤ 1048576 := by omega
  refine gn 2 (Rg.dr (bitL 7 31) (bitL 6 9) 4 2) [kCd (bitL 7 95), kCd (bitL 6 63)] [(2, vR 0 0), (4, vR 1 0), (43, SV.agg [cI 2, cI 0, cF r_1, cS none 0 0]), (46, vS (some a_1) b.length cb)] [LB.mk [cI 0, cI 0, cF 0, cS none 0 0] 49, LB.mk [cI 2, cI 0, cF r_1, cS none 0 0] 49] ?_
  refine two_at 1 4 (by kernel_rfl) ?_ ?_ <;> simp only [fxOf]
  ·refine gn 2 (Rg.fx (bitL 7 31) (bitL 6 9) 3 2 1) [kCd (bitL 7 95), kCd (bitL 6 63)] [(2, vR 0 0), (4, vR 1 0), (43, SV.agg [cI 2, cI 0, cF r_1, cS none 0 0]), (46, vS (some a_1) b.length cb)] [LB.mk [cI 0, cI 0, cF 0, cS none 0 0] 49, LB.mk [cI 2, cI 0, cF r_1, cS none 0 0] 49] ?_
   refine cak 81 [SV.agg [cI 2, cI 0, cF r_1, cS none 0 0]] (some 44) (Rg.dr (bitL 7 31) (bitL 6 11) 3 12) (fun L w1 hs => (sValB_ok (It.mk 2 0 (gVal (be (List.drop 1 b))) []) ([Value.int IntKind.i64 2, Value.int IntKind.i64 0, Value.float FloatKind.f64 r_1, Value.slice none 0 0]) w1 (kIt_mk ‹_› hq2 rdRow_nil) ‹_› ‹_›).mono ?_)
   rintro e_ w2_ ⟨B_1, d_1, rfl, hf_⟩
   refine ⟨.one (.v (Value.slice B_1 (valB (It.mk 2 0 (gVal (be (List.drop 1 b))) [])).length d_1)), _, _, rfl, fun _ => hf_.1.block, hs.fresh hf_, ?_⟩
   clear hs hf_
   refine gn 2 (Rg.dr (bitL 7 31) (bitL 6 11) 3 12) [kCd (bitL 7 95), kCd (bitL 6 63)] [(2, vR 0 0), (4, vR 1 0), (44, vS B_1 (valB (It.mk 2 0 (gVal (be (List.drop 1 b))) [])).length d_1), (46, vS (some a_1) b.length cb)] [LB.mk [cI 0, cI 0, cF 0, cS none 0 0] 49, LB.mk [cI 2, cI 0, cF r_1, cS none 0 0] 49] ?_
   refine two_at 2 4 (by kernel_rfl) ?_ ?_ <;> simp only [fxOf]
   ·refine bstr_atB true (valB (⟨2, 0, gVal (be (b.drop 1)), []⟩ : It)) (by kernel_rfl : atB _ _ _ true = some (Op.convert 44 9 (tmpO 44), 9, some 45, Rg.dr (bitL 7 31) (bitL 6 15) 2 12)) (by kernel_rfl) rfl (fun L w1 hs => hs.rd 0 rfl) ?_
    refine gn 2 (Rg.dr (bitL 7 31) (bitL 6 15) 2 12) [kCd (bitL 7 95), kCd (bitL 6 63)] [(2, vR 0 0), (4, vR 1 0), (45, SV.one (SC.v (Value.string (strOf (valB (It.mk 2 0 (gVal (be (List.drop 1 b))) [])))))), (46, vS (some a_1) b.length cb)] [LB.mk [cI 0, cI 0, cF 0, cS none 0 0] 49, LB.mk [cI 2, cI 0, cF r_1, cS none 0 0] 49] ?_
    refine bstr_atB true (b) (by kernel_rfl : atB _ _ _ true = some (Op.convert 44 9 (tmpO 46), 9, some 47, Rg.dr (bitL 7 31) (bitL 6 31) 1 12)) (by kernel_rfl) rfl (fun L w1 hs => rdRow_ext (hs.old 1 rfl) hb) ?_
    refine gn 2 (Rg.dr (bitL 7 31) (bitL 6 31) 1 12) [kCd (bitL 7 95), kCd (bitL 6 63)] [(2, vR 0 0), (4, vR 1 0), (45, SV.one (SC.v (Value.string (strOf (valB (It.mk 2 0 (gVal (be (List.drop 1 b))) [])))))), (47, SV.one (SC.v (Value.string (strOf b))))] [LB.mk [cI 0, cI 0, cF 0, cS none 0 0] 49, LB.mk [cI 2, cI 0, cF r_1, cS none 0 0] 49] ?_
    refine sne_at 5 (by kernel_rfl : atP _ _ _ 5 false = some (Op.binOp BinOp.neq 9 (tmpO 45) (tmpO 47) 9, 4, some 48, Rg.dr (bitL 7 31) (bitL 6 63) 0 12)) rfl rfl q5 hby ?_
    by_cases hq : valB (⟨2, 0, gVal (be (b.drop 1)), []⟩ : It) = b
    ·have hyes := valS_yes hpos (by rw [hxs]; exact hq)
     rw [hxs] at hyes
     have nf_9 : (!decide (valB (⟨2, 0, gVal (be (b.drop 1)), []⟩ : It) = b)) = false := by rw [decide_eq_true hq]; rfl
     refine gn 2 Rg.no [kCd (bitL 7 95), kCd (bitL 6 63)] [(2, vR 0 0), (4, vR 1 0), (48, vB !decide (valB (It.mk 2 0 (gVal (be (List.drop 1 b))) []) = b))] [LB.mk [cI 0, cI 0, cF 0, cS none 0 0] 49, LB.mk [cI 2, cI 0, cF r_1, cS none 0 0] 49] ?_
     try simp only [flx, hq1, hq2, nf_1, nf_2, nf_9]
     refine gn 2 Rg.no [kCd (bitL 7 95), kCd (bitL 6 63)] [(2, vR 0 0), (4, vR 1 0), (48, vB false)] [LB.mk [cI 0, cI 0, cF 0, cS none 0 0] 49, LB.mk [cI 2, cI 0, cF r_1, cS none 0 0] 49] ?_
     refine ltk 48 false ?_
     refine gn 1 Rg.no [kCd (bitL 7 127)] [(2, vR 0 0), (3, vL true)] [LB.mk [cI 2, cI 0, cF r_1, cS none 0 0] 49] ?_
     refine rtk [SV.agg [cI 2, cI 0, cF r_1, cS none 0 0], vL true] ?_
     intro L w1 hs
     exact ⟨_, _, _, by rw [hyes]; rfl, by rw [hyes]; exact (hs.erases [0]).out1 rowA_nil, by first | assumption | decide, by rw [hyes]; first | assumption | rfl⟩
    ·have hno := valS_no (b := b) (by rw [hxs]; exact hq)
     have nf_9 : (!decide (valB (⟨2, 0, gVal (be (b.drop 1)), []⟩ : It) = b)) = true := by rw [decide_eq_false hq]; rfl
     refine gn 2 Rg.no [kCd (bitL 7 95), kCd (bitL 6 63)] [(2, vR 0 0), (4, vR 1 0), (48, vB !decide (valB (It.mk 2 0 (gVal (be (List.drop 1 b))) []) = b))] [LB.mk [cI 0, cI 0, cF 0, cS none 0 0] 49, LB.mk [cI 2, cI 0, cF r_1, cS none 0 0] 49] ?_
     try simp only [flx, hq1, hq2, nf_1, nf_2, nf_9]
     refine gn 2 Rg.no [kCd (bitL 7 95), kCd (bitL 6 63)] [(2, vR 0 0), (4, vR 1 0), (48, vB true)] [LB.mk [cI 0, cI 0, cF 0, cS none 0 0] 49, LB.mk [cI 2, cI 0, cF r_1, cS none 0 0] 49] ?_
     refine ltk 48 true ?_
     refine gn 1 Rg.no [kCd (bitL 9 351), kCd (bitL 6 63)] [(2, vR 0 0), (3, vL false)] [LB.mk [cI 0, cI 0, cF 0, cS none 0 0] 49] ?_
     refine rtk [SV.agg [cI 0, cI 0, cF 0, cS none 0 0], vL false] ?_
     intro L w1 hs
     exact ⟨0, none, 0, by rw [hno]; rfl, by rw [hno]; exact (hs.erases [0]).out1 rowA_nil, by decide, by rw [hno]; rfl⟩
   ·refine bstr_atB true (b) (by kernel_rfl : atB _ _ _ true = some (Op.convert 44 9 (tmpO 46), 9, some 47, Rg.dr (bitL 7 31) (bitL 6 27) 2 12)) (by kernel_rfl) rfl (fun L w1 hs => rdRow_ext (hs.old 1 rfl) hb) ?_
    refine gn 2 (Rg.dr (bitL 7 31) (bitL 6 27) 2 12) [kCd (bitL 7 95), kCd (bitL 6 63)] [(2, vR 0 0), (4, vR 1 0), (44, vS B_1 (valB (It.mk 2 0 (gVal (be (List.drop 1 b))) [])).length d_1), (47, SV.one (SC.v (Value.string (strOf b))))] [LB.mk [cI 0, cI 0, cF 0, cS none 0 0] 49, LB.mk [cI 2, cI 0, cF r_1, cS none 0 0] 49] ?_
    refine bstr_atB true (valB (⟨2, 0, gVal (be (b.drop 1)), []⟩ : It)) (by kernel_rfl : atB _ _ _ true = some (Op.convert 44 9 (tmpO 44), 9, some 45, Rg.dr (bitL 7 31) (bitL 6 31) 1 12)) (by kernel_rfl) rfl (fun L w1 hs => hs.rd 0 rfl) ?_
    refine gn 2 (Rg.dr (bitL 7 31) (bitL 6 31) 1 12) [kCd (bitL 7 95), kCd (bitL 6 63)] [(2, vR 0 0), (4, vR 1 0), (45, SV.one (SC.v (Value.string (strOf (valB (It.mk 2 0 (gVal (be (List.drop 1 b))) [])))))), (47, SV.one (SC.v (Value.string (strOf b))))] [LB.mk [cI 0, cI 0, cF 0, cS none 0 0] 49, LB.mk [cI 2, cI 0, cF r_1, cS none 0 0] 49] ?_
    refine sne_at 5 (by kernel_rfl : atP _ _ _ 5 false = some (Op.binOp BinOp.neq 9 (tmpO 45) (tmpO 47) 9, 4, some 48, Rg.dr (bitL 7 31) (bitL 6 63) 0 12)) rfl rfl q5 hby ?_
    by_cases hq : valB (⟨2, 0, gVal (be (b.drop 1)), []⟩ : It) = b
    ·have hyes := valS_yes hpos (by rw [hxs]; exact hq)
     rw [hxs] at hyes
     have nf_9 : (!decide (valB (⟨2, 0, gVal (be (b.drop 1)), []⟩ : It) = b)) = false := by rw [decide_eq_true hq]; rfl
     refine gn 2 Rg.no [kCd (bitL 7 95), kCd (bitL 6 63)] [(2, vR 0 0), (4, vR 1 0), (48, vB !decide (valB (It.mk 2 0 (gVal (be (List.drop 1 b))) []) = b))] [LB.mk [cI 0, cI 0, cF 0, cS none 0 0] 49, LB.mk [cI 2, cI 0, cF r_1, cS none 0 0] 49] ?_
     try simp only [flx, hq1, hq2, nf_1, nf_2, nf_9]
     refine gn 2 Rg.no [kCd (bitL 7 95), kCd (bitL 6 63)] [(2, vR 0 0), (4, vR 1 0), (48, vB false)] [LB.mk [cI 0, cI 0, cF 0, cS none 0 0] 49, LB.mk [cI 2, cI 0, cF r_1, cS none 0 0] 49] ?_
     refine ltk 48 false ?_
     refine gn 1 Rg.no [kCd (bitL 7 127)] [(2, vR 0 0), (3, vL true)] [LB.mk [cI 2, cI 0, cF r_1, cS none 0 0] 49] ?_
     refine rtk [SV.agg [cI 2, cI 0, cF r_1, cS none 0 0], vL true] ?_
     intro L w1 hs
     exact ⟨_, _, _, by rw [hyes]; rfl, by rw [hyes]; exact (hs.erases [0]).out1 rowA_nil, by first | assumption | decide, by rw [hyes]; first | assumption | rfl⟩
    ·have hno := valS_no (b := b) (by rw [hxs]; exact hq)
     have nf_9 : (!decide (valB (⟨2, 0, gVal (be (b.drop 1)), []⟩ : It) = b)) = true := by rw [decide_eq_false hq]; rfl
     refine gn 2 Rg.no [kCd (bitL 7 95), kCd (bitL 6 63)] [(2, vR 0 0), (4, vR 1 0), (48, vB !decide (valB (It.mk 2 0 (gVal (be (List.drop 1 b))) []) = b))] [LB.mk [cI 0, cI 0, cF 0, cS none 0 0] 49, LB.mk [cI 2, cI 0, cF r_1, cS none 0 0] 49] ?_
     try simp only [flx, hq1, hq2, nf_1, nf_2, nf_9]
     refine gn 2 Rg.no [kCd (bitL 7 95), kCd (bitL 6 63)] [(2, vR 0 0), (4, vR 1 0), (48, vB true)] [LB.mk [cI 0, cI 0, cF 0, cS none 0 0] 49, LB.mk [cI 2, cI 0, cF r_1, cS none 0 0] 49] ?_
     refine ltk 48 true ?_
     refine gn 1 Rg.no [kCd (bitL 9 351), kCd (bitL 6 63)] [(2, vR 0 0), (3, vL false)] [LB.mk [cI 0, cI 0, cF 0, cS none 0 0] 49] ?_
     refine rtk [SV.agg [cI 0, cI 0, cF 0, cS none 0 0], vL false] ?_
     intro L w1 hs
     exact ⟨0, none, 0, by rw [hno]; rfl, by rw [hno]; exact (hs.erases [0]).out1 rowA_nil, by decide, by rw [hno]; rfl⟩
  ·refine bstr_atB true (b) (by kernel_rfl : atB _ _ _ true = some (Op.convert 44 9 (tmpO 46), 9, some 47, Rg.dr (bitL 7 31) (bitL 6 25) 3 12)) (by kernel_rfl) rfl (fun L w1 hs => rdRow_ext (hs.old 0 rfl) hb) ?_
   refine gn 2 (Rg.dr (bitL 7 31) (bitL 6 25) 3 12) [kCd (bitL 7 95), kCd (bitL 6 63)] [(2, vR 0 0), (4, vR 1 0), (43, SV.agg [cI 2, cI 0, cF r_1, cS none 0 0]), (47, SV.one (SC.v (Value.string (strOf b))))] [LB.mk [cI 0, cI 0, cF 0, cS none 0 0] 49, LB.mk [cI 2, cI 0, cF r_1, cS none 0 0] 49] ?_
   refine cak 81 [SV.agg [cI 2, cI 0, cF r_1, cS none 0 0]] (some 44) (Rg.dr (bitL 7 31) (bitL 6 27) 2 12) (fun L w1 hs => (sValB_ok (It.mk 2 0 (gVal (be (List.drop 1 b))) []) ([Value.int IntKind.i64 2, Value.int IntKind.i64 0, Value.float FloatKind.f64 r_1, Value.slice none 0 0]) w1 (kIt_mk ‹_› hq2 rdRow_nil) ‹_› ‹_›).mono ?_)
   rintro e_ w2_ ⟨B_1, d_1, rfl, hf_⟩
   refine ⟨.one (.v (Value.slice B_1 (valB (It.mk 2 0 (gVal (be (List.drop 1 b))) [])).length d_1)), _, _, rfl, fun _ => hf_.1.block, hs.fresh hf_, ?_⟩
   clear hs hf_
   refine gn 2 (Rg.dr (bitL 7 31) (bitL 6 27) 2 12) [kCd (bitL 7 95), kCd (bitL 6 63)] [(2, vR 0 0), (4, vR 1 0), (44, vS B_1 (valB (It.mk 2 0 (gVal (be (List.drop 1 b))) [])).length d_1), (47, SV.one (SC.v (Value.string (strOf b))))] [LB.mk [cI 0, cI 0, cF 0, cS none 0 0] 49, LB.mk [cI 2, cI 0, cF r_1, cS none 0 0] 49] ?_
   refine bstr_atB true (valB (⟨2, 0, gVal (be (b.drop 1)), []⟩ : It)) (by kernel_rfl : atB _ _ _ true = some (Op.convert 44 9 (tmpO 44), 9, some 45, Rg.dr (bitL 7 31) (bitL 6 31) 1 12)) (by kernel_rfl) rfl (fun L w1 hs => hs.rd 0 rfl) ?_
   refine gn 2 (Rg.dr (bitL 7 31) (bitL 6 31) 1 12) [kCd (bitL 7 95), kCd (bitL 6 63)] [(2, vR 0 0), (4, vR 1 0), (45, SV.one (SC.v (Value.string (strOf (valB (It.mk 2 0 (gVal (be (List.drop 1 b))) [])))))), (47, SV.one (SC.v (Value.string (strOf b))))] [LB.mk [cI 0, cI 0, cF 0, cS none 0 0] 49, LB.mk [cI 2, cI 0, cF r_1, cS none 0 0] 49] ?_
   refine sne_at 5 (by kernel_rfl : atP _ _ _ 5 false = some (Op.binOp BinOp.neq 9 (tmpO 45) (tmpO 47) 9, 4, some 48, Rg.dr (bitL 7 31) (bitL 6 63) 0 12)) rfl rfl q5 hby ?_
   by_cases hq : valB (⟨2, 0, gVal (be (b.drop 1)), []⟩ : It) = b
   ·have hyes := valS_yes hpos (by rw [hxs]; exact hq)
    rw [hxs] at hyes
    have nf_9 : (!decide (valB (⟨2, 0, gVal (be (b.drop 1)), []⟩ : It) = b)) = false := by rw [decide_eq_true hq]; rfl
    refine gn 2 Rg.no [kCd (bitL 7 95), kCd (bitL 6 63)] [(2, vR 0 0), (4, vR 1 0), (48, vB !decide (valB (It.mk 2 0 (gVal (be (List.drop 1 b))) []) = b))] [LB.mk [cI 0, cI 0, cF 0, cS none 0 0] 49, LB.mk [cI 2, cI 0, cF r_1, cS none 0 0] 49] ?_
    try simp only [flx, hq1, hq2, nf_1, nf_2, nf_9]
    refine gn 2 Rg.no [kCd (bitL 7 95), kCd (bitL 6 63)] [(2, vR 0 0), (4, vR 1 0), (48, vB false)] [LB.mk [cI 0, cI 0, cF 0, cS none 0 0] 49, LB.mk [cI 2, cI 0, cF r_1, cS none 0 0] 49] ?_
    refine ltk 48 false ?_
    refine gn 1 Rg.no [kCd (bitL 7 127)] [(2, vR 0 0), (3, vL true)] [LB.mk [cI 2, cI 0, cF r_1, cS none 0 0] 49] ?_
    refine rtk [SV.agg [cI 2, cI 0, cF r_1, cS none 0 0], vL true] ?_
    intro L w1 hs
    exact ⟨_, _, _, by rw [hyes]; rfl, by rw [hyes]; exact (hs.erases [0]).out1 rowA_nil, by first | assumption | decide, by rw [hyes]; first | assumption | rfl⟩
   ·have hno := valS_no (b := b) (by rw [hxs]; exact hq)
    have nf_9 : (!decide (valB (⟨2, 0, gVal (be (b.drop 1)), []⟩ : It) = b)) = true := by rw [decide_eq_false hq]; rfl
    refine gn 2 Rg.no [kCd (bitL 7 95), kCd (bitL 6 63)] [(2, vR 0 0), (4, vR 1 0), (48, vB !decide (valB (It.mk 2 0 (gVal (be (List.drop 1 b))) []) = b))] [LB.mk [cI 0, cI 0, cF 0, cS none 0 0] 49, LB.mk [cI 2, cI 0, cF r_1, cS none 0 0] 49] ?_
    try simp only [flx, hq1, hq2, nf_1, nf_2, nf_9]
    refine gn 2 Rg.no [kCd (bitL 7 95), kCd (bitL 6 63)] [(2, vR 0 0), (4, vR 1 0), (48, vB true)] [LB.mk [cI 0, cI 0, cF 0, cS none 0 0] 49, LB.mk [cI 2, cI 0, cF r_1, cS none 0 0] 49] ?_
    refine ltk 48 true ?_
    refine gn 1 Rg.no [kCd (bitL 9 351), kCd (bitL 6 63)] [(2, vR 0 0), (3, vL false)] [LB.mk [cI 0, cI 0, cF 0, cS none 0 0] 49] ?_
    refine rtk [SV.agg [cI 0, cI 0, cF 0, cS none 0 0], vL false] ?_
    intro L w1 hs
    exact ⟨0, none, 0, by rw [hno]; rfl, by rw [hno]; exact (hs.erases [0]).out1 rowA_nil, by decide, by rw [hno]; rfl⟩
 by_cases h3 : b.headD 0 = 3
 ·have hxs : specI gVal b = ⟨3, 0, 0, b.drop 1⟩ := by unfold specI; rw [if_neg h1, if_neg h2, if_pos h3]
  have hdl : b.length - 1 = (b.drop 1).length := by rw [List.length_drop]
  rw [h3]
  refine gn 2 Rg.no [kCd (bitL 8 239), KI.block 0, kCd (bitL 5 31)] [(0, vS (some a_1) b.length cb), (2, vR 0 0), (4, vR 1 0), (20, vI 3), (21, vB false)] [LB.mk [cI 0, cI 0, cF 0, cS none 0 0] 49, LB.mk [cI 3, cI 0, cF 0, cS none 0 0] 49] ?_
  refine ltk 21 false ?_
  refine gn 2 Rg.no [kCd (bitL 10 1007), KI.block 0, kCd (bitL 5 31)] [(0, vS (some a_1) b.length cb), (2, vR 0 0), (4, vR 1 0), (20, vI 3), (29, vB false)] [LB.mk [cI 0, cI 0, cF 0, cS none 0 0] 49, LB.mk [cI 3, cI 0, cF 0, cS none 0 0] 49] ?_
  refine ltk 29 false ?_
  refine gn 2 Rg.no [kCd (bitL 12 4079), KI.block 0, kCd (bitL 5 31)] [(0, vS (some a_1) b.length cb), (2, vR 0 0), (4, vR 1 0), (36, vB true)] [LB.mk [cI 0, cI 0, cF 0, cS none 0 0] 49, LB.mk [cI 3, cI 0, cF 0, cS none 0 0] 49] ?_
  refine ltk 36 true ?_
  refine gn 3 (Rg.sq (bitL 13 4079) 2) [KI.block 0, kCd (bitL 5 31)] [(0, vS (some a_1) b.length cb), (2, vR 0 0), (4, vR 1 0), (38, SV.one (SC.sl 2 0 0 0)), (39, vS (some a_1) b.length cb)] [LB.mk [cI 0, cI 0, cF 0, cS none 0 0] 49, LB.mk [cI 3, cI 0, cF 0, cS none 0 0] 49, LB.mk [] 5] ?_
  obtain ⟨hcap_hrest, hrest⟩ := rd_part (l := 1) (h := b.length) (sz := 1) hb rfl (by omega) (by omega)
  refine slice_at 2 (l := 1) (h := b.length) (m := cb) (sz := 1) (by kernel_rfl : atP _ _ _ 2 false = some (Op.slice 44 (tmpO 39) (some (Operand.const (Value.int IntKind.i64 1))) none none, 44, some 40, Rg.sq (bitL 13 4079) 3)) (by kernel_rfl) rfl ⟨_, rfl⟩ rfl rfl (by decide) (by omega) hcap_hrest (by first | exact Nat.le_refl _ | omega) ?_
  generalize (if cb = 1 then (some a_1) else (some a_1).map (·.add (1 * 1))) = A_hrest at *
  rw [show (b.take b.length).drop 1 = b.drop 1 by rw [List.take_length]] at hrest
  rw [hdl] at hrest ⊢
  refine gn 3 (Rg.sq (bitL 13 4079) 3) [KI.block 0, kCd (bitL 5 31)] [(0, vS (some a_1) b.length cb), (2, vR 0 0), (4, vR 1 0), (38, SV.one (SC.sl 2 0 0 0)), (40, vS A_hrest (List.drop 1 b).length (cb - 1))] [LB.mk [cI 0, cI 0, cF 0, cS none 0 0] 49, LB.mk [cI 3, cI 0, cF 0, cS none 0 0] 49, LB.mk [] 5] ?_
  refine append_newK (by_ := 1) (e := 5) (by kernel_rfl : atB _ _ _ true = some (Op.call (Call.mk (Callee.builtin Builtin.append) #[tmpO 38, tmpO 40] #[44, 44]), 44, some 41, Rg.sq (bitL 13 4079) 4)) (by kernel_rfl) (fun L => ⟨_, rfl⟩) rfl (fun L w1 hs => rdRow_ext (hs.old 0 rfl) hrest) (by simp [maxLen]; omega) (by omega) ?_
  intro A1 c1
  rw [hxs] at q1 q2 q3 q5
  have q4 : ((⟨3, 0, 0, b.drop 1⟩ : It) : It).t.length ≤ 1048576 := by omega
  refine gn 2 (Rg.dr (bitL 7 31) (bitL 6 9) 4 2) [kCd (bitL 7 95), kCd (bitL 6 63)] [(2, vR 0 0), (4, vR 1 0), (43, SV.agg [cI 3, cI 0, cF 0, cS A1 (List.drop 1 b).length c1]), (46, vS (some a_1) b.length cb)] [LB.mk [cI 0, cI 0, cF 0, cS none 0 0] 49, LB.mk [cI 3, cI 0, cF 0, cS A1 (List.drop 1 b).length c1] 49] ?_
  refine two_at 1 4 (by kernel_rfl) ?_ ?_ <;> simp only [fxOf]
  ·refine gn 2 (Rg.fx (bitL 7 31) (bitL 6 9) 3 2 1) [kCd (bitL 7 95), kCd (bitL 6 63)] [(2, vR 0 0), (4, vR 1 0), (43, SV.agg [cI 3, cI 0, cF 0, cS A1 (List.drop 1 b).length c1]), (46, vS (some a_1) b.length cb)] [LB.mk [cI 0, cI 0, cF 0, cS none 0 0] 49, LB.mk [cI 3, cI 0, cF 0, cS A1 (List.drop 1 b).length c1] 49] ?_
   refine cak 81 [SV.agg [cI 3, cI 0, cF 0, cS A1 (List.drop 1 b).length c1]] (some 44) (Rg.dr (bitL 7 31) (bitL 6 11) 3 12) (fun L w1 hs => (sValB_ok (It.mk 3 0 0 (List.drop 1 b)) ([Value.int IntKind.i64 3, Value.int IntKind.i64 0, Value.float FloatKind.f64 0, Value.slice A1 (List.drop 1 b).length c1]) w1 (kIt_mk (by omega) rfl (hs.rd 0 rfl)) q2 ‹_›).mono ?_)
   rintro e_ w2_ ⟨B_1, d_1, rfl, hf_⟩
   refine ⟨.one (.v (Value.slice B_1 (valB (It.mk 3 0 0 (List.drop 1 b))).length d_1)), _, _, rfl, fun _ => hf_.1.block, hs.fresh hf_, ?_⟩
   clear hs hf_
   refine gn 2 (Rg.dr (bitL 7 31) (bitL 6 11) 3 12) [kCd (bitL 7 95), kCd (bitL 6 63)] [(2, vR 0 0), (4, vR 1 0), (44, vS B_1 (valB (It.mk 3 0 0 (List.drop 1 b))).length d_1), (46, vS (some a_1) b.length cb)] [LB.mk [cI 0, cI 0, cF 0, cS none 0 0] 49, LB.mk [cI 3, cI 0, cF 0, cS A1 (List.drop 1 b).length c1] 49] ?_
   refine two_at 2 4 (by kernel_rfl) ?_ ?_ <;> simp only [fxOf]
   ·refine bstr_atB true (valB (⟨3, 0, 0, b.drop 1⟩ : It)) (by kernel_rfl : atB _ _ _ true = some (Op.convert 44 9 (tmpO 44), 9, some 45, Rg.dr (bitL 7 31) (bitL 6 15) 2 12)) (by kernel_rfl) rfl (fun L w1 hs => hs.rd 0 rfl) ?_
    refine gn 2 (Rg.dr (bitL 7 31) (bitL 6 15) 2 12) [kCd (bitL 7 95), kCd (bitL 6 63)] [(2, vR 0 0), (4, vR 1 0), (45, SV.one (SC.v (Value.string (strOf (valB (It.mk 3 0 0 (List.drop 1 b))))))), (46, vS (some a_1) b.length cb)] [LB.mk [cI 0, cI 0, cF 0, cS none 0 0] 49, LB.mk [cI 3, cI 0, cF 0, cS A1 (List.drop 1 b).length c1] 49] ?_
    refine bstr_atB true (b) (by kernel_rfl : atB _ _ _ true = some (Op.convert 44 9 (tmpO 46), 9, some 47, Rg.dr (bitL 7 31) (bitL 6 31) 1 12)) (by kernel_rfl) rfl (fun L w1 hs => rdRow_ext (hs.old 2 rfl) hb) ?_
    refine gn 2 (Rg.dr (bitL 7 31) (bitL 6 31) 1 12) [kCd (bitL 7 95), kCd (bitL 6 63)] [(2, vR 0 0), (4, vR 1 0), (45, SV.one (SC.v (Value.string (strOf (valB (It.mk 3 0 0 (List.drop 1 b))))))), (47, SV.one (SC.v (Value.string (strOf b))))] [LB.mk [cI 0, cI 0, cF 0, cS none 0 0] 49, LB.mk [cI 3, cI 0, cF 0, cS A1 (List.drop 1 b).length c1] 49] ?_
    refine sne_at 5 (by kernel_rfl : atP _ _ _ 5 false = some (Op.binOp BinOp.neq 9 (tmpO 45) (tmpO 47) 9, 4, some 48, Rg.dr (bitL 7 31) (bitL 6 63) 0 12)) rfl rfl q5 hby ?_
    by_cases hq : valB (⟨3, 0, 0, b.drop 1⟩ : It) = b
    ·have hyes := valS_yes hpos (by rw [hxs]; exact hq)
     rw [hxs] at hyes
     have nf_9 : (!decide (valB (⟨3, 0, 0, b.drop 1⟩ : It) = b)) = false := by rw [decide_eq_true hq]; rfl
     refine gn 2 Rg.no [kCd (bitL 7 95), kCd (bitL 6 63)] [(2, vR 0 0), (4, vR 1 0), (48, vB !decide (valB (It.mk 3 0 0 (List.drop 1 b)) = b))] [LB.mk [cI 0, cI 0, cF 0, cS none 0 0] 49, LB.mk [cI 3, cI 0, cF 0, cS A1 (List.drop 1 b).length c1] 49] ?_
     try simp only [flx, nf_1, nf_2, nf_9]
     refine gn 2 Rg.no [kCd (bitL 7 95), kCd (bitL 6 63)] [(2, vR 0 0), (4, vR 1 0), (48, vB false)] [LB.mk [cI 0, cI 0, cF 0, cS none 0 0] 49, LB.mk [cI 3, cI 0, cF 0, cS A1 (List.drop 1 b).length c1] 49] ?_
     refine ltk 48 false ?_
     refine gn 1 Rg.no [kCd (bitL 7 127)] [(2, vR 0 0), (3, vL true)] [LB.mk [cI 3, cI 0, cF 0, cS A1 (List.drop 1 b).length c1] 49] ?_
     refine rtk [SV.agg [cI 3, cI 0, cF 0, cS A1 (List.drop 1 b).length c1], vL true] ?_
     intro L w1 hs
     exact ⟨_, _, _, by rw [hyes]; rfl, by rw [hyes]; exact (hs.erases [0]).out (As := [_]), by first | assumption | decide, by rw [hyes]; first | assumption | rfl⟩
    ·have hno := valS_no (b := b) (by rw [hxs]; exact hq)
     have nf_9 : (!decide (valB (⟨3, 0, 0, b.drop 1⟩ : It) = b)) = true := by rw [decide_eq_false hq]; rfl
     refine gn 2 Rg.no [kCd (bitL 7 95), kCd (bitL 6 63)] [(2, vR 0 0), (4, vR 1 0), (48, vB !decide (valB (It.mk 3 0 0 (List.drop 1 b)) = b))] [LB.mk [cI 0, cI 0, cF 0, cS none 0 0] 49, LB.mk [cI 3, cI 0, cF 0, cS A1 (List.drop 1 b).length c1] 49] ?_
     try simp only [flx, nf_1, nf_2, nf_9]
     refine gn 2 Rg.no [kCd (bitL 7 95), kCd (bitL 6 63)] [(2, vR 0 0), (4, vR 1 0), (48, vB true)] [LB.mk [cI 0, cI 0, cF 0, cS none 0 0] 49, LB.mk [cI 3, cI 0, cF 0, cS A1 (List.drop 1 b).length c1] 49] ?_
     refine ltk 48 true ?_
     refine gn 1 Rg.no [kCd (bitL 9 351), kCd (bitL 6 63)] [(2, vR 0 0), (3, vL false)] [LB.mk [cI 0, cI 0, cF 0, cS none 0 0] 49] ?_
     refine rtk [SV.agg [cI 0, cI 0, cF 0, cS none 0 0], vL false] ?_
     intro L w1 hs
     exact ⟨0, none, 0, by rw [hno]; rfl, by rw [hno]; exact (hs.erases [0, 0]).out1 rowA_nil, by decide, by rw [hno]; rfl⟩
   ·refine bstr_atB true (b) (by kernel_rfl : atB _ _ _ true = some (Op.convert 44 9 (tmpO 46), 9, some 47, Rg.dr (bitL 7 31) (bitL 6 27) 2 12)) (by kernel_rfl) rfl (fun L w1 hs => rdRow_ext (hs.old 2 rfl) hb) ?_
    refine gn 2 (Rg.dr (bitL 7 31) (bitL 6 27) 2 12) [kCd (bitL 7 95), kCd (bitL 6 63)] [(2, vR 0 0), (4, vR 1 0), (44, vS B_1 (valB (It.mk 3 0 0 (List.drop 1 b))).length d_1), (47, SV.one (SC.v (Value.string (strOf b))))] [LB.mk [cI 0, cI 0, cF 0, cS none 0 0] 49, LB.mk [cI 3, cI 0, cF 0, cS A1 (List.drop 1 b).length c1] 49] ?_
    refine bstr_atB true (valB (⟨3, 0, 0, b.drop 1⟩ : It)) (by kernel_rfl : atB _ _ _ true = some (Op.convert 44 9 (tmpO 44), 9, some 45, Rg.dr (bitL 7 31) (bitL 6 31) 1 12)) (by kernel_rfl) rfl (fun L w1 hs => hs.rd 0 rfl) ?_
    refine gn 2 (Rg.dr (bitL 7 31) (bitL 6 31) 1 12) [kCd (bitL 7 95), kCd (bitL 6 63)] [(2, vR 0 0), (4, vR 1 0), (45, SV.one (SC.v (Value.string (strOf (valB (It.mk 3 0 0 (List.drop 1 b))))))), (47, SV.one (SC.v (Value.string (strOf b))))] [LB.mk [cI 0, cI 0, cF 0, cS none 0 0] 49, LB.mk [cI 3, cI 0, cF 0, cS A1 (List.drop 1 b).length c1] 49] ?_
    refine sne_at 5 (by kernel_rfl : atP _ _ _ 5 false = some (Op.binOp BinOp.neq 9 (tmpO 45) (tmpO 47) 9, 4, some 48, Rg.dr (bitL 7 31) (bitL 6 63) 0 12)) rfl rfl q5 hby ?_
    by_cases hq : valB (⟨3, 0, 0, b.drop 1⟩ : It) = b
    ·have hyes := valS_yes hpos (by rw [hxs]; exact hq)
     rw [hxs] at hyes
     have nf_9 : (!decide (valB (⟨3, 0, 0, b.drop 1⟩ : It) = b)) = false := by rw [decide_eq_true hq]; rfl
     refine gn 2 Rg.no [kCd (bitL 7 95), kCd (bitL 6 63)] [(2, vR 0 0), (4, vR 1 0), (48, vB !decide (valB (It.mk 3 0 0 (List.drop 1 b)) = b))] [LB.mk [cI 0, cI 0, cF 0, cS none 0 0] 49, LB.mk [cI 3, cI 0, cF 0, cS A1 (List.drop 1 b).length c1] 49] ?_
     try simp only [flx, nf_1, nf_2, nf_9]
     refine gn 2 Rg.no [kCd (bitL 7 95), kCd (bitL 6 63)] [(2, vR 0 0), (4, vR 1 0), (48, vB false)] [LB.mk [cI 0, cI 0, cF 0, cS none 0 0] 49, LB.mk [cI 3, cI 0, cF 0, cS A1 (List.drop 1 b).length c1] 49] ?_
     refine ltk 48 false ?_
     refine gn 1 Rg.no [kCd (bitL 7 127)] [(2, vR 0 0), (3, vL true)] [LB.mk [cI 3, cI 0, cF 0, cS A1 (List.drop 1 b).length c1] 49] ?_
     refine rtk [SV.agg [cI 3, cI 0, cF 0, cS A1 (List.drop 1 b).length c1], vL true] ?_
     intro L w1 hs
     exact ⟨_, _, _, by rw [hyes]; rfl, by rw [hyes]; exact (hs.erases [0]).out (As := [_]), by first | assumption | decide, by rw [hyes]; first | assumption | rfl⟩
    ·have hno := valS_no (b := b) (by rw [hxs]; exact hq)
     have nf_9 : (!decide (valB (⟨3, 0, 0, b.drop 1⟩ : It) = b)) = true := by rw [decide_eq_false hq]; rfl
     refine gn 2 Rg.no [kCd (bitL 7 95), kCd (bitL 6 63)] [(2, vR 0 0), (4, vR 1 0), (48, vB !decide (valB (It.mk 3 0 0 (List.drop 1 b)) = b))] [LB.mk [cI 0, cI 0, cF 0, cS none 0 0] 49, LB.mk [cI 3, cI 0, cF 0, cS A1 (List.drop 1 b).length c1] 49] ?_
     try simp only [flx, nf_1, nf_2, nf_9]
     refine gn 2 Rg.no [kCd (bitL 7 95), kCd (bitL 6 63)] [(2, vR 0 0), (4, vR 1 0), (48, vB true)] [LB.mk [cI 0, cI 0, cF 0, cS none 0 0] 49, LB.mk [cI 3, cI 0, cF 0, cS A1 (List.drop 1 b).length c1] 49] ?_
     refine ltk 48 true ?_
     refine gn 1 Rg.no [kCd (bitL 9 351), kCd (bitL 6 63)] [(2, vR 0 0), (3, vL false)] [LB.mk [cI 0, cI 0, cF 0, cS none 0 0] 49] ?_
     refine rtk [SV.agg [cI 0, cI 0, cF 0, cS none 0 0], vL false] ?_
     intro L w1 hs
     exact ⟨0, none, 0, by rw [hno]; rfl, by rw [hno]; exact (hs.erases [0, 0]).out1 rowA_nil, by decide, by rw [hno]; rfl⟩
  ·refine bstr_atB true (b) (by kernel_rfl : atB _ _ _ true = some (Op.convert 44 9 (tmpO 46), 9, some 47, Rg.dr (bitL 7 31) (bitL 6 25) 3 12)) (by kernel_rfl) rfl (fun L w1 hs => rdRow_ext (hs.old 1 rfl) hb) ?_
   refine gn 2 (Rg.dr (bitL 7 31) (bitL 6 25) 3 12) [kCd (bitL 7 95), kCd (bitL 6 63)] [(2, vR 0 0), (4, vR 1 0), (43, SV.agg [cI 3, cI 0, cF 0, cS A1 (List.drop 1 b).length c1]), (47, SV.one (SC.v (Value.string (strOf b))))] [LB.mk [cI 0, cI 0, cF 0, cS none 0 0] 49, LB.mk [cI 3, cI 0, cF 0, cS A1 (List.drop 1 b).length c1] 49] ?_
   refine cak 81 [SV.agg [cI 3, cI 0, cF 0, cS A1 (List.drop 1 b).length c1]] (some 44) (Rg.dr (bitL 7 31) (bitL 6 27) 2 12) (fun L w1 hs => (sValB_ok (It.mk 3 0 0 (List.drop 1 b)) ([Value.int IntKind.i64 3, Value.int IntKind.i64 0, Value.float FloatKind.f64 0, Value.slice A1 (List.drop 1 b).length c1]) w1 (kIt_mk (by omega) rfl (hs.rd 0 rfl)) q2 ‹_›).mono ?_)
   rintro e_ w2_ ⟨B_1, d_1, rfl, hf_⟩
   refine ⟨.one (.v (Value.slice B_1 (valB (It.mk 3 0 0 (List.drop 1 b))).length d_1)), _, _, rfl, fun _ => hf_.1.block, hs.fresh hf_, ?_⟩
   clear hs hf_
   refine gn 2 (Rg.dr (bitL 7 31) (bitL 6 27) 2 12) [kCd (bitL 7 95), kCd (bitL 6 63)] [(2, vR 0 0), (4, vR 1 0), (44, vS B_1 (valB (It.mk 3 0 0 (List.drop 1 b))).length d_1), (47, SV.one (SC.v (Value.string (strOf b))))] [LB.mk [cI 0, cI 0, cF 0, cS none 0 0] 49, LB.mk [cI 3, cI 0, cF 0, cS A1 (List.drop 1 b).length c1] 49] ?_
   refine bstr_atB true (valB (⟨3, 0, 0, b.drop 1⟩ : It)) (by kernel_rfl : atB _ _ _ true = some (Op.convert 44 9 (tmpO 44), 9, some 45, Rg.dr (bitL 7 31) (bitL 6 31) 1 12)) (by kernel_rfl) rfl (fun L w1 hs => hs.rd 0 rfl) ?_
   refine gn 2 (Rg.dr (bitL 7 31) (bitL 6 31) 1 12) [kCd (bitL 7 95), kCd (bitL 6 63)] [(2, vR 0 0), (4, vR 1 0), (45, SV.one (SC.v (Value.string (strOf (valB (It.mk 3 0 0 (List.drop 1 b))))))), (47, SV.one (SC.v (Value.string (strOf b))))] [LB.mk [cI 0, cI 0, cF 0, cS none 0 0] 49, LB.mk [cI 3, cI 0, cF 0, cS A1 (List.drop 1 b).length c1] 49] ?_
   refine sne_at 5 (by kernel_rfl : atP _ _ _ 5 false = some (Op.binOp BinOp.neq 9 (tmpO 45) (tmpO 47) 9, 4, some 48, Rg.dr (bitL 7 31) (bitL 6 63) 0 12)) rfl rfl q5 hby ?_
   by_cases hq : valB (⟨3, 0, 0, b.drop 1⟩ : It) = b
   ·have hyes := valS_yes hpos (by rw [hxs]; exact hq)
    rw [hxs] at hyes
    have nf_9 : (!decide (valB (⟨3, 0, 0, b.drop 1⟩ : It) = b)) = false := by rw [decide_eq_true hq]; rfl
    refine gn 2 Rg.no [kCd (bitL 7 95), kCd (bitL 6 63)] [(2, vR 0 0), (4, vR 1 0), (48, vB !decide (valB (It.mk 3 0 0 (List.drop 1 b)) = b))] [LB.mk [cI 0, cI 0, cF 0, cS none 0 0] 49, LB.mk [cI 3, cI 0, cF 0, cS A1 (List.drop 1 b).length c1] 49] ?_
    try simp only [flx, nf_1, nf_2, nf_9]
    refine gn 2 Rg.no [kCd (bitL 7 95), kCd (bitL 6 63)] [(2, vR 0 0), (4, vR 1 0), (48, vB false)] [LB.mk [cI 0, cI 0, cF 0, cS none 0 0] 49, LB.mk [cI 3, cI 0, cF 0, cS A1 (List.drop 1 b).length c1] 49] ?_
    refine ltk 48 false ?_
    refine gn 1 Rg.no [kCd (bitL 7 127)] [(2, vR 0 0), (3, vL true)] [LB.mk [cI 3, cI 0, cF 0, cS A1 (List.drop 1 b).length c1] 49] ?_
    refine rtk [SV.agg [cI 3, cI 0, cF 0, cS A1 (List.drop 1 b).length c1], vL true] ?_
    intro L w1 hs
    exact ⟨_, _, _, by rw [hyes]; rfl, by rw [hyes]; exact (hs.erases [0]).out (As := [_]), by first | assumption | decide, by rw [hyes]; first | assumption | rfl⟩
   ·have hno := valS_no (b := b) (by rw [hxs]; exact hq)
    have nf_9 : (!decide (valB (⟨3, 0, 0, b.drop 1⟩ : It) = b)) = true := by rw [decide_eq_false hq]; rfl
    refine gn 2 Rg.no [kCd (bitL 7 95), kCd (bitL 6 63)] [(2, vR 0 0), (4, vR 1 0), (48, vB !decide (valB (It.mk 3 0 0 (List.drop 1 b)) = b))] [LB.mk [cI 0, cI 0, cF 0, cS none 0 0] 49, LB.mk [cI 3, cI 0, cF 0, cS A1 (List.drop 1 b).length c1] 49] ?_
    try simp only [flx, nf_1, nf_2, nf_9]
    refine gn 2 Rg.no [kCd (bitL 7 95), kCd (bitL 6 63)] [(2, vR 0 0), (4, vR 1 0), (48, vB true)] [LB.mk [cI 0, cI 0, cF 0, cS none 0 0] 49, LB.mk [cI 3, cI 0, cF 0, cS A1 (List.drop 1 b).length c1] 49] ?_
    refine ltk 48 true ?_
    refine gn 1 Rg.no [kCd (bitL 9 351), kCd (bitL 6 63)] [(2, vR 0 0), (3, vL false)] [LB.mk [cI 0, cI 0, cF 0, cS none 0 0] 49] ?_
    refine rtk [SV.agg [cI 0, cI 0, cF 0, cS none 0 0], vL false] ?_
    intro L w1 hs
    exact ⟨0, none, 0, by rw [hno]; rfl, by rw [hno]; exact (hs.erases [0, 0]).out1 rowA_nil, by decide, by rw [hno]; rfl⟩
 have hxs : specI gVal b = ⟨b.headD 0, 0, 0, []⟩ := by unfold specI; rw [if_neg h1, if_neg h2, if_neg h3]
 refine gn 2 Rg.no [kCd (bitL 8 239), KI.block 0, kCd (bitL 5 31)] [(0, vS (some a_1) b.length cb), (2, vR 0 0), (4, vR 1 0), (20, vI (b.headD 0)), (21, vB (b.headD 0 == 1))] [LB.mk [cI 0, cI 0, cF 0, cS none 0 0] 49, LB.mk [cI (b.headD 0), cI 0, cF 0, cS none 0 0] 49] ?_
 refine spl 21 (b.headD 0 == 1) ?_ ?_
 ·intro hb3
  replace hb3 := beq_iff_eq.1 hb3
  (exfalso; omega)
 intro hb3
 replace hb3 := beq_eq_false_iff_ne.1 hb3
 refine gn 2 Rg.no [kCd (bitL 10 1007), KI.block 0, kCd (bitL 5 31)] [(0, vS (some a_1) b.length cb), (2, vR 0 0), (4, vR 1 0), (20, vI (b.headD 0)), (29, vB (b.headD 0 == 2))] [LB.mk [cI 0, cI 0, cF 0, cS none 0 0] 49, LB.mk [cI (b.headD 0), cI 0, cF 0, cS none 0 0] 49] ?_
 refine spl 29 (b.headD 0 == 2) ?_ ?_
 ·intro hb4
  replace hb4 := beq_iff_eq.1 hb4
  (exfalso; omega)
 intro hb4
 replace hb4 := beq_eq_false_iff_ne.1 hb4
 refine gn 2 Rg.no [kCd (bitL 12 4079), KI.block 0, kCd (bitL 5 31)] [(0, vS (some a_1) b.length cb), (2, vR 0 0), (4, vR 1 0), (36, vB (b.headD 0 == 3))] [LB.mk [cI 0, cI 0, cF 0, cS none 0 0] 49, LB.mk [cI (b.headD 0), cI 0, cF 0, cS none 0 0] 49] ?_
 refine spl 36 (b.headD 0 == 3) ?_ ?_
 ·intro hb5
  replace hb5 := beq_iff_eq.1 hb5
  (exfalso; omega)
 intro hb5
 replace hb5 := beq_eq_false_iff_ne.1 hb5
 refine gn 2 (Rg.dr (bitL 7 31) (bitL 6 9) 4 2) [kCd (bitL 7 95), kCd (bitL 6 63)] [(2, vR 0 0), (4, vR 1 0), (43, SV.agg [cI (b.headD 0), cI 0, cF 0, cS none 0 0]), (46, vS (some a_1) b.length cb)] [LB.mk [cI 0, cI 0, cF 0, cS none 0 0] 49, LB.mk [cI (b.headD 0), cI 0, cF 0, cS none 0 0] 49] ?_
 rw [hxs] at q1 q2 q3 q5
 have q4 : ((⟨b.headD 0, 0, 0, []⟩ : It) : It).t.length ≤ 1048576 := by omega
 refine gn 2 (Rg.dr (bitL 7 31) (bitL 6 9) 4 2) [kCd (bitL 7 95), kCd (bitL 6 63)] [(2, vR 0 0), (4, vR 1 0), (43, SV.agg [cI (b.headD 0), cI 0, cF 0, cS none 0 0]), (46, vS (some a_1) b.length cb)] [LB.mk [cI 0, cI 0, cF 0, cS none 0 0] 49, LB.mk [cI (b.headD 0), cI 0, cF 0, cS none 0 0] 49] ?_
 refine two_at 1 4 (by kernel_rfl) ?_ ?_ <;> simp only [fxOf]
 ·refine gn 2 (Rg.fx (bitL 7 31) (bitL 6 9) 3 2 1) [kCd (bitL 7 95), kCd (bitL 6 63)] [(2, vR 0 0), (4, vR 1 0), (43, SV.agg [cI (b.headD 0), cI 0, cF 0, cS none 0 0]), (46, vS (some a_1) b.length cb)] [LB.mk [cI 0, cI 0, cF 0, cS none 0 0] 49, LB.mk [cI (b.headD 0), cI 0, cF 0, cS none 0 0] 49] ?_
  refine cak 81 [SV.agg [cI (b.headD 0), cI 0, cF 0, cS none 0 0]] (some 44) (Rg.dr (bitL 7 31) (bitL 6 11) 3 12) (fun L w1 hs => (sValB_ok (It.mk (b.headD 0) 0 0 []) ([Value.int IntKind.i64 (b.headD 0), Value.int IntKind.i64 0, Value.float FloatKind.f64 0, Value.slice none 0 0]) w1 (kIt_mk (by omega) rfl rdRow_nil) q2 ‹_›).mono ?_)
  rintro e_ w2_ ⟨B_1, d_1, rfl, hf_⟩
  refine ⟨.one (.v (Value.slice B_1 (valB (It.mk (b.headD 0) 0 0 [])).length d_1)), _, _, rfl, fun _ => hf_.1.block, hs.fresh hf_, ?_⟩
  clear hs hf_
  refine gn 2 (Rg.dr (bitL 7 31) (bitL 6 11) 3 12) [kCd (bitL 7 95), kCd (bitL 6 63)] [(2, vR 0 0), (4, vR 1 0), (44, vS B_1 (valB (It.mk (b.headD 0) 0 0 [])).length d_1), (46, vS (some a_1) b.length cb)] [LB.mk [cI 0, cI 0, cF 0, cS none 0 0] 49, LB.mk [cI (b.headD 0), cI 0, cF 0, cS none 0 0] 49] ?_
  refine two_at 2 4 (by kernel_rfl) ?_ ?_ <;> simp only [fxOf]
  ·refine bstr_atB true (valB (⟨b.headD 0, 0, 0, []⟩ : It)) (by kernel_rfl : atB _ _ _ true = some (Op.convert 44 9 (tmpO 44), 9, some 45, Rg.dr (bitL 7 31) (bitL 6 15) 2 12)) (by kernel_rfl) rfl (fun L w1 hs => hs.rd 0 rfl) ?_
   refine gn 2 (Rg.dr (bitL 7 31) (bitL 6 15) 2 12) [kCd (bitL 7 95), kCd (bitL 6 63)] [(2, vR 0 0), (4, vR 1 0), (45, SV.one (SC.v (Value.string (strOf (valB (It.mk (b.headD 0) 0 0 [])))))), (46, vS (some a_1) b.length cb)] [LB.mk [cI 0, cI 0, cF 0, cS none 0 0] 49, LB.mk [cI (b.headD 0), cI 0, cF 0, cS none 0 0] 49] ?_
   refine bstr_atB true (b) (by kernel_rfl : atB _ _ _ true = some (Op.convert 44 9 (tmpO 46), 9, some 47, Rg.dr (bitL 7 31) (bitL 6 31) 1 12)) (by kernel_rfl) rfl (fun L w1 hs => rdRow_ext (hs.old 1 rfl) hb) ?_
   refine gn 2 (Rg.dr (bitL 7 31) (bitL 6 31) 1 12) [kCd (bitL 7 95), kCd (bitL 6 63)] [(2, vR 0 0), (4, vR 1 0), (45, SV.one (SC.v (Value.string (strOf (valB (It.mk (b.headD 0) 0 0 [])))))), (47, SV.one (SC.v (Value.string (strOf b))))] [LB.mk [cI 0, cI 0, cF 0, cS none 0 0] 49, LB.mk [cI (b.headD 0), cI 0, cF 0, cS none 0 0] 49] ?_
   refine sne_at 5 (by kernel_rfl : atP _ _ _ 5 false = some (Op.binOp BinOp.neq 9 (tmpO 45) (tmpO 47) 9, 4, some 48, Rg.dr (bitL 7 31) (bitL 6 63) 0 12)) rfl rfl q5 hby ?_
   by_cases hq : valB (⟨b.headD 0, 0, 0, []⟩ : It) = b
   ·have hyes := valS_yes hpos (by rw [hxs]; exact hq)
    rw [hxs] at hyes
    have nf_9 : (!decide (valB (⟨b.headD 0, 0, 0, []⟩ : It) = b)) = false := by rw [decide_eq_true hq]; rfl
    refine gn 2 Rg.no [kCd (bitL 7 95), kCd (bitL 6 63)] [(2, vR 0 0), (4, vR 1 0), (48, vB !decide (valB (It.mk (b.headD 0) 0 0 []) = b))] [LB.mk [cI 0, cI 0, cF 0, cS none 0 0] 49, LB.mk [cI (b.headD 0), cI 0, cF 0, cS none 0 0] 49] ?_
    try simp only [flx, nf_1, nf_2, nf_9]
    refine gn 2 Rg.no [kCd (bitL 7 95), kCd (bitL 6 63)] [(2, vR 0 0), (4, vR 1 0), (48, vB false)] [LB.mk [cI 0, cI 0, cF 0, cS none 0 0] 49, LB.mk [cI (b.headD 0), cI 0, cF 0, cS none 0 0] 49] ?_
    refine ltk 48 false ?_
    refine gn 1 Rg.no [kCd (bitL 7 127)] [(2, vR 0 0), (3, vL true)] [LB.mk [cI (b.headD 0), cI 0, cF 0, cS none 0 0] 49] ?_
    refine rtk [SV.agg [cI (b.headD 0), cI 0, cF 0, cS none 0 0], vL true] ?_
    intro L w1 hs
    exact ⟨_, _, _, by rw [hyes]; rfl, by rw [hyes]; exact (hs.erases [0]).out1 rowA_nil, by first | assumption | decide, by rw [hyes]; first | assumption | rfl⟩
   ·have hno := valS_no (b := b) (by rw [hxs]; exact hq)
    have nf_9 : (!decide (valB (⟨b.headD 0, 0, 0, []⟩ : It) = b)) = true := by rw [decide_eq_false hq]; rfl
    refine gn 2 Rg.no [kCd (bitL 7 95), kCd (bitL 6 63)] [(2, vR 0 0), (4, vR 1 0), (48, vB !decide (valB (It.mk (b.headD 0) 0 0 []) = b))] [LB.mk [cI 0, cI 0, cF 0, cS none 0 0] 49, LB.mk [cI (b.headD 0), cI 0, cF 0, cS none 0 0] 49] ?_
    try simp only [flx, nf_1, nf_2, nf_9]
    refine gn 2 Rg.no [kCd (bitL 7 95), kCd (bitL 6 63)] [(2, vR 0 0), (4, vR 1 0), (48, vB true)] [LB.mk [cI 0, cI 0, cF 0, cS none 0 0] 49, LB.mk [cI (b.headD 0), cI 0, cF 0, cS none 0 0] 49] ?_
    refine ltk 48 true ?_
    refine gn 1 Rg.no [kCd (bitL 9 351), kCd (bitL 6 63)] [(2, vR 0 0), (3, vL false)] [LB.mk [cI 0, cI 0, cF 0, cS none 0 0] 49] ?_
    refine rtk [SV.agg [cI 0, cI 0, cF 0, cS none 0 0], vL false] ?_
    intro L w1 hs
    exact ⟨0, none, 0, by rw [hno]; rfl, by rw [hno]; exact (hs.erases [0]).out1 rowA_nil, by decide, by rw [hno]; rfl⟩
  ·refine bstr_atB true (b) (by kernel_rfl : atB _ _ _ true = some (Op.convert 44 9 (tmpO 46), 9, some 47, Rg.dr (bitL 7 31) (bitL 6 27) 2 12)) (by kernel_rfl) rfl (fun L w1 hs => rdRow_ext (hs.old 1 rfl) hb) ?_
   refine gn 2 (Rg.dr (bitL 7 31) (bitL 6 27) 2 12) [kCd (bitL 7 95), kCd (bitL 6 63)] [(2, vR 0 0), (4, vR 1 0), (44, vS B_1 (valB (It.mk (b.headD 0) 0 0 [])).length d_1), (47, SV.one (SC.v (Value.string (strOf b))))] [LB.mk [cI 0, cI 0, cF 0, cS none 0 0] 49, LB.mk [cI (b.headD 0), cI 0, cF 0, cS none 0 0] 49] ?_
   refine bstr_atB true (valB (⟨b.headD 0, 0, 0, []⟩ : It)) (by kernel_rfl : atB _ _ _ true = some (Op.convert 44 9 (tmpO 44), 9, some 45, Rg.dr (bitL 7 31) (bitL 6 31) 1 12)) (by kernel_rfl) rfl (fun L w1 hs => hs.rd 0 rfl) ?_
   refine gn 2 (Rg.dr (bitL 7 31) (bitL 6 31) 1 12) [kCd (bitL 7 95), kCd (bitL 6 63)] [(2, vR 0 0), (4, vR 1 0), (45, SV.one (SC.v (Value.string (strOf (valB (It.mk (b.headD 0) 0 0 [])))))), (47, SV.one (SC.v (Value.string (strOf b))))] [LB.mk [cI 0, cI 0, cF 0, cS none 0 0] 49, LB.mk [cI (b.headD 0), cI 0, cF 0, cS none 0 0] 49] ?_
   refine sne_at 5 (by kernel_rfl : atP _ _ _ 5 false = some (Op.binOp BinOp.neq 9 (tmpO 45) (tmpO 47) 9, 4, some 48, Rg.dr (bitL 7 31) (bitL 6 63) 0 12)) rfl rfl q5 hby ?_
   by_cases hq : valB (⟨b.headD 0, 0, 0, []⟩ : It) = b
   ·have hyes := valS_yes hpos (by rw [hxs]; exact hq)
    rw [hxs] at hyes
    have nf_9 : (!decide (valB (⟨b.headD 0, 0, 0, []⟩ : It) = b)) = false := by rw [decide_eq_true hq]; rfl
    refine gn 2 Rg.no [kCd (bitL 7 95), kCd (bitL 6 63)] [(2, vR 0 0), (4, vR 1 0), (48, vB !decide (valB (It.mk (b.headD 0) 0 0 []) = b))] [LB.mk [cI 0, cI 0, cF 0, cS none 0 0] 49, LB.mk [cI (b.headD 0), cI 0, cF 0, cS none 0 0] 49] ?_
    try simp only [flx, nf_1, nf_2, nf_9]
    refine gn 2 Rg.no [kCd (bitL 7 95), kCd (bitL 6 63)] [(2, vR 0 0), (4, vR 1 0), (48, vB false)] [LB.mk [cI 0, cI 0, cF 0, cS none 0 0] 49, LB.mk [cI (b.headD 0), cI 0, cF 0, cS none 0 0] 49] ?_
    refine ltk 48 false ?_
    refine gn 1 Rg.no [kCd (bitL 7 127)] [(2, vR 0 0), (3, vL true)] [LB.mk [cI (b.headD 0), cI 0, cF 0, cS none 0 0] 49] ?_
    refine rtk [SV.agg [cI (b.headD 0), cI 0, cF 0, cS none 0 0], vL true] ?_
    intro L w1 hs
    exact ⟨_, _, _, by rw [hyes]; rfl, by rw [hyes]; exact (hs.erases [0]).out1 rowA_nil, by first | assumption | decide, by rw [hyes]; first | assumption | rfl⟩
   ·have hno := valS_no (b := b) (by rw [hxs]; exact hq)
    have nf_9 : (!decide (valB (⟨b.headD 0, 0, 0, []⟩ : It) = b)) = true := by rw [decide_eq_false hq]; rfl
    refine gn 2 Rg.no [kCd (bitL 7 95), kCd (bitL 6 63)] [(2, vR 0 0), (4, vR 1 0), (48, vB !decide (valB (It.mk (b.headD 0) 0 0 []) = b))] [LB.mk [cI 0, cI 0, cF 0, cS none 0 0] 49, LB.mk [cI (b.headD 0), cI 0, cF 0, cS none 0 0] 49] ?_
    try simp only [flx, nf_1, nf_2, nf_9]
    refine gn 2 Rg.no [kCd (bitL 7 95), kCd (bitL 6 63)] [(2, vR 0 0), (4, vR 1 0), (48, vB true)] [LB.mk [cI 0, cI 0, cF 0, cS none 0 0] 49, LB.mk [cI (b.headD 0), cI 0, cF 0, cS none 0 0] 49] ?_
    refine ltk 48 true ?_
    refine gn 1 Rg.no [kCd (bitL 9 351), kCd (bitL 6 63)] [(2, vR 0 0), (3, vL false)] [LB.mk [cI 0, cI 0, cF 0, cS none 0 0] 49] ?_
    refine rtk [SV.agg [cI 0, cI 0, cF 0, cS none 0 0], vL false] ?_
    intro L w1 hs
    exact ⟨0, none, 0, by rw [hno]; rfl, by rw [hno]; exact (hs.erases [0]).out1 rowA_nil, by decide, by rw [hno]; rfl⟩
 ·refine bstr_atB true (b) (by kernel_rfl : atB _ _ _ true = some (Op.convert 44 9 (tmpO 46), 9, some 47, Rg.dr (bitL 7 31) (bitL 6 25) 3 12)) (by kernel_rfl) rfl (fun L w1 hs => rdRow_ext (hs.old 0 rfl) hb) ?_
  refine gn 2 (Rg.dr (bitL 7 31) (bitL 6 25) 3 12) [kCd (bitL 7 95), kCd (bitL 6 63)] [(2, vR 0 0), (4, vR 1 0), (43, SV.agg [cI (b.headD 0), cI 0, cF 0, cS none 0 0]), (47, SV.one (SC.v (Value.string (strOf b))))] [LB.mk [cI 0, cI 0, cF 0, cS none 0 0] 49, LB.mk [cI (b.headD 0), cI 0, cF 0, cS none 0 0] 49] ?_
  refine cak 81 [SV.agg [cI (b.headD 0), cI 0, cF 0, cS none 0 0]] (some 44) (Rg.dr (bitL 7 31) (bitL 6 27) 2 12) (fun L w1 hs => (sValB_ok (It.mk (b.headD 0) 0 0 []) ([Value.int IntKind.i64 (b.headD 0), Value.int IntKind.i64 0, Value.float FloatKind.f64 0, Value.slice none 0 0]) w1 (kIt_mk (by omega) rfl rdRow_nil) q2 ‹_›).mono ?_)
  rintro e_ w2_ ⟨B_1, d_1, rfl, hf_⟩
  refine ⟨.one (.v (Value.slice B_1 (valB (It.mk (b.headD 0) 0 0 [])).length d_1)), _, _, rfl, fun _ => hf_.1.block, hs.fresh hf_, ?_⟩
  clear hs hf_
  refine gn 2 (Rg.dr (bitL 7 31) (bitL 6 27) 2 12) [kCd (bitL 7 95), kCd (bitL 6 63)] [(2, vR 0 0), (4, vR 1 0), (44, vS B_1 (valB (It.mk (b.headD 0) 0 0 [])).length d_1), (47, SV.one (SC.v (Value.string (strOf b))))] [LB.mk [cI 0, cI 0, cF 0, cS none 0 0] 49, LB.mk [cI (b.headD 0), cI 0, cF 0, cS none 0 0] 49] ?_
  refine bstr_atB true (valB (⟨b.headD 0, 0, 0, []⟩ : It)) (by kernel_rfl : atB _ _ _ true = some (Op.convert 44 9 (tmpO 44), 9, some 45, Rg.dr (bitL 7 31) (bitL 6 31) 1 12)) (by kernel_rfl) rfl (fun L w1 hs => hs.rd 0 rfl) ?_
  refine gn 2 (Rg.dr (bitL 7 31) (bitL 6 31) 1 12) [kCd (bitL 7 95), kCd (bitL 6 63)] [(2, vR 0 0), (4, vR 1 0), (45, SV.one (SC.v (Value.string (strOf (valB (It.mk (b.headD 0) 0 0 [])))))), (47, SV.one (SC.v (Value.string (strOf b))))] [LB.mk [cI 0, cI 0, cF 0, cS none 0 0] 49, LB.mk [cI (b.headD 0), cI 0, cF 0, cS none 0 0] 49] ?_
  refine sne_at 5 (by kernel_rfl : atP _ _ _ 5 false = some (Op.binOp BinOp.neq 9 (tmpO 45) (tmpO 47) 9, 4, some 48, Rg.dr (bitL 7 31) (bitL 6 63) 0 12)) rfl rfl q5 hby ?_
  by_cases hq : valB (⟨b.headD 0, 0, 0, []⟩ : It) = b
  ·have hyes := valS_yes hpos (by rw [hxs]; exact hq)
   rw [hxs] at hyes
   have nf_9 : (!decide (valB (⟨b.headD 0, 0, 0, []⟩ : It) = b)) = false := by rw [decide_eq_true hq]; rfl
   refine gn 2 Rg.no [kCd (bitL 7 95), kCd (bitL 6 63)] [(2, vR 0 0), (4, vR 1 0), (48, vB !decide (valB (It.mk (b.headD 0) 0 0 []) = b))] [LB.mk [cI 0, cI 0, cF 0, cS none 0 0] 49, LB.mk [cI (b.headD 0), cI 0, cF 0, cS none 0 0] 49] ?_
   try simp only [flx, nf_1, nf_2, nf_9]
   refine gn 2 Rg.no [kCd (bitL 7 95), kCd (bitL 6 63)] [(2, vR 0 0), (4, vR 1 0), (48, vB false)] [LB.mk [cI 0, cI 0, cF 0, cS none 0 0] 49, LB.mk [cI (b.headD 0), cI 0, cF 0, cS none 0 0] 49] ?_
   refine ltk 48 false ?_
   refine gn 1 Rg.no [kCd (bitL 7 127)] [(2, vR 0 0), (3, vL true)] [LB.mk [cI (b.headD 0), cI 0, cF 0, cS none 0 0] 49] ?_
   refine rtk [SV.agg [cI (b.headD 0), cI 0, cF 0, cS none 0 0], vL true] ?_
   intro L w1 hs
   exact ⟨_, _, _, by rw [hyes]; rfl, by rw [hyes]; exact (hs.erases [0]).out1 rowA_nil, by first | assumption | decide, by rw [hyes]; first | assumption | rfl⟩
  ·have hno := valS_no (b := b) (by rw [hxs]; exact hq)
   have nf_9 : (!decide (valB (⟨b.headD 0, 0, 0, []⟩ : It) = b)) = true := by rw [decide_eq_false hq]; rfl
   refine gn 2 Rg.no [kCd (bitL 7 95), kCd (bitL 6 63)] [(2, vR 0 0), (4, vR 1 0), (48, vB !decide (valB (It.mk (b.headD 0) 0 0 []) = b))] [LB.mk [cI 0, cI 0, cF 0, cS none 0 0] 49, LB.mk [cI (b.headD 0), cI 0, cF 0, cS none 0 0] 49] ?_
   try simp only [flx, nf_1, nf_2, nf_9]
   refine gn 2 Rg.no [kCd (bitL 7 95), kCd (bitL 6 63)] [(2, vR 0 0), (4, vR 1 0), (48, vB true)] [LB.mk [cI 0, cI 0, cF 0, cS none 0 0] 49, LB.mk [cI (b.headD 0), cI 0, cF 0, cS none 0 0] 49] ?_
   refine ltk 48 true ?_
   refine gn 1 Rg.no [kCd (bitL 9 351), kCd (bitL 6 63)] [(2, vR 0 0), (3, vL false)] [LB.mk [cI 0, cI 0, cF 0, cS none 0 0] 49] ?_
   refine rtk [SV.agg [cI 0, cI 0, cF 0, cS none 0 0], vL false] ?_
   intro L w1 hs
   exact ⟨0, none, 0, by rw [hno]; rfl, by rw [hno]; exact (hs.erases [0]).out1 rowA_nil, by decide, by rw [hno]; rfl⟩
end Go.Proofs.YtgleoebogikooaaGreat.Dk
