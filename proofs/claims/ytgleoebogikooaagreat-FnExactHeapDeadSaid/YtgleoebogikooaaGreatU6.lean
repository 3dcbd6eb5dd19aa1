/- Walks of functions of the program: what each call returns and what it leaves in memory. Conditions: those that each theorem names. -/
import Derived.Test.YtgleoebogikooaaGreatU5
namespace Go.Proofs.YtgleoebogikooaaGreat.Dk
set_option linter.unusedVariables false
set_option linter.unusedSimpArgs false
open Go.Proofs.YtgleoebogikooaaGreat.Sx Go.Proofs Go.RowKit
set_option maxRecDepth 100000
set_option maxHeartbeats 1000000
theorem cloneB_ok (ys : List Int) (vys : Value) (w : World) (hys : rdRow kU8 w.heap ys vys) (hl : ys.length ≤ 1048576) :
  Calls Tryz.prog 124 #[vys] w fun e w' => ∃ (B : Option Addr) (d : Nat), e = .returned (.slice B ys.length d) ∧ Fresh w w' [rowA 5 kU8 ys (.slice B ys.length d)] := by
 obtain ⟨Ays, cys, rfl⟩ := rdRow_form hys
 refine enter (args := [.one (.v (.slice Ays ys.length cys))]) Tryz.func124 (c := bodyOf Tryz.f124) rfl rfl (start_LOK _) (start_old w) ?_
 cases Ays with
 | none =>
  have h0 : ys = [] := by
   apply List.eq_nil_of_length_eq_zero
   apply Nat.eq_zero_of_not_pos
   intro hp
   obtain ⟨a, ha⟩ := rd_some hys hp
   cases ha
  subst h0
  refine gn 0 Rg.no [kCd (bitL 5 21), KI.code [true, true]] [(2, vS none 0 0)] [] ?_
  refine rtk [vS none 0 0] ?_
  intro L w' hs
  exact ⟨none, 0, rfl, hs.out1 rowA_nil⟩
 | some a =>
  refine gn 1 (Rg.sq (bitL 3 3) 2) [kCd (bitL 3 7)] [(5, SV.one (SC.sl 0 0 0 0)), (6, vS (some a) ys.length cys)] [LB.mk [] 5] ?_
  refine export_row (d := kU8) (A := []) ([] : List Int) [] rfl rfl rfl rfl rfl rfl rfl (Nat.zero_le _) (fun _ _ _ => els_nil) (fun g => ?_)
  refine gn 0 (Rg.sq (bitL 3 3) 2) [kCd (bitL 3 7)] [(5, vS (some (Addr.mk g 0 none)) 0 0), (6, vS (some a) ys.length cys)] [] ?_
  refine append_sc (by_ := 1) (e := 5) (by kernel_rfl : atB _ _ _ false = some (Op.call (Call.mk (Callee.builtin Builtin.append) #[tmpO 5, tmpO 6] #[44, 44]), 44, some 7, Rg.sq (bitL 3 3) 3)) (by kernel_rfl) rfl rfl (fun L w1 hs => rdRow_ext (hs.old 1 rfl) hys) (by simp [maxLen]; omega) (by simp; omega) ?_
  intro A c1
  refine gn 0 Rg.no [kCd (bitL 3 7)] [(2, vS A ([] ++ ys).length c1)] [] ?_
  refine rtk [vS A ([] ++ ys).length c1] ?_
  intro L w1 hs
  exact ⟨_, _, rfl, hs.out (As := [_])⟩
def sgn (n : Int) : Int := n - 9223372036854775808
def readI (g : Int → Nat) (b : List Int) : It :=
 if b.length = 0 then ⟨0, 0, 0, []⟩ else if b.headD 0 = 3 then ⟨3, 0, 0, b.drop 1⟩ else if b.length ≠ 9 then ⟨0, 0, 0, []⟩
 else if b.headD 0 = 1 then ⟨1, sgn (be (b.drop 1)), 0, []⟩ else if b.headD 0 = 2 then ⟨2, 0, g (be (b.drop 1)), []⟩ else ⟨b.headD 0, 0, 0, []⟩
def gKey (n : Int) : Nat := (unrank n).getD 0
def gVal (n : Int) : Nat := canonF n.toNat
theorem head_get {b : List Int} (h : 0 < b.length) : b.headD 0 = b[0] := by
 cases b with
 | nil => simp at h
 | cons k r => rfl
theorem keyRead1_ok (n : Int) (w : World) (h0 : 0 ≤ n) (h1 : n < 18446744073709551616) : Calls Tryz.prog 117 #[.int .u64 n] w fun e w' => ∃ r : Nat, e = .returned (.float .f64 r) ∧ Below w.heap.size w w' ∧ r < 18446744073709551616 ∧ canonF r = gKey n := by
 refine enter (args := [.one (.v (.int .u64 n))]) Tryz.func117 (c := bodyOf Tryz.f117) rfl rfl (start_LOK _) (start_old w) ?_
 refine gn 0 (Rg.sq [true, false] 1) [KI.code [true, true]] [(6, SV.one (SC.v (Value.int IntKind.u64 n)))] [] ?_
 refine cak 118 [SV.one (SC.v (Value.int IntKind.u64 n))] (some 7) (Rg.sq [true, false] 2) (fun L w1 hs => (iUnrank_ok (n) ‹_› ‹_› w1).mono ?_)
 rintro e_ w2_ ⟨r_1, rfl, hf_, hq1, hq2⟩
 refine ⟨.one (.v (Value.tuple #[Value.float FloatKind.f64 r_1, Value.bool (unrank n).isSome])), _, _, rfl, fun _ => hf_.block, hs.below hf_, ?_⟩
 clear hs hf_
 refine gn 0 Rg.no [kCd (bitL 3 7)] [(2, SV.one (cF r_1))] [] ?_
 refine rtk [SV.one (cF r_1)] ?_
 intro L w1 hs
 exact ⟨_, rfl, hs.out0, by assumption, by assumption⟩
theorem iFloatOfG_ok (n : Int) (w : World) (h0 : 0 ≤ n) (h1 : n < 18446744073709551616) : Calls Tryz.prog 120 #[.int .u64 n] w fun e w' => ∃ r : Nat, e = .returned (.float .f64 r) ∧ Below w.heap.size w w' ∧ r < 18446744073709551616 ∧ canonF r = gVal n := by
 refine (iFloatOf_ok n h0 h1 w).mono ?_
 rintro e w' ⟨r, he, hb, rfl⟩
 exact ⟨_, he, hb, by omega, rfl⟩
theorem readK_ok (b : List Int) (vb : Value) (w : World) (hb : rdRow kU8 w.heap b vb) (hby : byOk b) (hl : b.length ≤ 1048576) :
  Calls Tryz.prog 116 #[vb, .func (.func 117) #[] #[]] w fun e w' => ∃ (bof : Nat) (Aot : Option Addr) (cot : Nat), e = .returned (.agg #[.int .i64 (readI gKey b).kind, .int .i64 (readI gKey b).n, .float .f64 bof, .slice Aot (readI gKey b).t.length cot]) ∧ Fresh w w' [rowA 5 kU8 (readI gKey b).t (.slice Aot (readI gKey b).t.length cot)] ∧ bof < 18446744073709551616 ∧ canonF bof = (readI gKey b).f := by
 obtain ⟨A, c, rfl⟩ := rdRow_form hb
 refine enter (args := [.one (.v (.slice A b.length c)), .one (.v (.func (.func 117) #[] #[]))]) Tryz.func116 (c := bodyOf Tryz.f116) rfl rfl (start_LOK _) (start_old w) ?_
 by_cases hz : b.length = 0
 ·rw [show readI gKey b = ⟨0, 0, 0, []⟩ by unfold readI; rw [if_pos hz]]
  refine gn 1 Rg.no [kCd (bitL 3 5), KI.code [true, true]] [(0, vS A b.length c), (1, SV.one (SC.v (Value.func (Fn.func 117) #[] #[]))), (4, vR 0 0), (9, vB ((↑b.length : Int) == 0))] [LB.mk [cI 0, cI 0, cF 0, cS none 0 0] 49] ?_
  try simp only [flx]
  refine spl 9 ((↑b.length : Int) == 0) ?_ ?_
  ·intro hb1
   replace hb1 := beq_iff_eq.1 hb1
   refine gn 1 Rg.no [kCd (bitL 5 21), KI.code [true, true]] [(4, vR 0 0)] [LB.mk [cI 0, cI 0, cF 0, cS none 0 0] 49] ?_
   refine rtk [SV.agg [cI 0, cI 0, cF 0, cS none 0 0]] ?_
   intro L w1 hs
   exact ⟨_, none, 0, rfl, hs.out1 rowA_nil, by omega, rfl⟩
  ·intro hb1
   replace hb1 := beq_eq_false_iff_ne.1 hb1
   (exfalso; omega)
 have hpos : 0 < b.length := by omega
 have hh := head_get hpos
 have h0b := hby _ (List.getElem_mem hpos)
 rw [← hh] at h0b
 have hdl : (b.drop 1).length = b.length - 1 := List.length_drop
 have hdb := byOk_drop hby 1
 have hbe := be_bnd hdb
 have nf_1 : IntKind.i64.wrap (b[0]'hpos) = b.headD 0 := by rw [← hh, IntKind.wrap_i64]; omega
 refine gn 1 Rg.no [kCd (bitL 3 5), KI.code [true, true]] [(0, vS A b.length c), (1, SV.one (SC.v (Value.func (Fn.func 117) #[] #[]))), (4, vR 0 0), (9, vB ((↑b.length : Int) == 0))] [LB.mk [cI 0, cI 0, cF 0, cS none 0 0] 49] ?_
 refine spl 9 ((↑b.length : Int) == 0) ?_ ?_
 ·intro hb1
  replace hb1 := beq_iff_eq.1 hb1
  (exfalso; omega)
 intro hb1
 replace hb1 := beq_eq_false_iff_ne.1 hb1
 refine gn 1 (Rg.sq (bitL 3 3) 1) [kCd (bitL 3 7)] [(0, vS A b.length c), (1, SV.one (SC.v (Value.func (Fn.func 117) #[] #[]))), (4, vR 0 0), (11, vS A b.length c)] [LB.mk [cI 0, cI 0, cF 0, cS none 0 0] 49] ?_
 refine index_at 1 (by kernel_rfl : atP _ _ _ 1 false = some (Op.indexAddr 44 (tmpO 11) (Operand.const (Value.int IntKind.i64 0)), 0, some 12, Rg.sq (bitL 3 3) 2)) (ni := 0) (sz := 1) (by kernel_rfl) rfl rfl rfl ‹_› (fun L w1 hs => rd_some (i := 0) (rdRow_ext (hs.old 0 rfl) hb) ‹_›) ?_
 intro a_1 ha_1
 cases ha_1
 refine gn 1 (Rg.sq (bitL 3 3) 2) [kCd (bitL 3 7)] [(0, vS (some a_1) b.length c), (1, SV.one (SC.v (Value.func (Fn.func 117) #[] #[]))), (4, vR 0 0), (12, vP (a_1.add 0))] [LB.mk [cI 0, cI 0, cF 0, cS none 0 0] 49] ?_
 refine load_one 2 (by kernel_rfl : atP _ _ _ 2 true = some (Op.load 5 (tmpO 12), 5, some 13, Rg.sq (bitL 3 3) 3)) (n := 1) (by kernel_rfl) rfl ?_
 intro L w1 hs
 refine ⟨.v (.int .u8 b[0]), rd_sc (rdRow_ext (hs.old 0 rfl) hb) hpos, ?_⟩
 clear hs
 refine gn 2 (Rg.sq (bitL 4 7) 1) [kCd (bitL 4 15)] [(1, SV.one (SC.v (Value.func (Fn.func 117) #[] #[]))), (4, vR 0 0), (5, vR 1 0), (16, vS (some a_1) b.length c)] [LB.mk [cI 0, cI 0, cF 0, cS none 0 0] 49, LB.mk [cI (IntKind.i64.wrap b[0]), cI 0, cF 0, cS none 0 0] 49] ?_
 try simp only [flx, nf_1]
 obtain ⟨hcap_hrest, hrest⟩ := rd_part (l := 1) (h := b.length) (sz := 1) hb rfl (by omega) (by omega)
 refine slice_at 1 (l := 1) (h := b.length) (m := c) (sz := 1) (by kernel_rfl : atP _ _ _ 1 false = some (Op.slice 44 (tmpO 16) (some (Operand.const (Value.int IntKind.i64 1))) none none, 44, some 17, Rg.sq (bitL 4 7) 2)) (by kernel_rfl) rfl ⟨_, rfl⟩ rfl rfl (by decide) (by omega) hcap_hrest (by first | exact Nat.le_refl _ | omega) ?_
 generalize (if c = 1 then (some a_1) else (some a_1).map (·.add (1 * 1))) = A_hrest at *
 rw [show (b.take b.length).drop 1 = b.drop 1 by rw [List.take_length]] at hrest
 have nf_2 : IntKind.i64.wrap (IntKind.u64.wrap (be (b.drop 1) - 9223372036854775808)) = sgn (be (b.drop 1)) := by unfold sgn; rw [IntKind.wrap_i64, IntKind.wrap_u64]; omega
 by_cases h3 : b.headD 0 = 3
 ·rw [show readI gKey b = ⟨3, 0, 0, b.drop 1⟩ by unfold readI; rw [if_neg hz, if_pos h3]]
  rw [h3]
  refine gn 2 Rg.no [kCd (bitL 7 111), KI.block 0, kCd (bitL 5 31)] [(1, SV.one (SC.v (Value.func (Fn.func 117) #[] #[]))), (4, vR 0 0), (5, vR 1 0), (6, vS A_hrest (b.length - 1) (c - 1)), (18, vB true)] [LB.mk [cI 0, cI 0, cF 0, cS none 0 0] 49, LB.mk [cI 3, cI 0, cF 0, cS none 0 0] 49] ?_
  refine ltk 18 true ?_
  refine gn 2 (Rg.sq (bitL 8 111) 1) [KI.block 0, kCd (bitL 5 31)] [(4, vR 0 0), (5, vR 1 0), (22, vS A_hrest (b.length - 1) (c - 1))] [LB.mk [cI 0, cI 0, cF 0, cS none 0 0] 49, LB.mk [cI 3, cI 0, cF 0, cS none 0 0] 49] ?_
  try simp only [flx, nf_1, nf_2]
  refine cak 124 [vS A_hrest (b.length - 1) (c - 1)] (some 23) (Rg.sq (bitL 8 111) 2) (fun L w1 hs => (cloneB_ok (List.drop 1 b) (Value.slice A_hrest (b.length - 1) (c - 1)) w1 (rdRow_ext (hs.old 0 rfl) hrest) (by omega)).mono ?_)
  rintro e_ w2_ ⟨B_1, d_1, rfl, hf_⟩
  refine ⟨.one (.v (Value.slice B_1 (List.drop 1 b).length d_1)), _, _, rfl, fun _ => hf_.1.block, hs.fresh hf_, ?_⟩
  clear hs hf_
  refine gn 1 Rg.no [kCd (bitL 6 63)] [(4, vR 0 0)] [LB.mk [cI 3, cI 0, cF 0, cS B_1 (List.drop 1 b).length d_1] 49] ?_
  refine rtk [SV.agg [cI 3, cI 0, cF 0, cS B_1 (List.drop 1 b).length d_1]] ?_
  intro L w1 hs
  exact ⟨_, _, _, rfl, hs.out (As := [_]), by omega, rfl⟩
 by_cases h9 : ¬ b.length = 9
 ·rw [show readI gKey b = ⟨0, 0, 0, []⟩ by unfold readI; rw [if_neg hz, if_neg h3, if_pos h9]]
  refine gn 2 Rg.no [kCd (bitL 7 111), KI.block 0, kCd (bitL 5 31)] [(1, SV.one (SC.v (Value.func (Fn.func 117) #[] #[]))), (4, vR 0 0), (5, vR 1 0), (6, vS A_hrest (b.length - 1) (c - 1)), (18, vB (b.headD 0 == 3))] [LB.mk [cI 0, cI 0, cF 0, cS none 0 0] 49, LB.mk [cI (b.headD 0), cI 0, cF 0, cS none 0 0] 49] ?_
  try simp only [flx, nf_1, nf_2]
  refine spl 18 (b.headD 0 == 3) ?_ ?_
  ·intro hb2
   replace hb2 := beq_iff_eq.1 hb2
   (exfalso; omega)
  ·intro hb2
   replace hb2 := beq_eq_false_iff_ne.1 hb2
   refine gn 2 Rg.no [kCd (bitL 9 495), KI.block 0, kCd (bitL 5 31)] [(1, SV.one (SC.v (Value.func (Fn.func 117) #[] #[]))), (4, vR 0 0), (5, vR 1 0), (6, vS A_hrest (b.length - 1) (c - 1)), (25, vB ((↑(b.length - 1) : Int) != 8))] [LB.mk [cI 0, cI 0, cF 0, cS none 0 0] 49, LB.mk [cI (b.headD 0), cI 0, cF 0, cS none 0 0] 49] ?_
   refine spl 25 ((↑(b.length - 1) : Int) != 8) ?_ ?_
   ·intro hb3
    replace hb3 := bne_iff_ne.1 hb3
    refine gn 1 Rg.no [kCd (bitL 11 1519), KI.block 0, kCd (bitL 5 31)] [(4, vR 0 0)] [LB.mk [cI 0, cI 0, cF 0, cS none 0 0] 49] ?_
    refine rtk [SV.agg [cI 0, cI 0, cF 0, cS none 0 0]] ?_
    intro L w1 hs
    exact ⟨_, none, 0, rfl, hs.out1 rowA_nil, by omega, rfl⟩
   ·intro hb3
    replace hb3 := bne_eq_false_iff_eq.1 hb3
    (exfalso; omega)
 by_cases h1 : b.headD 0 = 1
 ·rw [show readI gKey b = ⟨1, sgn (be (b.drop 1)), 0, []⟩ by unfold readI; rw [if_neg hz, if_neg h3, if_neg (by omega), if_pos h1]]
  rw [h1]
  refine gn 2 Rg.no [kCd (bitL 7 111), KI.block 0, kCd (bitL 5 31)] [(1, SV.one (SC.v (Value.func (Fn.func 117) #[] #[]))), (4, vR 0 0), (5, vR 1 0), (6, vS A_hrest (b.length - 1) (c - 1)), (18, vB false)] [LB.mk [cI 0, cI 0, cF 0, cS none 0 0] 49, LB.mk [cI 1, cI 0, cF 0, cS none 0 0] 49] ?_
  refine ltk 18 false ?_
  refine gn 2 Rg.no [kCd (bitL 9 495), KI.block 0, kCd (bitL 5 31)] [(1, SV.one (SC.v (Value.func (Fn.func 117) #[] #[]))), (4, vR 0 0), (5, vR 1 0), (6, vS A_hrest (b.length - 1) (c - 1)), (25, vB ((↑(b.length - 1) : Int) != 8))] [LB.mk [cI 0, cI 0, cF 0, cS none 0 0] 49, LB.mk [cI 1, cI 0, cF 0, cS none 0 0] 49] ?_
  try simp only [flx, nf_1, nf_2]
  refine spl 25 ((↑(b.length - 1) : Int) != 8) ?_ ?_
  ·intro hb2
   replace hb2 := bne_iff_ne.1 hb2
   (exfalso; omega)
  ·intro hb2
   replace hb2 := bne_eq_false_iff_eq.1 hb2
   refine gn 2 Rg.no [kCd (bitL 11 2031), KI.block 0, kCd (bitL 5 31)] [(1, SV.one (SC.v (Value.func (Fn.func 117) #[] #[]))), (4, vR 0 0), (5, vR 1 0), (6, vS A_hrest (b.length - 1) (c - 1)), (30, vB true)] [LB.mk [cI 0, cI 0, cF 0, cS none 0 0] 49, LB.mk [cI 1, cI 0, cF 0, cS none 0 0] 49] ?_
   refine ltk 30 true ?_
   refine gn 2 (Rg.sq (bitL 12 2031) 1) [KI.block 0, kCd (bitL 5 31)] [(4, vR 0 0), (5, vR 1 0), (34, vS A_hrest (b.length - 1) (c - 1))] [LB.mk [cI 0, cI 0, cF 0, cS none 0 0] 49, LB.mk [cI 1, cI 0, cF 0, cS none 0 0] 49] ?_
   refine cpk 125 [vS A_hrest (b.length - 1) (c - 1)] (some 35) (Rg.sq (bitL 12 2031) 2) (.one (.v (Value.int IntKind.u64 (be (List.drop 1 b))))) (fun L w1 hs => (fromHigh_ok (List.drop 1 b) (Value.slice A_hrest (b.length - 1) (c - 1)) w1 (rdRow_ext (hs.old 0 rfl) hrest) ‹_› (by omega))) ?_
   refine gn 1 Rg.no [kCd (bitL 6 63)] [(4, vR 0 0)] [LB.mk [cI 1, cI (IntKind.i64.wrap (IntKind.u64.wrap (be (List.drop 1 b) - 9223372036854775808))), cF 0, cS none 0 0] 49] ?_
   try simp only [flx, nf_1, nf_2]
   refine rtk [SV.agg [cI 1, cI (sgn (be (List.drop 1 b))), cF 0, cS none 0 0]] ?_
   intro L w1 hs
   exact ⟨_, none, 0, rfl, hs.out1 rowA_nil, by omega, rfl⟩
 by_cases h2 : b.headD 0 = 2
 ·rw [show readI gKey b = ⟨2, 0, gKey (be (b.drop 1)), []⟩ by unfold readI; rw [if_neg hz, if_neg h3, if_neg (by omega), if_neg h1, if_pos h2]]
  rw [h2]
  refine gn 2 Rg.no [kCd (bitL 7 111), KI.block 0, kCd (bitL 5 31)] [(1, SV.one (SC.v (Value.func (Fn.func 117) #[] #[]))), (4, vR 0 0), (5, vR 1 0), (6, vS A_hrest (b.length - 1) (c - 1)), (18, vB false)] [LB.mk [cI 0, cI 0, cF 0, cS none 0 0] 49, LB.mk [cI 2, cI 0, cF 0, cS none 0 0] 49] ?_
  refine ltk 18 false ?_
  refine gn 2 Rg.no [kCd (bitL 9 495), KI.block 0, kCd (bitL 5 31)] [(1, SV.one (SC.v (Value.func (Fn.func 117) #[] #[]))), (4, vR 0 0), (5, vR 1 0), (6, vS A_hrest (b.length - 1) (c - 1)), (25, vB ((↑(b.length - 1) : Int) != 8))] [LB.mk [cI 0, cI 0, cF 0, cS none 0 0] 49, LB.mk [cI 2, cI 0, cF 0, cS none 0 0] 49] ?_
  try simp only [flx, nf_1, nf_2]
  refine spl 25 ((↑(b.length - 1) : Int) != 8) ?_ ?_
  ·intro hb2
   replace hb2 := bne_iff_ne.1 hb2
   (exfalso; omega)
  ·intro hb2
   replace hb2 := bne_eq_false_iff_eq.1 hb2
   refine gn 2 Rg.no [kCd (bitL 11 2031), KI.block 0, kCd (bitL 5 31)] [(1, SV.one (SC.v (Value.func (Fn.func 117) #[] #[]))), (4, vR 0 0), (5, vR 1 0), (6, vS A_hrest (b.length - 1) (c - 1)), (30, vB false)] [LB.mk [cI 0, cI 0, cF 0, cS none 0 0] 49, LB.mk [cI 2, cI 0, cF 0, cS none 0 0] 49] ?_
   refine ltk 30 false ?_
   refine gn 2 Rg.no [kCd (bitL 13 8175), KI.block 0, kCd (bitL 5 31)] [(1, SV.one (SC.v (Value.func (Fn.func 117) #[] #[]))), (4, vR 0 0), (5, vR 1 0), (6, vS A_hrest (b.length - 1) (c - 1)), (39, vB true)] [LB.mk [cI 0, cI 0, cF 0, cS none 0 0] 49, LB.mk [cI 2, cI 0, cF 0, cS none 0 0] 49] ?_
   refine ltk 39 true ?_
   refine gn 2 (Rg.sq (bitL 14 8175) 2) [KI.block 0, kCd (bitL 5 31)] [(4, vR 0 0), (5, vR 1 0), (43, SV.one (SC.v (Value.func (Fn.func 117) #[] #[]))), (44, vS A_hrest (b.length - 1) (c - 1))] [LB.mk [cI 0, cI 0, cF 0, cS none 0 0] 49, LB.mk [cI 2, cI 0, cF 0, cS none 0 0] 49] ?_
   refine cpk 125 [vS A_hrest (b.length - 1) (c - 1)] (some 45) (Rg.sq (bitL 14 8175) 3) (.one (.v (Value.int IntKind.u64 (be (List.drop 1 b))))) (fun L w1 hs => (fromHigh_ok (List.drop 1 b) (Value.slice A_hrest (b.length - 1) (c - 1)) w1 (rdRow_ext (hs.old 0 rfl) hrest) ‹_› (by omega))) ?_
   refine gn 2 (Rg.sq (bitL 14 8175) 3) [KI.block 0, kCd (bitL 5 31)] [(4, vR 0 0), (5, vR 1 0), (43, SV.one (SC.v (Value.func (Fn.func 117) #[] #[]))), (45, SV.one (SC.v (Value.int IntKind.u64 (be (List.drop 1 b)))))] [LB.mk [cI 0, cI 0, cF 0, cS none 0 0] 49, LB.mk [cI 2, cI 0, cF 0, cS none 0 0] 49] ?_
   refine cak 117 [SV.one (SC.v (Value.int IntKind.u64 (be (List.drop 1 b))))] (some 46) (Rg.sq (bitL 14 8175) 4) (fun L w1 hs => (keyRead1_ok (be (List.drop 1 b)) w1 (by omega) (by omega)).mono ?_)
   rintro e_ w2_ ⟨r_1, rfl, hf_, hq1, hq2⟩
   refine ⟨.one (.v (Value.float FloatKind.f64 r_1)), _, _, rfl, fun _ => hf_.block, hs.below hf_, ?_⟩
   clear hs hf_
   refine gn 1 Rg.no [kCd (bitL 6 63)] [(4, vR 0 0)] [LB.mk [cI 2, cI 0, cF r_1, cS none 0 0] 49] ?_
   refine rtk [SV.agg [cI 2, cI 0, cF r_1, cS none 0 0]] ?_
   intro L w1 hs
   exact ⟨_, none, 0, rfl, hs.out1 rowA_nil, by assumption, by assumption⟩
 rw [show readI gKey b = ⟨b.headD 0, 0, 0, []⟩ by unfold readI; rw [if_neg hz, if_neg h3, if_neg (by omega), if_neg h1, if_neg h2]]
 refine gn 2 Rg.no [kCd (bitL 7 111), KI.block 0, kCd (bitL 5 31)] [(1, SV.one (SC.v (Value.func (Fn.func 117) #[] #[]))), (4, vR 0 0), (5, vR 1 0), (6, vS A_hrest (b.length - 1) (c - 1)), (18, vB (b.headD 0 == 3))] [LB.mk [cI 0, cI 0, cF 0, cS none 0 0] 49, LB.mk [cI (b.headD 0), cI 0, cF 0, cS none 0 0] 49] ?_
 try simp only [flx, nf_1, nf_2]
 refine spl 18 (b.headD 0 == 3) ?_ ?_
 ·intro hb2
  replace hb2 := beq_iff_eq.1 hb2
  (exfalso; omega)
 ·intro hb2
  replace hb2 := beq_eq_false_iff_ne.1 hb2
  refine gn 2 Rg.no [kCd (bitL 9 495), KI.block 0, kCd (bitL 5 31)] [(1, SV.one (SC.v (Value.func (Fn.func 117) #[] #[]))), (4, vR 0 0), (5, vR 1 0), (6, vS A_hrest (b.length - 1) (c - 1)), (25, vB ((↑(b.length - 1) : Int) != 8))] [LB.mk [cI 0, cI 0, cF 0, cS none 0 0] 49, LB.mk [cI (b.headD 0), cI 0, cF 0, cS none 0 0] 49] ?_
  refine spl 25 ((↑(b.length - 1) : Int) != 8) ?_ ?_
  ·intro hb3
   replace hb3 := bne_iff_ne.1 hb3
   (exfalso; omega)
  ·intro hb3
   replace hb3 := bne_eq_false_iff_eq.1 hb3
   refine gn 2 Rg.no [kCd (bitL 11 2031), KI.block 0, kCd (bitL 5 31)] [(1, SV.one (SC.v (Value.func (Fn.func 117) #[] #[]))), (4, vR 0 0), (5, vR 1 0), (6, vS A_hrest (b.length - 1) (c - 1)), (30, vB (b.headD 0 == 1))] [LB.mk [cI 0, cI 0, cF 0, cS none 0 0] 49, LB.mk [cI (b.headD 0), cI 0, cF 0, cS none 0 0] 49] ?_
   refine spl 30 (b.headD 0 == 1) ?_ ?_
   ·intro hb4
    replace hb4 := beq_iff_eq.1 hb4
    (exfalso; omega)
   ·intro hb4
    replace hb4 := beq_eq_false_iff_ne.1 hb4
    refine gn 2 Rg.no [kCd (bitL 13 8175), KI.block 0, kCd (bitL 5 31)] [(1, SV.one (SC.v (Value.func (Fn.func 117) #[] #[]))), (4, vR 0 0), (5, vR 1 0), (6, vS A_hrest (b.length - 1) (c - 1)), (39, vB (b.headD 0 == 2))] [LB.mk [cI 0, cI 0, cF 0, cS none 0 0] 49, LB.mk [cI (b.headD 0), cI 0, cF 0, cS none 0 0] 49] ?_
    refine spl 39 (b.headD 0 == 2) ?_ ?_
    ·intro hb5
     replace hb5 := beq_iff_eq.1 hb5
     (exfalso; omega)
    ·intro hb5
     replace hb5 := beq_eq_false_iff_ne.1 hb5
     refine gn 1 Rg.no [kCd (bitL 6 63)] [(4, vR 0 0)] [LB.mk [cI (b.headD 0), cI 0, cF 0, cS none 0 0] 49] ?_
     refine rtk [SV.agg [cI (b.headD 0), cI 0, cF 0, cS none 0 0]] ?_
     intro L w1 hs
     exact ⟨_, none, 0, rfl, hs.out1 rowA_nil, by omega, rfl⟩
theorem readV_ok (b : List Int) (vb : Value) (w : World) (hb : rdRow kU8 w.heap b vb) (hby : byOk b) (hl : b.length ≤ 1048576) :
  Calls Tryz.prog 116 #[vb, .func (.func 120) #[] #[]] w fun e w' => ∃ (bof : Nat) (Aot : Option Addr) (cot : Nat), e = .returned (.agg #[.int .i64 (readI gVal b).kind, .int .i64 (readI gVal b).n, .float .f64 bof, .slice Aot (readI gVal b).t.length cot]) ∧ Fresh w w' [rowA 5 kU8 (readI gVal b).t (.slice Aot (readI gVal b).t.length cot)] ∧ bof < 18446744073709551616 ∧ canonF bof = (readI gVal b).f := by
 obtain ⟨A, c, rfl⟩ := rdRow_form hb
 refine enter (args := [.one (.v (.slice A b.length c)), .one (.v (.func (.func 120) #[] #[]))]) Tryz.func116 (c := bodyOf Tryz.f116) rfl rfl (start_LOK _) (start_old w) ?_
 by_cases hz : b.length = 0
 ·rw [show readI gVal b = ⟨0, 0, 0, []⟩ by unfold readI; rw [if_pos hz]]
  refine gn 1 Rg.no [kCd (bitL 3 5), KI.code [true, true]] [(0, vS A b.length c), (1, SV.one (SC.v (Value.func (Fn.func 120) #[] #[]))), (4, vR 0 0), (9, vB ((↑b.length : Int) == 0))] [LB.mk [cI 0, cI 0, cF 0, cS none 0 0] 49] ?_
  try simp only [flx]
  refine spl 9 ((↑b.length : Int) == 0) ?_ ?_
  ·intro hb1
   replace hb1 := beq_iff_eq.1 hb1
   refine gn 1 Rg.no [kCd (bitL 5 21), KI.code [true, true]] [(4, vR 0 0)] [LB.mk [cI 0, cI 0, cF 0, cS none 0 0] 49] ?_
   refine rtk [SV.agg [cI 0, cI 0, cF 0, cS none 0 0]] ?_
   intro L w1 hs
   exact ⟨_, none, 0, rfl, hs.out1 rowA_nil, by omega, rfl⟩
  ·intro hb1
   replace hb1 := beq_eq_false_iff_ne.1 hb1
   (exfalso; omega)
 have hpos : 0 < b.length := by omega
 have hh := head_get hpos
 have h0b := hby _ (List.getElem_mem hpos)
 rw [← hh] at h0b
 have hdl : (b.drop 1).length = b.length - 1 := List.length_drop
 have hdb := byOk_drop hby 1
 have hbe := be_bnd hdb
 have nf_1 : IntKind.i64.wrap (b[0]'hpos) = b.headD 0 := by rw [← hh, IntKind.wrap_i64]; omega
 refine gn 1 Rg.no [kCd (bitL 3 5), KI.code [true, true]] [(0, vS A b.length c), (1, SV.one (SC.v (Value.func (Fn.func 120) #[] #[]))), (4, vR 0 0), (9, vB ((↑b.length : Int) == 0))] [LB.mk [cI 0, cI 0, cF 0, cS none 0 0] 49] ?_
 refine spl 9 ((↑b.length : Int) == 0) ?_ ?_
 ·intro hb1
  replace hb1 := beq_iff_eq.1 hb1
  (exfalso; omega)
 intro hb1
 replace hb1 := beq_eq_false_iff_ne.1 hb1
 refine gn 1 (Rg.sq (bitL 3 3) 1) [kCd (bitL 3 7)] [(0, vS A b.length c), (1, SV.one (SC.v (Value.func (Fn.func 120) #[] #[]))), (4, vR 0 0), (11, vS A b.length c)] [LB.mk [cI 0, cI 0, cF 0, cS none 0 0] 49] ?_
 refine index_at 1 (by kernel_rfl : atP _ _ _ 1 false = some (Op.indexAddr 44 (tmpO 11) (Operand.const (Value.int IntKind.i64 0)), 0, some 12, Rg.sq (bitL 3 3) 2)) (ni := 0) (sz := 1) (by kernel_rfl) rfl rfl rfl ‹_› (fun L w1 hs => rd_some (i := 0) (rdRow_ext (hs.old 0 rfl) hb) ‹_›) ?_
 intro a_1 ha_1
 cases ha_1
 refine gn 1 (Rg.sq (bitL 3 3) 2) [kCd (bitL 3 7)] [(0, vS (some a_1) b.length c), (1, SV.one (SC.v (Value.func (Fn.func 120) #[] #[]))), (4, vR 0 0), (12, vP (a_1.add 0))] [LB.mk [cI 0, cI 0, cF 0, cS none 0 0] 49] ?_
 refine load_one 2 (by kernel_rfl : atP _ _ _ 2 true = some (Op.load 5 (tmpO 12), 5, some 13, Rg.sq (bitL 3 3) 3)) (n := 1) (by kernel_rfl) rfl ?_
 intro L w1 hs
 refine ⟨.v (.int .u8 b[0]), rd_sc (rdRow_ext (hs.old 0 rfl) hb) hpos, ?_⟩
 clear hs
 refine gn 2 (Rg.sq (bitL 4 7) 1) [kCd (bitL 4 15)] [(1, SV.one (SC.v (Value.func (Fn.func 120) #[] #[]))), (4, vR 0 0), (5, vR 1 0), (16, vS (some a_1) b.length c)] [LB.mk [cI 0, cI 0, cF 0, cS none 0 0] 49, LB.mk [cI (IntKind.i64.wrap b[0]), cI 0, cF 0, cS none 0 0] 49] ?_
 try simp only [flx, nf_1]
 obtain ⟨hcap_hrest, hrest⟩ := rd_part (l := 1) (h := b.length) (sz := 1) hb rfl (by omega) (by omega)
 refine slice_at 1 (l := 1) (h := b.length) (m := c) (sz := 1) (by kernel_rfl : atP _ _ _ 1 false = some (Op.slice 44 (tmpO 16) (some (Operand.const (Value.int IntKind.i64 1))) none none, 44, some 17, Rg.sq (bitL 4 7) 2)) (by kernel_rfl) rfl ⟨_, rfl⟩ rfl rfl (by decide) (by omega) hcap_hrest (by first | exact Nat.le_refl _ | omega) ?_
 generalize (if c = 1 then (some a_1) else (some a_1).map (·.add (1 * 1))) = A_hrest at *
 rw [show (b.take b.length).drop 1 = b.drop 1 by rw [List.take_length]] at hrest
 have nf_2 : IntKind.i64.wrap (IntKind.u64.wrap (be (b.drop 1) - 9223372036854775808)) = sgn (be (b.drop 1)) := by unfold sgn; rw [IntKind.wrap_i64, IntKind.wrap_u64]; omega
 by_cases h3 : b.headD 0 = 3
 ·rw [show readI gVal b = ⟨3, 0, 0, b.drop 1⟩ by unfold readI; rw [if_neg hz, if_pos h3]]
  rw [h3]
  refine gn 2 Rg.no [kCd (bitL 7 111), KI.block 0, kCd (bitL 5 31)] [(1, SV.one (SC.v (Value.func (Fn.func 120) #[] #[]))), (4, vR 0 0), (5, vR 1 0), (6, vS A_hrest (b.length - 1) (c - 1)), (18, vB true)] [LB.mk [cI 0, cI 0, cF 0, cS none 0 0] 49, LB.mk [cI 3, cI 0, cF 0, cS none 0 0] 49] ?_
  refine ltk 18 true ?_
  refine gn 2 (Rg.sq (bitL 8 111) 1) [KI.block 0, kCd (bitL 5 31)] [(4, vR 0 0), (5, vR 1 0), (22, vS A_hrest (b.length - 1) (c - 1))] [LB.mk [cI 0, cI 0, cF 0, cS none 0 0] 49, LB.mk [cI 3, cI 0, cF 0, cS none 0 0] 49] ?_
  try simp only [flx, nf_1, nf_2]
  refine cak 124 [vS A_hrest (b.length - 1) (c - 1)] (some 23) (Rg.sq (bitL 8 111) 2) (fun L w1 hs => (cloneB_ok (List.drop 1 b) (Value.slice A_hrest (b.length - 1) (c - 1)) w1 (rdRow_ext (hs.old 0 rfl) hrest) (by omega)).mono ?_)
  rintro e_ w2_ ⟨B_1, d_1, rfl, hf_⟩
  refine ⟨.one (.v (Value.slice B_1 (List.drop 1 b).length d_1)), _, _, rfl, fun _ => hf_.1.block, hs.fresh hf_, ?_⟩
  clear hs hf_
  refine gn 1 Rg.no [kCd (bitL 6 63)] [(4, vR 0 0)] [LB.mk [cI 3, cI 0, cF 0, cS B_1 (List.drop 1 b).length d_1] 49] ?_
  refine rtk [SV.agg [cI 3, cI 0, cF 0, cS B_1 (List.drop 1 b).length d_1]] ?_
  intro L w1 hs
  exact ⟨_, _, _, rfl, hs.out (As := [_]), by omega, rfl⟩
 by_cases h9 : ¬ b.length = 9
 ·rw [show readI gVal b = ⟨0, 0, 0, []⟩ by unfold readI; rw [if_neg hz, if_neg h3, if_pos h9]]
  refine gn 2 Rg.no [kCd (bitL 7 111), KI.block 0, kCd (bitL 5 31)] [(1, SV.one (SC.v (Value.func (Fn.func 120) #[] #[]))), (4, vR 0 0), (5, vR 1 0), (6, vS A_hrest (b.length - 1) (c - 1)), (18, vB (b.headD 0 == 3))] [LB.mk [cI 0, cI 0, cF 0, cS none 0 0] 49, LB.mk [cI (b.headD 0), cI 0, cF 0, cS none 0 0] 49] ?_
  try simp only [flx, nf_1, nf_2]
  refine spl 18 (b.headD 0 == 3) ?_ ?_
  ·intro hb2
   replace hb2 := beq_iff_eq.1 hb2
   (exfalso; omega)
  ·intro hb2
   replace hb2 := beq_eq_false_iff_ne.1 hb2
   refine gn 2 Rg.no [kCd (bitL 9 495), KI.block 0, kCd (bitL 5 31)] [(1, SV.one (SC.v (Value.func (Fn.func 120) #[] #[]))), (4, vR 0 0), (5, vR 1 0), (6, vS A_hrest (b.length - 1) (c - 1)), (25, vB ((↑(b.length - 1) : Int) != 8))] [LB.mk [cI 0, cI 0, cF 0, cS none 0 0] 49, LB.mk [cI (b.headD 0), cI 0, cF 0, cS none 0 0] 49] ?_
   refine spl 25 ((↑(b.length - 1) : Int) != 8) ?_ ?_
   ·intro hb3
    replace hb3 := bne_iff_ne.1 hb3
    refine gn 1 Rg.no [kCd (bitL 11 1519), KI.block 0, kCd (bitL 5 31)] [(4, vR 0 0)] [LB.mk [cI 0, cI 0, cF 0, cS none 0 0] 49] ?_
    refine rtk [SV.agg [cI 0, cI 0, cF 0, cS none 0 0]] ?_
    intro L w1 hs
    exact ⟨_, none, 0, rfl, hs.out1 rowA_nil, by omega, rfl⟩
   ·intro hb3
    replace hb3 := bne_eq_false_iff_eq.1 hb3
    (exfalso; omega)
 by_cases h1 : b.headD 0 = 1
 ·rw [show readI gVal b = ⟨1, sgn (be (b.drop 1)), 0, []⟩ by unfold readI; rw [if_neg hz, if_neg h3, if_neg (by omega), if_pos h1]]
  rw [h1]
  refine gn 2 Rg.no [kCd (bitL 7 111), KI.block 0, kCd (bitL 5 31)] [(1, SV.one (SC.v (Value.func (Fn.func 120) #[] #[]))), (4, vR 0 0), (5, vR 1 0), (6, vS A_hrest (b.length - 1) (c - 1)), (18, vB false)] [LB.mk [cI 0, cI 0, cF 0, cS none 0 0] 49, LB.mk [cI 1, cI 0, cF 0, cS none 0 0] 49] ?_
  refine ltk 18 false ?_
  refine gn 2 Rg.no [kCd (bitL 9 495), KI.block 0, kCd (bitL 5 31)] [(1, SV.one (SC.v (Value.func (Fn.func 120) #[] #[]))), (4, vR 0 0), (5, vR 1 0), (6, vS A_hrest (b.length - 1) (c - 1)), (25, vB ((↑(b.length - 1) : Int) != 8))] [LB.mk [cI 0, cI 0, cF 0, cS none 0 0] 49, LB.mk [cI 1, cI 0, cF 0, cS none 0 0] 49] ?_
  try simp only [flx, nf_1, nf_2]
  refine spl 25 ((↑(b.length - 1) : Int) != 8) ?_ ?_
  ·intro hb2
   replace hb2 := bne_iff_ne.1 hb2
   (exfalso; omega)
  ·intro hb2
   replace hb2 := bne_eq_false_iff_eq.1 hb2
   refine gn 2 Rg.no [kCd (bitL 11 2031), KI.block 0, kCd (bitL 5 31)] [(1, SV.one (SC.v (Value.func (Fn.func 120) #[] #[]))), (4, vR 0 0), (5, vR 1 0), (6, vS A_hrest (b.length - 1) (c - 1)), (30, vB true)] [LB.mk [cI 0, cI 0, cF 0, cS none 0 0] 49, LB.mk [cI 1, cI 0, cF 0, cS none 0 0] 49] ?_
   refine ltk 30 true ?_
   refine gn 2 (Rg.sq (bitL 12 2031) 1) [KI.block 0, kCd (bitL 5 31)] [(4, vR 0 0), (5, vR 1 0), (34, vS A_hrest (b.length - 1) (c - 1))] [LB.mk [cI 0, cI 0, cF 0, cS none 0 0] 49, LB.mk [cI 1, cI 0, cF 0, cS none 0 0] 49] ?_
   refine cpk 125 [vS A_hrest (b.length - 1) (c - 1)] (some 35) (Rg.sq (bitL 12 2031) 2) (.one (.v (Value.int IntKind.u64 (be (List.drop 1 b))))) (fun L w1 hs => (fromHigh_ok (List.drop 1 b) (Value.slice A_hrest (b.length - 1) (c - 1)) w1 (rdRow_ext (hs.old 0 rfl) hrest) ‹_› (by omega))) ?_
   refine gn 1 Rg.no [kCd (bitL 6 63)] [(4, vR 0 0)] [LB.mk [cI 1, cI (IntKind.i64.wrap (IntKind.u64.wrap (be (List.drop 1 b) - 9223372036854775808))), cF 0, cS none 0 0] 49] ?_
   try simp only [flx, nf_1, nf_2]
   refine rtk [SV.agg [cI 1, cI (sgn (be (List.drop 1 b))), cF 0, cS none 0 0]] ?_
   intro L w1 hs
   exact ⟨_, none, 0, rfl, hs.out1 rowA_nil, by omega, rfl⟩
 by_cases h2 : b.headD 0 = 2
 ·rw [show readI gVal b = ⟨2, 0, gVal (be (b.drop 1)), []⟩ by unfold readI; rw [if_neg hz, if_neg h3, if_neg (by omega), if_neg h1, if_pos h2]]
  rw [h2]
  refine gn 2 Rg.no [kCd (bitL 7 111), KI.block 0, kCd (bitL 5 31)] [(1, SV.one (SC.v (Value.func (Fn.func 120) #[] #[]))), (4, vR 0 0), (5, vR 1 0), (6, vS A_hrest (b.length - 1) (c - 1)), (18, vB false)] [LB.mk [cI 0, cI 0, cF 0, cS none 0 0] 49, LB.mk [cI 2, cI 0, cF 0, cS none 0 0] 49] ?_
  refine ltk 18 false ?_
  refine gn 2 Rg.no [kCd (bitL 9 495), KI.block 0, kCd (bitL 5 31)] [(1, SV.one (SC.v (Value.func (Fn.func 120) #[] #[]))), (4, vR 0 0), (5, vR 1 0), (6, vS A_hrest (b.length - 1) (c - 1)), (25, vB ((↑(b.length - 1) : Int) != 8))] [LB.mk [cI 0, cI 0, cF 0, cS none 0 0] 49, LB.mk [cI 2, cI 0, cF 0, cS none 0 0] 49] ?_
  try simp only [flx, nf_1, nf_2]
  refine spl 25 ((↑(b.length - 1) : Int) != 8) ?_ ?_
  ·intro hb2
   replace hb2 := bne_iff_ne.1 hb2
   (exfalso; omega)
  ·intro hb2
   replace hb2 := bne_eq_false_iff_eq.1 hb2
   refine gn 2 Rg.no [kCd (bitL 11 2031), KI.block 0, kCd (bitL 5 31)] [(1, SV.one (SC.v (Value.func (Fn.func 120) #[] #[]))), (4, vR 0 0), (5, vR 1 0), (6, vS A_hrest (b.length - 1) (c - 1)), (30, vB false)] [LB.mk [cI 0, cI 0, cF 0, cS none 0 0] 49, LB.mk [cI 2, cI 0, cF 0, cS none 0 0] 49] ?_
   refine ltk 30 false ?_
   refine gn 2 Rg.no [kCd (bitL 13 8175), KI.block 0, kCd (bitL 5 31)] [(1, SV.one (SC.v (Value.func (Fn.func 120) #[] #[]))), (4, vR 0 0), (5, vR 1 0), (6, vS A_hrest (b.length - 1) (c - 1)), (39, vB true)] [LB.mk [cI 0, cI 0, cF 0, cS none 0 0] 49, LB.mk [cI 2, cI 0, cF 0, cS none 0 0] 49] ?_
   refine ltk 39 true ?_
   refine gn 2 (Rg.sq (bitL 14 8175) 2) [KI.block 0, kCd (bitL 5 31)] [(4, vR 0 0), (5, vR 1 0), (43, SV.one (SC.v (Value.func (Fn.func 120) #[] #[]))), (44, vS A_hrest (b.length - 1) (c - 1))] [LB.mk [cI 0, cI 0, cF 0, cS none 0 0] 49, LB.mk [cI 2, cI 0, cF 0, cS none 0 0] 49] ?_
   refine cpk 125 [vS A_hrest (b.length - 1) (c - 1)] (some 45) (Rg.sq (bitL 14 8175) 3) (.one (.v (Value.int IntKind.u64 (be (List.drop 1 b))))) (fun L w1 hs => (fromHigh_ok (List.drop 1 b) (Value.slice A_hrest (b.length - 1) (c - 1)) w1 (rdRow_ext (hs.old 0 rfl) hrest) ‹_› (by omega))) ?_
   refine gn 2 (Rg.sq (bitL 14 8175) 3) [KI.block 0, kCd (bitL 5 31)] [(4, vR 0 0), (5, vR 1 0), (43, SV.one (SC.v (Value.func (Fn.func 120) #[] #[]))), (45, SV.one (SC.v (Value.int IntKind.u64 (be (List.drop 1 b)))))] [LB.mk [cI 0, cI 0, cF 0, cS none 0 0] 49, LB.mk [cI 2, cI 0, cF 0, cS none 0 0] 49] ?_
   refine cak 120 [SV.one (SC.v (Value.int IntKind.u64 (be (List.drop 1 b))))] (some 46) (Rg.sq (bitL 14 8175) 4) (fun L w1 hs => (iFloatOfG_ok (be (List.drop 1 b)) w1 (by omega) (by omega)).mono ?_)
   rintro e_ w2_ ⟨r_1, rfl, hf_, hq1, hq2⟩
   refine ⟨.one (.v (Value.float FloatKind.f64 r_1)), _, _, rfl, fun _ => hf_.block, hs.below hf_, ?_⟩
   clear hs hf_
   refine gn 1 Rg.no [kCd (bitL 6 63)] [(4, vR 0 0)] [LB.mk [cI 2, cI 0, cF r_1, cS none 0 0] 49] ?_
   refine rtk [SV.agg [cI 2, cI 0, cF r_1, cS none 0 0]] ?_
   intro L w1 hs
   exact ⟨_, none, 0, rfl, hs.out1 rowA_nil, by assumption, by assumption⟩
 rw [show readI gVal b = ⟨b.headD 0, 0, 0, []⟩ by unfold readI; rw [if_neg hz, if_neg h3, if_neg (by omega), if_neg h1, if_neg h2]]
 refine gn 2 Rg.no [kCd (bitL 7 111), KI.block 0, kCd (bitL 5 31)] [(1, SV.one (SC.v (Value.func (Fn.func 120) #[] #[]))), (4, vR 0 0), (5, vR 1 0), (6, vS A_hrest (b.length - 1) (c - 1)), (18, vB (b.headD 0 == 3))] [LB.mk [cI 0, cI 0, cF 0, cS none 0 0] 49, LB.mk [cI (b.headD 0), cI 0, cF 0, cS none 0 0] 49] ?_
 try simp only [flx, nf_1, nf_2]
 refine spl 18 (b.headD 0 == 3) ?_ ?_
 ·intro hb2
  replace hb2 := beq_iff_eq.1 hb2
  (exfalso; omega)
 ·intro hb2
  replace hb2 := beq_eq_false_iff_ne.1 hb2
  refine gn 2 Rg.no [kCd (bitL 9 495), KI.block 0, kCd (bitL 5 31)] [(1, SV.one (SC.v (Value.func (Fn.func 120) #[] #[]))), (4, vR 0 0), (5, vR 1 0), (6, vS A_hrest (b.length - 1) (c - 1)), (25, vB ((↑(b.length - 1) : Int) != 8))] [LB.mk [cI 0, cI 0, cF 0, cS none 0 0] 49, LB.mk [cI (b.headD 0), cI 0, cF 0, cS none 0 0] 49] ?_
  refine spl 25 ((↑(b.length - 1) : Int) != 8) ?_ ?_
  ·intro hb3
   replace hb3 := bne_iff_ne.1 hb3
   (exfalso; omega)
  ·intro hb3
   replace hb3 := bne_eq_false_iff_eq.1 hb3
   refine gn 2 Rg.no [kCd (bitL 11 2031), KI.block 0, kCd (bitL 5 31)] [(1, SV.one (SC.v (Value.func (Fn.func 120) #[] #[]))), (4, vR 0 0), (5, vR 1 0), (6, vS A_hrest (b.length - 1) (c - 1)), (30, vB (b.headD 0 == 1))] [LB.mk [cI 0, cI 0, cF 0, cS none 0 0] 49, LB.mk [cI (b.headD 0), cI 0, cF 0, cS none 0 0] 49] ?_
   refine spl 30 (b.headD 0 == 1) ?_ ?_
   ·intro hb4
    replace hb4 := beq_iff_eq.1 hb4
    (exfalso; omega)
   ·intro hb4
    replace hb4 := beq_eq_false_iff_ne.1 hb4
    refine gn 2 Rg.no [kCd (bitL 13 8175), KI.block 0, kCd (bitL 5 31)] [(1, SV.one (SC.v (Value.func (Fn.func 120) #[] #[]))), (4, vR 0 0), (5, vR 1 0), (6, vS A_hrest (b.length - 1) (c - 1)), (39, vB (b.headD 0 == 2))] [LB.mk [cI 0, cI 0, cF 0, cS none 0 0] 49, LB.mk [cI (b.headD 0), cI 0, cF 0, cS none 0 0] 49] ?_
    refine spl 39 (b.headD 0 == 2) ?_ ?_
    ·intro hb5
     replace hb5 := beq_iff_eq.1 hb5
     (exfalso; omega)
    ·intro hb5
     replace hb5 := beq_eq_false_iff_ne.1 hb5
     refine gn 1 Rg.no [kCd (bitL 6 63)] [(4, vR 0 0)] [LB.mk [cI (b.headD 0), cI 0, cF 0, cS none 0 0] 49] ?_
     refine rtk [SV.agg [cI (b.headD 0), cI 0, cF 0, cS none 0 0]] ?_
     intro L w1 hs
     exact ⟨_, none, 0, rfl, hs.out1 rowA_nil, by omega, rfl⟩
end Go.Proofs.YtgleoebogikooaaGreat.Dk
