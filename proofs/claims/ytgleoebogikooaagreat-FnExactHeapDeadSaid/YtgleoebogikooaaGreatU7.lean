/- Walks of functions of the program: what each call returns and what it leaves in memory. Conditions: those that each theorem names. -/
import Derived.Test.YtgleoebogikooaaGreatU6
namespace Go.Proofs.YtgleoebogikooaaGreat.Dk
set_option linter.unusedVariables false
set_option linter.unusedSimpArgs false
open Go.Proofs.YtgleoebogikooaaGreat.Sx Go.Proofs Go.RowKit
set_option maxRecDepth 100000
set_option maxHeartbeats 1000000
theorem eqB_ok (xs : List Int) (vxs : Value) (ys : List Int) (vys : Value) (w : World) (hxs : rdRow kU8 w.heap xs vxs) (hys : rdRow kU8 w.heap ys vys) (bx : byOk xs) (by_ : byOk ys) :
  Calls Tryz.prog 109 #[vxs, vys] w fun e w' => e = .returned (.bool (decide (xs = ys))) ∧ Below w.heap.size w w' := by
 obtain ⟨Axs, cxs, rfl⟩ := rdRow_form hxs
 obtain ⟨Ays, cys, rfl⟩ := rdRow_form hys
 refine enter (args := [.one (.v (.slice Axs xs.length cxs)), .one (.v (.slice Ays ys.length cys))]) Tryz.func109 (c := bodyOf Tryz.f109) rfl rfl (start_LOK _) (start_old w) ?_
 rcases Axs with _ | a1
 ·cases Ays with
  | none =>
   refine gn 0 (Rg.sq [true, false] 1) [KI.code [true, true]] [(1, vS none ys.length cys), (5, vS none xs.length cxs)] [] ?_
   refine bstr_atB true (xs) (by kernel_rfl : atB _ _ _ true = some (Op.convert 44 9 (tmpO 5), 9, some 6, Rg.sq [true, false] 2)) (by kernel_rfl) rfl (fun L w1 hs => rdRow_ext (hs.old 0 rfl) hxs) ?_
   refine gn 0 (Rg.sq [true, false] 3) [KI.code [true, true]] [(6, SV.one (SC.v (Value.string (strOf xs)))), (7, vS none ys.length cys)] [] ?_
   refine bstr_atB true (ys) (by kernel_rfl : atB _ _ _ true = some (Op.convert 44 9 (tmpO 7), 9, some 8, Rg.sq [true, false] 4)) (by kernel_rfl) rfl (fun L w1 hs => rdRow_ext (hs.old 0 rfl) hys) ?_
   refine gn 0 (Rg.sq [true, false] 4) [KI.code [true, true]] [(6, SV.one (SC.v (Value.string (strOf xs)))), (8, SV.one (SC.v (Value.string (strOf ys))))] [] ?_
   refine seq_at 4 (by kernel_rfl : atP _ _ _ 4 false = some (Op.binOp BinOp.eql 9 (tmpO 6) (tmpO 8) 9, 4, some 9, Rg.sq [true, false] 5)) rfl rfl bx by_ ?_
   refine gn 0 Rg.no [KI.code [true, true]] [(4, vB (decide (xs = ys)))] [] ?_
   refine rtk [vB (decide (xs = ys))] ?_
   intro L w1 hs
   exact ⟨rfl, hs.out0⟩
  | some a2 =>
   refine gn 0 (Rg.sq [true, false] 1) [KI.code [true, true]] [(1, vS (some a2) ys.length cys), (5, vS none xs.length cxs)] [] ?_
   refine bstr_atB true (xs) (by kernel_rfl : atB _ _ _ true = some (Op.convert 44 9 (tmpO 5), 9, some 6, Rg.sq [true, false] 2)) (by kernel_rfl) rfl (fun L w1 hs => rdRow_ext (hs.old 0 rfl) hxs) ?_
   refine gn 0 (Rg.sq [true, false] 3) [KI.code [true, true]] [(6, SV.one (SC.v (Value.string (strOf xs)))), (7, vS (some a2) ys.length cys)] [] ?_
   refine bstr_atB true (ys) (by kernel_rfl : atB _ _ _ true = some (Op.convert 44 9 (tmpO 7), 9, some 8, Rg.sq [true, false] 4)) (by kernel_rfl) rfl (fun L w1 hs => rdRow_ext (hs.old 0 rfl) hys) ?_
   refine gn 0 (Rg.sq [true, false] 4) [KI.code [true, true]] [(6, SV.one (SC.v (Value.string (strOf xs)))), (8, SV.one (SC.v (Value.string (strOf ys))))] [] ?_
   refine seq_at 4 (by kernel_rfl : atP _ _ _ 4 false = some (Op.binOp BinOp.eql 9 (tmpO 6) (tmpO 8) 9, 4, some 9, Rg.sq [true, false] 5)) rfl rfl bx by_ ?_
   refine gn 0 Rg.no [KI.code [true, true]] [(4, vB (decide (xs = ys)))] [] ?_
   refine rtk [vB (decide (xs = ys))] ?_
   intro L w1 hs
   exact ⟨rfl, hs.out0⟩
 ·cases Ays with
  | none =>
   refine gn 0 (Rg.sq [true, false] 1) [KI.code [true, true]] [(1, vS none ys.length cys), (5, vS (some a1) xs.length cxs)] [] ?_
   refine bstr_atB true (xs) (by kernel_rfl : atB _ _ _ true = some (Op.convert 44 9 (tmpO 5), 9, some 6, Rg.sq [true, false] 2)) (by kernel_rfl) rfl (fun L w1 hs => rdRow_ext (hs.old 0 rfl) hxs) ?_
   refine gn 0 (Rg.sq [true, false] 3) [KI.code [true, true]] [(6, SV.one (SC.v (Value.string (strOf xs)))), (7, vS none ys.length cys)] [] ?_
   refine bstr_atB true (ys) (by kernel_rfl : atB _ _ _ true = some (Op.convert 44 9 (tmpO 7), 9, some 8, Rg.sq [true, false] 4)) (by kernel_rfl) rfl (fun L w1 hs => rdRow_ext (hs.old 0 rfl) hys) ?_
   refine gn 0 (Rg.sq [true, false] 4) [KI.code [true, true]] [(6, SV.one (SC.v (Value.string (strOf xs)))), (8, SV.one (SC.v (Value.string (strOf ys))))] [] ?_
   refine seq_at 4 (by kernel_rfl : atP _ _ _ 4 false = some (Op.binOp BinOp.eql 9 (tmpO 6) (tmpO 8) 9, 4, some 9, Rg.sq [true, false] 5)) rfl rfl bx by_ ?_
   refine gn 0 Rg.no [KI.code [true, true]] [(4, vB (decide (xs = ys)))] [] ?_
   refine rtk [vB (decide (xs = ys))] ?_
   intro L w1 hs
   exact ⟨rfl, hs.out0⟩
  | some a2 =>
   refine gn 0 (Rg.sq [true, false] 1) [KI.code [true, true]] [(1, vS (some a2) ys.length cys), (5, vS (some a1) xs.length cxs)] [] ?_
   refine bstr_atB true (xs) (by kernel_rfl : atB _ _ _ true = some (Op.convert 44 9 (tmpO 5), 9, some 6, Rg.sq [true, false] 2)) (by kernel_rfl) rfl (fun L w1 hs => rdRow_ext (hs.old 0 rfl) hxs) ?_
   refine gn 0 (Rg.sq [true, false] 3) [KI.code [true, true]] [(6, SV.one (SC.v (Value.string (strOf xs)))), (7, vS (some a2) ys.length cys)] [] ?_
   refine bstr_atB true (ys) (by kernel_rfl : atB _ _ _ true = some (Op.convert 44 9 (tmpO 7), 9, some 8, Rg.sq [true, false] 4)) (by kernel_rfl) rfl (fun L w1 hs => rdRow_ext (hs.old 0 rfl) hys) ?_
   refine gn 0 (Rg.sq [true, false] 4) [KI.code [true, true]] [(6, SV.one (SC.v (Value.string (strOf xs)))), (8, SV.one (SC.v (Value.string (strOf ys))))] [] ?_
   refine seq_at 4 (by kernel_rfl : atP _ _ _ 4 false = some (Op.binOp BinOp.eql 9 (tmpO 6) (tmpO 8) 9, 4, some 9, Rg.sq [true, false] 5)) rfl rfl bx by_ ?_
   refine gn 0 Rg.no [KI.code [true, true]] [(4, vB (decide (xs = ys)))] [] ?_
   refine rtk [vB (decide (xs = ys))] ?_
   intro L w1 hs
   exact ⟨rfl, hs.out0⟩
def zIt0 : It := ⟨0, 0, 0, []⟩
def keyR (b : List Int) : Option It := if keyOk (readI gKey b) = true ∧ keyB (readI gKey b) = b then some (readI gKey b) else none
def valR (b : List Int) : Option It := if valOk (readI gVal b) = true ∧ valB (readI gVal b) = b then some (readI gVal b) else none
theorem readI_by {g : Int → Nat} {b : List Int} (h : byOk b) : byOk (readI g b).t := by
 unfold readI
 (repeat' split) <;> first | exact byOk_drop h 1 | exact fun x hx => by simp at hx
theorem readI_n {g : Int → Nat} {b : List Int} (h : byOk b) : okN (readI g b) := by
 have hb := be_bnd (byOk_drop h 1)
 unfold readI okN sgn
 (repeat' split) <;> simp only <;> omega
theorem readI_len {g : Int → Nat} {b : List Int} : (readI g b).t.length ≤ b.length := by
 unfold readI
 (repeat' split) <;> simp
theorem keyR_yes {b : List Int} (h1 : keyOk (readI gKey b) = true) (h2 : keyB (readI gKey b) = b) : keyR b = some (readI gKey b) := if_pos ⟨h1, h2⟩
theorem keyR_no {b : List Int} (h : ¬ (keyOk (readI gKey b) = true ∧ keyB (readI gKey b) = b)) : keyR b = none := if_neg h
theorem valR_yes {b : List Int} (h1 : valOk (readI gVal b) = true) (h2 : valB (readI gVal b) = b) : valR b = some (readI gVal b) := if_pos ⟨h1, h2⟩
theorem valR_no {b : List Int} (h : ¬ (valOk (readI gVal b) = true ∧ valB (readI gVal b) = b)) : valR b = none := if_neg h
theorem valOk_of {a : It} (h1 : itemOk a = true) (h2 : ¬ a.kind = 0) : valOk a = true := by
 unfold valOk
 rw [h1, decide_eq_false h2]
 rfl
theorem iKeyRead_ok (b : List Int) (vb : Value) (w : World) (hb : rdRow kU8 w.heap b vb) (hby : byOk b) (hl : b.length ≤ 1048576) :
  Calls Tryz.prog 106 #[vb] w fun e w' => ∃ (bof : Nat) (Aot : Option Addr) (cot : Nat), e = .returned (.tuple #[.agg #[.int .i64 ((keyR b).getD zIt0).kind, .int .i64 ((keyR b).getD zIt0).n, .float .f64 bof, .slice Aot ((keyR b).getD zIt0).t.length cot], .bool (keyR b).isSome]) ∧ Fresh w w' [rowA 5 kU8 ((keyR b).getD zIt0).t (.slice Aot ((keyR b).getD zIt0).t.length cot)] ∧ bof < 18446744073709551616 ∧ canonF bof = ((keyR b).getD zIt0).f := by
 obtain ⟨Ab, cb, rfl⟩ := rdRow_form hb
 refine enter (args := [.one (.v (.slice Ab b.length cb))]) Tryz.func106 (c := bodyOf Tryz.f106) rfl rfl (start_LOK _) (start_old w) ?_
 have q1 := readI_by (g := gKey) hby
 have q2 := readI_n (g := gKey) hby
 have q3 := readI_len (g := gKey) (b := b)
 have q4 : (readI gKey b).t.length ≤ 1048576 := by omega
 have q5 := keyB_by q1
 refine gn 1 (Rg.sq [true, false] 1) [KI.code [true, true]] [(0, vS Ab b.length cb), (2, vR 0 0), (5, vS Ab b.length cb)] [LB.mk [cI 0, cI 0, cF 0, cS none 0 0] 49] ?_
 refine cak 116 [vS Ab b.length cb, SV.one (SC.v (Value.func (Fn.func 117) #[] #[]))] (some 6) (Rg.sq [true, false] 2) (fun L w1 hs => (readK_ok (b) (Value.slice Ab b.length cb) w1 (rdRow_ext (hs.old 0 rfl) hb) ‹_› ‹_›).mono ?_)
 rintro e_ w2_ ⟨bof_1, Aot_1, cot_1, rfl, hf_, hq1, hq2⟩
 refine ⟨.agg [.v (Value.int IntKind.i64 (readI gKey b).kind), .v (Value.int IntKind.i64 (readI gKey b).n), .v (Value.float FloatKind.f64 bof_1), .v (Value.slice Aot_1 (readI gKey b).t.length cot_1)], _, _, rfl, fun _ => hf_.1.block, hs.fresh hf_, ?_⟩
 clear hs hf_
 refine gn 2 (Rg.sq (bitL 4 3) 1) [kCd (bitL 4 11), kCd (bitL 3 7)] [(0, vS Ab b.length cb), (2, vR 0 0), (4, vR 1 0), (7, SV.agg [cI (readI gKey b).kind, cI (readI gKey b).n, cF bof_1, cS Aot_1 (readI gKey b).t.length cot_1])] [LB.mk [cI 0, cI 0, cF 0, cS none 0 0] 49, LB.mk [cI (readI gKey b).kind, cI (readI gKey b).n, cF bof_1, cS Aot_1 (readI gKey b).t.length cot_1] 49] ?_
 refine cpk 44 [SV.agg [cI (readI gKey b).kind, cI (readI gKey b).n, cF bof_1, cS Aot_1 (readI gKey b).t.length cot_1]] (some 8) (Rg.sq (bitL 4 3) 2) (.one (.bo (keyOk (readI gKey b)))) (fun L w1 hs => (iKeyOk_ok (readI gKey b) ([Value.int IntKind.i64 (readI gKey b).kind, Value.int IntKind.i64 (readI gKey b).n, Value.float FloatKind.f64 bof_1, Value.slice Aot_1 (readI gKey b).t.length cot_1]) w1 (kIt_mk ‹_› hq2 (hs.rd 0 rfl)))) ?_
 refine gn 2 (Rg.sq (bitL 4 3) 4) [kCd (bitL 4 11), kCd (bitL 3 7)] [(0, vS Ab b.length cb), (2, vR 0 0), (4, vR 1 0), (10, vB !keyOk (readI gKey b))] [LB.mk [cI 0, cI 0, cF 0, cS none 0 0] 49, LB.mk [cI (readI gKey b).kind, cI (readI gKey b).n, cF bof_1, cS Aot_1 (readI gKey b).t.length cot_1] 49] ?_
 refine spl 10 (!keyOk (readI gKey b)) ?_ ?_
 ·intro hb1
  try simp only [sbb] at hb1
  refine gn 1 Rg.no [kCd (bitL 6 43), kCd (bitL 3 7)] [(2, vR 0 0), (3, vL false)] [LB.mk [cI 0, cI 0, cF 0, cS none 0 0] 49] ?_
  refine rtk [SV.agg [cI 0, cI 0, cF 0, cS none 0 0], vL false] ?_
  intro L w1 hs
  exact ⟨0, none, 0, by rw [keyR_no (fun h => by have := h.1; simp_all)]; rfl, by rw [keyR_no (fun h => by have := h.1; simp_all)]; exact (hs.erases [0]).out1 rowA_nil, by decide, by rw [keyR_no (fun h => by have := h.1; simp_all)]; rfl⟩
 ·intro hb1
  try simp only [sbb] at hb1
  refine gn 2 (Rg.sq (bitL 4 3) 5) [kCd (bitL 4 11), kCd (bitL 3 7)] [(0, vS Ab b.length cb), (2, vR 0 0), (4, vR 1 0), (10, vL false), (11, SV.agg [cI (readI gKey b).kind, cI (readI gKey b).n, cF bof_1, cS Aot_1 (readI gKey b).t.length cot_1])] [LB.mk [cI 0, cI 0, cF 0, cS none 0 0] 49, LB.mk [cI (readI gKey b).kind, cI (readI gKey b).n, cF bof_1, cS Aot_1 (readI gKey b).t.length cot_1] 49] ?_
  refine cak 119 [SV.agg [cI (readI gKey b).kind, cI (readI gKey b).n, cF bof_1, cS Aot_1 (readI gKey b).t.length cot_1]] (some 12) (Rg.sq (bitL 4 3) 6) (fun L w1 hs => (iKeyB_ok (readI gKey b) ([Value.int IntKind.i64 (readI gKey b).kind, Value.int IntKind.i64 (readI gKey b).n, Value.float FloatKind.f64 bof_1, Value.slice Aot_1 (readI gKey b).t.length cot_1]) w1 (kIt_mk ‹_› hq2 (hs.rd 0 rfl)) ‹_› ‹_›).mono ?_)
  rintro e_ w2_ ⟨B_1, d_1, rfl, hf_⟩
  refine ⟨.one (.v (Value.slice B_1 (keyB (readI gKey b)).length d_1)), _, _, rfl, fun _ => hf_.1.block, hs.fresh hf_, ?_⟩
  clear hs hf_
  refine gn 2 (Rg.sq (bitL 4 3) 7) [kCd (bitL 4 11), kCd (bitL 3 7)] [(2, vR 0 0), (4, vR 1 0), (10, vL false), (12, vS B_1 (keyB (readI gKey b)).length d_1), (13, vS Ab b.length cb)] [LB.mk [cI 0, cI 0, cF 0, cS none 0 0] 49, LB.mk [cI (readI gKey b).kind, cI (readI gKey b).n, cF bof_1, cS Aot_1 (readI gKey b).t.length cot_1] 49] ?_
  refine cpk 109 [vS B_1 (keyB (readI gKey b)).length d_1, vS Ab b.length cb] (some 14) (Rg.sq (bitL 4 3) 8) (.one (.bo (decide (keyB (readI gKey b) = b)))) (fun L w1 hs => (eqB_ok (keyB (readI gKey b)) (Value.slice B_1 (keyB (readI gKey b)).length d_1) (b) (Value.slice Ab b.length cb) w1 (hs.rd 0 rfl) (rdRow_ext (hs.old 2 rfl) hb) ‹_› ‹_›)) ?_
  refine gn 2 Rg.no [kCd (bitL 4 11), kCd (bitL 3 7)] [(2, vR 0 0), (4, vR 1 0), (16, vB !decide (keyB (readI gKey b) = b))] [LB.mk [cI 0, cI 0, cF 0, cS none 0 0] 49, LB.mk [cI (readI gKey b).kind, cI (readI gKey b).n, cF bof_1, cS Aot_1 (readI gKey b).t.length cot_1] 49] ?_
  refine spl 16 (!decide (keyB (readI gKey b) = b)) ?_ ?_
  ·intro hb2
   try simp only [sbb] at hb2
   refine gn 1 Rg.no [kCd (bitL 6 43), kCd (bitL 3 7)] [(2, vR 0 0), (3, vL false)] [LB.mk [cI 0, cI 0, cF 0, cS none 0 0] 49] ?_
   refine rtk [SV.agg [cI 0, cI 0, cF 0, cS none 0 0], vL false] ?_
   intro L w1 hs
   exact ⟨0, none, 0, by rw [keyR_no (fun h => absurd h.2 ‹_›)]; rfl, by rw [keyR_no (fun h => absurd h.2 ‹_›)]; exact (hs.erases [0, 0]).out1 rowA_nil, by decide, by rw [keyR_no (fun h => absurd h.2 ‹_›)]; rfl⟩
  ·intro hb2
   try simp only [sbb] at hb2
   refine gn 1 Rg.no [kCd (bitL 4 15)] [(2, vR 0 0), (3, vL true)] [LB.mk [cI (readI gKey b).kind, cI (readI gKey b).n, cF bof_1, cS Aot_1 (readI gKey b).t.length cot_1] 49] ?_
   refine rtk [SV.agg [cI (readI gKey b).kind, cI (readI gKey b).n, cF bof_1, cS Aot_1 (readI gKey b).t.length cot_1], vL true] ?_
   intro L w1 hs
   exact ⟨_, _, _, by rw [keyR_yes ‹_› ‹_›]; rfl, by rw [keyR_yes ‹_› ‹_›]; exact (hs.erases [0]).out (As := [_]), by assumption, by rw [keyR_yes ‹_› ‹_›]; assumption⟩
theorem iValRead_ok (b : List Int) (vb : Value) (w : World) (hb : rdRow kU8 w.heap b vb) (hby : byOk b) (hl : b.length ≤ 1048576) :
  Calls Tryz.prog 107 #[vb] w fun e w' => ∃ (bof : Nat) (Aot : Option Addr) (cot : Nat), e = .returned (.tuple #[.agg #[.int .i64 ((valR b).getD zIt0).kind, .int .i64 ((valR b).getD zIt0).n, .float .f64 bof, .slice Aot ((valR b).getD zIt0).t.length cot], .bool (valR b).isSome]) ∧ Fresh w w' [rowA 5 kU8 ((valR b).getD zIt0).t (.slice Aot ((valR b).getD zIt0).t.length cot)] ∧ bof < 18446744073709551616 ∧ canonF bof = ((valR b).getD zIt0).f := by
 obtain ⟨Ab, cb, rfl⟩ := rdRow_form hb
 refine enter (args := [.one (.v (.slice Ab b.length cb))]) Tryz.func107 (c := bodyOf Tryz.f107) rfl rfl (start_LOK _) (start_old w) ?_
 have q1 := readI_by (g := gVal) hby
 have q2 := readI_n (g := gVal) hby
 have q3 := readI_len (g := gVal) (b := b)
 have q4 : (readI gVal b).t.length ≤ 1048576 := by omega
 have q5 := valB_by q1
 refine gn 1 (Rg.sq [true, false] 1) [KI.code [true, true]] [(0, vS Ab b.length cb), (2, vR 0 0), (5, vS Ab b.length cb)] [LB.mk [cI 0, cI 0, cF 0, cS none 0 0] 49] ?_
 refine cak 116 [vS Ab b.length cb, SV.one (SC.v (Value.func (Fn.func 120) #[] #[]))] (some 6) (Rg.sq [true, false] 2) (fun L w1 hs => (readV_ok (b) (Value.slice Ab b.length cb) w1 (rdRow_ext (hs.old 0 rfl) hb) ‹_› ‹_›).mono ?_)
 rintro e_ w2_ ⟨bof_1, Aot_1, cot_1, rfl, hf_, hq1, hq2⟩
 refine ⟨.agg [.v (Value.int IntKind.i64 (readI gVal b).kind), .v (Value.int IntKind.i64 (readI gVal b).n), .v (Value.float FloatKind.f64 bof_1), .v (Value.slice Aot_1 (readI gVal b).t.length cot_1)], _, _, rfl, fun _ => hf_.1.block, hs.fresh hf_, ?_⟩
 clear hs hf_
 refine gn 2 (Rg.sq (bitL 4 3) 1) [kCd (bitL 4 11), kCd (bitL 3 7)] [(0, vS Ab b.length cb), (2, vR 0 0), (4, vR 1 0), (7, SV.agg [cI (readI gVal b).kind, cI (readI gVal b).n, cF bof_1, cS Aot_1 (readI gVal b).t.length cot_1])] [LB.mk [cI 0, cI 0, cF 0, cS none 0 0] 49, LB.mk [cI (readI gVal b).kind, cI (readI gVal b).n, cF bof_1, cS Aot_1 (readI gVal b).t.length cot_1] 49] ?_
 refine cpk 69 [SV.agg [cI (readI gVal b).kind, cI (readI gVal b).n, cF bof_1, cS Aot_1 (readI gVal b).t.length cot_1]] (some 8) (Rg.sq (bitL 4 3) 2) (.one (.bo (itemOk (readI gVal b)))) (fun L w1 hs => (iItemOk_ok (readI gVal b) ([Value.int IntKind.i64 (readI gVal b).kind, Value.int IntKind.i64 (readI gVal b).n, Value.float FloatKind.f64 bof_1, Value.slice Aot_1 (readI gVal b).t.length cot_1]) w1 (kIt_mk ‹_› hq2 (hs.rd 0 rfl)))) ?_
 refine gn 2 (Rg.sq (bitL 4 3) 4) [kCd (bitL 4 11), kCd (bitL 3 7)] [(0, vS Ab b.length cb), (2, vR 0 0), (4, vR 1 0), (10, vB !itemOk (readI gVal b))] [LB.mk [cI 0, cI 0, cF 0, cS none 0 0] 49, LB.mk [cI (readI gVal b).kind, cI (readI gVal b).n, cF bof_1, cS Aot_1 (readI gVal b).t.length cot_1] 49] ?_
 refine spl 10 (!itemOk (readI gVal b)) ?_ ?_
 ·intro hb1
  try simp only [sbb] at hb1
  refine gn 1 Rg.no [kCd (bitL 6 43), kCd (bitL 3 7)] [(2, vR 0 0), (3, vL false)] [LB.mk [cI 0, cI 0, cF 0, cS none 0 0] 49] ?_
  refine rtk [SV.agg [cI 0, cI 0, cF 0, cS none 0 0], vL false] ?_
  intro L w1 hs
  exact ⟨0, none, 0, by rw [valR_no (fun h => by have := valOk_ok h.1; simp_all)]; rfl, by rw [valR_no (fun h => by have := valOk_ok h.1; simp_all)]; exact (hs.erases [0]).out1 rowA_nil, by decide, by rw [valR_no (fun h => by have := valOk_ok h.1; simp_all)]; rfl⟩
 ·intro hb1
  try simp only [sbb] at hb1
  refine gn 2 (Rg.sq (bitL 4 3) 9) [kCd (bitL 4 11), kCd (bitL 3 7)] [(0, vS Ab b.length cb), (2, vR 0 0), (4, vR 1 0), (15, vB ((readI gVal b).kind == 0))] [LB.mk [cI 0, cI 0, cF 0, cS none 0 0] 49, LB.mk [cI (readI gVal b).kind, cI (readI gVal b).n, cF bof_1, cS Aot_1 (readI gVal b).t.length cot_1] 49] ?_
  refine spl 15 ((readI gVal b).kind == 0) ?_ ?_
  ·intro hb2
   replace hb2 := beq_iff_eq.1 hb2
   refine gn 1 Rg.no [kCd (bitL 6 43), kCd (bitL 3 7)] [(2, vR 0 0), (3, vL false)] [LB.mk [cI 0, cI 0, cF 0, cS none 0 0] 49] ?_
   refine rtk [SV.agg [cI 0, cI 0, cF 0, cS none 0 0], vL false] ?_
   intro L w1 hs
   exact ⟨0, none, 0, by rw [valR_no (fun h => by have h9 := h.1; unfold valOk at h9; simp_all)]; rfl, by rw [valR_no (fun h => by have h9 := h.1; unfold valOk at h9; simp_all)]; exact (hs.erases [0]).out1 rowA_nil, by decide, by rw [valR_no (fun h => by have h9 := h.1; unfold valOk at h9; simp_all)]; rfl⟩
  ·intro hb2
   replace hb2 := beq_eq_false_iff_ne.1 hb2
   refine gn 2 (Rg.sq (bitL 4 3) 10) [kCd (bitL 4 11), kCd (bitL 3 7)] [(0, vS Ab b.length cb), (2, vR 0 0), (4, vR 1 0), (15, vL false), (16, SV.agg [cI (readI gVal b).kind, cI (readI gVal b).n, cF bof_1, cS Aot_1 (readI gVal b).t.length cot_1])] [LB.mk [cI 0, cI 0, cF 0, cS none 0 0] 49, LB.mk [cI (readI gVal b).kind, cI (readI gVal b).n, cF bof_1, cS Aot_1 (readI gVal b).t.length cot_1] 49] ?_
   refine cak 121 [SV.agg [cI (readI gVal b).kind, cI (readI gVal b).n, cF bof_1, cS Aot_1 (readI gVal b).t.length cot_1]] (some 17) (Rg.sq (bitL 4 3) 11) (fun L w1 hs => (iValB_ok (readI gVal b) ([Value.int IntKind.i64 (readI gVal b).kind, Value.int IntKind.i64 (readI gVal b).n, Value.float FloatKind.f64 bof_1, Value.slice Aot_1 (readI gVal b).t.length cot_1]) w1 (kIt_mk ‹_› hq2 (hs.rd 0 rfl)) ‹_› ‹_›).mono ?_)
   rintro e_ w2_ ⟨B_1, d_1, rfl, hf_⟩
   refine ⟨.one (.v (Value.slice B_1 (valB (readI gVal b)).length d_1)), _, _, rfl, fun _ => hf_.1.block, hs.fresh hf_, ?_⟩
   clear hs hf_
   refine gn 2 (Rg.sq (bitL 4 3) 12) [kCd (bitL 4 11), kCd (bitL 3 7)] [(2, vR 0 0), (4, vR 1 0), (15, vL false), (17, vS B_1 (valB (readI gVal b)).length d_1), (18, vS Ab b.length cb)] [LB.mk [cI 0, cI 0, cF 0, cS none 0 0] 49, LB.mk [cI (readI gVal b).kind, cI (readI gVal b).n, cF bof_1, cS Aot_1 (readI gVal b).t.length cot_1] 49] ?_
   refine cpk 109 [vS B_1 (valB (readI gVal b)).length d_1, vS Ab b.length cb] (some 19) (Rg.sq (bitL 4 3) 13) (.one (.bo (decide (valB (readI gVal b) = b)))) (fun L w1 hs => (eqB_ok (valB (readI gVal b)) (Value.slice B_1 (valB (readI gVal b)).length d_1) (b) (Value.slice Ab b.length cb) w1 (hs.rd 0 rfl) (rdRow_ext (hs.old 2 rfl) hb) ‹_› ‹_›)) ?_
   refine gn 2 Rg.no [kCd (bitL 4 11), kCd (bitL 3 7)] [(2, vR 0 0), (4, vR 1 0), (21, vB !decide (valB (readI gVal b) = b))] [LB.mk [cI 0, cI 0, cF 0, cS none 0 0] 49, LB.mk [cI (readI gVal b).kind, cI (readI gVal b).n, cF bof_1, cS Aot_1 (readI gVal b).t.length cot_1] 49] ?_
   refine spl 21 (!decide (valB (readI gVal b) = b)) ?_ ?_
   ·intro hb3
    try simp only [sbb] at hb3
    refine gn 1 Rg.no [kCd (bitL 6 43), kCd (bitL 3 7)] [(2, vR 0 0), (3, vL false)] [LB.mk [cI 0, cI 0, cF 0, cS none 0 0] 49] ?_
    refine rtk [SV.agg [cI 0, cI 0, cF 0, cS none 0 0], vL false] ?_
    intro L w1 hs
    exact ⟨0, none, 0, by rw [valR_no (fun h => absurd h.2 ‹_›)]; rfl, by rw [valR_no (fun h => absurd h.2 ‹_›)]; exact (hs.erases [0, 0]).out1 rowA_nil, by decide, by rw [valR_no (fun h => absurd h.2 ‹_›)]; rfl⟩
   ·intro hb3
    try simp only [sbb] at hb3
    refine gn 1 Rg.no [kCd (bitL 4 15)] [(2, vR 0 0), (3, vL true)] [LB.mk [cI (readI gVal b).kind, cI (readI gVal b).n, cF bof_1, cS Aot_1 (readI gVal b).t.length cot_1] 49] ?_
    refine rtk [SV.agg [cI (readI gVal b).kind, cI (readI gVal b).n, cF bof_1, cS Aot_1 (readI gVal b).t.length cot_1], vL true] ?_
    intro L w1 hs
    exact ⟨_, _, _, by rw [valR_yes (valOk_of ‹_› ‹_›) ‹_›]; rfl, by rw [valR_yes (valOk_of ‹_› ‹_›) ‹_›]; exact (hs.erases [0]).out (As := [_]), by assumption, by rw [valR_yes (valOk_of ‹_› ‹_›) ‹_›]; assumption⟩
end Go.Proofs.YtgleoebogikooaaGreat.Dk
