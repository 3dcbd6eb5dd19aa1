/- Walks of functions of the program: what each call returns and what it leaves in memory. Conditions: those that each theorem names. -/
import Derived.Test.YtgleoebogikooaaGreatTc
namespace Go.Proofs.YtgleoebogikooaaGreat.Dk
set_option linter.unusedVariables false
set_option linter.unusedSimpArgs false
open Go.Proofs.YtgleoebogikooaaGreat.Sx Go.Proofs Go.RowKit
set_option maxRecDepth 100000
set_option maxHeartbeats 1000000
theorem markIntS_ok (ys : List Int) (A : Option Addr) (c : Nat) (k : Int) (w : World) (S : Nat → Prop) (h : sepL [rowA 3 kI64 ys (.slice A ys.length c)] w.heap S) (hS : ∀ b, S b → b < w.heap.size) (hl : ys.length ≤ 1048576) (hk : 0 ≤ k ∧ k ≤ 1099511627776) :
  Calls Tryz.prog 19 #[.slice A ys.length c, .int .i64 k] w fun e w' => e = .returned (.int .i64 (k + ys.length)) ∧ Mut w w' S [rowA 3 kI64 (mkN ys.length k) (.slice A ys.length c)] := by
 have hown := rowA_holds.1 (sepL_one h)
 refine enter (args := [.one (.v (.slice A ys.length c)), .one (.v (.int .i64 k))]) Tryz.func19 (c := bodyOf Tryz.f19) rfl rfl (start_LOK _) (start_mut h hS) ?_
 refine gn 0 Rg.no [kLp (bitL 5 29), KI.block 0, KI.code [true, true]] [(0, vS A ys.length c), (1, vI k), (5, vI 0)] [] ?_
 refine loop_at (ι := Nat) (fun i => [(1, .one (.v (.int .i64 (k + (i : Int))))), (5, .one (.v (.int .i64 i)))]) (fun _ => []) (fun i => [rowA 3 kI64 (mkN i k ++ ys.drop i) (.slice A ys.length c), oldX w S]) (fun i => i ≤ ys.length) (fun i => ys.length - i) 0 (by simp [updTm, lk]; exact ⟨rfl, rfl⟩) rfl (by simp [mkN]) (Nat.zero_le _) ?_
 intro i hi ih
 refine gn 0 Rg.no [kCd (bitL 7 93), kCd (bitL 6 61), kLp (bitL 5 29), KI.block 0, KI.code [true, true]] [(0, vS A ys.length c), (1, vI (k + (↑i : Int))), (5, vI (↑i : Int)), (9, vB (decide ((↑i : Int) < (↑ys.length : Int))))] [] ?_
 refine spl 9 (decide ((↑i : Int) < (↑ys.length : Int))) ?_ ?_
 ·intro h1
  have hlt : i < ys.length := by simpa using h1
  refine gn 0 (Rg.sq (bitL 9 189) 3) [kCd (bitL 9 445), KI.block 1, kCd (bitL 7 125), kLp (bitL 5 29), KI.block 0, KI.code [true, true]] [(0, vS A ys.length c), (1, vI (k + (↑i : Int))), (5, vI (↑i : Int)), (12, vS A ys.length c), (13, vI (↑i : Int)), (14, vI (k + (↑i : Int)))] [] ?_
  obtain ⟨g, rfl⟩ := own_g hown (by omega)
  refine index_at 3 (by kernel_rfl : atP _ _ _ 3 false = some (Op.indexAddr 37 (tmpO 12) (tmpO 13), 0, some 15, Rg.sq (bitL 9 189) 4)) (sz := 1) (by kernel_rfl) rfl rfl rfl hlt (fun L w1 hs => ⟨_, rfl⟩) ?_
  intro a2 ha2; cases ha2
  refine gn 0 (Rg.sq (bitL 9 189) 4) [kCd (bitL 9 445), KI.block 1, kCd (bitL 7 125), kLp (bitL 5 29), KI.block 0, KI.code [true, true]] [(0, vS (some (Addr.mk g 0 none)) ys.length c), (1, vI (k + (↑i : Int))), (5, vI (↑i : Int)), (14, vI (k + (↑i : Int))), (15, vP ((Addr.mk g 0 none).add (i * 1)))] [] ?_
  refine store_el (A := []) (d := kI64) (y := k + (i : Int)) (by kernel_rfl : atB _ _ _ false = some (Op.store 3 (tmpO 15) (tmpO 14), 0, none, Rg.sq (bitL 9 189) 5)) (by kernel_rfl) rfl rfl rfl rfl rfl (by simp [mkN]; omega) (fun _ _ _ => rfl) ?_
  refine gn 0 Rg.no [kLp (bitL 5 29), KI.block 0, KI.code [true, true]] [(0, vS (some (Addr.mk g 0 none)) ys.length c), (1, vI (IntKind.i64.wrap (k + (↑i : Int) + 1))), (5, vI (IntKind.i64.wrap ((↑i : Int) + 1)))] [] ?_
  rw [wrap_succ (by omega), mkN_step ys k hlt, show IntKind.i64.wrap (k + (i : Int) + 1) = k + ((i + 1 : Nat) : Int) by rw [IntKind.wrap_i64]; omega]
  exact ih (i + 1) hlt (by omega)
 ·intro h1
  refine gn 0 Rg.no [kCd (bitL 3 7)] [(4, vI (k + (↑i : Int)))] [] ?_
  refine rtk [vI (k + (↑i : Int))] ?_
  intro L w1 hs
  have hi2 : i = ys.length := by
   have : ¬ i < ys.length := by simpa using h1
   omega
  subst hi2
  simp only [List.drop_length, List.append_nil] at hs
  exact ⟨rfl, hs.outm (As := [_])⟩
theorem iHDeadX_ok (h : He) (csh : List Value) (ls : List Int) (vls : Value) (hz : Int) (w : World) (xs : List Rw) (hh : kHe.rd w.heap h csh) (hls : rdRow kI64 w.heap ls vls) (hz0 : zHe h ≤ 1048576) (hb : byHe h) (hl : ls.length ≤ 1048576) (hxs : deadR h ls hz = xs) :
  Calls Tryz.prog 17 #[.agg csh.toArray, vls, .int .i64 hz] w fun e w' => ∃ (B : Option Addr) (d : Nat), e = .returned (.slice B xs.length d) ∧ Fresh w w' [rowA 64 kRw xs (.slice B xs.length d)] := by
 subst hxs
 exact iHDead_ok h csh ls vls hz w hh hls hz0 hb hl
theorem sHDeadX_ok (h : He) (csh : List Value) (ls : List Int) (vls : Value) (hz : Int) (w : World) (xs : List Rw) (hh : kHe.rd w.heap h csh) (hls : rdRow kI64 w.heap ls vls) (hz0 : zHe h ≤ 1048576) (hb : byHe h) (hl : ls.length ≤ 1048576) (hxs : deadR h ls hz = xs) :
  Calls Tryz.prog 15 #[.agg csh.toArray, vls, .int .i64 hz] w fun e w' => ∃ (B : Option Addr) (d : Nat), e = .returned (.slice B xs.length d) ∧ Fresh w w' [rowA 64 kRw xs (.slice B xs.length d)] := by
 subst hxs
 exact sHDead_ok h csh ls vls hz w hh hls hz0 hb hl
theorem lawHeapDead_ok (h : He) (csh : List Value) (ls : List Int) (vls : Value) (hz : Int) (w : World) (hh : kHe.rd w.heap h csh) (hls : rdRow kI64 w.heap ls vls) (hw : wHe h) (hby : ∀ p ∈ h.pages, ∀ s ∈ p.slots, byOk s) :
  Calls Tryz.prog 4 #[.agg csh.toArray, vls, .int .i64 hz] w fun e w' => e = .returned (.bool true) ∧ Below w.heap.size w w' := by
 obtain ⟨Ahpages, chpages, rfl, hrhpages⟩ := kHe_inv hh
 obtain ⟨Als, cls, rfl⟩ := rdRow_form hls
 refine enter (args := [.agg [.v (.slice Ahpages h.pages.length chpages)], .one (.v (.slice Als ls.length cls)), .one (.v (.int .i64 hz))]) Tryz.func4 (c := bodyOf Tryz.f4) rfl rfl (start_LOK _) (start_old w) ?_
 by_cases hl : ¬ ls.length ≤ 1048576
 ·refine gn 1 Rg.no [kCd (bitL 3 5), KI.code [true, true]] [(1, vS Als ls.length cls), (2, vI hz), (3, vR 0 0), (18, vB (decide ((↑ls.length : Int) > 1048576)))] [LB.mk [cS Ahpages h.pages.length chpages] 24] ?_
  refine spl 18 (decide ((↑ls.length : Int) > 1048576)) ?_ ?_
  ·intro hb1
   replace hb1 := of_decide_eq_true hb1
   refine gn 0 Rg.no [kCd (bitL 5 21), KI.code [true, true]] [(6, vL true)] [] ?_
   refine rtk [vL true] ?_
   intro L w1 hs
   exact ⟨rfl, hs.out0⟩
  ·intro hb1
   replace hb1 := of_decide_eq_false hb1
   (exfalso; omega)
 replace hl := Classical.not_not.1 hl
 skip
 refine gn 1 Rg.no [kCd (bitL 3 5), KI.code [true, true]] [(1, vS Als ls.length cls), (2, vI hz), (3, vR 0 0), (18, vB (decide ((↑ls.length : Int) > 1048576)))] [LB.mk [cS Ahpages h.pages.length chpages] 24] ?_
 refine spl 18 (decide ((↑ls.length : Int) > 1048576)) ?_ ?_
 ·intro hb1
  replace hb1 := of_decide_eq_true hb1
  (exfalso; omega)
 intro hb1
 replace hb1 := of_decide_eq_false hb1
 refine gn 1 (Rg.sq (bitL 4 7) 2) [kCd (bitL 4 15)] [(1, vS Als ls.length cls), (2, vI hz), (3, vR 0 0), (19, SV.agg [cS Ahpages h.pages.length chpages]), (20, vI 1048576)] [LB.mk [cS Ahpages h.pages.length chpages] 24] ?_
 refine cak 6 [SV.agg [cS Ahpages h.pages.length chpages], vI 1048576] (some 21) (Rg.sq (bitL 4 7) 3) (fun L w1 hs => (szHeap_ok (h) ([Value.slice Ahpages h.pages.length chpages]) (1048576) w1 (kHe_mk (rdRow_ext (hs.old 0 rfl) hrhpages)) (by omega) (by omega) ‹_›).mono ?_)
 rintro e_ w2_ ⟨r_1, rfl, hf_, hq1⟩
 refine ⟨.one (.v (Value.int IntKind.i64 r_1)), _, _, rfl, fun _ => hf_.block, hs.below hf_, ?_⟩
 clear hs hf_
 refine gn 1 Rg.no [kCd (bitL 6 47), kCd (bitL 5 31)] [(1, vS Als ls.length cls), (2, vI hz), (3, vR 0 0), (23, vB (decide (r_1 < 0)))] [LB.mk [cS Ahpages h.pages.length chpages] 24] ?_
 skip
 by_cases hneg : r_1 < 0
 ·refine gn 1 Rg.no [kCd (bitL 6 47), kCd (bitL 5 31)] [(1, vS Als ls.length cls), (2, vI hz), (3, vR 0 0), (23, vB (decide (r_1 < 0)))] [LB.mk [cS Ahpages h.pages.length chpages] 24] ?_
  refine spl 23 (decide (r_1 < 0)) ?_ ?_
  ·intro hb2
   replace hb2 := of_decide_eq_true hb2
   refine gn 0 Rg.no [kCd (bitL 8 175), kCd (bitL 5 31)] [(6, vL true)] [] ?_
   refine rtk [vL true] ?_
   intro L w1 hs
   exact ⟨rfl, hs.out0⟩
  ·intro hb2
   replace hb2 := of_decide_eq_false hb2
   (exfalso; omega)
 have hzH : zHe h ≤ 1048576 := by omega
 have hzh : zHe h = zRow zPg h.pages := rfl
 have hzh1 : zRow zPg h.pages = h.pages.length + (h.pages.map zPg).sum := rfl
 have hb := byHe_of hzH hby
 have hpl : h.pages.length ≤ 1048576 := by omega
 obtain ⟨xs, hxs⟩ : ∃ xs, deadR h ls hz = xs := ⟨_, rfl⟩
 have hxl : xs.length ≤ 256 := by rw [← hxs]; exact rowsQ_len h _
 have hxk : ∀ r ∈ xs, r.tuple.key.t.length ≤ 40 ∧ r.tuple.value.t.length ≤ 40 := by rw [← hxs]; exact rowsQ_sl h _
 have hxz := zRow_rows xs hxk
 have hxz1 : zRow zRw xs = xs.length + (xs.map zRw).sum := rfl
 have hxz2 : zRow zRw xs ≤ 1048576 := by omega
 have hxn := nRs_z xs
 have hnz := nPs_z h.pages
 have hsl3 := heap_sl hzH
 refine gn 1 Rg.no [kCd (bitL 6 47), kCd (bitL 5 31)] [(1, vS Als ls.length cls), (2, vI hz), (3, vR 0 0), (23, vB (decide (r_1 < 0)))] [LB.mk [cS Ahpages h.pages.length chpages] 24] ?_
 refine spl 23 (decide (r_1 < 0)) ?_ ?_
 ·intro hb2
  replace hb2 := of_decide_eq_true hb2
  (exfalso; omega)
 intro hb2
 replace hb2 := of_decide_eq_false hb2
 refine gn 1 (Rg.sq (bitL 6 31) 1) [kCd (bitL 6 63)] [(1, vS Als ls.length cls), (2, vI hz), (3, vR 0 0), (24, SV.agg [cS Ahpages h.pages.length chpages])] [LB.mk [cS Ahpages h.pages.length chpages] 24] ?_
 refine cak 8 [SV.agg [cS Ahpages h.pages.length chpages]] (some 25) (Rg.sq (bitL 6 31) 2) (fun L w1 hs => (toHeap_ok (h) ([Value.slice Ahpages h.pages.length chpages]) w1 (kHe_mk (rdRow_ext (hs.old 0 rfl) hrhpages)) ‹_›).mono ?_)
 rintro e_ w2_ ⟨Aopages_1, copages_1, rfl, hf_⟩
 refine ⟨.agg [.v (Value.slice Aopages_1 h.pages.length copages_1)], _, _, rfl, fun _ => hf_.1.block, hs.fresh hf_, ?_⟩
 clear hs hf_
 refine gn 1 (Rg.sq (bitL 6 31) 3) [kCd (bitL 6 63)] [(1, vS Als ls.length cls), (2, vI hz), (3, vR 0 0), (25, SV.agg [cS Aopages_1 h.pages.length copages_1]), (26, vS Als ls.length cls)] [LB.mk [cS Ahpages h.pages.length chpages] 24] ?_
 refine cak 16 [vS Als ls.length cls] (some 27) (Rg.sq (bitL 6 31) 4) (fun L w1 hs => (toIntS_ok (ls) (Value.slice Als ls.length cls) w1 (rdRow_ext (hs.old 1 rfl) hls) ‹_›).mono ?_)
 rintro e_ w2_ ⟨Ao_1, co_1, rfl, hf_⟩
 refine ⟨.one (.v (Value.slice Ao_1 ls.length co_1)), _, _, rfl, fun _ => hf_.1.block, hs.fresh hf_, ?_⟩
 clear hs hf_
 refine gn 1 (Rg.sq (bitL 6 31) 5) [kCd (bitL 6 63)] [(1, vS Als ls.length cls), (2, vI hz), (3, vR 0 0), (25, SV.agg [cS Aopages_1 h.pages.length copages_1]), (27, vS Ao_1 ls.length co_1), (28, vI hz)] [LB.mk [cS Ahpages h.pages.length chpages] 24] ?_
 refine cak 15 [SV.agg [cS Aopages_1 h.pages.length copages_1], vS Ao_1 ls.length co_1, vI hz] (some 29) (Rg.sq (bitL 6 31) 6) (fun L w1 hs => (sHDeadX_ok (h) ([Value.slice Aopages_1 h.pages.length copages_1]) (ls) (Value.slice Ao_1 ls.length co_1) (hz) w1 (xs) (kHe_mk (hs.rd 1 rfl)) (hs.rd 0 rfl) ‹_› ‹_› ‹_› hxs).mono ?_)
 rintro e_ w2_ ⟨B_1, d_1, rfl, hf_⟩
 refine ⟨.one (.v (Value.slice B_1 xs.length d_1)), _, _, rfl, fun _ => hf_.1.block, hs.fresh hf_, ?_⟩
 clear hs hf_
 refine gn 1 (Rg.sq (bitL 7 63) 1) [kCd (bitL 7 127)] [(1, vS Als ls.length cls), (2, vI hz), (3, vR 0 0), (8, vS B_1 xs.length d_1), (30, SV.agg [cS Ahpages h.pages.length chpages])] [LB.mk [cS Ahpages h.pages.length chpages] 24] ?_
 refine cak 8 [SV.agg [cS Ahpages h.pages.length chpages]] (some 31) (Rg.sq (bitL 7 63) 2) (fun L w1 hs => (toHeap_ok (h) ([Value.slice Ahpages h.pages.length chpages]) w1 (kHe_mk (rdRow_ext (hs.old 3 rfl) hrhpages)) ‹_›).mono ?_)
 rintro e_ w2_ ⟨Aopages_2, copages_2, rfl, hf_⟩
 refine ⟨.agg [.v (Value.slice Aopages_2 h.pages.length copages_2)], _, _, rfl, fun _ => hf_.1.block, hs.fresh hf_, ?_⟩
 clear hs hf_
 refine gn 2 (Rg.sq (bitL 8 127) 1) [kCd (bitL 8 255)] [(1, vS Als ls.length cls), (2, vI hz), (3, vR 0 0), (8, vS B_1 xs.length d_1), (9, vR 1 0), (32, vS Als ls.length cls)] [LB.mk [cS Ahpages h.pages.length chpages] 24, LB.mk [cS Aopages_2 h.pages.length copages_2] 30] ?_
 refine cak 16 [vS Als ls.length cls] (some 33) (Rg.sq (bitL 8 127) 2) (fun L w1 hs => (toIntS_ok (ls) (Value.slice Als ls.length cls) w1 (rdRow_ext (hs.old 4 rfl) hls) ‹_›).mono ?_)
 rintro e_ w2_ ⟨Ao_2, co_2, rfl, hf_⟩
 refine ⟨.one (.v (Value.slice Ao_2 ls.length co_2)), _, _, rfl, fun _ => hf_.1.block, hs.fresh hf_, ?_⟩
 clear hs hf_
 refine gn 2 (Rg.sq (bitL 9 255) 3) [kCd (bitL 9 511)] [(1, vS Als ls.length cls), (2, vI hz), (3, vR 0 0), (8, vS B_1 xs.length d_1), (9, vR 1 0), (10, vS Ao_2 ls.length co_2), (34, SV.agg [cS Aopages_2 h.pages.length copages_2]), (35, vS Ao_2 ls.length co_2), (36, vI hz)] [LB.mk [cS Ahpages h.pages.length chpages] 24, LB.mk [cS Aopages_2 h.pages.length copages_2] 30] ?_
 refine cak 17 [SV.agg [cS Aopages_2 h.pages.length copages_2], vS Ao_2 ls.length co_2, vI hz] (some 37) (Rg.sq (bitL 9 255) 4) (fun L w1 hs => (iHDeadX_ok (h) ([Value.slice Aopages_2 h.pages.length copages_2]) (ls) (Value.slice Ao_2 ls.length co_2) (hz) w1 (xs) (kHe_mk (hs.rd 1 rfl)) (hs.rd 0 rfl) ‹_› ‹_› ‹_› hxs).mono ?_)
 rintro e_ w2_ ⟨B_2, d_2, rfl, hf_⟩
 refine ⟨.one (.v (Value.slice B_2 xs.length d_2)), _, _, rfl, fun _ => hf_.1.block, hs.fresh hf_, ?_⟩
 clear hs hf_
 refine gn 2 (Rg.sq (bitL 11 511) 2) [kCd (bitL 11 1535), kCd (bitL 10 1023)] [(1, vS Als ls.length cls), (2, vI hz), (3, vR 0 0), (8, vS B_1 xs.length d_1), (9, vR 1 0), (10, vS Ao_2 ls.length co_2), (11, vS B_2 xs.length d_2), (38, vS B_2 xs.length d_2), (39, vS B_1 xs.length d_1)] [LB.mk [cS Ahpages h.pages.length chpages] 24, LB.mk [cS Aopages_2 h.pages.length copages_2] 30] ?_
 refine cpk 10 [vS B_2 xs.length d_2, vS B_1 xs.length d_1] (some 40) (Rg.sq (bitL 11 511) 3) (.one (.bo (true))) (fun L w1 hs => (eqRowS_ok (xs) (Value.slice B_2 xs.length d_2) (Value.slice B_1 xs.length d_1) w1 (hs.rd 0 rfl) (hs.rd 3 rfl) ‹_›)) ?_
 refine gn 2 Rg.no [kCd (bitL 11 1535), kCd (bitL 10 1023)] [(1, vS Als ls.length cls), (2, vI hz), (3, vR 0 0), (8, vS B_1 xs.length d_1), (9, vR 1 0), (10, vS Ao_2 ls.length co_2), (11, vS B_2 xs.length d_2), (41, vB false)] [LB.mk [cS Ahpages h.pages.length chpages] 24, LB.mk [cS Aopages_2 h.pages.length copages_2] 30] ?_
 refine ltk 41 false ?_
 refine gn 2 (Rg.dr (bitL 12 1023) (bitL 5 3) 3 2) [kCd (bitL 12 3071), kCd (bitL 11 2047)] [(1, vS Als ls.length cls), (2, vI hz), (3, vR 0 0), (8, vS B_1 xs.length d_1), (9, vR 1 0), (10, vS Ao_2 ls.length co_2), (11, vS B_2 xs.length d_2), (42, SV.agg [cS Aopages_2 h.pages.length copages_2]), (43, SV.agg [cS Ahpages h.pages.length chpages])] [LB.mk [cS Ahpages h.pages.length chpages] 24, LB.mk [cS Aopages_2 h.pages.length copages_2] 30] ?_
 refine cak 8 [SV.agg [cS Ahpages h.pages.length chpages]] (some 44) (Rg.dr (bitL 12 1023) (bitL 5 7) 2 12) (fun L w1 hs => (toHeap_ok (h) ([Value.slice Ahpages h.pages.length chpages]) w1 (kHe_mk (rdRow_ext (hs.old 6 rfl) hrhpages)) ‹_›).mono ?_)
 rintro e_ w2_ ⟨Aopages_3, copages_3, rfl, hf_⟩
 refine ⟨.agg [.v (Value.slice Aopages_3 h.pages.length copages_3)], _, _, rfl, fun _ => hf_.1.block, hs.fresh hf_, ?_⟩
 clear hs hf_
 refine gn 2 (Rg.dr (bitL 12 1023) (bitL 5 7) 2 12) [kCd (bitL 12 3071), kCd (bitL 11 2047)] [(1, vS Als ls.length cls), (2, vI hz), (3, vR 0 0), (8, vS B_1 xs.length d_1), (9, vR 1 0), (10, vS Ao_2 ls.length co_2), (11, vS B_2 xs.length d_2), (42, SV.agg [cS Aopages_2 h.pages.length copages_2]), (44, SV.agg [cS Aopages_3 h.pages.length copages_3])] [LB.mk [cS Ahpages h.pages.length chpages] 24, LB.mk [cS Aopages_2 h.pages.length copages_2] 30] ?_
 refine cpk 11 [SV.agg [cS Aopages_2 h.pages.length copages_2], SV.agg [cS Aopages_3 h.pages.length copages_3]] (some 45) (Rg.dr (bitL 12 1023) (bitL 5 15) 1 12) (.one (.bo (true))) (fun L w1 hs => (eqHeap_ok (h) ([Value.slice Aopages_2 h.pages.length copages_2]) ([Value.slice Aopages_3 h.pages.length copages_3]) w1 (kHe_mk (hs.rd 3 rfl)) (kHe_mk (hs.rd 0 rfl)) ‹_›)) ?_
 refine gn 2 Rg.no [kCd (bitL 12 3071), kCd (bitL 11 2047)] [(1, vS Als ls.length cls), (2, vI hz), (3, vR 0 0), (8, vS B_1 xs.length d_1), (9, vR 1 0), (10, vS Ao_2 ls.length co_2), (11, vS B_2 xs.length d_2), (46, vB false)] [LB.mk [cS Ahpages h.pages.length chpages] 24, LB.mk [cS Aopages_2 h.pages.length copages_2] 30] ?_
 refine ltk 46 false ?_
 refine gn 2 (Rg.sq (bitL 13 2047) 2) [kCd (bitL 13 6143), kCd (bitL 12 4095)] [(1, vS Als ls.length cls), (2, vI hz), (3, vR 0 0), (8, vS B_1 xs.length d_1), (9, vR 1 0), (10, vS Ao_2 ls.length co_2), (11, vS B_2 xs.length d_2), (47, vS Ao_2 ls.length co_2), (48, vS Als ls.length cls)] [LB.mk [cS Ahpages h.pages.length chpages] 24, LB.mk [cS Aopages_2 h.pages.length copages_2] 30] ?_
 refine cak 16 [vS Als ls.length cls] (some 49) (Rg.sq (bitL 13 2047) 3) (fun L w1 hs => (toIntS_ok (ls) (Value.slice Als ls.length cls) w1 (rdRow_ext (hs.old 7 rfl) hls) ‹_›).mono ?_)
 rintro e_ w2_ ⟨Ao_3, co_3, rfl, hf_⟩
 refine ⟨.one (.v (Value.slice Ao_3 ls.length co_3)), _, _, rfl, fun _ => hf_.1.block, hs.fresh hf_, ?_⟩
 clear hs hf_
 refine gn 2 (Rg.sq (bitL 13 2047) 3) [kCd (bitL 13 6143), kCd (bitL 12 4095)] [(1, vS Als ls.length cls), (2, vI hz), (3, vR 0 0), (8, vS B_1 xs.length d_1), (9, vR 1 0), (10, vS Ao_2 ls.length co_2), (11, vS B_2 xs.length d_2), (47, vS Ao_2 ls.length co_2), (49, vS Ao_3 ls.length co_3)] [LB.mk [cS Ahpages h.pages.length chpages] 24, LB.mk [cS Aopages_2 h.pages.length copages_2] 30] ?_
 refine cpk 18 [vS Ao_2 ls.length co_2, vS Ao_3 ls.length co_3] (some 50) (Rg.sq (bitL 13 2047) 4) (.one (.bo (true))) (fun L w1 hs => (eqIntS_ok (ls) (Value.slice Ao_2 ls.length co_2) (Value.slice Ao_3 ls.length co_3) w1 (hs.rd 3 rfl) (hs.rd 0 rfl) ‹_›)) ?_
 refine gn 2 Rg.no [kCd (bitL 13 6143), kCd (bitL 12 4095)] [(1, vS Als ls.length cls), (2, vI hz), (3, vR 0 0), (8, vS B_1 xs.length d_1), (9, vR 1 0), (10, vS Ao_2 ls.length co_2), (11, vS B_2 xs.length d_2), (51, vB false)] [LB.mk [cS Ahpages h.pages.length chpages] 24, LB.mk [cS Aopages_2 h.pages.length copages_2] 30] ?_
 refine ltk 51 false ?_
 refine gn 1 (Rg.sq (bitL 14 8191) 2) [kCd (bitL 14 16383)] [(1, vS Als ls.length cls), (2, vI hz), (3, vR 0 0), (8, vS B_1 xs.length d_1), (10, vS Ao_2 ls.length co_2), (11, vS B_2 xs.length d_2), (52, SV.agg [cS Aopages_2 h.pages.length copages_2]), (53, vI 1)] [LB.mk [cS Ahpages h.pages.length chpages] 24] ?_
 refine h_bring 4 rfl ?_
 refine call_mut (A := [rowA 58 kPg h.pages (.slice Aopages_2 h.pages.length copages_2)]) (by kernel_rfl : atC _ _ _ false = some (12, [SV.agg [cS Aopages_2 h.pages.length copages_2], vI 1], some 54, Rg.sq (bitL 14 8191) 3)) (by kernel_rfl) (fun L w1 S1 hs hA hS1 => (markHeap_ok h _ _ 1 w1 S1 hA hS1 hpl (by omega) hsl3 (by omega)).mono ?_)
 rintro e w2 ⟨rfl, hm⟩
 refine ⟨.one (.v (.int .i64 _)), _, rfl, hm, ?_⟩
 clear hm hs hA hS1
 refine gn 1 (Rg.sq (bitL 15 16383) 2) [kCd (bitL 15 32767)] [(1, vS Als ls.length cls), (2, vI hz), (3, vR 0 0), (8, vS B_1 xs.length d_1), (11, vS B_2 xs.length d_2), (55, vS Ao_2 ls.length co_2), (56, vI (1 + (↑(nPs h.pages) : Int)))] [LB.mk [cS Ahpages h.pages.length chpages] 24] ?_
 refine h_bring 4 rfl ?_
 refine call_mut (A := [rowA 3 kI64 ls (.slice Ao_2 ls.length co_2)]) (by kernel_rfl : atC _ _ _ false = some (19, [vS Ao_2 ls.length co_2, vI (1 + (↑(nPs h.pages) : Int))], some 57, Rg.sq (bitL 15 16383) 3)) (by kernel_rfl) (fun L w1 S1 hs hA hS1 => (markIntS_ok ls _ _ _ w1 S1 hA hS1 hl (by omega)).mono ?_)
 rintro e w2 ⟨rfl, hm⟩
 refine ⟨.one (.v (.int .i64 _)), _, rfl, hm, ?_⟩
 clear hm hs hA hS1
 refine gn 1 (Rg.sq (bitL 17 32767) 3) [kCd (bitL 17 98303), kCd (bitL 16 65535)] [(1, vS Als ls.length cls), (2, vI hz), (3, vR 0 0), (8, vS B_1 xs.length d_1), (11, vS B_2 xs.length d_2), (60, vB (decide (1 + (↑(nPs h.pages) : Int) + (↑ls.length : Int) < 0)))] [LB.mk [cS Ahpages h.pages.length chpages] 24] ?_
 refine spl 60 (decide (1 + (↑(nPs h.pages) : Int) + (↑ls.length : Int) < 0)) ?_ ?_
 ·intro hb3
  replace hb3 := of_decide_eq_true hb3
  (exfalso; omega)
 intro hb3
 replace hb3 := of_decide_eq_false hb3
 refine gn 1 (Rg.sq (bitL 17 32767) 5) [kCd (bitL 17 98303), kCd (bitL 16 65535)] [(1, vS Als ls.length cls), (2, vI hz), (3, vR 0 0), (8, vS B_1 xs.length d_1), (11, vS B_2 xs.length d_2), (60, vL false), (61, vS B_2 xs.length d_2), (62, vS B_1 xs.length d_1)] [LB.mk [cS Ahpages h.pages.length chpages] 24] ?_
 refine cpk 10 [vS B_2 xs.length d_2, vS B_1 xs.length d_1] (some 63) (Rg.sq (bitL 17 32767) 6) (.one (.bo (true))) (fun L w1 hs => (eqRowS_ok (xs) (Value.slice B_2 xs.length d_2) (Value.slice B_1 xs.length d_1) w1 (hs.rd 4 rfl) (hs.rd 5 rfl) ‹_›)) ?_
 refine gn 1 Rg.no [kCd (bitL 17 98303), kCd (bitL 16 65535)] [(1, vS Als ls.length cls), (2, vI hz), (3, vR 0 0), (8, vS B_1 xs.length d_1), (11, vS B_2 xs.length d_2), (65, vB false)] [LB.mk [cS Ahpages h.pages.length chpages] 24] ?_
 refine ltk 65 false ?_
 refine gn 1 (Rg.sq (bitL 18 131071) 2) [kCd (bitL 18 262143)] [(1, vS Als ls.length cls), (2, vI hz), (3, vR 0 0), (8, vS B_1 xs.length d_1), (11, vS B_2 xs.length d_2), (66, vS B_2 xs.length d_2), (67, vI 1)] [LB.mk [cS Ahpages h.pages.length chpages] 24] ?_
 refine h_bring 4 rfl ?_
 refine call_mut (A := [rowA 64 kRw xs (.slice B_2 xs.length d_2)]) (by kernel_rfl : atC _ _ _ false = some (13, [vS B_2 xs.length d_2, vI 1], some 68, Rg.sq (bitL 18 131071) 3)) (by kernel_rfl) (fun L w1 S1 hs hA hS1 => (markRowS_ok xs _ _ 1 w1 S1 hA hS1 (by omega) (by omega) hxk (by omega)).mono ?_)
 rintro e w2 ⟨rfl, hm⟩
 refine ⟨.one (.v (.int .i64 _)), _, rfl, hm, ?_⟩
 clear hm hs hA hS1
 refine gn 1 (Rg.sq (bitL 20 524287) 2) [kCd (bitL 20 1048575)] [(1, vS Als ls.length cls), (2, vI hz), (3, vR 0 0), (8, vS B_1 xs.length d_1), (11, vS B_2 xs.length d_2), (13, vI (1 + (↑(nRs xs) : Int))), (69, vS B_2 xs.length d_2), (70, vI 1)] [LB.mk [cS Ahpages h.pages.length chpages] 24] ?_
 refine cpk 14 [vS B_2 xs.length d_2, vI 1] (some 71) (Rg.sq (bitL 20 524287) 3) (.one (.v (.int .i64 (1 + nRs xs)))) (fun L w1 hs => by
  have h9 := heldRowS_ok (mkRs xs 1) (.slice B_2 xs.length d_2) 1 w1 (hs.rd 0 rfl) (mkRs_idem _ _).symm (by rw [mkRs_len]; omega) (by rw [mkRs_n]; omega) (mkRs_sl _ _ hxk) (by omega)
  rw [mkRs_n] at h9
  exact h9) ?_
 refine gn 1 Rg.no [kCd (bitL 22 3145727), kCd (bitL 21 2097151)] [(1, vS Als ls.length cls), (2, vI hz), (3, vR 0 0), (8, vS B_1 xs.length d_1), (11, vS B_2 xs.length d_2), (13, vI (1 + (↑(nRs xs) : Int))), (14, vI (1 + (↑(nRs xs) : Int))), (73, vB (decide (1 + (↑(nRs xs) : Int) < 0)))] [LB.mk [cS Ahpages h.pages.length chpages] 24] ?_
 refine spl 73 (decide (1 + (↑(nRs xs) : Int) < 0)) ?_ ?_
 ·intro hb4
  replace hb4 := of_decide_eq_true hb4
  (exfalso; omega)
 intro hb4
 replace hb4 := of_decide_eq_false hb4
 refine gn 1 Rg.no [kCd (bitL 23 6291455), kCd (bitL 22 4194303)] [(1, vS Als ls.length cls), (2, vI hz), (3, vR 0 0), (8, vS B_1 xs.length d_1), (11, vS B_2 xs.length d_2), (13, vI (1 + (↑(nRs xs) : Int))), (76, vB (1 + (↑(nRs xs) : Int) != 1 + (↑(nRs xs) : Int)))] [LB.mk [cS Ahpages h.pages.length chpages] 24] ?_
 refine spl 76 (1 + (↑(nRs xs) : Int) != 1 + (↑(nRs xs) : Int)) ?_ ?_
 ·intro hb5
  replace hb5 := bne_iff_ne.1 hb5
  (exfalso; omega)
 intro hb5
 replace hb5 := bne_eq_false_iff_eq.1 hb5
 refine gn 0 (Rg.sq (bitL 23 4194303) 1) [kCd (bitL 23 8388607)] [(1, vS Als ls.length cls), (2, vI hz), (8, vS B_1 xs.length d_1), (11, vS B_2 xs.length d_2), (13, vI (1 + (↑(nRs xs) : Int))), (77, SV.agg [cS Ahpages h.pages.length chpages])] [] ?_
 refine cak 8 [SV.agg [cS Ahpages h.pages.length chpages]] (some 78) (Rg.sq (bitL 23 4194303) 2) (fun L w1 hs => (toHeap_ok (h) ([Value.slice Ahpages h.pages.length chpages]) w1 (kHe_mk (rdRow_ext (hs.old 8 rfl) hrhpages)) ‹_›).mono ?_)
 rintro e_ w2_ ⟨Aopages_4, copages_4, rfl, hf_⟩
 refine ⟨.agg [.v (Value.slice Aopages_4 h.pages.length copages_4)], _, _, rfl, fun _ => hf_.1.block, hs.fresh hf_, ?_⟩
 clear hs hf_
 refine gn 0 (Rg.sq (bitL 23 4194303) 3) [kCd (bitL 23 8388607)] [(2, vI hz), (8, vS B_1 xs.length d_1), (11, vS B_2 xs.length d_2), (13, vI (1 + (↑(nRs xs) : Int))), (78, SV.agg [cS Aopages_4 h.pages.length copages_4]), (79, vS Als ls.length cls)] [] ?_
 refine cak 16 [vS Als ls.length cls] (some 80) (Rg.sq (bitL 23 4194303) 4) (fun L w1 hs => (toIntS_ok (ls) (Value.slice Als ls.length cls) w1 (rdRow_ext (hs.old 9 rfl) hls) ‹_›).mono ?_)
 rintro e_ w2_ ⟨Ao_4, co_4, rfl, hf_⟩
 refine ⟨.one (.v (Value.slice Ao_4 ls.length co_4)), _, _, rfl, fun _ => hf_.1.block, hs.fresh hf_, ?_⟩
 clear hs hf_
 refine gn 0 (Rg.sq (bitL 23 4194303) 5) [kCd (bitL 23 8388607)] [(8, vS B_1 xs.length d_1), (11, vS B_2 xs.length d_2), (13, vI (1 + (↑(nRs xs) : Int))), (78, SV.agg [cS Aopages_4 h.pages.length copages_4]), (80, vS Ao_4 ls.length co_4), (81, vI hz)] [] ?_
 refine cak 17 [SV.agg [cS Aopages_4 h.pages.length copages_4], vS Ao_4 ls.length co_4, vI hz] (some 82) (Rg.sq (bitL 23 4194303) 6) (fun L w1 hs => (iHDeadX_ok (h) ([Value.slice Aopages_4 h.pages.length copages_4]) (ls) (Value.slice Ao_4 ls.length co_4) (hz) w1 (xs) (kHe_mk (hs.rd 1 rfl)) (hs.rd 0 rfl) ‹_› ‹_› ‹_› hxs).mono ?_)
 rintro e_ w2_ ⟨B_3, d_3, rfl, hf_⟩
 refine ⟨.one (.v (Value.slice B_3 xs.length d_3)), _, _, rfl, fun _ => hf_.1.block, hs.fresh hf_, ?_⟩
 clear hs hf_
 refine gn 0 (Rg.sq (bitL 25 8388607) 2) [kCd (bitL 25 25165823), kCd (bitL 24 16777215)] [(11, vS B_2 xs.length d_2), (13, vI (1 + (↑(nRs xs) : Int))), (83, vS B_3 xs.length d_3), (84, vS B_1 xs.length d_1)] [] ?_
 refine cpk 10 [vS B_3 xs.length d_3, vS B_1 xs.length d_1] (some 85) (Rg.sq (bitL 25 8388607) 3) (.one (.bo (true))) (fun L w1 hs => (eqRowS_ok (xs) (Value.slice B_3 xs.length d_3) (Value.slice B_1 xs.length d_1) w1 (hs.rd 0 rfl) (hs.rd 8 rfl) ‹_›)) ?_
 refine gn 0 Rg.no [kCd (bitL 25 25165823), kCd (bitL 24 16777215)] [(11, vS B_2 xs.length d_2), (13, vI (1 + (↑(nRs xs) : Int))), (86, vB false)] [] ?_
 refine ltk 86 false ?_
 refine gn 0 (Rg.sq (bitL 26 33554431) 2) [kCd (bitL 26 67108863)] [(13, vI (1 + (↑(nRs xs) : Int))), (87, vS B_2 xs.length d_2), (88, vI 1)] [] ?_
 refine cpk 14 [vS B_2 xs.length d_2, vI 1] (some 89) (Rg.sq (bitL 26 33554431) 3) (.one (.v (.int .i64 (1 + nRs xs)))) (fun L w1 hs => by
  have h9 := heldRowS_ok (mkRs xs 1) (.slice B_2 xs.length d_2) 1 w1 (hs.rd 3 rfl) (mkRs_idem _ _).symm (by rw [mkRs_len]; omega) (by rw [mkRs_n]; omega) (mkRs_sl _ _ hxk) (by omega)
  rw [mkRs_n] at h9
  exact h9) ?_
 refine gn 0 Rg.no [kCd (bitL 28 201326591), kCd (bitL 27 134217727)] [(13, vI (1 + (↑(nRs xs) : Int))), (14, vI (1 + (↑(nRs xs) : Int))), (91, vB (decide (1 + (↑(nRs xs) : Int) < 0)))] [] ?_
 refine spl 91 (decide (1 + (↑(nRs xs) : Int) < 0)) ?_ ?_
 ·intro hb6
  replace hb6 := of_decide_eq_true hb6
  (exfalso; omega)
 ·intro hb6
  replace hb6 := of_decide_eq_false hb6
  refine gn 0 Rg.no [kCd (bitL 29 402653183), kCd (bitL 28 268435455)] [(94, vB (1 + (↑(nRs xs) : Int) != 1 + (↑(nRs xs) : Int)))] [] ?_
  refine spl 94 (1 + (↑(nRs xs) : Int) != 1 + (↑(nRs xs) : Int)) ?_ ?_
  ·intro hb7
   replace hb7 := bne_iff_ne.1 hb7
   (exfalso; omega)
  ·intro hb7
   replace hb7 := bne_eq_false_iff_eq.1 hb7
   refine gn 0 Rg.no [kCd (bitL 29 536870911)] [(6, vL true)] [] ?_
   refine rtk [vL true] ?_
   intro L w1 hs
   exact ⟨rfl, (hs.erases [0, 0, 0, 0, 0, 0, 0, 0, 0, 0, 0]).out0⟩
end Go.Proofs.YtgleoebogikooaaGreat.Dk
