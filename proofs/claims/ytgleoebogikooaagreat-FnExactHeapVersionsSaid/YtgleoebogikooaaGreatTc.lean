/- Walks of functions of the program: what each call returns and what it leaves in memory. Conditions: those that each theorem names. -/
import Derived.Test.YtgleoebogikooaaGreatTb
namespace Go.Proofs.YtgleoebogikooaaGreat.Dk
set_option linter.unusedVariables false
set_option linter.unusedSimpArgs false
open Go.Proofs.YtgleoebogikooaaGreat.Sx Go.Proofs Go.RowKit
set_option maxRecDepth 100000
set_option maxHeartbeats 1000000
theorem markItem_ok (x : It) (b : Nat) (A : Option Addr) (c : Nat) (k : Int) (w : World) (S : Nat → Prop) (h : sepL [rowA 5 kU8 x.t (.slice A x.t.length c)] w.heap S) (hS : ∀ b, S b → b < w.heap.size) (hl : x.t.length ≤ 1048576) (hk : 0 ≤ k ∧ k ≤ 1073741824) :
  Calls Tryz.prog 25 #[.agg #[.int .i64 x.kind, .int .i64 x.n, .float .f64 b, .slice A x.t.length c], .int .i64 k] w fun e w' => e = .returned (.int .i64 (k + x.t.length)) ∧ Mut w w' S [] := by
 refine enter (args := [.agg [.v (.int .i64 x.kind), .v (.int .i64 x.n), .v (.float .f64 b), .v (.slice A x.t.length c)], .one (.v (.int .i64 k))]) Tryz.func25 (c := bodyOf Tryz.f25) rfl rfl (start_LOK _) (start_mut h hS) ?_
 refine gn 0 (Rg.sq [true, false] 3) [KI.code [true, true]] [(6, vS A x.t.length c), (7, vI k)] [] ?_
 refine call_mut (A := [rowA 5 kU8 x.t (.slice A x.t.length c)]) (by kernel_rfl : atC _ _ _ false = some (35, [vS A x.t.length c, vI k], some 8, Rg.sq [true, false] 4)) (by kernel_rfl) (fun L w1 S1 hs hA hS1 => (markByteS_ok x.t A c _ w1 S1 hA hS1 hl (by omega)).mono ?_)
 rintro e w2 ⟨rfl, hm⟩
 refine ⟨.one (.v (.int .i64 _)), _, rfl, hm, ?_⟩
 clear hm hs hA hS1
 refine gn 0 Rg.no [kCd (bitL 3 7)] [(4, vI (k + (↑x.t.length : Int)))] [] ?_
 refine rtk [vI (k + (↑x.t.length : Int))] ?_
 intro L w1 hs
 exact ⟨rfl, SOK.outm (As := []) hs.drop⟩
theorem rowsQ_len (h : He) (q : Tu → Bool) : (rowsQ h q).length ≤ 256 := by
 rw [rowsQ_R]
 exact Nat.le_trans (List.length_filter_le _ _) (rowsR_len h)
theorem rowsQ_sl (h : He) (q : Tu → Bool) : ∀ r ∈ rowsQ h q, r.tuple.key.t.length ≤ 40 ∧ r.tuple.value.t.length ≤ 40 := fun r hr => by
 rw [rowsQ_R] at hr
 exact rowsR_sl h r (List.mem_filter.1 hr).1
theorem versR_len (h : He) (key : It) : (versR h key).length ≤ 256 := by
 unfold versR
 split
 ·exact rowsQ_len h _
 ·exact Nat.zero_le _
theorem versR_sl (h : He) (key : It) : ∀ r ∈ versR h key, r.tuple.key.t.length ≤ 40 ∧ r.tuple.value.t.length ≤ 40 := fun r hr => by
 unfold versR at hr
 split at hr
 ·exact rowsQ_sl h _ r hr
 ·cases hr
theorem iHVersX_ok (h : He) (csh : List Value) (key : It) (csk : List Value) (w : World) (xs : List Rw) (hh : kHe.rd w.heap h csh) (hkey : kIt.rd w.heap key csk) (hz : zHe h ≤ 1048576) (hb : byHe h) (pk : byOk key.t) (lk : key.t.length ≤ 1048576) (hxs : versR h key = xs) :
  Calls Tryz.prog 23 #[.agg csh.toArray, .agg csk.toArray] w fun e w' => ∃ (B : Option Addr) (d : Nat), e = .returned (.slice B xs.length d) ∧ Fresh w w' [rowA 64 kRw xs (.slice B xs.length d)] := by
 subst hxs
 exact iHVers_ok h csh key csk w hh hkey hz hb pk lk
theorem sHVersX_ok (h : He) (csh : List Value) (key : It) (csk : List Value) (w : World) (xs : List Rw) (hh : kHe.rd w.heap h csh) (hkey : kIt.rd w.heap key csk) (hz : zHe h ≤ 1048576) (hb : byHe h) (pk : byOk key.t) (lk : key.t.length ≤ 1048576) (hxs : versR h key = xs) :
  Calls Tryz.prog 21 #[.agg csh.toArray, .agg csk.toArray] w fun e w' => ∃ (B : Option Addr) (d : Nat), e = .returned (.slice B xs.length d) ∧ Fresh w w' [rowA 64 kRw xs (.slice B xs.length d)] := by
 subst hxs
 exact sHVers_ok h csh key csk w hh hkey hz hb pk lk
theorem lawHeapVers_ok (h : He) (csh : List Value) (key : It) (cskey : List Value) (w : World) (hh : kHe.rd w.heap h csh) (hkey : kIt.rd w.heap key cskey) (hw : wHe h) (hby : ∀ p ∈ h.pages, ∀ s ∈ p.slots, byOk s) (wk : wIt key) (pk : byOk key.t) :
  Calls Tryz.prog 5 #[.agg csh.toArray, .agg cskey.toArray] w fun e w' => e = .returned (.bool true) ∧ Below w.heap.size w w' := by
 obtain ⟨Ahpages, chpages, rfl, hrhpages⟩ := kHe_inv hh
 obtain ⟨bkeyf, Akeyt, ckeyt, rfl, hbkeyf, hfkeyf, hrkeyt⟩ := kIt_inv hkey
 refine enter (args := [.agg [.v (.slice Ahpages h.pages.length chpages)], .agg [.v (.int .i64 key.kind), .v (.int .i64 key.n), .v (.float .f64 bkeyf), .v (.slice Akeyt key.t.length ckeyt)]]) Tryz.func5 (c := bodyOf Tryz.f5) rfl rfl (start_LOK _) (start_old w) ?_
 skip
 refine gn 2 (Rg.sq (bitL 3 3) 2) [kCd (bitL 3 7)] [(2, vR 0 0), (3, vR 1 0), (14, SV.agg [cS Ahpages h.pages.length chpages]), (15, vI 1048576)] [LB.mk [cS Ahpages h.pages.length chpages] 24, LB.mk [cI key.kind, cI key.n, cF bkeyf, cS Akeyt key.t.length ckeyt] 46] ?_
 refine cak 6 [SV.agg [cS Ahpages h.pages.length chpages], vI 1048576] (some 16) (Rg.sq (bitL 3 3) 3) (fun L w1 hs => (szHeap_ok (h) ([Value.slice Ahpages h.pages.length chpages]) (1048576) w1 (kHe_mk (rdRow_ext (hs.old 0 rfl) hrhpages)) (by omega) (by omega) ‹_›).mono ?_)
 rintro e_ w2_ ⟨r_1, rfl, hf_, hq1⟩
 refine ⟨.one (.v (Value.int IntKind.i64 r_1)), _, _, rfl, fun _ => hf_.block, hs.below hf_, ?_⟩
 clear hs hf_
 refine gn 2 Rg.no [kCd (bitL 5 23), kCd (bitL 4 15)] [(2, vR 0 0), (3, vR 1 0), (5, vI r_1), (18, vB (decide (r_1 < 0)))] [LB.mk [cS Ahpages h.pages.length chpages] 24, LB.mk [cI key.kind, cI key.n, cF bkeyf, cS Akeyt key.t.length ckeyt] 46] ?_
 refine spl 18 (decide (r_1 < 0)) ?_ ?_
 ·intro hb1
  replace hb1 := of_decide_eq_true hb1
  refine gn 0 Rg.no [kCd (bitL 7 87), kCd (bitL 4 15)] [(4, vL true)] [] ?_
  refine rtk [vL true] ?_
  intro L w1 hs
  exact ⟨rfl, hs.out0⟩
 intro hb1
 replace hb1 := of_decide_eq_false hb1
 refine gn 2 (Rg.sq (bitL 5 15) 2) [kCd (bitL 5 31)] [(2, vR 0 0), (3, vR 1 0), (19, SV.agg [cI key.kind, cI key.n, cF bkeyf, cS Akeyt key.t.length ckeyt]), (20, vI r_1)] [LB.mk [cS Ahpages h.pages.length chpages] 24, LB.mk [cI key.kind, cI key.n, cF bkeyf, cS Akeyt key.t.length ckeyt] 46] ?_
 refine cak 20 [SV.agg [cI key.kind, cI key.n, cF bkeyf, cS Akeyt key.t.length ckeyt], vI r_1] (some 21) (Rg.sq (bitL 5 15) 3) (fun L w1 hs => (szItem_ok (key) ([Value.int IntKind.i64 key.kind, Value.int IntKind.i64 key.n, Value.float FloatKind.f64 bkeyf, Value.slice Akeyt key.t.length ckeyt]) (r_1) w1 (kIt_mk ‹_› hfkeyf (rdRow_ext (hs.old 0 rfl) hrkeyt)) (by omega) (by omega) ‹_›).mono ?_)
 rintro e_ w2_ ⟨r_2, rfl, hf_, hq2⟩
 refine ⟨.one (.v (Value.int IntKind.i64 r_2)), _, _, rfl, fun _ => hf_.block, hs.below hf_, ?_⟩
 clear hs hf_
 refine gn 2 Rg.no [kCd (bitL 7 95), kCd (bitL 6 63)] [(2, vR 0 0), (3, vR 1 0), (23, vB (decide (r_2 < 0)))] [LB.mk [cS Ahpages h.pages.length chpages] 24, LB.mk [cI key.kind, cI key.n, cF bkeyf, cS Akeyt key.t.length ckeyt] 46] ?_
 skip
 by_cases hneg : r_2 < 0
 ·refine gn 2 Rg.no [kCd (bitL 7 95), kCd (bitL 6 63)] [(2, vR 0 0), (3, vR 1 0), (23, vB (decide (r_2 < 0)))] [LB.mk [cS Ahpages h.pages.length chpages] 24, LB.mk [cI key.kind, cI key.n, cF bkeyf, cS Akeyt key.t.length ckeyt] 46] ?_
  refine spl 23 (decide (r_2 < 0)) ?_ ?_
  ·intro hb2
   replace hb2 := of_decide_eq_true hb2
   refine gn 0 Rg.no [kCd (bitL 9 351), kCd (bitL 6 63)] [(4, vL true)] [] ?_
   refine rtk [vL true] ?_
   intro L w1 hs
   exact ⟨rfl, hs.out0⟩
  ·intro hb2
   replace hb2 := of_decide_eq_false hb2
   (exfalso; omega)
 have hzH : zHe h ≤ 1048576 := by omega
 have hzh : zHe h = zRow zPg h.pages := rfl
 have hzh1 : zRow zPg h.pages = h.pages.length + (h.pages.map zPg).sum := rfl
 have hb := byHe_of hzH hby
 have hpl : h.pages.length ≤ 1048576 := by omega
 have hzk : zIt key ≤ 1048576 := by omega
 have lk : key.t.length ≤ 1048576 := hzk
 obtain ⟨xs, hxs⟩ : ∃ xs, versR h key = xs := ⟨_, rfl⟩
 have hxl : xs.length ≤ 256 := by rw [← hxs]; exact versR_len h key
 have hxk : ∀ r ∈ xs, r.tuple.key.t.length ≤ 40 ∧ r.tuple.value.t.length ≤ 40 := by rw [← hxs]; exact versR_sl h key
 have hxz := zRow_rows xs hxk
 have hxz1 : zRow zRw xs = xs.length + (xs.map zRw).sum := rfl
 have hxz2 : zRow zRw xs ≤ 1048576 := by omega
 have hxn := nRs_z xs
 have hnz := nPs_z h.pages
 have hsl3 := heap_sl hzH
 refine gn 2 Rg.no [kCd (bitL 7 95), kCd (bitL 6 63)] [(2, vR 0 0), (3, vR 1 0), (23, vB (decide (r_2 < 0)))] [LB.mk [cS Ahpages h.pages.length chpages] 24, LB.mk [cI key.kind, cI key.n, cF bkeyf, cS Akeyt key.t.length ckeyt] 46] ?_
 refine spl 23 (decide (r_2 < 0)) ?_ ?_
 ·intro hb2
  replace hb2 := of_decide_eq_true hb2
  (exfalso; omega)
 intro hb2
 replace hb2 := of_decide_eq_false hb2
 refine gn 2 (Rg.dr (bitL 7 63) (bitL 6 5) 4 2) [kCd (bitL 7 127)] [(2, vR 0 0), (3, vR 1 0), (24, SV.agg [cS Ahpages h.pages.length chpages]), (26, SV.agg [cI key.kind, cI key.n, cF bkeyf, cS Akeyt key.t.length ckeyt])] [LB.mk [cS Ahpages h.pages.length chpages] 24, LB.mk [cI key.kind, cI key.n, cF bkeyf, cS Akeyt key.t.length ckeyt] 46] ?_
 refine cak 8 [SV.agg [cS Ahpages h.pages.length chpages]] (some 25) (Rg.dr (bitL 7 63) (bitL 6 7) 3 12) (fun L w1 hs => (toHeap_ok (h) ([Value.slice Ahpages h.pages.length chpages]) w1 (kHe_mk (rdRow_ext (hs.old 0 rfl) hrhpages)) ‹_›).mono ?_)
 rintro e_ w2_ ⟨Aopages_1, copages_1, rfl, hf_⟩
 refine ⟨.agg [.v (Value.slice Aopages_1 h.pages.length copages_1)], _, _, rfl, fun _ => hf_.1.block, hs.fresh hf_, ?_⟩
 clear hs hf_
 refine gn 2 (Rg.dr (bitL 7 63) (bitL 6 7) 3 12) [kCd (bitL 7 127)] [(2, vR 0 0), (3, vR 1 0), (25, SV.agg [cS Aopages_1 h.pages.length copages_1]), (26, SV.agg [cI key.kind, cI key.n, cF bkeyf, cS Akeyt key.t.length ckeyt])] [LB.mk [cS Ahpages h.pages.length chpages] 24, LB.mk [cI key.kind, cI key.n, cF bkeyf, cS Akeyt key.t.length ckeyt] 46] ?_
 refine cak 22 [SV.agg [cI key.kind, cI key.n, cF bkeyf, cS Akeyt key.t.length ckeyt]] (some 27) (Rg.dr (bitL 7 63) (bitL 6 15) 2 12) (fun L w1 hs => (toItem_ok (key) ([Value.int IntKind.i64 key.kind, Value.int IntKind.i64 key.n, Value.float FloatKind.f64 bkeyf, Value.slice Akeyt key.t.length ckeyt]) w1 (kIt_mk ‹_› hfkeyf (rdRow_ext (hs.old 1 rfl) hrkeyt)) ‹_›).mono ?_)
 rintro e_ w2_ ⟨bof_1, Aot_1, cot_1, rfl, hf_, hq3, hq4⟩
 refine ⟨.agg [.v (Value.int IntKind.i64 key.kind), .v (Value.int IntKind.i64 key.n), .v (Value.float FloatKind.f64 bof_1), .v (Value.slice Aot_1 key.t.length cot_1)], _, _, rfl, fun _ => hf_.1.block, hs.fresh hf_, ?_⟩
 clear hs hf_
 refine gn 2 (Rg.dr (bitL 7 63) (bitL 6 15) 2 12) [kCd (bitL 7 127)] [(2, vR 0 0), (3, vR 1 0), (25, SV.agg [cS Aopages_1 h.pages.length copages_1]), (27, SV.agg [cI key.kind, cI key.n, cF bof_1, cS Aot_1 key.t.length cot_1])] [LB.mk [cS Ahpages h.pages.length chpages] 24, LB.mk [cI key.kind, cI key.n, cF bkeyf, cS Akeyt key.t.length ckeyt] 46] ?_
 refine cak 21 [SV.agg [cS Aopages_1 h.pages.length copages_1], SV.agg [cI key.kind, cI key.n, cF bof_1, cS Aot_1 key.t.length cot_1]] (some 28) (Rg.dr (bitL 7 63) (bitL 6 31) 1 12) (fun L w1 hs => (sHVersX_ok (h) ([Value.slice Aopages_1 h.pages.length copages_1]) (key) ([Value.int IntKind.i64 key.kind, Value.int IntKind.i64 key.n, Value.float FloatKind.f64 bof_1, Value.slice Aot_1 key.t.length cot_1]) w1 (xs) (kHe_mk (hs.rd 1 rfl)) (kIt_mk ‹_› hq4 (hs.rd 0 rfl)) ‹_› ‹_› ‹_› ‹_› hxs).mono ?_)
 rintro e_ w2_ ⟨B_1, d_1, rfl, hf_⟩
 refine ⟨.one (.v (Value.slice B_1 xs.length d_1)), _, _, rfl, fun _ => hf_.1.block, hs.fresh hf_, ?_⟩
 clear hs hf_
 refine gn 2 (Rg.sq (bitL 8 127) 1) [kCd (bitL 8 255)] [(2, vR 0 0), (3, vR 1 0), (6, vS B_1 xs.length d_1), (29, SV.agg [cS Ahpages h.pages.length chpages])] [LB.mk [cS Ahpages h.pages.length chpages] 24, LB.mk [cI key.kind, cI key.n, cF bkeyf, cS Akeyt key.t.length ckeyt] 46] ?_
 refine cak 8 [SV.agg [cS Ahpages h.pages.length chpages]] (some 30) (Rg.sq (bitL 8 127) 2) (fun L w1 hs => (toHeap_ok (h) ([Value.slice Ahpages h.pages.length chpages]) w1 (kHe_mk (rdRow_ext (hs.old 3 rfl) hrhpages)) ‹_›).mono ?_)
 rintro e_ w2_ ⟨Aopages_2, copages_2, rfl, hf_⟩
 refine ⟨.agg [.v (Value.slice Aopages_2 h.pages.length copages_2)], _, _, rfl, fun _ => hf_.1.block, hs.fresh hf_, ?_⟩
 clear hs hf_
 refine gn 3 (Rg.sq (bitL 9 255) 1) [kCd (bitL 9 511)] [(2, vR 0 0), (3, vR 1 0), (6, vS B_1 xs.length d_1), (7, vR 2 0), (31, SV.agg [cI key.kind, cI key.n, cF bkeyf, cS Akeyt key.t.length ckeyt])] [LB.mk [cS Ahpages h.pages.length chpages] 24, LB.mk [cI key.kind, cI key.n, cF bkeyf, cS Akeyt key.t.length ckeyt] 46, LB.mk [cS Aopages_2 h.pages.length copages_2] 30] ?_
 refine cak 22 [SV.agg [cI key.kind, cI key.n, cF bkeyf, cS Akeyt key.t.length ckeyt]] (some 32) (Rg.sq (bitL 9 255) 2) (fun L w1 hs => (toItem_ok (key) ([Value.int IntKind.i64 key.kind, Value.int IntKind.i64 key.n, Value.float FloatKind.f64 bkeyf, Value.slice Akeyt key.t.length ckeyt]) w1 (kIt_mk ‹_› hfkeyf (rdRow_ext (hs.old 4 rfl) hrkeyt)) ‹_›).mono ?_)
 rintro e_ w2_ ⟨bof_2, Aot_2, cot_2, rfl, hf_, hq5, hq6⟩
 refine ⟨.agg [.v (Value.int IntKind.i64 key.kind), .v (Value.int IntKind.i64 key.n), .v (Value.float FloatKind.f64 bof_2), .v (Value.slice Aot_2 key.t.length cot_2)], _, _, rfl, fun _ => hf_.1.block, hs.fresh hf_, ?_⟩
 clear hs hf_
 refine gn 4 (Rg.sq (bitL 10 511) 2) [kCd (bitL 10 1023)] [(2, vR 0 0), (3, vR 1 0), (6, vS B_1 xs.length d_1), (7, vR 2 0), (8, vR 3 0), (33, SV.agg [cS Aopages_2 h.pages.length copages_2]), (34, SV.agg [cI key.kind, cI key.n, cF bof_2, cS Aot_2 key.t.length cot_2])] [LB.mk [cS Ahpages h.pages.length chpages] 24, LB.mk [cI key.kind, cI key.n, cF bkeyf, cS Akeyt key.t.length ckeyt] 46, LB.mk [cS Aopages_2 h.pages.length copages_2] 30, LB.mk [cI key.kind, cI key.n, cF bof_2, cS Aot_2 key.t.length cot_2] 49] ?_
 refine cak 23 [SV.agg [cS Aopages_2 h.pages.length copages_2], SV.agg [cI key.kind, cI key.n, cF bof_2, cS Aot_2 key.t.length cot_2]] (some 35) (Rg.sq (bitL 10 511) 3) (fun L w1 hs => (iHVersX_ok (h) ([Value.slice Aopages_2 h.pages.length copages_2]) (key) ([Value.int IntKind.i64 key.kind, Value.int IntKind.i64 key.n, Value.float FloatKind.f64 bof_2, Value.slice Aot_2 key.t.length cot_2]) w1 (xs) (kHe_mk (hs.rd 1 rfl)) (kIt_mk ‹_› hq6 (hs.rd 0 rfl)) ‹_› ‹_› ‹_› ‹_› hxs).mono ?_)
 rintro e_ w2_ ⟨B_2, d_2, rfl, hf_⟩
 refine ⟨.one (.v (Value.slice B_2 xs.length d_2)), _, _, rfl, fun _ => hf_.1.block, hs.fresh hf_, ?_⟩
 clear hs hf_
 refine gn 4 (Rg.sq (bitL 12 1023) 2) [kCd (bitL 12 3071), kCd (bitL 11 2047)] [(2, vR 0 0), (3, vR 1 0), (6, vS B_1 xs.length d_1), (7, vR 2 0), (8, vR 3 0), (9, vS B_2 xs.length d_2), (36, vS B_2 xs.length d_2), (37, vS B_1 xs.length d_1)] [LB.mk [cS Ahpages h.pages.length chpages] 24, LB.mk [cI key.kind, cI key.n, cF bkeyf, cS Akeyt key.t.length ckeyt] 46, LB.mk [cS Aopages_2 h.pages.length copages_2] 30, LB.mk [cI key.kind, cI key.n, cF bof_2, cS Aot_2 key.t.length cot_2] 49] ?_
 refine cpk 10 [vS B_2 xs.length d_2, vS B_1 xs.length d_1] (some 38) (Rg.sq (bitL 12 1023) 3) (.one (.bo (true))) (fun L w1 hs => (eqRowS_ok (xs) (Value.slice B_2 xs.length d_2) (Value.slice B_1 xs.length d_1) w1 (hs.rd 0 rfl) (hs.rd 3 rfl) ‹_›)) ?_
 refine gn 4 Rg.no [kCd (bitL 12 3071), kCd (bitL 11 2047)] [(2, vR 0 0), (3, vR 1 0), (6, vS B_1 xs.length d_1), (7, vR 2 0), (8, vR 3 0), (9, vS B_2 xs.length d_2), (39, vB false)] [LB.mk [cS Ahpages h.pages.length chpages] 24, LB.mk [cI key.kind, cI key.n, cF bkeyf, cS Akeyt key.t.length ckeyt] 46, LB.mk [cS Aopages_2 h.pages.length copages_2] 30, LB.mk [cI key.kind, cI key.n, cF bof_2, cS Aot_2 key.t.length cot_2] 49] ?_
 refine ltk 39 false ?_
 refine gn 4 (Rg.dr (bitL 13 2047) (bitL 5 3) 3 2) [kCd (bitL 13 6143), kCd (bitL 12 4095)] [(2, vR 0 0), (3, vR 1 0), (6, vS B_1 xs.length d_1), (7, vR 2 0), (8, vR 3 0), (9, vS B_2 xs.length d_2), (40, SV.agg [cS Aopages_2 h.pages.length copages_2]), (41, SV.agg [cS Ahpages h.pages.length chpages])] [LB.mk [cS Ahpages h.pages.length chpages] 24, LB.mk [cI key.kind, cI key.n, cF bkeyf, cS Akeyt key.t.length ckeyt] 46, LB.mk [cS Aopages_2 h.pages.length copages_2] 30, LB.mk [cI key.kind, cI key.n, cF bof_2, cS Aot_2 key.t.length cot_2] 49] ?_
 refine cak 8 [SV.agg [cS Ahpages h.pages.length chpages]] (some 42) (Rg.dr (bitL 13 2047) (bitL 5 7) 2 14) (fun L w1 hs => (toHeap_ok (h) ([Value.slice Ahpages h.pages.length chpages]) w1 (kHe_mk (rdRow_ext (hs.old 6 rfl) hrhpages)) ‹_›).mono ?_)
 rintro e_ w2_ ⟨Aopages_3, copages_3, rfl, hf_⟩
 refine ⟨.agg [.v (Value.slice Aopages_3 h.pages.length copages_3)], _, _, rfl, fun _ => hf_.1.block, hs.fresh hf_, ?_⟩
 clear hs hf_
 refine gn 4 (Rg.dr (bitL 13 2047) (bitL 5 7) 2 14) [kCd (bitL 13 6143), kCd (bitL 12 4095)] [(2, vR 0 0), (3, vR 1 0), (6, vS B_1 xs.length d_1), (7, vR 2 0), (8, vR 3 0), (9, vS B_2 xs.length d_2), (40, SV.agg [cS Aopages_2 h.pages.length copages_2]), (42, SV.agg [cS Aopages_3 h.pages.length copages_3])] [LB.mk [cS Ahpages h.pages.length chpages] 24, LB.mk [cI key.kind, cI key.n, cF bkeyf, cS Akeyt key.t.length ckeyt] 46, LB.mk [cS Aopages_2 h.pages.length copages_2] 30, LB.mk [cI key.kind, cI key.n, cF bof_2, cS Aot_2 key.t.length cot_2] 49] ?_
 refine cpk 11 [SV.agg [cS Aopages_2 h.pages.length copages_2], SV.agg [cS Aopages_3 h.pages.length copages_3]] (some 43) (Rg.dr (bitL 13 2047) (bitL 5 15) 1 14) (.one (.bo (true))) (fun L w1 hs => (eqHeap_ok (h) ([Value.slice Aopages_2 h.pages.length copages_2]) ([Value.slice Aopages_3 h.pages.length copages_3]) w1 (kHe_mk (hs.rd 3 rfl)) (kHe_mk (hs.rd 0 rfl)) ‹_›)) ?_
 refine gn 4 Rg.no [kCd (bitL 13 6143), kCd (bitL 12 4095)] [(2, vR 0 0), (3, vR 1 0), (6, vS B_1 xs.length d_1), (7, vR 2 0), (8, vR 3 0), (9, vS B_2 xs.length d_2), (44, vB false)] [LB.mk [cS Ahpages h.pages.length chpages] 24, LB.mk [cI key.kind, cI key.n, cF bkeyf, cS Akeyt key.t.length ckeyt] 46, LB.mk [cS Aopages_2 h.pages.length copages_2] 30, LB.mk [cI key.kind, cI key.n, cF bof_2, cS Aot_2 key.t.length cot_2] 49] ?_
 refine ltk 44 false ?_
 refine gn 4 (Rg.dr (bitL 14 4095) (bitL 5 3) 3 2) [kCd (bitL 14 12287), kCd (bitL 13 8191)] [(2, vR 0 0), (3, vR 1 0), (6, vS B_1 xs.length d_1), (7, vR 2 0), (8, vR 3 0), (9, vS B_2 xs.length d_2), (45, SV.agg [cI key.kind, cI key.n, cF bof_2, cS Aot_2 key.t.length cot_2]), (46, SV.agg [cI key.kind, cI key.n, cF bkeyf, cS Akeyt key.t.length ckeyt])] [LB.mk [cS Ahpages h.pages.length chpages] 24, LB.mk [cI key.kind, cI key.n, cF bkeyf, cS Akeyt key.t.length ckeyt] 46, LB.mk [cS Aopages_2 h.pages.length copages_2] 30, LB.mk [cI key.kind, cI key.n, cF bof_2, cS Aot_2 key.t.length cot_2] 49] ?_
 refine cak 22 [SV.agg [cI key.kind, cI key.n, cF bkeyf, cS Akeyt key.t.length ckeyt]] (some 47) (Rg.dr (bitL 14 4095) (bitL 5 7) 2 14) (fun L w1 hs => (toItem_ok (key) ([Value.int IntKind.i64 key.kind, Value.int IntKind.i64 key.n, Value.float FloatKind.f64 bkeyf, Value.slice Akeyt key.t.length ckeyt]) w1 (kIt_mk ‹_› hfkeyf (rdRow_ext (hs.old 7 rfl) hrkeyt)) ‹_›).mono ?_)
 rintro e_ w2_ ⟨bof_3, Aot_3, cot_3, rfl, hf_, hq7, hq8⟩
 refine ⟨.agg [.v (Value.int IntKind.i64 key.kind), .v (Value.int IntKind.i64 key.n), .v (Value.float FloatKind.f64 bof_3), .v (Value.slice Aot_3 key.t.length cot_3)], _, _, rfl, fun _ => hf_.1.block, hs.fresh hf_, ?_⟩
 clear hs hf_
 refine gn 4 (Rg.dr (bitL 14 4095) (bitL 5 7) 2 14) [kCd (bitL 14 12287), kCd (bitL 13 8191)] [(2, vR 0 0), (3, vR 1 0), (6, vS B_1 xs.length d_1), (7, vR 2 0), (8, vR 3 0), (9, vS B_2 xs.length d_2), (45, SV.agg [cI key.kind, cI key.n, cF bof_2, cS Aot_2 key.t.length cot_2]), (47, SV.agg [cI key.kind, cI key.n, cF bof_3, cS Aot_3 key.t.length cot_3])] [LB.mk [cS Ahpages h.pages.length chpages] 24, LB.mk [cI key.kind, cI key.n, cF bkeyf, cS Akeyt key.t.length ckeyt] 46, LB.mk [cS Aopages_2 h.pages.length copages_2] 30, LB.mk [cI key.kind, cI key.n, cF bof_2, cS Aot_2 key.t.length cot_2] 49] ?_
 refine cpk 24 [SV.agg [cI key.kind, cI key.n, cF bof_2, cS Aot_2 key.t.length cot_2], SV.agg [cI key.kind, cI key.n, cF bof_3, cS Aot_3 key.t.length cot_3]] (some 48) (Rg.dr (bitL 14 4095) (bitL 5 15) 1 14) (.one (.bo (true))) (fun L w1 hs => (eqItem_ok (key) ([Value.int IntKind.i64 key.kind, Value.int IntKind.i64 key.n, Value.float FloatKind.f64 bof_2, Value.slice Aot_2 key.t.length cot_2]) ([Value.int IntKind.i64 key.kind, Value.int IntKind.i64 key.n, Value.float FloatKind.f64 bof_3, Value.slice Aot_3 key.t.length cot_3]) w1 (kIt_mk ‹_› hq6 (hs.rd 3 rfl)) (kIt_mk ‹_› ‹_› (hs.rd 0 rfl)) ‹_›)) ?_
 refine gn 4 Rg.no [kCd (bitL 14 12287), kCd (bitL 13 8191)] [(2, vR 0 0), (3, vR 1 0), (6, vS B_1 xs.length d_1), (7, vR 2 0), (8, vR 3 0), (9, vS B_2 xs.length d_2), (49, vB false)] [LB.mk [cS Ahpages h.pages.length chpages] 24, LB.mk [cI key.kind, cI key.n, cF bkeyf, cS Akeyt key.t.length ckeyt] 46, LB.mk [cS Aopages_2 h.pages.length copages_2] 30, LB.mk [cI key.kind, cI key.n, cF bof_2, cS Aot_2 key.t.length cot_2] 49] ?_
 refine ltk 49 false ?_
 refine gn 4 (Rg.sq (bitL 15 16383) 2) [kCd (bitL 15 32767)] [(2, vR 0 0), (3, vR 1 0), (6, vS B_1 xs.length d_1), (8, vR 3 0), (9, vS B_2 xs.length d_2), (50, SV.agg [cS Aopages_2 h.pages.length copages_2]), (51, vI 1)] [LB.mk [cS Ahpages h.pages.length chpages] 24, LB.mk [cI key.kind, cI key.n, cF bkeyf, cS Akeyt key.t.length ckeyt] 46, LB.mk [cS Aopages_2 h.pages.length copages_2] 30, LB.mk [cI key.kind, cI key.n, cF bof_2, cS Aot_2 key.t.length cot_2] 49] ?_
 refine h_bring 4 rfl ?_
 refine call_mut (A := [rowA 58 kPg h.pages (.slice Aopages_2 h.pages.length copages_2)]) (by kernel_rfl : atC _ _ _ false = some (12, [SV.agg [cS Aopages_2 h.pages.length copages_2], vI 1], some 52, Rg.sq (bitL 15 16383) 3)) (by kernel_rfl) (fun L w1 S1 hs hA hS1 => (markHeap_ok h _ _ 1 w1 S1 hA hS1 hpl (by omega) hsl3 (by omega)).mono ?_)
 rintro e w2 ⟨rfl, hm⟩
 refine ⟨.one (.v (.int .i64 _)), _, rfl, hm, ?_⟩
 clear hm hs hA hS1
 refine gn 2 (Rg.sq (bitL 16 32767) 2) [kCd (bitL 16 65535)] [(2, vR 0 0), (3, vR 1 0), (6, vS B_1 xs.length d_1), (9, vS B_2 xs.length d_2), (53, SV.agg [cI key.kind, cI key.n, cF bof_2, cS Aot_2 key.t.length cot_2]), (54, vI (1 + (↑(nPs h.pages) : Int)))] [LB.mk [cS Ahpages h.pages.length chpages] 24, LB.mk [cI key.kind, cI key.n, cF bkeyf, cS Akeyt key.t.length ckeyt] 46] ?_
 refine h_bring 4 rfl ?_
 refine call_mut (A := [rowA 5 kU8 key.t (.slice Aot_2 key.t.length cot_2)]) (by kernel_rfl : atC _ _ _ false = some (25, [SV.agg [cI key.kind, cI key.n, cF bof_2, cS Aot_2 key.t.length cot_2], vI (1 + (↑(nPs h.pages) : Int))], some 55, Rg.sq (bitL 16 32767) 3)) (by kernel_rfl) (fun L w1 S1 hs hA hS1 => (markItem_ok key _ _ _ _ w1 S1 hA hS1 ‹_› (by omega)).mono ?_)
 rintro e w2 ⟨rfl, hm⟩
 refine ⟨.one (.v (.int .i64 _)), _, rfl, hm, ?_⟩
 clear hm hs hA hS1
 refine gn 2 (Rg.sq (bitL 18 65535) 3) [kCd (bitL 18 196607), kCd (bitL 17 131071)] [(2, vR 0 0), (3, vR 1 0), (6, vS B_1 xs.length d_1), (9, vS B_2 xs.length d_2), (58, vB (decide (1 + (↑(nPs h.pages) : Int) + (↑key.t.length : Int) < 0)))] [LB.mk [cS Ahpages h.pages.length chpages] 24, LB.mk [cI key.kind, cI key.n, cF bkeyf, cS Akeyt key.t.length ckeyt] 46] ?_
 refine spl 58 (decide (1 + (↑(nPs h.pages) : Int) + (↑key.t.length : Int) < 0)) ?_ ?_
 ·intro hb3
  replace hb3 := of_decide_eq_true hb3
  (exfalso; omega)
 intro hb3
 replace hb3 := of_decide_eq_false hb3
 refine gn 2 (Rg.sq (bitL 18 65535) 5) [kCd (bitL 18 196607), kCd (bitL 17 131071)] [(2, vR 0 0), (3, vR 1 0), (6, vS B_1 xs.length d_1), (9, vS B_2 xs.length d_2), (58, vL false), (59, vS B_2 xs.length d_2), (60, vS B_1 xs.length d_1)] [LB.mk [cS Ahpages h.pages.length chpages] 24, LB.mk [cI key.kind, cI key.n, cF bkeyf, cS Akeyt key.t.length ckeyt] 46] ?_
 refine cpk 10 [vS B_2 xs.length d_2, vS B_1 xs.length d_1] (some 61) (Rg.sq (bitL 18 65535) 6) (.one (.bo (true))) (fun L w1 hs => (eqRowS_ok (xs) (Value.slice B_2 xs.length d_2) (Value.slice B_1 xs.length d_1) w1 (hs.rd 3 rfl) (hs.rd 4 rfl) ‹_›)) ?_
 refine gn 2 Rg.no [kCd (bitL 18 196607), kCd (bitL 17 131071)] [(2, vR 0 0), (3, vR 1 0), (6, vS B_1 xs.length d_1), (9, vS B_2 xs.length d_2), (63, vB false)] [LB.mk [cS Ahpages h.pages.length chpages] 24, LB.mk [cI key.kind, cI key.n, cF bkeyf, cS Akeyt key.t.length ckeyt] 46] ?_
 refine ltk 63 false ?_
 refine gn 2 (Rg.sq (bitL 19 262143) 2) [kCd (bitL 19 524287)] [(2, vR 0 0), (3, vR 1 0), (6, vS B_1 xs.length d_1), (9, vS B_2 xs.length d_2), (64, vS B_2 xs.length d_2), (65, vI 1)] [LB.mk [cS Ahpages h.pages.length chpages] 24, LB.mk [cI key.kind, cI key.n, cF bkeyf, cS Akeyt key.t.length ckeyt] 46] ?_
 refine h_bring 3 rfl ?_
 refine call_mut (A := [rowA 64 kRw xs (.slice B_2 xs.length d_2)]) (by kernel_rfl : atC _ _ _ false = some (13, [vS B_2 xs.length d_2, vI 1], some 66, Rg.sq (bitL 19 262143) 3)) (by kernel_rfl) (fun L w1 S1 hs hA hS1 => (markRowS_ok xs _ _ 1 w1 S1 hA hS1 (by omega) (by omega) hxk (by omega)).mono ?_)
 rintro e w2 ⟨rfl, hm⟩
 refine ⟨.one (.v (.int .i64 _)), _, rfl, hm, ?_⟩
 clear hm hs hA hS1
 refine gn 2 (Rg.sq (bitL 21 1048575) 2) [kCd (bitL 21 2097151)] [(2, vR 0 0), (3, vR 1 0), (6, vS B_1 xs.length d_1), (9, vS B_2 xs.length d_2), (11, vI (1 + (↑(nRs xs) : Int))), (67, vS B_2 xs.length d_2), (68, vI 1)] [LB.mk [cS Ahpages h.pages.length chpages] 24, LB.mk [cI key.kind, cI key.n, cF bkeyf, cS Akeyt key.t.length ckeyt] 46] ?_
 refine cpk 14 [vS B_2 xs.length d_2, vI 1] (some 69) (Rg.sq (bitL 21 1048575) 3) (.one (.v (.int .i64 (1 + nRs xs)))) (fun L w1 hs => by
  have h9 := heldRowS_ok (mkRs xs 1) (.slice B_2 xs.length d_2) 1 w1 (hs.rd 0 rfl) (mkRs_idem _ _).symm (by rw [mkRs_len]; omega) (by rw [mkRs_n]; omega) (mkRs_sl _ _ hxk) (by omega)
  rw [mkRs_n] at h9
  exact h9) ?_
 refine gn 2 Rg.no [kCd (bitL 23 6291455), kCd (bitL 22 4194303)] [(2, vR 0 0), (3, vR 1 0), (6, vS B_1 xs.length d_1), (9, vS B_2 xs.length d_2), (11, vI (1 + (↑(nRs xs) : Int))), (12, vI (1 + (↑(nRs xs) : Int))), (71, vB (decide (1 + (↑(nRs xs) : Int) < 0)))] [LB.mk [cS Ahpages h.pages.length chpages] 24, LB.mk [cI key.kind, cI key.n, cF bkeyf, cS Akeyt key.t.length ckeyt] 46] ?_
 refine spl 71 (decide (1 + (↑(nRs xs) : Int) < 0)) ?_ ?_
 ·intro hb4
  replace hb4 := of_decide_eq_true hb4
  (exfalso; omega)
 intro hb4
 replace hb4 := of_decide_eq_false hb4
 refine gn 2 Rg.no [kCd (bitL 24 12582911), kCd (bitL 23 8388607)] [(2, vR 0 0), (3, vR 1 0), (6, vS B_1 xs.length d_1), (9, vS B_2 xs.length d_2), (11, vI (1 + (↑(nRs xs) : Int))), (74, vB (1 + (↑(nRs xs) : Int) != 1 + (↑(nRs xs) : Int)))] [LB.mk [cS Ahpages h.pages.length chpages] 24, LB.mk [cI key.kind, cI key.n, cF bkeyf, cS Akeyt key.t.length ckeyt] 46] ?_
 refine spl 74 (1 + (↑(nRs xs) : Int) != 1 + (↑(nRs xs) : Int)) ?_ ?_
 ·intro hb5
  replace hb5 := bne_iff_ne.1 hb5
  (exfalso; omega)
 intro hb5
 replace hb5 := bne_eq_false_iff_eq.1 hb5
 refine gn 0 (Rg.dr (bitL 24 8388607) (bitL 6 5) 4 2) [kCd (bitL 24 16777215)] [(6, vS B_1 xs.length d_1), (9, vS B_2 xs.length d_2), (11, vI (1 + (↑(nRs xs) : Int))), (75, SV.agg [cS Ahpages h.pages.length chpages]), (77, SV.agg [cI key.kind, cI key.n, cF bkeyf, cS Akeyt key.t.length ckeyt])] [] ?_
 refine cak 8 [SV.agg [cS Ahpages h.pages.length chpages]] (some 76) (Rg.dr (bitL 24 8388607) (bitL 6 7) 3 10) (fun L w1 hs => (toHeap_ok (h) ([Value.slice Ahpages h.pages.length chpages]) w1 (kHe_mk (rdRow_ext (hs.old 7 rfl) hrhpages)) ‹_›).mono ?_)
 rintro e_ w2_ ⟨Aopages_4, copages_4, rfl, hf_⟩
 refine ⟨.agg [.v (Value.slice Aopages_4 h.pages.length copages_4)], _, _, rfl, fun _ => hf_.1.block, hs.fresh hf_, ?_⟩
 clear hs hf_
 refine gn 0 (Rg.dr (bitL 24 8388607) (bitL 6 7) 3 10) [kCd (bitL 24 16777215)] [(6, vS B_1 xs.length d_1), (9, vS B_2 xs.length d_2), (11, vI (1 + (↑(nRs xs) : Int))), (76, SV.agg [cS Aopages_4 h.pages.length copages_4]), (77, SV.agg [cI key.kind, cI key.n, cF bkeyf, cS Akeyt key.t.length ckeyt])] [] ?_
 refine cak 22 [SV.agg [cI key.kind, cI key.n, cF bkeyf, cS Akeyt key.t.length ckeyt]] (some 78) (Rg.dr (bitL 24 8388607) (bitL 6 15) 2 10) (fun L w1 hs => (toItem_ok (key) ([Value.int IntKind.i64 key.kind, Value.int IntKind.i64 key.n, Value.float FloatKind.f64 bkeyf, Value.slice Akeyt key.t.length ckeyt]) w1 (kIt_mk ‹_› hfkeyf (rdRow_ext (hs.old 8 rfl) hrkeyt)) ‹_›).mono ?_)
 rintro e_ w2_ ⟨bof_4, Aot_4, cot_4, rfl, hf_, hq9, hq10⟩
 refine ⟨.agg [.v (Value.int IntKind.i64 key.kind), .v (Value.int IntKind.i64 key.n), .v (Value.float FloatKind.f64 bof_4), .v (Value.slice Aot_4 key.t.length cot_4)], _, _, rfl, fun _ => hf_.1.block, hs.fresh hf_, ?_⟩
 clear hs hf_
 refine gn 0 (Rg.dr (bitL 24 8388607) (bitL 6 15) 2 10) [kCd (bitL 24 16777215)] [(6, vS B_1 xs.length d_1), (9, vS B_2 xs.length d_2), (11, vI (1 + (↑(nRs xs) : Int))), (76, SV.agg [cS Aopages_4 h.pages.length copages_4]), (78, SV.agg [cI key.kind, cI key.n, cF bof_4, cS Aot_4 key.t.length cot_4])] [] ?_
 refine cak 23 [SV.agg [cS Aopages_4 h.pages.length copages_4], SV.agg [cI key.kind, cI key.n, cF bof_4, cS Aot_4 key.t.length cot_4]] (some 79) (Rg.dr (bitL 24 8388607) (bitL 6 31) 1 10) (fun L w1 hs => (iHVersX_ok (h) ([Value.slice Aopages_4 h.pages.length copages_4]) (key) ([Value.int IntKind.i64 key.kind, Value.int IntKind.i64 key.n, Value.float FloatKind.f64 bof_4, Value.slice Aot_4 key.t.length cot_4]) w1 (xs) (kHe_mk (hs.rd 1 rfl)) (kIt_mk ‹_› hq10 (hs.rd 0 rfl)) ‹_› ‹_› ‹_› ‹_› hxs).mono ?_)
 rintro e_ w2_ ⟨B_3, d_3, rfl, hf_⟩
 refine ⟨.one (.v (Value.slice B_3 xs.length d_3)), _, _, rfl, fun _ => hf_.1.block, hs.fresh hf_, ?_⟩
 clear hs hf_
 refine gn 0 (Rg.sq (bitL 26 16777215) 2) [kCd (bitL 26 50331647), kCd (bitL 25 33554431)] [(9, vS B_2 xs.length d_2), (11, vI (1 + (↑(nRs xs) : Int))), (80, vS B_3 xs.length d_3), (81, vS B_1 xs.length d_1)] [] ?_
 refine cpk 10 [vS B_3 xs.length d_3, vS B_1 xs.length d_1] (some 82) (Rg.sq (bitL 26 16777215) 3) (.one (.bo (true))) (fun L w1 hs => (eqRowS_ok (xs) (Value.slice B_3 xs.length d_3) (Value.slice B_1 xs.length d_1) w1 (hs.rd 0 rfl) (hs.rd 7 rfl) ‹_›)) ?_
 refine gn 0 Rg.no [kCd (bitL 26 50331647), kCd (bitL 25 33554431)] [(9, vS B_2 xs.length d_2), (11, vI (1 + (↑(nRs xs) : Int))), (83, vB false)] [] ?_
 refine ltk 83 false ?_
 refine gn 0 (Rg.sq (bitL 27 67108863) 2) [kCd (bitL 27 134217727)] [(11, vI (1 + (↑(nRs xs) : Int))), (84, vS B_2 xs.length d_2), (85, vI 1)] [] ?_
 refine cpk 14 [vS B_2 xs.length d_2, vI 1] (some 86) (Rg.sq (bitL 27 67108863) 3) (.one (.v (.int .i64 (1 + nRs xs)))) (fun L w1 hs => by
  have h9 := heldRowS_ok (mkRs xs 1) (.slice B_2 xs.length d_2) 1 w1 (hs.rd 3 rfl) (mkRs_idem _ _).symm (by rw [mkRs_len]; omega) (by rw [mkRs_n]; omega) (mkRs_sl _ _ hxk) (by omega)
  rw [mkRs_n] at h9
  exact h9) ?_
 refine gn 0 Rg.no [kCd (bitL 29 402653183), kCd (bitL 28 268435455)] [(11, vI (1 + (↑(nRs xs) : Int))), (12, vI (1 + (↑(nRs xs) : Int))), (88, vB (decide (1 + (↑(nRs xs) : Int) < 0)))] [] ?_
 refine spl 88 (decide (1 + (↑(nRs xs) : Int) < 0)) ?_ ?_
 ·intro hb6
  replace hb6 := of_decide_eq_true hb6
  (exfalso; omega)
 ·intro hb6
  replace hb6 := of_decide_eq_false hb6
  refine gn 0 Rg.no [kCd (bitL 30 805306367), kCd (bitL 29 536870911)] [(91, vB (1 + (↑(nRs xs) : Int) != 1 + (↑(nRs xs) : Int)))] [] ?_
  refine spl 91 (1 + (↑(nRs xs) : Int) != 1 + (↑(nRs xs) : Int)) ?_ ?_
  ·intro hb7
   replace hb7 := bne_iff_ne.1 hb7
   (exfalso; omega)
  ·intro hb7
   replace hb7 := bne_eq_false_iff_eq.1 hb7
   refine gn 0 Rg.no [kCd (bitL 30 1073741823)] [(4, vL true)] [] ?_
   refine rtk [vL true] ?_
   intro L w1 hs
   exact ⟨rfl, (hs.erases [0, 0, 0, 0, 0, 0, 0, 0, 0, 0]).out0⟩
end Go.Proofs.YtgleoebogikooaaGreat.Dk
