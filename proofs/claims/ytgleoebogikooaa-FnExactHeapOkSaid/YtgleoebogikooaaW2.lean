/- Walks of functions of the program: what each call returns and what it leaves in memory. Conditions: those that each theorem names. -/
import Derived.Test.YtgleoebogikooaaW1
namespace Go.Proofs.Ytgleoebogikooaa.Dk
set_option linter.unusedVariables false
set_option linter.unusedSimpArgs false
open Go.Proofs.Ytgleoebogikooaa.Sx Go.Proofs Go.RowKit
set_option maxRecDepth 100000
set_option maxHeartbeats 1000000
theorem byHe_of {h : He} (hz : zHe h ≤ 1048576) (hby : ∀ p ∈ h.pages, ∀ s ∈ p.slots, byOk s) : byHe h := fun p hp => by
  have hzh : zHe h = h.pages.length + (h.pages.map zPg).sum := rfl
  have h1 := z_le zPg h.pages hp
  have h2 : zPg p = p.slots.length + (p.slots.map (fun l => l.length)).sum := rfl
  refine ⟨by omega, fun s hs => ⟨hby p hp s hs, ?_⟩⟩
  have h3 := z_le (fun l : List Int => l.length) p.slots hs
  omega
theorem lawHeapOk_ok (h : He) (csh : List Value) (w : World) (hh : kHe.rd w.heap h csh) (hw : wHe h) (hby : ∀ p ∈ h.pages, ∀ s ∈ p.slots, byOk s) :
    Calls Try.prog 8 #[.agg csh.toArray] w fun e w' => e = .returned (.bool true) ∧ Below w.heap.size w w' := by
  obtain ⟨Ahpages, chpages, rfl, hrhpages⟩ := kHe_inv hh
  refine enter (args := [.agg [.v (.slice Ahpages h.pages.length chpages)]]) Try.func8 (c := bodyOf Try.f8) rfl rfl (start_LOK _) (start_old w) ?_
  skip
  refine go mixed 2000 [1, 7, 8] 1 (St.mk (Rg.sq (bitL 3 3) 2) [kCd (bitL 3 7)] [(1, vR 0 0), (7, SV.agg [cS Ahpages h.pages.length chpages]), (8, vI 1048576)] [LB.mk [cS Ahpages h.pages.length chpages] 57]) (by kernel_rfl) (by kernel_rfl) (by kernel_rfl) ?_
  refine call_at true (by kernel_rfl : atC _ _ _ true = some (36, [SV.agg [cS Ahpages h.pages.length chpages], vI 1048576], some 9, Rg.sq (bitL 3 3) 3)) (by kernel_rfl) (fun L w1 hs => (Go.Proofs.Ytgleoebogikooaa.Dk.szHeap_ok (h) ([Value.slice Ahpages h.pages.length chpages]) (1048576) w1 (Go.Proofs.Ytgleoebogikooaa.Dk.kHe_mk (rdRow_ext (hs.old 0 rfl) hrhpages)) (by omega) (by omega) (by assumption)).mono ?_)
  rintro e_ w2_ ⟨r_1, rfl, hf_, hq1⟩
  refine ⟨.one (.v (Value.int IntKind.i64 r_1)), _, _, rfl, fun _ => hf_.block, hs.below hf_, ?_⟩
  clear hs hf_
  refine go mixed 2000 [1, 11] 1 (St.mk Rg.no [kCd (bitL 5 23), kCd (bitL 4 15)] [(1, vR 0 0), (11, vB (decide (r_1 < 0)))] [LB.mk [cS Ahpages h.pages.length chpages] 57]) (by kernel_rfl) (by kernel_rfl) (by kernel_rfl) ?_
  skip
  by_cases hneg : r_1 < 0
  · refine go mixed 2000 [1, 11] 1 (St.mk Rg.no [kCd (bitL 5 23), kCd (bitL 4 15)] [(1, vR 0 0), (11, vB (decide (r_1 < 0)))] [LB.mk [cS Ahpages h.pages.length chpages] 57]) (by kernel_rfl) (by kernel_rfl) (by kernel_rfl) ?_
    refine split_at 11 (b := decide (r_1 < 0)) (by kernel_rfl) (by kernel_rfl) ?_ ?_
    · intro hb1
      replace hb1 := of_decide_eq_true hb1
      refine go mixed 2000 [2] 0 (St.mk Rg.no [kCd (bitL 7 87), kCd (bitL 4 15)] [(2, vL true)] []) (by kernel_rfl) (by kernel_rfl) (by kernel_rfl) ?_
      refine ret_ok (vs := [vL true]) (by kernel_rfl) ?_
      intro L w1 hs
      exact ⟨rfl, hs.out0⟩
    · intro hb1
      replace hb1 := of_decide_eq_false hb1
      (exfalso; omega)
  have hzH : zHe h ≤ 1048576 := by omega
  have hzh : zHe h = zRow zPg h.pages := rfl
  have hzh1 : zRow zPg h.pages = h.pages.length + (h.pages.map zPg).sum := rfl
  have hb := byHe_of hzH hby
  have hpl : h.pages.length ≤ 1048576 := by omega
  refine go mixed 2000 [1, 11] 1 (St.mk Rg.no [kCd (bitL 5 23), kCd (bitL 4 15)] [(1, vR 0 0), (11, vB (decide (r_1 < 0)))] [LB.mk [cS Ahpages h.pages.length chpages] 57]) (by kernel_rfl) (by kernel_rfl) (by kernel_rfl) ?_
  refine split_at 11 (b := decide (r_1 < 0)) (by kernel_rfl) (by kernel_rfl) ?_ ?_
  · intro hb1
    replace hb1 := of_decide_eq_true hb1
    (exfalso; omega)
  · intro hb1
    replace hb1 := of_decide_eq_false hb1
    refine go mixed 2000 [1, 12] 1 (St.mk (Rg.sq (bitL 5 15) 1) [kCd (bitL 5 31)] [(1, vR 0 0), (12, SV.agg [cS Ahpages h.pages.length chpages])] [LB.mk [cS Ahpages h.pages.length chpages] 57]) (by kernel_rfl) (by kernel_rfl) (by kernel_rfl) ?_
    refine call_at true (by kernel_rfl : atC _ _ _ true = some (38, [SV.agg [cS Ahpages h.pages.length chpages]], some 13, Rg.sq (bitL 5 15) 2)) (by kernel_rfl) (fun L w1 hs => (Go.Proofs.Ytgleoebogikooaa.Dk.toHeap_ok (h) ([Value.slice Ahpages h.pages.length chpages]) w1 (Go.Proofs.Ytgleoebogikooaa.Dk.kHe_mk (rdRow_ext (hs.old 0 rfl) hrhpages)) (by assumption)).mono ?_)
    rintro e_ w2_ ⟨Aopages_1, copages_1, rfl, hf_⟩
    refine ⟨.agg [.v (Value.slice Aopages_1 h.pages.length copages_1)], _, _, rfl, fun _ => hf_.1.block, hs.fresh hf_, ?_⟩
    clear hs hf_
    refine go mixed 2000 [1, 13] 1 (St.mk (Rg.sq (bitL 5 15) 2) [kCd (bitL 5 31)] [(1, vR 0 0), (13, SV.agg [cS Aopages_1 h.pages.length copages_1])] [LB.mk [cS Ahpages h.pages.length chpages] 57]) (by kernel_rfl) (by kernel_rfl) (by kernel_rfl) ?_
    refine call_pure true (by kernel_rfl : atC _ _ _ true = some (37, [SV.agg [cS Aopages_1 h.pages.length copages_1]], some 14, Rg.sq (bitL 5 15) 3)) (by kernel_rfl) (.one (.bo (heapOk h))) (fun L w1 hs => (Go.Proofs.Ytgleoebogikooaa.Dk.sHeapOk_ok (h) ([Value.slice Aopages_1 h.pages.length copages_1]) w1 (Go.Proofs.Ytgleoebogikooaa.Dk.kHe_mk (hs.rd 0 rfl)) (by assumption) (by assumption))) ?_
    refine go mixed 2000 [1, 4, 15] 1 (St.mk (Rg.sq (bitL 6 31) 1) [kCd (bitL 6 63)] [(1, vR 0 0), (4, vB (heapOk h)), (15, SV.agg [cS Ahpages h.pages.length chpages])] [LB.mk [cS Ahpages h.pages.length chpages] 57]) (by kernel_rfl) (by kernel_rfl) (by kernel_rfl) ?_
    refine call_at true (by kernel_rfl : atC _ _ _ true = some (38, [SV.agg [cS Ahpages h.pages.length chpages]], some 16, Rg.sq (bitL 6 31) 2)) (by kernel_rfl) (fun L w1 hs => (Go.Proofs.Ytgleoebogikooaa.Dk.toHeap_ok (h) ([Value.slice Ahpages h.pages.length chpages]) w1 (Go.Proofs.Ytgleoebogikooaa.Dk.kHe_mk (rdRow_ext (hs.old 1 rfl) hrhpages)) (by assumption)).mono ?_)
    rintro e_ w2_ ⟨Aopages_2, copages_2, rfl, hf_⟩
    refine ⟨.agg [.v (Value.slice Aopages_2 h.pages.length copages_2)], _, _, rfl, fun _ => hf_.1.block, hs.fresh hf_, ?_⟩
    clear hs hf_
    refine go mixed 2000 [1, 4, 5, 17] 2 (St.mk (Rg.sq (bitL 7 63) 1) [kCd (bitL 7 127)] [(1, vR 0 0), (4, vB (heapOk h)), (5, vR 1 0), (17, SV.agg [cS Aopages_2 h.pages.length copages_2])] [LB.mk [cS Ahpages h.pages.length chpages] 57, LB.mk [cS Aopages_2 h.pages.length copages_2] 62]) (by kernel_rfl) (by kernel_rfl) (by kernel_rfl) ?_
    refine call_pure true (by kernel_rfl : atC _ _ _ true = some (39, [SV.agg [cS Aopages_2 h.pages.length copages_2]], some 18, Rg.sq (bitL 7 63) 2)) (by kernel_rfl) (.one (.bo (heapOk h))) (fun L w1 hs => (Go.Proofs.Ytgleoebogikooaa.Dk.iHeapOk_ok (h) ([Value.slice Aopages_2 h.pages.length copages_2]) w1 (Go.Proofs.Ytgleoebogikooaa.Dk.kHe_mk (hs.rd 0 rfl)) (by assumption) (by assumption))) ?_
    refine go mixed 2000 [1, 5, 21] 2 (St.mk Rg.no [kCd (bitL 9 383), kCd (bitL 8 255)] [(1, vR 0 0), (5, vR 1 0), (21, vB !heapOk h == heapOk h)] [LB.mk [cS Ahpages h.pages.length chpages] 57, LB.mk [cS Aopages_2 h.pages.length copages_2] 62]) (by kernel_rfl) (by kernel_rfl) (by kernel_rfl) ?_
    refine split_at 21 (b := !heapOk h == heapOk h) (by kernel_rfl) (by kernel_rfl) ?_ ?_
    · intro hb2
      try simp only [decide_eq_true_eq, decide_eq_false_iff_not, Bool.not_eq_true', Bool.not_eq_false', Bool.and_eq_true, Bool.or_eq_true, Bool.and_eq_false_imp, bne_iff_ne, beq_iff_eq, bne_eq_false_iff_eq, beq_eq_false_iff_ne, ne_eq, Decidable.not_not, Int.not_le, Int.not_lt, Nat.not_le, Nat.not_lt] at hb2
      refine go mixed 2000 [2] 0 (St.mk Rg.no [kCd (bitL 11 1407), kCd (bitL 8 255)] [(2, vL false)] []) (by kernel_rfl) (by kernel_rfl) (by kernel_rfl) ?_
      (exfalso; simp_all)
    · intro hb2
      try simp only [decide_eq_true_eq, decide_eq_false_iff_not, Bool.not_eq_true', Bool.not_eq_false', Bool.and_eq_true, Bool.or_eq_true, Bool.and_eq_false_imp, bne_iff_ne, beq_iff_eq, bne_eq_false_iff_eq, beq_eq_false_iff_ne, ne_eq, Decidable.not_not, Int.not_le, Int.not_lt, Nat.not_le, Nat.not_lt] at hb2
      refine go mixed 2000 [22, 23] 0 (St.mk (Rg.dr (bitL 10 255) (bitL 5 3) 3 2) [kCd (bitL 10 767), kCd (bitL 9 511)] [(22, SV.agg [cS Aopages_2 h.pages.length copages_2]), (23, SV.agg [cS Ahpages h.pages.length chpages])] []) (by kernel_rfl) (by kernel_rfl) (by kernel_rfl) ?_
      refine call_at true (by kernel_rfl : atC _ _ _ true = some (38, [SV.agg [cS Ahpages h.pages.length chpages]], some 24, Rg.dr (bitL 10 255) (bitL 5 7) 2 10)) (by kernel_rfl) (fun L w1 hs => (Go.Proofs.Ytgleoebogikooaa.Dk.toHeap_ok (h) ([Value.slice Ahpages h.pages.length chpages]) w1 (Go.Proofs.Ytgleoebogikooaa.Dk.kHe_mk (rdRow_ext (hs.old 2 rfl) hrhpages)) (by assumption)).mono ?_)
      rintro e_ w2_ ⟨Aopages_3, copages_3, rfl, hf_⟩
      refine ⟨.agg [.v (Value.slice Aopages_3 h.pages.length copages_3)], _, _, rfl, fun _ => hf_.1.block, hs.fresh hf_, ?_⟩
      clear hs hf_
      refine go mixed 2000 [22, 24] 0 (St.mk (Rg.dr (bitL 10 255) (bitL 5 7) 2 10) [kCd (bitL 10 767), kCd (bitL 9 511)] [(22, SV.agg [cS Aopages_2 h.pages.length copages_2]), (24, SV.agg [cS Aopages_3 h.pages.length copages_3])] []) (by kernel_rfl) (by kernel_rfl) (by kernel_rfl) ?_
      refine call_pure true (by kernel_rfl : atC _ _ _ true = some (40, [SV.agg [cS Aopages_2 h.pages.length copages_2], SV.agg [cS Aopages_3 h.pages.length copages_3]], some 25, Rg.dr (bitL 10 255) (bitL 5 15) 1 10)) (by kernel_rfl) (.one (.bo (true))) (fun L w1 hs => (Go.Proofs.Ytgleoebogikooaa.Dk.eqHeap_ok (h) ([Value.slice Aopages_2 h.pages.length copages_2]) ([Value.slice Aopages_3 h.pages.length copages_3]) w1 (Go.Proofs.Ytgleoebogikooaa.Dk.kHe_mk (hs.rd 1 rfl)) (Go.Proofs.Ytgleoebogikooaa.Dk.kHe_mk (hs.rd 0 rfl)) (by assumption))) ?_
      refine go mixed 2000 [26] 0 (St.mk Rg.no [kCd (bitL 10 767), kCd (bitL 9 511)] [(26, vB false)] []) (by kernel_rfl) (by kernel_rfl) (by kernel_rfl) ?_
      refine lit_at 26 (b := false) (by kernel_rfl) ?_
      refine go mixed 2000 [2] 0 (St.mk Rg.no [kCd (bitL 10 1023)] [(2, vL true)] []) (by kernel_rfl) (by kernel_rfl) (by kernel_rfl) ?_
      refine ret_ok (vs := [vL true]) (by kernel_rfl) ?_
      intro L w1 hs
      exact ⟨rfl, (hs.erases [0, 0, 0]).out0⟩

end Go.Proofs.Ytgleoebogikooaa.Dk
