/- Walks of functions of the program: what each call returns and what it leaves in memory. Conditions: those that each theorem names. -/
import Derived.Test.YtgleoebogikooaaGreatT8
namespace Go.Proofs.YtgleoebogikooaaGreat.Dk
set_option linter.unusedVariables false
set_option linter.unusedSimpArgs false
open Go.Proofs.YtgleoebogikooaaGreat.Sx Go.Proofs Go.RowKit
set_option maxRecDepth 100000
set_option maxHeartbeats 1000000
theorem byHe_of {h : He} (hz : zHe h ≤ 1048576) (hby : ∀ p ∈ h.pages, ∀ s ∈ p.slots, byOk s) : byHe h := fun p hp => by
  have hzh : zHe h = h.pages.length + (h.pages.map zPg).sum := rfl
  have h1 := z_le zPg h.pages hp
  have h2 : zPg p = p.slots.length + (p.slots.map (fun l => l.length)).sum := rfl
  refine ⟨by omega, fun s hs => ⟨hby p hp s hs, ?_⟩⟩
  have h3 := z_le (fun l : List Int => l.length) p.slots hs
  omega
theorem tupR_small {b : List Int} {x : Tu} (h : tupR b = some x) : x.key.t.length ≤ 40 ∧ x.value.t.length ≤ 40 := by
  unfold tupR at h
  split at h
  · split at h
    · split at h
      · rename_i hc
        obtain rfl := Option.some.inj h
        obtain ⟨_, _, _, _, h5, h6⟩ := tupOk_parts hc.1
        exact ⟨(itemOk_kind (keyOk_ok h5)).2.2, (itemOk_kind (valOk_ok h6)).2.2⟩
      · cases h
    · cases h
  · cases h
theorem rowsP_mem (i : Nat) : ∀ (l : List (List Int)) (k : Nat) (r : Rw), r ∈ rowsP i l k → ∃ s ∈ l, tupR s = some r.tuple
  | [], _, r, h => by cases h
  | s :: l, k, r, h => by
    simp only [rowsP, List.mem_append] at h
    rcases h with h | h
    · unfold oneR at h
      split at h
      · rename_i x hx
        rw [List.mem_singleton.1 h]
        exact ⟨s, List.mem_cons_self, hx⟩
      · cases h
    · obtain ⟨s', h1, h2⟩ := rowsP_mem i l (k + 1) r h
      exact ⟨s', List.mem_cons_of_mem _ h1, h2⟩
theorem rowsH_mem : ∀ (l : List Pg) (k : Nat) (r : Rw), r ∈ rowsH l k → ∃ p ∈ l, ∃ s ∈ p.slots, tupR s = some r.tuple
  | [], _, r, h => by cases h
  | p :: l, k, r, h => by
    simp only [rowsH, List.mem_append] at h
    rcases h with h | h
    · obtain ⟨s, h1, h2⟩ := rowsP_mem k p.slots 0 r h
      exact ⟨p, List.mem_cons_self, s, h1, h2⟩
    · obtain ⟨p', h1, h2⟩ := rowsH_mem l (k + 1) r h
      exact ⟨p', List.mem_cons_of_mem _ h1, h2⟩
theorem rowsH_le {n : Nat} : ∀ (l : List Pg) (k : Nat), (∀ p ∈ l, p.slots.length ≤ n) → (rowsH l k).length ≤ n * l.length
  | [], _, _ => Nat.zero_le _
  | p :: l, k, h => by
    have h1 := rowsH_le l (k + 1) (fun q hq => h q (List.mem_cons_of_mem _ hq))
    have h2 := rowsP_len k p.slots 0
    have h3 := h p List.mem_cons_self
    simp only [rowsH, List.length_append, List.length_cons, Nat.mul_add, Nat.mul_one]
    omega
theorem pgU_slots {p : Pg} (h : 0 ≤ pgU p) : p.slots.length ≤ 16 := by
  unfold pgU at h
  split at h
  · rename_i hc; exact hc.2.1
  · omega
theorem heapOk_bnd {h : He} (ho : heapOk h = true) : h.pages.length ≤ 16 ∧ ∀ p ∈ h.pages, p.slots.length ≤ 16 := by
  unfold heapOk at ho
  simp only [Bool.and_eq_true, List.all_eq_true, decide_eq_true_eq] at ho
  refine ⟨ho.1, fun p hp => pgU_slots ?_⟩
  have h1 := ho.2 p hp
  unfold pgGood at h1
  simp only [Bool.and_eq_true, decide_eq_true_eq] at h1
  exact h1.1
theorem rowsR_len (h : He) : (rowsR h).length ≤ 256 := by
  unfold rowsR
  split
  · rename_i ho
    obtain ⟨h1, h2⟩ := heapOk_bnd ho
    have h3 := rowsH_le h.pages 0 h2
    omega
  · exact Nat.zero_le _
theorem rowsR_sl (h : He) : ∀ r ∈ rowsR h, r.tuple.key.t.length ≤ 40 ∧ r.tuple.value.t.length ≤ 40 := fun r hr => by
  unfold rowsR at hr
  split at hr
  · obtain ⟨p, _, s, _, hs⟩ := rowsH_mem _ _ _ hr
    exact tupR_small hs
  · cases hr
theorem zRow_rows : ∀ (xs : List Rw), (∀ r ∈ xs, r.tuple.key.t.length ≤ 40 ∧ r.tuple.value.t.length ≤ 40) → (xs.map zRw).sum ≤ 80 * xs.length
  | [], _ => Nat.zero_le _
  | x :: r, h => by
    have h1 := zRow_rows r (fun q hq => h q (List.mem_cons_of_mem _ hq))
    obtain ⟨h2, h3⟩ := h x List.mem_cons_self
    have h4 : zRw x = x.tuple.key.t.length + x.tuple.value.t.length := rfl
    simp only [List.map_cons, List.sum_cons, List.length_cons, Nat.mul_add, Nat.mul_one]
    omega
theorem heap_sl {h : He} (hz : zHe h ≤ 1048576) : ∀ p ∈ h.pages, p.slots.length ≤ 1048576 ∧ lenSum p.slots ≤ 1048576 ∧ ∀ y ∈ p.slots, y.length ≤ 1048576 := fun p hp => by
  have h0 : zHe h = h.pages.length + (h.pages.map zPg).sum := rfl
  have h1 := z_le zPg h.pages hp
  have h2 : zPg p = p.slots.length + (p.slots.map (fun l => l.length)).sum := rfl
  have h3 := lenSum_eq p.slots
  refine ⟨by omega, by omega, fun y hy => ?_⟩
  have h4 := z_le (fun l : List Int => l.length) p.slots hy
  omega
theorem iHRowsX_ok (h : He) (csh : List Value) (w : World) (xs : List Rw) (hh : kHe.rd w.heap h csh) (hz : zHe h ≤ 1048576) (hb : byHe h) (hxs : rowsR h = xs) :
    Calls Tryz.prog 9 #[.agg csh.toArray] w fun e w' => ∃ (B : Option Addr) (d : Nat), e = .returned (.slice B xs.length d) ∧ Fresh w w' [rowA 64 kRw xs (.slice B xs.length d)] := by
  subst hxs
  exact iHRows_ok h csh w hh hz hb
theorem sHRowsX_ok (h : He) (csh : List Value) (w : World) (xs : List Rw) (hh : kHe.rd w.heap h csh) (hz : zHe h ≤ 1048576) (hb : byHe h) (hxs : rowsR h = xs) :
    Calls Tryz.prog 7 #[.agg csh.toArray] w fun e w' => ∃ (B : Option Addr) (d : Nat), e = .returned (.slice B xs.length d) ∧ Fresh w w' [rowA 64 kRw xs (.slice B xs.length d)] := by
  subst hxs
  exact sRows_ok h csh w hh hz hb
theorem lawHeapRows_ok (h : He) (csh : List Value) (w : World) (hh : kHe.rd w.heap h csh) (hw : wHe h) (hby : ∀ p ∈ h.pages, ∀ s ∈ p.slots, byOk s) :
    Calls Tryz.prog 3 #[.agg csh.toArray] w fun e w' => e = .returned (.bool true) ∧ Below w.heap.size w w' := by
  obtain ⟨Ahpages, chpages, rfl, hrhpages⟩ := kHe_inv hh
  refine enter (args := [.agg [.v (.slice Ahpages h.pages.length chpages)]]) Tryz.func3 (c := bodyOf Tryz.f3) rfl rfl (start_LOK _) (start_old w) ?_
  skip
  refine gn 1 (Rg.sq (bitL 3 3) 2) [kCd (bitL 3 7)] [(1, vR 0 0), (11, SV.agg [cS Ahpages h.pages.length chpages]), (12, vI 1048576)] [LB.mk [cS Ahpages h.pages.length chpages] 24] ?_
  refine call_at true (by kernel_rfl : atC _ _ _ true = some (6, [SV.agg [cS Ahpages h.pages.length chpages], vI 1048576], some 13, Rg.sq (bitL 3 3) 3)) (by kernel_rfl) (fun L w1 hs => (szHeap_ok (h) ([Value.slice Ahpages h.pages.length chpages]) (1048576) w1 (kHe_mk (rdRow_ext (hs.old 0 rfl) hrhpages)) (by omega) (by omega) (by assumption)).mono ?_)
  rintro e_ w2_ ⟨r_1, rfl, hf_, hq1⟩
  refine ⟨.one (.v (Value.int IntKind.i64 r_1)), _, _, rfl, fun _ => hf_.block, hs.below hf_, ?_⟩
  clear hs hf_
  refine gn 1 Rg.no [kCd (bitL 5 23), kCd (bitL 4 15)] [(1, vR 0 0), (15, vB (decide (r_1 < 0)))] [LB.mk [cS Ahpages h.pages.length chpages] 24] ?_
  skip
  by_cases hneg : r_1 < 0
  · refine gn 1 Rg.no [kCd (bitL 5 23), kCd (bitL 4 15)] [(1, vR 0 0), (15, vB (decide (r_1 < 0)))] [LB.mk [cS Ahpages h.pages.length chpages] 24] ?_
    refine spl 15 (decide (r_1 < 0)) ?_ ?_
    · intro hb1
      replace hb1 := of_decide_eq_true hb1
      refine gn 0 Rg.no [kCd (bitL 7 87), kCd (bitL 4 15)] [(2, vL true)] [] ?_
      refine rtk [vL true] ?_
      intro L w1 hs
      exact ⟨rfl, hs.out0⟩
    · intro hb1
      replace hb1 := of_decide_eq_false hb1
      (exfalso; omega)
  have hzH : zHe h ≤ 1048576 := by omega
  have hzh : zHe h = zRow zPg h.pages := rfl
  have hzh1 : zRow zPg h.pages = h.pages.length + (h.pages.map zPg).sum := rfl
  have hb := byHe_of hzH hby
  have hpl : h.pages.length ≤ 1048576 := by omega
  obtain ⟨xs, hxs⟩ : ∃ xs, rowsR h = xs := ⟨_, rfl⟩
  have hxl : xs.length ≤ 256 := by rw [← hxs]; exact rowsR_len h
  have hxk : ∀ r ∈ xs, r.tuple.key.t.length ≤ 40 ∧ r.tuple.value.t.length ≤ 40 := by rw [← hxs]; exact rowsR_sl h
  have hxz := zRow_rows xs hxk
  have hxz1 : zRow zRw xs = xs.length + (xs.map zRw).sum := rfl
  have hxz2 : zRow zRw xs ≤ 1048576 := by omega
  have hxn := nRs_z xs
  have hnz := nPs_z h.pages
  have hsl3 := heap_sl hzH
  refine gn 1 Rg.no [kCd (bitL 5 23), kCd (bitL 4 15)] [(1, vR 0 0), (15, vB (decide (r_1 < 0)))] [LB.mk [cS Ahpages h.pages.length chpages] 24] ?_
  refine spl 15 (decide (r_1 < 0)) ?_ ?_
  · intro hb1
    replace hb1 := of_decide_eq_true hb1
    (exfalso; omega)
  intro hb1
  replace hb1 := of_decide_eq_false hb1
  refine gn 1 (Rg.sq (bitL 5 15) 1) [kCd (bitL 5 31)] [(1, vR 0 0), (16, SV.agg [cS Ahpages h.pages.length chpages])] [LB.mk [cS Ahpages h.pages.length chpages] 24] ?_
  refine call_at true (by kernel_rfl : atC _ _ _ true = some (8, [SV.agg [cS Ahpages h.pages.length chpages]], some 17, Rg.sq (bitL 5 15) 2)) (by kernel_rfl) (fun L w1 hs => (toHeap_ok (h) ([Value.slice Ahpages h.pages.length chpages]) w1 (kHe_mk (rdRow_ext (hs.old 0 rfl) hrhpages)) (by assumption)).mono ?_)
  rintro e_ w2_ ⟨Aopages_1, copages_1, rfl, hf_⟩
  refine ⟨.agg [.v (Value.slice Aopages_1 h.pages.length copages_1)], _, _, rfl, fun _ => hf_.1.block, hs.fresh hf_, ?_⟩
  clear hs hf_
  refine gn 1 (Rg.sq (bitL 5 15) 2) [kCd (bitL 5 31)] [(1, vR 0 0), (17, SV.agg [cS Aopages_1 h.pages.length copages_1])] [LB.mk [cS Ahpages h.pages.length chpages] 24] ?_
  refine call_at true (by kernel_rfl : atC _ _ _ true = some (7, [SV.agg [cS Aopages_1 h.pages.length copages_1]], some 18, Rg.sq (bitL 5 15) 3)) (by kernel_rfl) (fun L w1 hs => (sHRowsX_ok (h) ([Value.slice Aopages_1 h.pages.length copages_1]) w1 (xs) (kHe_mk (hs.rd 0 rfl)) (by assumption) (by assumption) hxs).mono ?_)
  rintro e_ w2_ ⟨B_1, d_1, rfl, hf_⟩
  refine ⟨.one (.v (Value.slice B_1 xs.length d_1)), _, _, rfl, fun _ => hf_.1.block, hs.fresh hf_, ?_⟩
  clear hs hf_
  refine gn 1 (Rg.sq (bitL 6 31) 1) [kCd (bitL 6 63)] [(1, vR 0 0), (4, vS B_1 xs.length d_1), (19, SV.agg [cS Ahpages h.pages.length chpages])] [LB.mk [cS Ahpages h.pages.length chpages] 24] ?_
  refine call_at true (by kernel_rfl : atC _ _ _ true = some (8, [SV.agg [cS Ahpages h.pages.length chpages]], some 20, Rg.sq (bitL 6 31) 2)) (by kernel_rfl) (fun L w1 hs => (toHeap_ok (h) ([Value.slice Ahpages h.pages.length chpages]) w1 (kHe_mk (rdRow_ext (hs.old 2 rfl) hrhpages)) (by assumption)).mono ?_)
  rintro e_ w2_ ⟨Aopages_2, copages_2, rfl, hf_⟩
  refine ⟨.agg [.v (Value.slice Aopages_2 h.pages.length copages_2)], _, _, rfl, fun _ => hf_.1.block, hs.fresh hf_, ?_⟩
  clear hs hf_
  refine gn 2 (Rg.sq (bitL 7 63) 1) [kCd (bitL 7 127)] [(1, vR 0 0), (4, vS B_1 xs.length d_1), (5, vR 1 0), (21, SV.agg [cS Aopages_2 h.pages.length copages_2])] [LB.mk [cS Ahpages h.pages.length chpages] 24, LB.mk [cS Aopages_2 h.pages.length copages_2] 30] ?_
  refine call_at true (by kernel_rfl : atC _ _ _ true = some (9, [SV.agg [cS Aopages_2 h.pages.length copages_2]], some 22, Rg.sq (bitL 7 63) 2)) (by kernel_rfl) (fun L w1 hs => (iHRowsX_ok (h) ([Value.slice Aopages_2 h.pages.length copages_2]) w1 (xs) (kHe_mk (hs.rd 0 rfl)) (by assumption) (by assumption) hxs).mono ?_)
  rintro e_ w2_ ⟨B_2, d_2, rfl, hf_⟩
  refine ⟨.one (.v (Value.slice B_2 xs.length d_2)), _, _, rfl, fun _ => hf_.1.block, hs.fresh hf_, ?_⟩
  clear hs hf_
  refine gn 2 (Rg.sq (bitL 9 127) 2) [kCd (bitL 9 383), kCd (bitL 8 255)] [(1, vR 0 0), (4, vS B_1 xs.length d_1), (5, vR 1 0), (6, vS B_2 xs.length d_2), (23, vS B_2 xs.length d_2), (24, vS B_1 xs.length d_1)] [LB.mk [cS Ahpages h.pages.length chpages] 24, LB.mk [cS Aopages_2 h.pages.length copages_2] 30] ?_
  refine call_pure true (by kernel_rfl : atC _ _ _ true = some (10, [vS B_2 xs.length d_2, vS B_1 xs.length d_1], some 25, Rg.sq (bitL 9 127) 3)) (by kernel_rfl) (.one (.bo (true))) (fun L w1 hs => (eqRowS_ok (xs) (Value.slice B_2 xs.length d_2) (Value.slice B_1 xs.length d_1) w1 (hs.rd 0 rfl) (hs.rd 2 rfl) (by assumption))) ?_
  refine gn 2 Rg.no [kCd (bitL 9 383), kCd (bitL 8 255)] [(1, vR 0 0), (4, vS B_1 xs.length d_1), (5, vR 1 0), (6, vS B_2 xs.length d_2), (26, vB false)] [LB.mk [cS Ahpages h.pages.length chpages] 24, LB.mk [cS Aopages_2 h.pages.length copages_2] 30] ?_
  refine ltk 26 false ?_
  refine gn 2 (Rg.dr (bitL 10 255) (bitL 5 3) 3 2) [kCd (bitL 10 767), kCd (bitL 9 511)] [(1, vR 0 0), (4, vS B_1 xs.length d_1), (5, vR 1 0), (6, vS B_2 xs.length d_2), (27, SV.agg [cS Aopages_2 h.pages.length copages_2]), (28, SV.agg [cS Ahpages h.pages.length chpages])] [LB.mk [cS Ahpages h.pages.length chpages] 24, LB.mk [cS Aopages_2 h.pages.length copages_2] 30] ?_
  refine call_at true (by kernel_rfl : atC _ _ _ true = some (8, [SV.agg [cS Ahpages h.pages.length chpages]], some 29, Rg.dr (bitL 10 255) (bitL 5 7) 2 12)) (by kernel_rfl) (fun L w1 hs => (toHeap_ok (h) ([Value.slice Ahpages h.pages.length chpages]) w1 (kHe_mk (rdRow_ext (hs.old 4 rfl) hrhpages)) (by assumption)).mono ?_)
  rintro e_ w2_ ⟨Aopages_3, copages_3, rfl, hf_⟩
  refine ⟨.agg [.v (Value.slice Aopages_3 h.pages.length copages_3)], _, _, rfl, fun _ => hf_.1.block, hs.fresh hf_, ?_⟩
  clear hs hf_
  refine gn 2 (Rg.dr (bitL 10 255) (bitL 5 7) 2 12) [kCd (bitL 10 767), kCd (bitL 9 511)] [(1, vR 0 0), (4, vS B_1 xs.length d_1), (5, vR 1 0), (6, vS B_2 xs.length d_2), (27, SV.agg [cS Aopages_2 h.pages.length copages_2]), (29, SV.agg [cS Aopages_3 h.pages.length copages_3])] [LB.mk [cS Ahpages h.pages.length chpages] 24, LB.mk [cS Aopages_2 h.pages.length copages_2] 30] ?_
  refine call_pure true (by kernel_rfl : atC _ _ _ true = some (11, [SV.agg [cS Aopages_2 h.pages.length copages_2], SV.agg [cS Aopages_3 h.pages.length copages_3]], some 30, Rg.dr (bitL 10 255) (bitL 5 15) 1 12)) (by kernel_rfl) (.one (.bo (true))) (fun L w1 hs => (eqHeap_ok (h) ([Value.slice Aopages_2 h.pages.length copages_2]) ([Value.slice Aopages_3 h.pages.length copages_3]) w1 (kHe_mk (hs.rd 2 rfl)) (kHe_mk (hs.rd 0 rfl)) (by assumption))) ?_
  refine gn 2 Rg.no [kCd (bitL 10 767), kCd (bitL 9 511)] [(1, vR 0 0), (4, vS B_1 xs.length d_1), (5, vR 1 0), (6, vS B_2 xs.length d_2), (31, vB false)] [LB.mk [cS Ahpages h.pages.length chpages] 24, LB.mk [cS Aopages_2 h.pages.length copages_2] 30] ?_
  refine ltk 31 false ?_
  refine gn 1 (Rg.sq (bitL 11 1023) 2) [kCd (bitL 11 2047)] [(1, vR 0 0), (4, vS B_1 xs.length d_1), (6, vS B_2 xs.length d_2), (32, SV.agg [cS Aopages_2 h.pages.length copages_2]), (33, vI 1)] [LB.mk [cS Ahpages h.pages.length chpages] 24] ?_
  refine h_bring 2 rfl ?_
  refine call_mut (A := [rowA 58 kPg h.pages (.slice Aopages_2 h.pages.length copages_2)]) (by kernel_rfl : atC _ _ _ false = some (12, [SV.agg [cS Aopages_2 h.pages.length copages_2], vI 1], some 34, Rg.sq (bitL 11 1023) 3)) (by kernel_rfl) (fun L w1 S1 hs hA hS1 => (markHeap_ok h _ _ 1 w1 S1 hA hS1 hpl (by omega) hsl3 (by omega)).mono ?_)
  rintro e w2 ⟨rfl, hm⟩
  refine ⟨.one (.v (.int .i64 _)), _, rfl, hm, ?_⟩
  clear hm hs hA hS1
  refine gn 1 (Rg.sq (bitL 13 2047) 3) [kCd (bitL 13 6143), kCd (bitL 12 4095)] [(1, vR 0 0), (4, vS B_1 xs.length d_1), (6, vS B_2 xs.length d_2), (37, vB (decide (1 + (↑(nPs h.pages) : Int) < 0)))] [LB.mk [cS Ahpages h.pages.length chpages] 24] ?_
  refine spl 37 (decide (1 + (↑(nPs h.pages) : Int) < 0)) ?_ ?_
  · intro hb2
    replace hb2 := of_decide_eq_true hb2
    (exfalso; omega)
  intro hb2
  replace hb2 := of_decide_eq_false hb2
  refine gn 1 (Rg.sq (bitL 13 2047) 5) [kCd (bitL 13 6143), kCd (bitL 12 4095)] [(1, vR 0 0), (4, vS B_1 xs.length d_1), (6, vS B_2 xs.length d_2), (37, vL false), (38, vS B_2 xs.length d_2), (39, vS B_1 xs.length d_1)] [LB.mk [cS Ahpages h.pages.length chpages] 24] ?_
  refine call_pure true (by kernel_rfl : atC _ _ _ true = some (10, [vS B_2 xs.length d_2, vS B_1 xs.length d_1], some 40, Rg.sq (bitL 13 2047) 6)) (by kernel_rfl) (.one (.bo (true))) (fun L w1 hs => (eqRowS_ok (xs) (Value.slice B_2 xs.length d_2) (Value.slice B_1 xs.length d_1) w1 (hs.rd 2 rfl) (hs.rd 3 rfl) (by assumption))) ?_
  refine gn 1 Rg.no [kCd (bitL 13 6143), kCd (bitL 12 4095)] [(1, vR 0 0), (4, vS B_1 xs.length d_1), (6, vS B_2 xs.length d_2), (42, vB false)] [LB.mk [cS Ahpages h.pages.length chpages] 24] ?_
  refine ltk 42 false ?_
  refine gn 1 (Rg.sq (bitL 14 8191) 2) [kCd (bitL 14 16383)] [(1, vR 0 0), (4, vS B_1 xs.length d_1), (6, vS B_2 xs.length d_2), (43, vS B_2 xs.length d_2), (44, vI 1)] [LB.mk [cS Ahpages h.pages.length chpages] 24] ?_
  refine h_bring 2 rfl ?_
  refine call_mut (A := [rowA 64 kRw xs (.slice B_2 xs.length d_2)]) (by kernel_rfl : atC _ _ _ false = some (13, [vS B_2 xs.length d_2, vI 1], some 45, Rg.sq (bitL 14 8191) 3)) (by kernel_rfl) (fun L w1 S1 hs hA hS1 => (markRowS_ok xs _ _ 1 w1 S1 hA hS1 (by omega) (by omega) hxk (by omega)).mono ?_)
  rintro e w2 ⟨rfl, hm⟩
  refine ⟨.one (.v (.int .i64 _)), _, rfl, hm, ?_⟩
  clear hm hs hA hS1
  refine gn 1 (Rg.sq (bitL 16 32767) 2) [kCd (bitL 16 65535)] [(1, vR 0 0), (4, vS B_1 xs.length d_1), (6, vS B_2 xs.length d_2), (8, vI (1 + (↑(nRs xs) : Int))), (46, vS B_2 xs.length d_2), (47, vI 1)] [LB.mk [cS Ahpages h.pages.length chpages] 24] ?_
  refine call_pure true (by kernel_rfl : atC _ _ _ true = some (14, [vS B_2 xs.length d_2, vI 1], some 48, Rg.sq (bitL 16 32767) 3)) (by kernel_rfl) (.one (.v (.int .i64 (1 + nRs xs)))) (fun L w1 hs => by
    have h9 := heldRowS_ok (mkRs xs 1) (.slice B_2 xs.length d_2) 1 w1 (hs.rd 0 rfl) (mkRs_idem _ _).symm (by rw [mkRs_len]; omega) (by rw [mkRs_n]; omega) (mkRs_sl _ _ hxk) (by omega)
    rw [mkRs_n] at h9
    exact h9) ?_
  refine gn 1 Rg.no [kCd (bitL 18 196607), kCd (bitL 17 131071)] [(1, vR 0 0), (4, vS B_1 xs.length d_1), (6, vS B_2 xs.length d_2), (8, vI (1 + (↑(nRs xs) : Int))), (9, vI (1 + (↑(nRs xs) : Int))), (50, vB (decide (1 + (↑(nRs xs) : Int) < 0)))] [LB.mk [cS Ahpages h.pages.length chpages] 24] ?_
  refine spl 50 (decide (1 + (↑(nRs xs) : Int) < 0)) ?_ ?_
  · intro hb3
    replace hb3 := of_decide_eq_true hb3
    (exfalso; omega)
  intro hb3
  replace hb3 := of_decide_eq_false hb3
  refine gn 1 Rg.no [kCd (bitL 19 393215), kCd (bitL 18 262143)] [(1, vR 0 0), (4, vS B_1 xs.length d_1), (6, vS B_2 xs.length d_2), (8, vI (1 + (↑(nRs xs) : Int))), (53, vB (1 + (↑(nRs xs) : Int) != 1 + (↑(nRs xs) : Int)))] [LB.mk [cS Ahpages h.pages.length chpages] 24] ?_
  refine spl 53 (1 + (↑(nRs xs) : Int) != 1 + (↑(nRs xs) : Int)) ?_ ?_
  · intro hb4
    replace hb4 := bne_iff_ne.1 hb4
    (exfalso; omega)
  intro hb4
  replace hb4 := bne_eq_false_iff_eq.1 hb4
  refine gn 0 (Rg.sq (bitL 19 262143) 1) [kCd (bitL 19 524287)] [(4, vS B_1 xs.length d_1), (6, vS B_2 xs.length d_2), (8, vI (1 + (↑(nRs xs) : Int))), (54, SV.agg [cS Ahpages h.pages.length chpages])] [] ?_
  refine call_at true (by kernel_rfl : atC _ _ _ true = some (8, [SV.agg [cS Ahpages h.pages.length chpages]], some 55, Rg.sq (bitL 19 262143) 2)) (by kernel_rfl) (fun L w1 hs => (toHeap_ok (h) ([Value.slice Ahpages h.pages.length chpages]) w1 (kHe_mk (rdRow_ext (hs.old 5 rfl) hrhpages)) (by assumption)).mono ?_)
  rintro e_ w2_ ⟨Aopages_4, copages_4, rfl, hf_⟩
  refine ⟨.agg [.v (Value.slice Aopages_4 h.pages.length copages_4)], _, _, rfl, fun _ => hf_.1.block, hs.fresh hf_, ?_⟩
  clear hs hf_
  refine gn 0 (Rg.sq (bitL 19 262143) 2) [kCd (bitL 19 524287)] [(4, vS B_1 xs.length d_1), (6, vS B_2 xs.length d_2), (8, vI (1 + (↑(nRs xs) : Int))), (55, SV.agg [cS Aopages_4 h.pages.length copages_4])] [] ?_
  refine call_at true (by kernel_rfl : atC _ _ _ true = some (9, [SV.agg [cS Aopages_4 h.pages.length copages_4]], some 56, Rg.sq (bitL 19 262143) 3)) (by kernel_rfl) (fun L w1 hs => (iHRowsX_ok (h) ([Value.slice Aopages_4 h.pages.length copages_4]) w1 (xs) (kHe_mk (hs.rd 0 rfl)) (by assumption) (by assumption) hxs).mono ?_)
  rintro e_ w2_ ⟨B_3, d_3, rfl, hf_⟩
  refine ⟨.one (.v (Value.slice B_3 xs.length d_3)), _, _, rfl, fun _ => hf_.1.block, hs.fresh hf_, ?_⟩
  clear hs hf_
  refine gn 0 (Rg.sq (bitL 21 524287) 2) [kCd (bitL 21 1572863), kCd (bitL 20 1048575)] [(6, vS B_2 xs.length d_2), (8, vI (1 + (↑(nRs xs) : Int))), (57, vS B_3 xs.length d_3), (58, vS B_1 xs.length d_1)] [] ?_
  refine call_pure true (by kernel_rfl : atC _ _ _ true = some (10, [vS B_3 xs.length d_3, vS B_1 xs.length d_1], some 59, Rg.sq (bitL 21 524287) 3)) (by kernel_rfl) (.one (.bo (true))) (fun L w1 hs => (eqRowS_ok (xs) (Value.slice B_3 xs.length d_3) (Value.slice B_1 xs.length d_1) w1 (hs.rd 0 rfl) (hs.rd 5 rfl) (by assumption))) ?_
  refine gn 0 Rg.no [kCd (bitL 21 1572863), kCd (bitL 20 1048575)] [(6, vS B_2 xs.length d_2), (8, vI (1 + (↑(nRs xs) : Int))), (60, vB false)] [] ?_
  refine ltk 60 false ?_
  refine gn 0 (Rg.sq (bitL 22 2097151) 2) [kCd (bitL 22 4194303)] [(8, vI (1 + (↑(nRs xs) : Int))), (61, vS B_2 xs.length d_2), (62, vI 1)] [] ?_
  refine call_pure true (by kernel_rfl : atC _ _ _ true = some (14, [vS B_2 xs.length d_2, vI 1], some 63, Rg.sq (bitL 22 2097151) 3)) (by kernel_rfl) (.one (.v (.int .i64 (1 + nRs xs)))) (fun L w1 hs => by
    have h9 := heldRowS_ok (mkRs xs 1) (.slice B_2 xs.length d_2) 1 w1 (hs.rd 2 rfl) (mkRs_idem _ _).symm (by rw [mkRs_len]; omega) (by rw [mkRs_n]; omega) (mkRs_sl _ _ hxk) (by omega)
    rw [mkRs_n] at h9
    exact h9) ?_
  refine gn 0 Rg.no [kCd (bitL 24 12582911), kCd (bitL 23 8388607)] [(8, vI (1 + (↑(nRs xs) : Int))), (9, vI (1 + (↑(nRs xs) : Int))), (65, vB (decide (1 + (↑(nRs xs) : Int) < 0)))] [] ?_
  refine spl 65 (decide (1 + (↑(nRs xs) : Int) < 0)) ?_ ?_
  · intro hb5
    replace hb5 := of_decide_eq_true hb5
    (exfalso; omega)
  · intro hb5
    replace hb5 := of_decide_eq_false hb5
    refine gn 0 Rg.no [kCd (bitL 25 25165823), kCd (bitL 24 16777215)] [(68, vB (1 + (↑(nRs xs) : Int) != 1 + (↑(nRs xs) : Int)))] [] ?_
    refine spl 68 (1 + (↑(nRs xs) : Int) != 1 + (↑(nRs xs) : Int)) ?_ ?_
    · intro hb6
      replace hb6 := bne_iff_ne.1 hb6
      (exfalso; omega)
    · intro hb6
      replace hb6 := bne_eq_false_iff_eq.1 hb6
      refine gn 0 Rg.no [kCd (bitL 25 33554431)] [(2, vL true)] [] ?_
      refine rtk [vL true] ?_
      intro L w1 hs
      exact ⟨rfl, (hs.erases [0, 0, 0, 0, 0, 0, 0]).out0⟩

end Go.Proofs.YtgleoebogikooaaGreat.Dk
