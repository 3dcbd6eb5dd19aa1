/- Walks of functions of the program: what each call returns and what it leaves in memory. Conditions: those that each theorem names. -/
import Derived.Test.YtgleoebogikooaaZ5
namespace Go.Proofs.Ytgleoebogikooaa.Dk
set_option linter.unusedVariables false
set_option linter.unusedSimpArgs false
open Go.Proofs.Ytgleoebogikooaa.Sx Go.Proofs Go.RowKit
set_option maxRecDepth 100000
set_option maxHeartbeats 1000000
theorem sum_set_le {α : Type} (z : α → Nat) : ∀ (l : List α) (i : Nat) (q : α) (hi : i < l.length), z q ≤ z l[i] → ((l.set i q).map z).sum ≤ (l.map z).sum
  | [], i, _, hi, _ => absurd hi (Nat.not_lt_zero _)
  | x :: r, 0, q, hi, h => by
    have h : z q ≤ z x := h
    simp only [List.set_cons_zero, List.map_cons, List.sum_cons]; omega
  | x :: r, i + 1, q, hi, h => by
    have h1 := sum_set_le z r i q (Nat.lt_of_succ_lt_succ hi) h
    simp only [List.set_cons_succ, List.map_cons, List.sum_cons]; omega
theorem sum_take_le {α : Type} (z : α → Nat) (l : List α) (n : Nat) : ((l.take n).map z).sum ≤ (l.map z).sum := by
  conv => rhs; rw [← List.take_append_drop n l, List.map_append, List.sum_append]
  omega
theorem zPg_trim {p : Pg} {slot : Nat} {lsn : Int} (hs : slot < p.slots.length) : zPg ⟨lsn, trimE (p.slots.set slot [])⟩ ≤ zPg p := by
  have h0 : zPg p = p.slots.length + (p.slots.map (fun l : List Int => l.length)).sum := rfl
  have h1 : zPg ⟨lsn, trimE (p.slots.set slot [])⟩ = (trimE (p.slots.set slot [])).length + ((trimE (p.slots.set slot [])).map (fun l : List Int => l.length)).sum := rfl
  have h2 := sum_set_le (fun l : List Int => l.length) p.slots slot [] hs (Nat.zero_le _)
  have h3 := sum_take_le (fun l : List Int => l.length) (p.slots.set slot []) (trimN (p.slots.set slot []) (p.slots.set slot []).length)
  have h4 : (trimE (p.slots.set slot [])).length ≤ p.slots.length := by
    unfold trimE
    rw [List.length_take, List.length_set]
    omega
  unfold trimE at h1 h4 ⊢
  omega
theorem zHe_clear {h : He} {page slot lsn : Int} {y : He} (hy : (hpClear h page slot lsn).getD zHe0 = y) : zHe y ≤ zHe h := by
  subst hy
  unfold hpClear
  split
  · cases hg : h.pages[page.toNat]? with
    | none => exact Nat.zero_le _
    | some p =>
      obtain ⟨hp, rfl⟩ := List.getElem?_eq_some_iff.1 hg
      simp only
      unfold pgClear
      split
      · rename_i hc
        have h1 := zPg_trim (p := h.pages[page.toNat]) (lsn := lsn) (slot := slot.toNat) (by omega)
        have h2 := sum_set_le zPg h.pages page.toNat _ hp h1
        have h3 : zHe h = h.pages.length + (h.pages.map zPg).sum := rfl
        have h4 : ∀ l : List Pg, zHe ⟨l⟩ = l.length + (l.map zPg).sum := fun _ => rfl
        simp only [Option.map_some, Option.getD_some]
        rw [h4, h3, List.length_set]
        omega
      · exact Nat.zero_le _
  · exact Nat.zero_le _
theorem mkBB_sl {n : Nat} : ∀ (l : List (List Int)) (k : Int), (∀ y ∈ l, y.length ≤ n) → ∀ y ∈ mkBB l k, y.length ≤ n
  | [], _, _, y, hy => by cases hy
  | x :: r, k, h, y, hy => by
    simp only [mkBB, List.mem_cons] at hy
    rcases hy with rfl | hy
    · rw [mkB_len]; exact h x (List.mem_cons_self)
    · exact mkBB_sl r _ (fun z hz => h z (List.mem_cons_of_mem _ hz)) y hy
theorem mkPs_sl : ∀ (l : List Pg) (k : Int), (∀ p ∈ l, p.slots.length ≤ 1048576 ∧ lenSum p.slots ≤ 1048576 ∧ ∀ y ∈ p.slots, y.length ≤ 1048576) → ∀ p ∈ mkPs l k, p.slots.length ≤ 1048576 ∧ lenSum p.slots ≤ 1048576 ∧ ∀ y ∈ p.slots, y.length ≤ 1048576
  | [], _, _, y, hy => by cases hy
  | x :: r, k, h, y, hy => by
    simp only [mkPs, List.mem_cons] at hy
    rcases hy with rfl | hy
    · obtain ⟨h1, h2, h3⟩ := h x (List.mem_cons_self)
      refine ⟨?_, ?_, ?_⟩
      · show (mkBB x.slots (k + 1)).length ≤ _
        rw [mkBB_len]; exact h1
      · show lenSum (mkBB x.slots (k + 1)) ≤ _
        rw [mkBB_lenSum]; exact h2
      · exact mkBB_sl _ _ h3
    · exact mkPs_sl r _ (fun z hz => h z (List.mem_cons_of_mem _ hz)) y hy
theorem heap_sl {h : He} (hz : zHe h ≤ 1048576) : ∀ p ∈ h.pages, p.slots.length ≤ 1048576 ∧ lenSum p.slots ≤ 1048576 ∧ ∀ y ∈ p.slots, y.length ≤ 1048576 := fun p hp => by
  have h0 : zHe h = h.pages.length + (h.pages.map zPg).sum := rfl
  have h1 := z_le zPg h.pages hp
  have h2 : zPg p = p.slots.length + (p.slots.map (fun l => l.length)).sum := rfl
  have h3 := lenSum_eq p.slots
  refine ⟨by omega, by omega, fun y hy => ?_⟩
  have h4 := z_le (fun l : List Int => l.length) p.slots hy
  omega
theorem iHClearX_ok (h : He) (csh : List Value) (page slot lsn : Int) (w : World) (y : He) (ok : Bool) (hh : kHe.rd w.heap h csh) (hl : h.pages.length ≤ 1048576) (hb : byHe h) (hy : (hpClear h page slot lsn).getD zHe0 = y) (ho : (hpClear h page slot lsn).isSome = ok) :
    Calls Try.prog 50 #[.agg csh.toArray, .int .i64 page, .int .i64 slot, .int .i64 lsn] w fun e w' => ∃ (B : Option Addr) (d : Nat), e = .returned (.tuple #[.agg #[.slice B y.pages.length d], .bool ok]) ∧ Fresh w w' [rowA 115 kPg y.pages (.slice B y.pages.length d)] := by
  subst hy ho
  exact iHClear_ok h csh page slot lsn w hh hl hb
theorem sHClearX_ok (h : He) (csh : List Value) (page slot lsn : Int) (w : World) (y : He) (ok : Bool) (hh : kHe.rd w.heap h csh) (hl : h.pages.length ≤ 1048576) (hb : byHe h) (hy : (hpClear h page slot lsn).getD zHe0 = y) (ho : (hpClear h page slot lsn).isSome = ok) :
    Calls Try.prog 49 #[.agg csh.toArray, .int .i64 page, .int .i64 slot, .int .i64 lsn] w fun e w' => ∃ (B : Option Addr) (d : Nat), e = .returned (.tuple #[.agg #[.slice B y.pages.length d], .bool ok]) ∧ Fresh w w' [rowA 115 kPg y.pages (.slice B y.pages.length d)] := by
  subst hy ho
  exact sHClear_ok h csh page slot lsn w hh hl hb
theorem lawHeapClear_ok (h : He) (csh : List Value) (page : Int) (slot : Int) (lsn : Int) (w : World) (hh : kHe.rd w.heap h csh) (hw : wHe h) (hby : ∀ p ∈ h.pages, ∀ s ∈ p.slots, byOk s) :
    Calls Try.prog 11 #[.agg csh.toArray, .int .i64 page, .int .i64 slot, .int .i64 lsn] w fun e w' => e = .returned (.bool true) ∧ Below w.heap.size w w' := by
  obtain ⟨Ahpages, chpages, rfl, hrhpages⟩ := kHe_inv hh
  refine enter (args := [.agg [.v (.slice Ahpages h.pages.length chpages)], .one (.v (.int .i64 page)), .one (.v (.int .i64 slot)), .one (.v (.int .i64 lsn))]) Try.func11 (c := bodyOf Try.f11) rfl rfl (start_LOK _) (start_old w) ?_
  skip
  refine gm [1, 2, 3, 4, 20, 21] 1 (St.mk (Rg.sq (bitL 3 3) 2) [kCd (bitL 3 7)] [(1, vI page), (2, vI slot), (3, vI lsn), (4, vR 0 0), (20, SV.agg [cS Ahpages h.pages.length chpages]), (21, vI 1048576)] [LB.mk [cS Ahpages h.pages.length chpages] 57]) ?_
  refine call_at true (by kernel_rfl : atC _ _ _ true = some (36, [SV.agg [cS Ahpages h.pages.length chpages], vI 1048576], some 22, Rg.sq (bitL 3 3) 3)) (by kernel_rfl) (fun L w1 hs => (Go.Proofs.Ytgleoebogikooaa.Dk.szHeap_ok (h) ([Value.slice Ahpages h.pages.length chpages]) (1048576) w1 (Go.Proofs.Ytgleoebogikooaa.Dk.kHe_mk (rdRow_ext (hs.old 0 rfl) hrhpages)) (by omega) (by omega) (by assumption)).mono ?_)
  rintro e_ w2_ ⟨r_1, rfl, hf_, hq1⟩
  refine ⟨.one (.v (Value.int IntKind.i64 r_1)), _, _, rfl, fun _ => hf_.block, hs.below hf_, ?_⟩
  clear hs hf_
  refine gm [1, 2, 3, 4, 24] 1 (St.mk Rg.no [kCd (bitL 5 23), kCd (bitL 4 15)] [(1, vI page), (2, vI slot), (3, vI lsn), (4, vR 0 0), (24, vB (decide (r_1 < 0)))] [LB.mk [cS Ahpages h.pages.length chpages] 57]) ?_
  skip
  by_cases hneg : r_1 < 0
  · refine gm [1, 2, 3, 4, 24] 1 (St.mk Rg.no [kCd (bitL 5 23), kCd (bitL 4 15)] [(1, vI page), (2, vI slot), (3, vI lsn), (4, vR 0 0), (24, vB (decide (r_1 < 0)))] [LB.mk [cS Ahpages h.pages.length chpages] 57]) ?_
    refine spl 24 (decide (r_1 < 0)) ?_ ?_
    · intro hb1
      replace hb1 := of_decide_eq_true hb1
      refine gm [8] 0 (St.mk Rg.no [kCd (bitL 7 87), kCd (bitL 4 15)] [(8, vL true)] []) ?_
      refine rtk [vL true] ?_
      intro L w1 hs
      exact ⟨rfl, hs.out0⟩
    · intro hb1
      replace hb1 := of_decide_eq_false hb1
      (exfalso; omega)
  have hzH : zHe h ≤ 1048576 := by omega
  have hzh : zHe h = zRow zPg h.pages := rfl
  have hzh1 : zRow zPg h.pages = h.pages.length + (h.pages.map zPg).sum := rfl
  have hb := byHe_of hzH hby
  have hpl : h.pages.length ≤ 1048576 := by omega
  obtain ⟨y, hy⟩ : ∃ y, (hpClear h page slot lsn).getD zHe0 = y := ⟨_, rfl⟩
  obtain ⟨ok, ho⟩ : ∃ ok, (hpClear h page slot lsn).isSome = ok := ⟨_, rfl⟩
  have nf_1 : (!(ok == ok)) = false := by simp
  have hzy := zHe_clear hy
  have hzyl : zHe y ≤ 1048576 := by omega
  have hzy1 : zHe y = y.pages.length + (y.pages.map zPg).sum := rfl
  have hyl : y.pages.length ≤ 1048576 := by omega
  have hnz := nPs_z h.pages
  have hny := nPs_z y.pages
  have hsl3 := heap_sl hzH
  have hsy3 := heap_sl hzyl
  refine gm [1, 2, 3, 4, 24] 1 (St.mk Rg.no [kCd (bitL 5 23), kCd (bitL 4 15)] [(1, vI page), (2, vI slot), (3, vI lsn), (4, vR 0 0), (24, vB (decide (r_1 < 0)))] [LB.mk [cS Ahpages h.pages.length chpages] 57]) ?_
  refine spl 24 (decide (r_1 < 0)) ?_ ?_
  · intro hb1
    replace hb1 := of_decide_eq_true hb1
    (exfalso; omega)
  intro hb1
  replace hb1 := of_decide_eq_false hb1
  refine gm [1, 2, 3, 4, 26] 1 (St.mk (Rg.sq (bitL 5 15) 1) [kCd (bitL 5 31)] [(1, vI page), (2, vI slot), (3, vI lsn), (4, vR 0 0), (26, SV.agg [cS Ahpages h.pages.length chpages])] [LB.mk [cS Ahpages h.pages.length chpages] 57]) ?_
  refine call_at true (by kernel_rfl : atC _ _ _ true = some (38, [SV.agg [cS Ahpages h.pages.length chpages]], some 27, Rg.sq (bitL 5 15) 2)) (by kernel_rfl) (fun L w1 hs => (Go.Proofs.Ytgleoebogikooaa.Dk.toHeap_ok (h) ([Value.slice Ahpages h.pages.length chpages]) w1 (Go.Proofs.Ytgleoebogikooaa.Dk.kHe_mk (rdRow_ext (hs.old 0 rfl) hrhpages)) (by assumption)).mono ?_)
  rintro e_ w2_ ⟨Aopages_1, copages_1, rfl, hf_⟩
  refine ⟨.agg [.v (Value.slice Aopages_1 h.pages.length copages_1)], _, _, rfl, fun _ => hf_.1.block, hs.fresh hf_, ?_⟩
  clear hs hf_
  refine gm [1, 2, 3, 4, 27, 28, 29, 30] 1 (St.mk (Rg.sq (bitL 5 15) 5) [kCd (bitL 5 31)] [(1, vI page), (2, vI slot), (3, vI lsn), (4, vR 0 0), (27, SV.agg [cS Aopages_1 h.pages.length copages_1]), (28, vI page), (29, vI slot), (30, vI lsn)] [LB.mk [cS Ahpages h.pages.length chpages] 57]) ?_
  refine call_at true (by kernel_rfl : atC _ _ _ true = some (49, [SV.agg [cS Aopages_1 h.pages.length copages_1], vI page, vI slot, vI lsn], some 31, Rg.sq (bitL 5 15) 6)) (by kernel_rfl) (fun L w1 hs => (Go.Proofs.Ytgleoebogikooaa.Dk.sHClearX_ok (h) ([Value.slice Aopages_1 h.pages.length copages_1]) (page) (slot) (lsn) w1 (y) (ok) (Go.Proofs.Ytgleoebogikooaa.Dk.kHe_mk (hs.rd 0 rfl)) (by assumption) (by assumption) hy ho).mono ?_)
  rintro e_ w2_ ⟨B_1, d_1, rfl, hf_⟩
  refine ⟨.one (.v (Value.tuple #[Value.agg #[Value.slice B_1 y.pages.length d_1], Value.bool ok])), _, _, rfl, fun _ => hf_.1.block, hs.fresh hf_, ?_⟩
  clear hs hf_
  refine gm [1, 2, 3, 4, 10, 11, 34] 2 (St.mk (Rg.sq (bitL 6 31) 1) [kCd (bitL 6 63)] [(1, vI page), (2, vI slot), (3, vI lsn), (4, vR 0 0), (10, vR 1 0), (11, vB ok), (34, SV.agg [cS Ahpages h.pages.length chpages])] [LB.mk [cS Ahpages h.pages.length chpages] 57, LB.mk [cS B_1 y.pages.length d_1] 62]) ?_
  refine call_at true (by kernel_rfl : atC _ _ _ true = some (38, [SV.agg [cS Ahpages h.pages.length chpages]], some 35, Rg.sq (bitL 6 31) 2)) (by kernel_rfl) (fun L w1 hs => (Go.Proofs.Ytgleoebogikooaa.Dk.toHeap_ok (h) ([Value.slice Ahpages h.pages.length chpages]) w1 (Go.Proofs.Ytgleoebogikooaa.Dk.kHe_mk (rdRow_ext (hs.old 2 rfl) hrhpages)) (by assumption)).mono ?_)
  rintro e_ w2_ ⟨Aopages_2, copages_2, rfl, hf_⟩
  refine ⟨.agg [.v (Value.slice Aopages_2 h.pages.length copages_2)], _, _, rfl, fun _ => hf_.1.block, hs.fresh hf_, ?_⟩
  clear hs hf_
  refine gm [1, 2, 3, 4, 10, 11, 12, 37, 38, 39, 40] 3 (St.mk (Rg.sq (bitL 7 63) 4) [kCd (bitL 7 127)] [(1, vI page), (2, vI slot), (3, vI lsn), (4, vR 0 0), (10, vR 1 0), (11, vB ok), (12, vR 2 0), (37, SV.agg [cS Aopages_2 h.pages.length copages_2]), (38, vI page), (39, vI slot), (40, vI lsn)] [LB.mk [cS Ahpages h.pages.length chpages] 57, LB.mk [cS B_1 y.pages.length d_1] 62, LB.mk [cS Aopages_2 h.pages.length copages_2] 62]) ?_
  refine call_at true (by kernel_rfl : atC _ _ _ true = some (50, [SV.agg [cS Aopages_2 h.pages.length copages_2], vI page, vI slot, vI lsn], some 41, Rg.sq (bitL 7 63) 5)) (by kernel_rfl) (fun L w1 hs => (Go.Proofs.Ytgleoebogikooaa.Dk.iHClearX_ok (h) ([Value.slice Aopages_2 h.pages.length copages_2]) (page) (slot) (lsn) w1 (y) (ok) (Go.Proofs.Ytgleoebogikooaa.Dk.kHe_mk (hs.rd 0 rfl)) (by assumption) (by assumption) hy ho).mono ?_)
  rintro e_ w2_ ⟨B_2, d_2, rfl, hf_⟩
  refine ⟨.one (.v (Value.tuple #[Value.agg #[Value.slice B_2 y.pages.length d_2], Value.bool ok])), _, _, rfl, fun _ => hf_.1.block, hs.fresh hf_, ?_⟩
  clear hs hf_
  refine gm [1, 2, 3, 4, 10, 11, 12, 13, 14, 44, 45] 4 (St.mk (Rg.sq (bitL 9 127) 2) [kCd (bitL 9 383), kCd (bitL 8 255)] [(1, vI page), (2, vI slot), (3, vI lsn), (4, vR 0 0), (10, vR 1 0), (11, vB ok), (12, vR 2 0), (13, vR 3 0), (14, vB ok), (44, SV.agg [cS B_2 y.pages.length d_2]), (45, SV.agg [cS B_1 y.pages.length d_1])] [LB.mk [cS Ahpages h.pages.length chpages] 57, LB.mk [cS B_1 y.pages.length d_1] 62, LB.mk [cS Aopages_2 h.pages.length copages_2] 62, LB.mk [cS B_2 y.pages.length d_2] 62]) ?_
  refine call_pure true (by kernel_rfl : atC _ _ _ true = some (40, [SV.agg [cS B_2 y.pages.length d_2], SV.agg [cS B_1 y.pages.length d_1]], some 46, Rg.sq (bitL 9 127) 3)) (by kernel_rfl) (.one (.bo (true))) (fun L w1 hs => (Go.Proofs.Ytgleoebogikooaa.Dk.eqHeap_ok (y) ([Value.slice B_2 y.pages.length d_2]) ([Value.slice B_1 y.pages.length d_1]) w1 (Go.Proofs.Ytgleoebogikooaa.Dk.kHe_mk (hs.rd 0 rfl)) (Go.Proofs.Ytgleoebogikooaa.Dk.kHe_mk (hs.rd 2 rfl)) (by assumption))) ?_
  refine gm [1, 2, 3, 4, 10, 11, 12, 13, 14, 48] 4 (St.mk (Rg.sq (bitL 9 127) 5) [kCd (bitL 9 383), kCd (bitL 8 255)] [(1, vI page), (2, vI slot), (3, vI lsn), (4, vR 0 0), (10, vR 1 0), (11, vB ok), (12, vR 2 0), (13, vR 3 0), (14, vB ok), (48, vB false)] [LB.mk [cS Ahpages h.pages.length chpages] 57, LB.mk [cS B_1 y.pages.length d_1] 62, LB.mk [cS Aopages_2 h.pages.length copages_2] 62, LB.mk [cS B_2 y.pages.length d_2] 62]) ?_
  refine ltk 48 false ?_
  refine gm [1, 2, 3, 4, 10, 11, 12, 13, 14, 52] 4 (St.mk Rg.no [kCd (bitL 9 383), kCd (bitL 8 255)] [(1, vI page), (2, vI slot), (3, vI lsn), (4, vR 0 0), (10, vR 1 0), (11, vB ok), (12, vR 2 0), (13, vR 3 0), (14, vB ok), (52, vB !ok == ok)] [LB.mk [cS Ahpages h.pages.length chpages] 57, LB.mk [cS B_1 y.pages.length d_1] 62, LB.mk [cS Aopages_2 h.pages.length copages_2] 62, LB.mk [cS B_2 y.pages.length d_2] 62]) ?_
  try simp only [fl_ne_self, fl_eq_self, fl_eq0, fl_ne0, fl_gt0, fl_lt0, nf_1]
  refine gm [1, 2, 3, 4, 10, 11, 12, 13, 14, 52] 4 (St.mk Rg.no [kCd (bitL 9 383), kCd (bitL 8 255)] [(1, vI page), (2, vI slot), (3, vI lsn), (4, vR 0 0), (10, vR 1 0), (11, vB ok), (12, vR 2 0), (13, vR 3 0), (14, vB ok), (52, vB false)] [LB.mk [cS Ahpages h.pages.length chpages] 57, LB.mk [cS B_1 y.pages.length d_1] 62, LB.mk [cS Aopages_2 h.pages.length copages_2] 62, LB.mk [cS B_2 y.pages.length d_2] 62]) ?_
  refine ltk 52 false ?_
  refine gm [1, 2, 3, 4, 10, 11, 12, 13, 14, 53, 54] 4 (St.mk (Rg.dr (bitL 10 255) (bitL 5 3) 3 2) [kCd (bitL 10 767), kCd (bitL 9 511)] [(1, vI page), (2, vI slot), (3, vI lsn), (4, vR 0 0), (10, vR 1 0), (11, vB ok), (12, vR 2 0), (13, vR 3 0), (14, vB ok), (53, SV.agg [cS Aopages_2 h.pages.length copages_2]), (54, SV.agg [cS Ahpages h.pages.length chpages])] [LB.mk [cS Ahpages h.pages.length chpages] 57, LB.mk [cS B_1 y.pages.length d_1] 62, LB.mk [cS Aopages_2 h.pages.length copages_2] 62, LB.mk [cS B_2 y.pages.length d_2] 62]) ?_
  refine call_at true (by kernel_rfl : atC _ _ _ true = some (38, [SV.agg [cS Ahpages h.pages.length chpages]], some 55, Rg.dr (bitL 10 255) (bitL 5 7) 2 14)) (by kernel_rfl) (fun L w1 hs => (Go.Proofs.Ytgleoebogikooaa.Dk.toHeap_ok (h) ([Value.slice Ahpages h.pages.length chpages]) w1 (Go.Proofs.Ytgleoebogikooaa.Dk.kHe_mk (rdRow_ext (hs.old 4 rfl) hrhpages)) (by assumption)).mono ?_)
  rintro e_ w2_ ⟨Aopages_3, copages_3, rfl, hf_⟩
  refine ⟨.agg [.v (Value.slice Aopages_3 h.pages.length copages_3)], _, _, rfl, fun _ => hf_.1.block, hs.fresh hf_, ?_⟩
  clear hs hf_
  refine gm [1, 2, 3, 4, 10, 11, 12, 13, 14, 53, 55] 4 (St.mk (Rg.dr (bitL 10 255) (bitL 5 7) 2 14) [kCd (bitL 10 767), kCd (bitL 9 511)] [(1, vI page), (2, vI slot), (3, vI lsn), (4, vR 0 0), (10, vR 1 0), (11, vB ok), (12, vR 2 0), (13, vR 3 0), (14, vB ok), (53, SV.agg [cS Aopages_2 h.pages.length copages_2]), (55, SV.agg [cS Aopages_3 h.pages.length copages_3])] [LB.mk [cS Ahpages h.pages.length chpages] 57, LB.mk [cS B_1 y.pages.length d_1] 62, LB.mk [cS Aopages_2 h.pages.length copages_2] 62, LB.mk [cS B_2 y.pages.length d_2] 62]) ?_
  refine call_pure true (by kernel_rfl : atC _ _ _ true = some (40, [SV.agg [cS Aopages_2 h.pages.length copages_2], SV.agg [cS Aopages_3 h.pages.length copages_3]], some 56, Rg.dr (bitL 10 255) (bitL 5 15) 1 14)) (by kernel_rfl) (.one (.bo (true))) (fun L w1 hs => (Go.Proofs.Ytgleoebogikooaa.Dk.eqHeap_ok (h) ([Value.slice Aopages_2 h.pages.length copages_2]) ([Value.slice Aopages_3 h.pages.length copages_3]) w1 (Go.Proofs.Ytgleoebogikooaa.Dk.kHe_mk (hs.rd 2 rfl)) (Go.Proofs.Ytgleoebogikooaa.Dk.kHe_mk (hs.rd 0 rfl)) (by assumption))) ?_
  refine gm [1, 2, 3, 4, 10, 11, 12, 13, 14, 57] 4 (St.mk Rg.no [kCd (bitL 10 767), kCd (bitL 9 511)] [(1, vI page), (2, vI slot), (3, vI lsn), (4, vR 0 0), (10, vR 1 0), (11, vB ok), (12, vR 2 0), (13, vR 3 0), (14, vB ok), (57, vB false)] [LB.mk [cS Ahpages h.pages.length chpages] 57, LB.mk [cS B_1 y.pages.length d_1] 62, LB.mk [cS Aopages_2 h.pages.length copages_2] 62, LB.mk [cS B_2 y.pages.length d_2] 62]) ?_
  refine ltk 57 false ?_
  refine gm [1, 2, 3, 4, 10, 11, 13, 14, 58, 59] 4 (St.mk (Rg.sq (bitL 11 1023) 2) [kCd (bitL 11 2047)] [(1, vI page), (2, vI slot), (3, vI lsn), (4, vR 0 0), (10, vR 1 0), (11, vB ok), (13, vR 3 0), (14, vB ok), (58, SV.agg [cS Aopages_2 h.pages.length copages_2]), (59, vI 1)] [LB.mk [cS Ahpages h.pages.length chpages] 57, LB.mk [cS B_1 y.pages.length d_1] 62, LB.mk [cS Aopages_2 h.pages.length copages_2] 62, LB.mk [cS B_2 y.pages.length d_2] 62]) ?_
  refine h_bring 2 rfl ?_
  refine call_mut (A := [rowA 115 kPg h.pages (.slice Aopages_2 h.pages.length copages_2)]) (by kernel_rfl : atC _ _ _ false = some (46, [SV.agg [cS Aopages_2 h.pages.length copages_2], vI 1], some 60, Rg.sq (bitL 11 1023) 3)) (by kernel_rfl) (fun L w1 S1 hs hA hS1 => (markHeap_ok h _ _ 1 w1 S1 hA hS1 hpl (by omega) hsl3 (by omega)).mono ?_)
  rintro e w2 ⟨rfl, hm⟩
  refine ⟨.one (.v (.int .i64 _)), _, rfl, hm, ?_⟩
  clear hm hs hA hS1
  refine gm [1, 2, 3, 4, 10, 11, 13, 14, 63] 4 (St.mk (Rg.sq (bitL 13 2047) 3) [kCd (bitL 13 6143), kCd (bitL 12 4095)] [(1, vI page), (2, vI slot), (3, vI lsn), (4, vR 0 0), (10, vR 1 0), (11, vB ok), (13, vR 3 0), (14, vB ok), (63, vB (decide (1 + (↑(nPs h.pages) : Int) < 0)))] [LB.mk [cS Ahpages h.pages.length chpages] 57, LB.mk [cS B_1 y.pages.length d_1] 62, LB.mk [cS Aopages_2 h.pages.length copages_2] 62, LB.mk [cS B_2 y.pages.length d_2] 62]) ?_
  try simp only [fl_ne_self, fl_eq_self, fl_eq0, fl_ne0, fl_gt0, fl_lt0, nf_1]
  refine spl 63 (decide (1 + (↑(nPs h.pages) : Int) < 0)) ?_ ?_
  · intro hb2
    replace hb2 := of_decide_eq_true hb2
    (exfalso; omega)
  intro hb2
  replace hb2 := of_decide_eq_false hb2
  refine gm [1, 2, 3, 4, 10, 11, 13, 14, 63, 64, 65] 4 (St.mk (Rg.sq (bitL 13 2047) 5) [kCd (bitL 13 6143), kCd (bitL 12 4095)] [(1, vI page), (2, vI slot), (3, vI lsn), (4, vR 0 0), (10, vR 1 0), (11, vB ok), (13, vR 3 0), (14, vB ok), (63, vL false), (64, SV.agg [cS B_2 y.pages.length d_2]), (65, SV.agg [cS B_1 y.pages.length d_1])] [LB.mk [cS Ahpages h.pages.length chpages] 57, LB.mk [cS B_1 y.pages.length d_1] 62, LB.mk [cS Aopages_2 h.pages.length copages_2] 62, LB.mk [cS B_2 y.pages.length d_2] 62]) ?_
  refine call_pure true (by kernel_rfl : atC _ _ _ true = some (40, [SV.agg [cS B_2 y.pages.length d_2], SV.agg [cS B_1 y.pages.length d_1]], some 66, Rg.sq (bitL 13 2047) 6)) (by kernel_rfl) (.one (.bo (true))) (fun L w1 hs => (Go.Proofs.Ytgleoebogikooaa.Dk.eqHeap_ok (y) ([Value.slice B_2 y.pages.length d_2]) ([Value.slice B_1 y.pages.length d_1]) w1 (Go.Proofs.Ytgleoebogikooaa.Dk.kHe_mk (hs.rd 2 rfl)) (Go.Proofs.Ytgleoebogikooaa.Dk.kHe_mk (hs.rd 3 rfl)) (by assumption))) ?_
  refine gm [1, 2, 3, 4, 10, 11, 13, 14, 69] 4 (St.mk (Rg.sq (bitL 13 2047) 9) [kCd (bitL 13 6143), kCd (bitL 12 4095)] [(1, vI page), (2, vI slot), (3, vI lsn), (4, vR 0 0), (10, vR 1 0), (11, vB ok), (13, vR 3 0), (14, vB ok), (69, vB false)] [LB.mk [cS Ahpages h.pages.length chpages] 57, LB.mk [cS B_1 y.pages.length d_1] 62, LB.mk [cS Aopages_2 h.pages.length copages_2] 62, LB.mk [cS B_2 y.pages.length d_2] 62]) ?_
  refine ltk 69 false ?_
  refine gm [1, 2, 3, 4, 10, 11, 13, 73] 4 (St.mk Rg.no [kCd (bitL 13 6143), kCd (bitL 12 4095)] [(1, vI page), (2, vI slot), (3, vI lsn), (4, vR 0 0), (10, vR 1 0), (11, vB ok), (13, vR 3 0), (73, vB !ok == ok)] [LB.mk [cS Ahpages h.pages.length chpages] 57, LB.mk [cS B_1 y.pages.length d_1] 62, LB.mk [cS Aopages_2 h.pages.length copages_2] 62, LB.mk [cS B_2 y.pages.length d_2] 62]) ?_
  try simp only [fl_ne_self, fl_eq_self, fl_eq0, fl_ne0, fl_gt0, fl_lt0, nf_1]
  refine gm [1, 2, 3, 4, 10, 11, 13, 73] 4 (St.mk Rg.no [kCd (bitL 13 6143), kCd (bitL 12 4095)] [(1, vI page), (2, vI slot), (3, vI lsn), (4, vR 0 0), (10, vR 1 0), (11, vB ok), (13, vR 3 0), (73, vB false)] [LB.mk [cS Ahpages h.pages.length chpages] 57, LB.mk [cS B_1 y.pages.length d_1] 62, LB.mk [cS Aopages_2 h.pages.length copages_2] 62, LB.mk [cS B_2 y.pages.length d_2] 62]) ?_
  refine ltk 73 false ?_
  refine gm [1, 2, 3, 4, 10, 11, 13, 74, 75] 4 (St.mk (Rg.sq (bitL 14 8191) 2) [kCd (bitL 14 16383)] [(1, vI page), (2, vI slot), (3, vI lsn), (4, vR 0 0), (10, vR 1 0), (11, vB ok), (13, vR 3 0), (74, SV.agg [cS B_2 y.pages.length d_2]), (75, vI 1)] [LB.mk [cS Ahpages h.pages.length chpages] 57, LB.mk [cS B_1 y.pages.length d_1] 62, LB.mk [cS Aopages_2 h.pages.length copages_2] 62, LB.mk [cS B_2 y.pages.length d_2] 62]) ?_
  refine h_bring 2 rfl ?_
  refine call_mut (A := [rowA 115 kPg y.pages (.slice B_2 y.pages.length d_2)]) (by kernel_rfl : atC _ _ _ false = some (46, [SV.agg [cS B_2 y.pages.length d_2], vI 1], some 76, Rg.sq (bitL 14 8191) 3)) (by kernel_rfl) (fun L w1 S1 hs hA hS1 => (markHeap_ok y _ _ 1 w1 S1 hA hS1 hyl (by omega) hsy3 (by omega)).mono ?_)
  rintro e w2 ⟨rfl, hm⟩
  refine ⟨.one (.v (.int .i64 _)), _, rfl, hm, ?_⟩
  clear hm hs hA hS1
  refine gm [1, 2, 3, 4, 10, 11, 13, 16, 77, 78] 4 (St.mk (Rg.sq (bitL 16 32767) 2) [kCd (bitL 16 65535)] [(1, vI page), (2, vI slot), (3, vI lsn), (4, vR 0 0), (10, vR 1 0), (11, vB ok), (13, vR 3 0), (16, vI (1 + (↑(nPs y.pages) : Int))), (77, SV.agg [cS B_2 y.pages.length d_2]), (78, vI 1)] [LB.mk [cS Ahpages h.pages.length chpages] 57, LB.mk [cS B_1 y.pages.length d_1] 62, LB.mk [cS Aopages_2 h.pages.length copages_2] 62, LB.mk [cS B_2 y.pages.length d_2] 62]) ?_
  try simp only [fl_ne_self, fl_eq_self, fl_eq0, fl_ne0, fl_gt0, fl_lt0, nf_1]
  refine call_pure true (by kernel_rfl : atC _ _ _ true = some (51, [SV.agg [cS B_2 y.pages.length d_2], vI 1], some 79, Rg.sq (bitL 16 32767) 3)) (by kernel_rfl) (.one (.v (.int .i64 (1 + nPs y.pages)))) (fun L w1 hs => by
    have h9 := heldHeap_ok ⟨mkPs y.pages 1⟩ [.slice B_2 y.pages.length d_2] 1 w1 (kHe_mk (hs.rd 0 rfl)) (mkPs_idem _ _).symm (by show (mkPs y.pages 1).length ≤ _; rw [mkPs_len]; exact hyl) (by show nPs (mkPs y.pages 1) ≤ _; rw [mkPs_n]; omega) (mkPs_sl _ _ hsy3) (by omega)
    have h8 : nPs (mkPs y.pages 1) = nPs y.pages := mkPs_n _ _
    simp only [h8] at h9
    exact h9) ?_
  refine gm [1, 2, 3, 4, 10, 11, 13, 16, 17, 81] 4 (St.mk Rg.no [kCd (bitL 18 196607), kCd (bitL 17 131071)] [(1, vI page), (2, vI slot), (3, vI lsn), (4, vR 0 0), (10, vR 1 0), (11, vB ok), (13, vR 3 0), (16, vI (1 + (↑(nPs y.pages) : Int))), (17, vI (1 + (↑(nPs y.pages) : Int))), (81, vB (decide (1 + (↑(nPs y.pages) : Int) < 0)))] [LB.mk [cS Ahpages h.pages.length chpages] 57, LB.mk [cS B_1 y.pages.length d_1] 62, LB.mk [cS Aopages_2 h.pages.length copages_2] 62, LB.mk [cS B_2 y.pages.length d_2] 62]) ?_
  refine spl 81 (decide (1 + (↑(nPs y.pages) : Int) < 0)) ?_ ?_
  · intro hb3
    replace hb3 := of_decide_eq_true hb3
    (exfalso; omega)
  intro hb3
  replace hb3 := of_decide_eq_false hb3
  refine gm [1, 2, 3, 4, 10, 11, 13, 16, 84] 4 (St.mk Rg.no [kCd (bitL 19 393215), kCd (bitL 18 262143)] [(1, vI page), (2, vI slot), (3, vI lsn), (4, vR 0 0), (10, vR 1 0), (11, vB ok), (13, vR 3 0), (16, vI (1 + (↑(nPs y.pages) : Int))), (84, vB (1 + (↑(nPs y.pages) : Int) != 1 + (↑(nPs y.pages) : Int)))] [LB.mk [cS Ahpages h.pages.length chpages] 57, LB.mk [cS B_1 y.pages.length d_1] 62, LB.mk [cS Aopages_2 h.pages.length copages_2] 62, LB.mk [cS B_2 y.pages.length d_2] 62]) ?_
  refine spl 84 (1 + (↑(nPs y.pages) : Int) != 1 + (↑(nPs y.pages) : Int)) ?_ ?_
  · intro hb4
    replace hb4 := bne_iff_ne.1 hb4
    (exfalso; omega)
  intro hb4
  replace hb4 := bne_eq_false_iff_eq.1 hb4
  refine gm [1, 2, 3, 10, 11, 13, 16, 86] 4 (St.mk (Rg.sq (bitL 19 262143) 1) [kCd (bitL 19 524287)] [(1, vI page), (2, vI slot), (3, vI lsn), (10, vR 1 0), (11, vB ok), (13, vR 3 0), (16, vI (1 + (↑(nPs y.pages) : Int))), (86, SV.agg [cS Ahpages h.pages.length chpages])] [LB.mk [cS Ahpages h.pages.length chpages] 57, LB.mk [cS B_1 y.pages.length d_1] 62, LB.mk [cS Aopages_2 h.pages.length copages_2] 62, LB.mk [cS B_2 y.pages.length d_2] 62]) ?_
  refine call_at true (by kernel_rfl : atC _ _ _ true = some (38, [SV.agg [cS Ahpages h.pages.length chpages]], some 87, Rg.sq (bitL 19 262143) 2)) (by kernel_rfl) (fun L w1 hs => (Go.Proofs.Ytgleoebogikooaa.Dk.toHeap_ok (h) ([Value.slice Ahpages h.pages.length chpages]) w1 (Go.Proofs.Ytgleoebogikooaa.Dk.kHe_mk (rdRow_ext (hs.old 5 rfl) hrhpages)) (by assumption)).mono ?_)
  rintro e_ w2_ ⟨Aopages_4, copages_4, rfl, hf_⟩
  refine ⟨.agg [.v (Value.slice Aopages_4 h.pages.length copages_4)], _, _, rfl, fun _ => hf_.1.block, hs.fresh hf_, ?_⟩
  clear hs hf_
  refine gm [10, 11, 13, 16, 87, 88, 89, 90] 4 (St.mk (Rg.sq (bitL 19 262143) 5) [kCd (bitL 19 524287)] [(10, vR 1 0), (11, vB ok), (13, vR 3 0), (16, vI (1 + (↑(nPs y.pages) : Int))), (87, SV.agg [cS Aopages_4 h.pages.length copages_4]), (88, vI page), (89, vI slot), (90, vI lsn)] [LB.mk [cS Ahpages h.pages.length chpages] 57, LB.mk [cS B_1 y.pages.length d_1] 62, LB.mk [cS Aopages_2 h.pages.length copages_2] 62, LB.mk [cS B_2 y.pages.length d_2] 62]) ?_
  refine call_at true (by kernel_rfl : atC _ _ _ true = some (50, [SV.agg [cS Aopages_4 h.pages.length copages_4], vI page, vI slot, vI lsn], some 91, Rg.sq (bitL 19 262143) 6)) (by kernel_rfl) (fun L w1 hs => (Go.Proofs.Ytgleoebogikooaa.Dk.iHClearX_ok (h) ([Value.slice Aopages_4 h.pages.length copages_4]) (page) (slot) (lsn) w1 (y) (ok) (Go.Proofs.Ytgleoebogikooaa.Dk.kHe_mk (hs.rd 0 rfl)) (by assumption) (by assumption) hy ho).mono ?_)
  rintro e_ w2_ ⟨B_3, d_3, rfl, hf_⟩
  refine ⟨.one (.v (Value.tuple #[Value.agg #[Value.slice B_3 y.pages.length d_3], Value.bool ok])), _, _, rfl, fun _ => hf_.1.block, hs.fresh hf_, ?_⟩
  clear hs hf_
  refine gm [11, 13, 16, 19, 94, 95] 4 (St.mk (Rg.sq (bitL 21 524287) 2) [kCd (bitL 21 1572863), kCd (bitL 20 1048575)] [(11, vB ok), (13, vR 3 0), (16, vI (1 + (↑(nPs y.pages) : Int))), (19, vB ok), (94, SV.agg [cS B_3 y.pages.length d_3]), (95, SV.agg [cS B_1 y.pages.length d_1])] [LB.mk [cS Ahpages h.pages.length chpages] 57, LB.mk [cS B_1 y.pages.length d_1] 62, LB.mk [cS Aopages_2 h.pages.length copages_2] 62, LB.mk [cS B_2 y.pages.length d_2] 62]) ?_
  refine call_pure true (by kernel_rfl : atC _ _ _ true = some (40, [SV.agg [cS B_3 y.pages.length d_3], SV.agg [cS B_1 y.pages.length d_1]], some 96, Rg.sq (bitL 21 524287) 3)) (by kernel_rfl) (.one (.bo (true))) (fun L w1 hs => (Go.Proofs.Ytgleoebogikooaa.Dk.eqHeap_ok (y) ([Value.slice B_3 y.pages.length d_3]) ([Value.slice B_1 y.pages.length d_1]) w1 (Go.Proofs.Ytgleoebogikooaa.Dk.kHe_mk (hs.rd 0 rfl)) (Go.Proofs.Ytgleoebogikooaa.Dk.kHe_mk (hs.rd 5 rfl)) (by assumption))) ?_
  refine gm [11, 13, 16, 19, 98] 4 (St.mk (Rg.sq (bitL 21 524287) 5) [kCd (bitL 21 1572863), kCd (bitL 20 1048575)] [(11, vB ok), (13, vR 3 0), (16, vI (1 + (↑(nPs y.pages) : Int))), (19, vB ok), (98, vB false)] [LB.mk [cS Ahpages h.pages.length chpages] 57, LB.mk [cS B_1 y.pages.length d_1] 62, LB.mk [cS Aopages_2 h.pages.length copages_2] 62, LB.mk [cS B_2 y.pages.length d_2] 62]) ?_
  refine ltk 98 false ?_
  refine gm [13, 16, 102] 4 (St.mk Rg.no [kCd (bitL 21 1572863), kCd (bitL 20 1048575)] [(13, vR 3 0), (16, vI (1 + (↑(nPs y.pages) : Int))), (102, vB !ok == ok)] [LB.mk [cS Ahpages h.pages.length chpages] 57, LB.mk [cS B_1 y.pages.length d_1] 62, LB.mk [cS Aopages_2 h.pages.length copages_2] 62, LB.mk [cS B_2 y.pages.length d_2] 62]) ?_
  try simp only [fl_ne_self, fl_eq_self, fl_eq0, fl_ne0, fl_gt0, fl_lt0, nf_1]
  refine gm [13, 16, 102] 4 (St.mk Rg.no [kCd (bitL 21 1572863), kCd (bitL 20 1048575)] [(13, vR 3 0), (16, vI (1 + (↑(nPs y.pages) : Int))), (102, vB false)] [LB.mk [cS Ahpages h.pages.length chpages] 57, LB.mk [cS B_1 y.pages.length d_1] 62, LB.mk [cS Aopages_2 h.pages.length copages_2] 62, LB.mk [cS B_2 y.pages.length d_2] 62]) ?_
  refine ltk 102 false ?_
  refine gm [16, 103, 104] 0 (St.mk (Rg.sq (bitL 22 2097151) 2) [kCd (bitL 22 4194303)] [(16, vI (1 + (↑(nPs y.pages) : Int))), (103, SV.agg [cS B_2 y.pages.length d_2]), (104, vI 1)] []) ?_
  refine call_pure true (by kernel_rfl : atC _ _ _ true = some (51, [SV.agg [cS B_2 y.pages.length d_2], vI 1], some 105, Rg.sq (bitL 22 2097151) 3)) (by kernel_rfl) (.one (.v (.int .i64 (1 + nPs y.pages)))) (fun L w1 hs => by
    have h9 := heldHeap_ok ⟨mkPs y.pages 1⟩ [.slice B_2 y.pages.length d_2] 1 w1 (kHe_mk (hs.rd 2 rfl)) (mkPs_idem _ _).symm (by show (mkPs y.pages 1).length ≤ _; rw [mkPs_len]; exact hyl) (by show nPs (mkPs y.pages 1) ≤ _; rw [mkPs_n]; omega) (mkPs_sl _ _ hsy3) (by omega)
    have h8 : nPs (mkPs y.pages 1) = nPs y.pages := mkPs_n _ _
    simp only [h8] at h9
    exact h9) ?_
  refine gm [16, 17, 107] 0 (St.mk Rg.no [kCd (bitL 24 12582911), kCd (bitL 23 8388607)] [(16, vI (1 + (↑(nPs y.pages) : Int))), (17, vI (1 + (↑(nPs y.pages) : Int))), (107, vB (decide (1 + (↑(nPs y.pages) : Int) < 0)))] []) ?_
  refine spl 107 (decide (1 + (↑(nPs y.pages) : Int) < 0)) ?_ ?_
  · intro hb5
    replace hb5 := of_decide_eq_true hb5
    (exfalso; omega)
  · intro hb5
    replace hb5 := of_decide_eq_false hb5
    refine gm [110] 0 (St.mk Rg.no [kCd (bitL 25 25165823), kCd (bitL 24 16777215)] [(110, vB (1 + (↑(nPs y.pages) : Int) != 1 + (↑(nPs y.pages) : Int)))] []) ?_
    refine spl 110 (1 + (↑(nPs y.pages) : Int) != 1 + (↑(nPs y.pages) : Int)) ?_ ?_
    · intro hb6
      replace hb6 := bne_iff_ne.1 hb6
      (exfalso; omega)
    · intro hb6
      replace hb6 := bne_eq_false_iff_eq.1 hb6
      refine gm [8] 0 (St.mk Rg.no [kCd (bitL 25 33554431)] [(8, vL true)] []) ?_
      refine rtk [vL true] ?_
      intro L w1 hs
      exact ⟨rfl, (hs.erases [0, 0, 0, 0, 0, 0, 0]).out0⟩

end Go.Proofs.Ytgleoebogikooaa.Dk
