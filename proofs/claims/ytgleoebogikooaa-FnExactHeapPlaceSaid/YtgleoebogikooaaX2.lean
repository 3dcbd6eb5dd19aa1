/- Walks of functions of the program: what each call returns and what it leaves in memory. Conditions: those that each theorem names. -/
import Derived.Test.YtgleoebogikooaaX1
namespace Go.Proofs.Ytgleoebogikooaa.Dk
set_option linter.unusedVariables false
set_option linter.unusedSimpArgs false
open Go.Proofs.Ytgleoebogikooaa.Sx Go.Proofs Go.RowKit
set_option maxRecDepth 100000
set_option maxHeartbeats 1000000
def hpGo : List Pg → Int → Nat → Int × Int
  | [], _, i => if i < 16 then ((i : Int), 0) else (-1, -1)
  | p :: r, n, i => if 0 ≤ pgPlace p n then ((i : Int), pgPlace p n) else hpGo r n (i + 1)
def hpPlace (h : He) (n : Int) : Int × Int := if heapOk h = true ∧ 1 ≤ n ∧ n ≤ 92 then hpGo h.pages n 0 else (-1, -1)
theorem hpGo_hit {ps : List Pg} {n : Int} {i : Nat} (hi : i < ps.length) (h : 0 ≤ pgPlace ps[i] n) : hpGo (ps.drop i) n i = ((i : Int), pgPlace ps[i] n) := by
  rw [List.drop_eq_getElem_cons hi]
  unfold hpGo
  rw [if_pos h]
theorem hpGo_next {ps : List Pg} {n : Int} {i : Nat} (hi : i < ps.length) (h : ¬ 0 ≤ pgPlace ps[i] n) : hpGo (ps.drop i) n i = hpGo (ps.drop (i + 1)) n (i + 1) := by
  rw [List.drop_eq_getElem_cons hi]
  conv => lhs; unfold hpGo
  rw [if_neg h]
theorem hpGo_end {ps : List Pg} {n : Int} : hpGo (ps.drop ps.length) n ps.length = if ps.length < 16 then ((ps.length : Int), 0) else (-1, -1) := by
  rw [List.drop_eq_nil_of_le (Nat.le_refl _)]
  rfl
theorem iHPlace0_ok (h : He) (csh : List Value) (n : Int) (w : World) (hh : kHe.rd w.heap h csh) (hl : h.pages.length ≤ 1048576) (hb : byHe h) :
    Calls Try.prog 87 #[.agg csh.toArray, .int .i64 n] w fun e w' => e = .returned (.tuple #[.int .i64 (hpGo h.pages n 0).1, .int .i64 (hpGo h.pages n 0).2]) ∧ Below w.heap.size w w' := by
  obtain ⟨Ahpages, chpages, rfl, hrhpages⟩ := kHe_inv hh
  refine enter (args := [.agg [.v (.slice Ahpages h.pages.length chpages)], .one (.v (.int .i64 n))]) Try.func87 (c := bodyOf Try.f87) rfl rfl (start_LOK _) (start_old w) ?_
  refine go mixed 2000 [1, 2, 10, 11, 12] 1 (St.mk Rg.no [kLp (bitL 5 29), KI.block 0, KI.code [true, true]] [(1, vI n), (2, vR 0 0), (10, vS Ahpages h.pages.length chpages), (11, vI (↑h.pages.length : Int)), (12, vI 0)] [LB.mk [cS Ahpages h.pages.length chpages] 62]) (by kernel_rfl) (by kernel_rfl) (by kernel_rfl) ?_
  refine loop_at (ι := Nat) (fun i => [(12, .one (.v (.int .i64 i)))]) (fun _ => []) (fun _ => [oldA w]) (fun i => i ≤ h.pages.length ∧ hpGo h.pages n 0 = hpGo (h.pages.drop i) n i) (fun i => h.pages.length - i) 0 rfl rfl rfl ⟨Nat.zero_le _, rfl⟩ ?_
  rintro i ⟨hi, hg⟩ ih
  rcases Nat.lt_or_ge i h.pages.length with hlt | hge
  · have hps := (hb _ (List.getElem_mem hlt)).1
    by_cases hp : 0 ≤ pgPlace h.pages[i] n
    · have hit := hg.trans (hpGo_hit hlt hp)
      refine go mixed 2000 [1, 2, 10, 11, 12, 13] 1 (St.mk Rg.no [kCd (bitL 7 61), kCd (bitL 7 125), kLp (bitL 5 29), KI.block 0, KI.code [true, true]] [(1, vI n), (2, vR 0 0), (10, vS Ahpages h.pages.length chpages), (11, vI (↑h.pages.length : Int)), (12, vI (↑i : Int)), (13, vB (decide ((↑i : Int) < (↑h.pages.length : Int))))] [LB.mk [cS Ahpages h.pages.length chpages] 62]) (by kernel_rfl) (by kernel_rfl) (by kernel_rfl) ?_
      refine split_at 13 (b := decide ((↑i : Int) < (↑h.pages.length : Int))) (by kernel_rfl) (by kernel_rfl) ?_ ?_
      · intro hb1
        replace hb1 := of_decide_eq_true hb1
        refine go mixed 2000 [1, 2, 10, 11, 12, 14] 1 (St.mk (Rg.sq (bitL 10 381) 1) [kCd (bitL 10 893), KI.block 1, kCd (bitL 8 253), kLp (bitL 5 29), KI.block 0, KI.code [true, true]] [(1, vI n), (2, vR 0 0), (10, vS Ahpages h.pages.length chpages), (11, vI (↑h.pages.length : Int)), (12, vI (↑i : Int)), (14, vI (↑i : Int))] [LB.mk [cS Ahpages h.pages.length chpages] 62]) (by kernel_rfl) (by kernel_rfl) (by kernel_rfl) ?_
        refine index_at 1 (by kernel_rfl : atP _ _ _ 1 false = some (Op.indexAddr 60 (tmpO 10) (tmpO 12), 0, some 15, Rg.sq (bitL 10 381) 2)) (ni := i) (sz := 2) (by kernel_rfl) rfl rfl rfl (by assumption) (fun L w1 hs => rd_some (i := i) (rdRow_ext (hs.old 0 rfl) hrhpages) (by assumption)) ?_
        intro a_1 ha_1
        cases ha_1
        refine go mixed 2000 [1, 2, 10, 11, 12, 14, 15] 1 (St.mk (Rg.sq (bitL 10 381) 2) [kCd (bitL 10 893), KI.block 1, kCd (bitL 8 253), kLp (bitL 5 29), KI.block 0, KI.code [true, true]] [(1, vI n), (2, vR 0 0), (10, vS (some a_1) h.pages.length chpages), (11, vI (↑h.pages.length : Int)), (12, vI (↑i : Int)), (14, vI (↑i : Int)), (15, vP (a_1.add (i * 2)))] [LB.mk [cS (some a_1) h.pages.length chpages] 62]) (by kernel_rfl) (by kernel_rfl) (by kernel_rfl) ?_
        obtain ⟨Aslots_el1, cslots_el1, hr1_el1, hc_el1⟩ := Go.Proofs.Ytgleoebogikooaa.Dk.kPg_at (i := i) hrhpages (by assumption)
        refine load_agg 2 (by kernel_rfl : atP _ _ _ 2 true = some (Op.load 115 (tmpO 15), 115, some 16, Rg.sq (bitL 10 381) 3)) (n := 2) (by kernel_rfl) rfl ?_
        intro L w1 hs
        refine ⟨[.v (Value.int IntKind.i64 h.pages[i].lsn), .v (Value.slice Aslots_el1 h.pages[i].slots.length cslots_el1)], rfl, cells_at0 (cellsH_ext (hs.old 0 rfl) hc_el1) rfl, ?_⟩
        clear hs
        refine go mixed 2000 [1, 2, 6, 10, 11, 12, 17, 18] 1 (St.mk (Rg.sq (bitL 11 893) 2) [kCd (bitL 11 1917), KI.block 1, kCd (bitL 8 253), kLp (bitL 5 29), KI.block 0, KI.code [true, true]] [(1, vI n), (2, vR 0 0), (6, vI (↑i : Int)), (10, vS (some a_1) h.pages.length chpages), (11, vI (↑h.pages.length : Int)), (12, vI (↑i : Int)), (17, SV.agg [cI h.pages[i].lsn, cS Aslots_el1 h.pages[i].slots.length cslots_el1]), (18, vI n)] [LB.mk [cS (some a_1) h.pages.length chpages] 62]) (by kernel_rfl) (by kernel_rfl) (by kernel_rfl) ?_
        refine call_pure true (by kernel_rfl : atC _ _ _ true = some (128, [SV.agg [cI h.pages[i].lsn, cS Aslots_el1 h.pages[i].slots.length cslots_el1], vI n], some 19, Rg.sq (bitL 11 893) 3)) (by kernel_rfl) (.one (.v (Value.int IntKind.i64 (pgPlace h.pages[i] n)))) (fun L w1 hs => (Go.Proofs.Ytgleoebogikooaa.Dk.iPlace_ok (h.pages[i]) ([Value.int IntKind.i64 h.pages[i].lsn, Value.slice Aslots_el1 h.pages[i].slots.length cslots_el1]) (n) w1 (Go.Proofs.Ytgleoebogikooaa.Dk.kPg_mk (rdRow_ext (hs.old 0 rfl) hr1_el1)) (by assumption))) ?_
        refine go mixed 2000 [1, 2, 6, 8, 10, 11, 12, 21] 1 (St.mk Rg.no [kCd (bitL 12 3965), KI.block 1, kCd (bitL 8 253), kLp (bitL 5 29), KI.block 0, KI.code [true, true]] [(1, vI n), (2, vR 0 0), (6, vI (↑i : Int)), (8, vI (pgPlace h.pages[i] n)), (10, vS (some a_1) h.pages.length chpages), (11, vI (↑h.pages.length : Int)), (12, vI (↑i : Int)), (21, vB (decide (pgPlace h.pages[i] n ≥ 0)))] [LB.mk [cS (some a_1) h.pages.length chpages] 62]) (by kernel_rfl) (by kernel_rfl) (by kernel_rfl) ?_
        refine split_at 21 (b := decide (pgPlace h.pages[i] n ≥ 0)) (by kernel_rfl) (by kernel_rfl) ?_ ?_
        · intro hb2
          replace hb2 := of_decide_eq_true hb2
          refine go mixed 2000 [4, 5] 0 (St.mk Rg.no [kCd (bitL 14 12157), KI.block 1, kCd (bitL 8 253), kLp (bitL 5 29), KI.block 0, KI.code [true, true]] [(4, vI (↑i : Int)), (5, vI (pgPlace h.pages[i] n))] []) (by kernel_rfl) (by kernel_rfl) (by kernel_rfl) ?_
          refine ret_ok (vs := [vI (↑i : Int), vI (pgPlace h.pages[i] n)]) (by kernel_rfl) ?_
          intro L w1 hs
          exact ⟨by rw [hit]; rfl, hs.out0⟩
        · intro hb2
          replace hb2 := of_decide_eq_false hb2
          (exfalso; omega)
      · intro hb1
        replace hb1 := of_decide_eq_false hb1
        (exfalso; omega)
    · have hnx := hg.trans (hpGo_next hlt hp)
      refine go mixed 2000 [1, 2, 10, 11, 12, 13] 1 (St.mk Rg.no [kCd (bitL 7 61), kCd (bitL 7 125), kLp (bitL 5 29), KI.block 0, KI.code [true, true]] [(1, vI n), (2, vR 0 0), (10, vS Ahpages h.pages.length chpages), (11, vI (↑h.pages.length : Int)), (12, vI (↑i : Int)), (13, vB (decide ((↑i : Int) < (↑h.pages.length : Int))))] [LB.mk [cS Ahpages h.pages.length chpages] 62]) (by kernel_rfl) (by kernel_rfl) (by kernel_rfl) ?_
      refine split_at 13 (b := decide ((↑i : Int) < (↑h.pages.length : Int))) (by kernel_rfl) (by kernel_rfl) ?_ ?_
      · intro hb1
        replace hb1 := of_decide_eq_true hb1
        refine go mixed 2000 [1, 2, 10, 11, 12, 14] 1 (St.mk (Rg.sq (bitL 10 381) 1) [kCd (bitL 10 893), KI.block 1, kCd (bitL 8 253), kLp (bitL 5 29), KI.block 0, KI.code [true, true]] [(1, vI n), (2, vR 0 0), (10, vS Ahpages h.pages.length chpages), (11, vI (↑h.pages.length : Int)), (12, vI (↑i : Int)), (14, vI (↑i : Int))] [LB.mk [cS Ahpages h.pages.length chpages] 62]) (by kernel_rfl) (by kernel_rfl) (by kernel_rfl) ?_
        refine index_at 1 (by kernel_rfl : atP _ _ _ 1 false = some (Op.indexAddr 60 (tmpO 10) (tmpO 12), 0, some 15, Rg.sq (bitL 10 381) 2)) (ni := i) (sz := 2) (by kernel_rfl) rfl rfl rfl (by assumption) (fun L w1 hs => rd_some (i := i) (rdRow_ext (hs.old 0 rfl) hrhpages) (by assumption)) ?_
        intro a_1 ha_1
        cases ha_1
        refine go mixed 2000 [1, 2, 10, 11, 12, 14, 15] 1 (St.mk (Rg.sq (bitL 10 381) 2) [kCd (bitL 10 893), KI.block 1, kCd (bitL 8 253), kLp (bitL 5 29), KI.block 0, KI.code [true, true]] [(1, vI n), (2, vR 0 0), (10, vS (some a_1) h.pages.length chpages), (11, vI (↑h.pages.length : Int)), (12, vI (↑i : Int)), (14, vI (↑i : Int)), (15, vP (a_1.add (i * 2)))] [LB.mk [cS (some a_1) h.pages.length chpages] 62]) (by kernel_rfl) (by kernel_rfl) (by kernel_rfl) ?_
        obtain ⟨Aslots_el1, cslots_el1, hr1_el1, hc_el1⟩ := Go.Proofs.Ytgleoebogikooaa.Dk.kPg_at (i := i) hrhpages (by assumption)
        refine load_agg 2 (by kernel_rfl : atP _ _ _ 2 true = some (Op.load 115 (tmpO 15), 115, some 16, Rg.sq (bitL 10 381) 3)) (n := 2) (by kernel_rfl) rfl ?_
        intro L w1 hs
        refine ⟨[.v (Value.int IntKind.i64 h.pages[i].lsn), .v (Value.slice Aslots_el1 h.pages[i].slots.length cslots_el1)], rfl, cells_at0 (cellsH_ext (hs.old 0 rfl) hc_el1) rfl, ?_⟩
        clear hs
        refine go mixed 2000 [1, 2, 6, 10, 11, 12, 17, 18] 1 (St.mk (Rg.sq (bitL 11 893) 2) [kCd (bitL 11 1917), KI.block 1, kCd (bitL 8 253), kLp (bitL 5 29), KI.block 0, KI.code [true, true]] [(1, vI n), (2, vR 0 0), (6, vI (↑i : Int)), (10, vS (some a_1) h.pages.length chpages), (11, vI (↑h.pages.length : Int)), (12, vI (↑i : Int)), (17, SV.agg [cI h.pages[i].lsn, cS Aslots_el1 h.pages[i].slots.length cslots_el1]), (18, vI n)] [LB.mk [cS (some a_1) h.pages.length chpages] 62]) (by kernel_rfl) (by kernel_rfl) (by kernel_rfl) ?_
        refine call_pure true (by kernel_rfl : atC _ _ _ true = some (128, [SV.agg [cI h.pages[i].lsn, cS Aslots_el1 h.pages[i].slots.length cslots_el1], vI n], some 19, Rg.sq (bitL 11 893) 3)) (by kernel_rfl) (.one (.v (Value.int IntKind.i64 (pgPlace h.pages[i] n)))) (fun L w1 hs => (Go.Proofs.Ytgleoebogikooaa.Dk.iPlace_ok (h.pages[i]) ([Value.int IntKind.i64 h.pages[i].lsn, Value.slice Aslots_el1 h.pages[i].slots.length cslots_el1]) (n) w1 (Go.Proofs.Ytgleoebogikooaa.Dk.kPg_mk (rdRow_ext (hs.old 0 rfl) hr1_el1)) (by assumption))) ?_
        refine go mixed 2000 [1, 2, 6, 8, 10, 11, 12, 21] 1 (St.mk Rg.no [kCd (bitL 12 3965), KI.block 1, kCd (bitL 8 253), kLp (bitL 5 29), KI.block 0, KI.code [true, true]] [(1, vI n), (2, vR 0 0), (6, vI (↑i : Int)), (8, vI (pgPlace h.pages[i] n)), (10, vS (some a_1) h.pages.length chpages), (11, vI (↑h.pages.length : Int)), (12, vI (↑i : Int)), (21, vB (decide (pgPlace h.pages[i] n ≥ 0)))] [LB.mk [cS (some a_1) h.pages.length chpages] 62]) (by kernel_rfl) (by kernel_rfl) (by kernel_rfl) ?_
        refine split_at 21 (b := decide (pgPlace h.pages[i] n ≥ 0)) (by kernel_rfl) (by kernel_rfl) ?_ ?_
        · intro hb2
          replace hb2 := of_decide_eq_true hb2
          (exfalso; omega)
        · intro hb2
          replace hb2 := of_decide_eq_false hb2
          refine go mixed 2000 [1, 2, 10, 11, 12] 1 (St.mk Rg.no [kLp (bitL 5 29), KI.block 0, KI.code [true, true]] [(1, vI n), (2, vR 0 0), (10, vS (some a_1) h.pages.length chpages), (11, vI (↑h.pages.length : Int)), (12, vI (IntKind.i64.wrap ((↑i : Int) + 1)))] [LB.mk [cS (some a_1) h.pages.length chpages] 62]) (by kernel_rfl) (by kernel_rfl) (by kernel_rfl) ?_
          rw [wrap_succ (by omega)]; exact ih (i + 1) ⟨hlt, hnx⟩ (by omega)
      · intro hb1
        replace hb1 := of_decide_eq_false hb1
        (exfalso; omega)
  obtain rfl : i = h.pages.length := by omega
  have hen := hg.trans hpGo_end
  refine go mixed 2000 [1, 2, 10, 11, 12, 13] 1 (St.mk Rg.no [kCd (bitL 7 61), kCd (bitL 7 125), kLp (bitL 5 29), KI.block 0, KI.code [true, true]] [(1, vI n), (2, vR 0 0), (10, vS Ahpages h.pages.length chpages), (11, vI (↑h.pages.length : Int)), (12, vI (↑h.pages.length : Int)), (13, vB (decide ((↑h.pages.length : Int) < (↑h.pages.length : Int))))] [LB.mk [cS Ahpages h.pages.length chpages] 62]) (by kernel_rfl) (by kernel_rfl) (by kernel_rfl) ?_
  refine split_at 13 (b := decide ((↑h.pages.length : Int) < (↑h.pages.length : Int))) (by kernel_rfl) (by kernel_rfl) ?_ ?_
  · intro hb1
    replace hb1 := of_decide_eq_true hb1
    (exfalso; omega)
  · intro hb1
    replace hb1 := of_decide_eq_false hb1
    refine go mixed 2000 [2, 28] 1 (St.mk Rg.no [kCd (bitL 4 11), kCd (bitL 3 7)] [(2, vR 0 0), (28, vB (decide ((↑h.pages.length : Int) < 16)))] [LB.mk [cS Ahpages h.pages.length chpages] 62]) (by kernel_rfl) (by kernel_rfl) (by kernel_rfl) ?_
    refine split_at 28 (b := decide ((↑h.pages.length : Int) < 16)) (by kernel_rfl) (by kernel_rfl) ?_ ?_
    · intro hb2
      replace hb2 := of_decide_eq_true hb2
      refine go mixed 2000 [4, 5] 0 (St.mk Rg.no [kCd (bitL 6 43), kCd (bitL 3 7)] [(4, vI (↑h.pages.length : Int)), (5, vI 0)] []) (by kernel_rfl) (by kernel_rfl) (by kernel_rfl) ?_
      refine ret_ok (vs := [vI (↑h.pages.length : Int), vI 0]) (by kernel_rfl) ?_
      intro L w1 hs
      exact ⟨by rw [hen, if_pos (by omega)]; rfl, hs.out0⟩
    · intro hb2
      replace hb2 := of_decide_eq_false hb2
      refine go mixed 2000 [4, 5] 0 (St.mk Rg.no [kCd (bitL 4 15)] [(4, vI (-1)), (5, vI (-1))] []) (by kernel_rfl) (by kernel_rfl) (by kernel_rfl) ?_
      refine ret_ok (vs := [vI (-1), vI (-1)]) (by kernel_rfl) ?_
      intro L w1 hs
      exact ⟨by rw [hen, if_neg (by omega)]; rfl, hs.out0⟩

theorem iHPlace_ok (h : He) (csh : List Value) (n : Int) (w : World) (hh : kHe.rd w.heap h csh) (hl : h.pages.length ≤ 1048576) (hb : byHe h) :
    Calls Try.prog 42 #[.agg csh.toArray, .int .i64 n] w fun e w' => e = .returned (.tuple #[.int .i64 (hpPlace h n).1, .int .i64 (hpPlace h n).2]) ∧ Below w.heap.size w w' := by
  obtain ⟨Ahpages, chpages, rfl, hrhpages⟩ := kHe_inv hh
  refine enter (args := [.agg [.v (.slice Ahpages h.pages.length chpages)], .one (.v (.int .i64 n))]) Try.func42 (c := bodyOf Try.f42) rfl rfl (start_LOK _) (start_old w) ?_
  by_cases hok : ¬ heapOk h = true
  · have hno : hpPlace h n = (-1, -1) := if_neg fun hc => hok hc.1
    have nf_9 : (!heapOk h) = true := by rw [Bool.not_eq_true] at hok; rw [hok]; rfl
    refine go mixed 2000 [1, 2, 6] 1 (St.mk (Rg.sq (bitL 3 1) 1) [kCd (bitL 3 5), KI.code [true, true]] [(1, vI n), (2, vR 0 0), (6, SV.agg [cS Ahpages h.pages.length chpages])] [LB.mk [cS Ahpages h.pages.length chpages] 62]) (by kernel_rfl) (by kernel_rfl) (by kernel_rfl) ?_
    refine call_pure true (by kernel_rfl : atC _ _ _ true = some (39, [SV.agg [cS Ahpages h.pages.length chpages]], some 7, Rg.sq (bitL 3 1) 2)) (by kernel_rfl) (.one (.bo (heapOk h))) (fun L w1 hs => (Go.Proofs.Ytgleoebogikooaa.Dk.iHeapOk_ok (h) ([Value.slice Ahpages h.pages.length chpages]) w1 (Go.Proofs.Ytgleoebogikooaa.Dk.kHe_mk (rdRow_ext (hs.old 0 rfl) hrhpages)) (by assumption) (by assumption))) ?_
    refine go mixed 2000 [1, 2, 9] 1 (St.mk (Rg.sq (bitL 3 1) 4) [kCd (bitL 3 5), KI.code [true, true]] [(1, vI n), (2, vR 0 0), (9, vB !heapOk h)] [LB.mk [cS Ahpages h.pages.length chpages] 62]) (by kernel_rfl) (by kernel_rfl) (by kernel_rfl) ?_
    try simp only [fl_ne_self, fl_eq_self, fl_eq0, fl_ne0, fl_gt0, fl_lt0, nf_9]
    refine go mixed 2000 [1, 2, 9] 1 (St.mk (Rg.sq (bitL 3 1) 4) [kCd (bitL 3 5), KI.code [true, true]] [(1, vI n), (2, vR 0 0), (9, vB true)] [LB.mk [cS Ahpages h.pages.length chpages] 62]) (by kernel_rfl) (by kernel_rfl) (by kernel_rfl) ?_
    refine lit_at 9 (b := true) (by kernel_rfl) ?_
    refine go mixed 2000 [4, 5] 0 (St.mk Rg.no [kCd (bitL 5 21), KI.code [true, true]] [(4, vI (-1)), (5, vI (-1))] []) (by kernel_rfl) (by kernel_rfl) (by kernel_rfl) ?_
    refine ret_ok (vs := [vI (-1), vI (-1)]) (by kernel_rfl) ?_
    intro L w1 hs
    exact ⟨by rw [hno]; rfl, hs.out0⟩
  replace hok : heapOk h = true := Classical.not_not.1 hok
  have nf_9 : (!heapOk h) = false := by rw [hok]; rfl
  by_cases hn : ¬ (1 ≤ n ∧ n ≤ 92)
  · have hno : hpPlace h n = (-1, -1) := if_neg fun hc => hn hc.2
    have nf_8 : (!(decide (1 ≤ n) && decide (n ≤ 92))) = true := by simp only [Bool.not_eq_true', Bool.and_eq_false_iff, decide_eq_false_iff_not]; omega
    refine go mixed 2000 [1, 2, 6] 1 (St.mk (Rg.sq (bitL 3 1) 1) [kCd (bitL 3 5), KI.code [true, true]] [(1, vI n), (2, vR 0 0), (6, SV.agg [cS Ahpages h.pages.length chpages])] [LB.mk [cS Ahpages h.pages.length chpages] 62]) (by kernel_rfl) (by kernel_rfl) (by kernel_rfl) ?_
    refine call_pure true (by kernel_rfl : atC _ _ _ true = some (39, [SV.agg [cS Ahpages h.pages.length chpages]], some 7, Rg.sq (bitL 3 1) 2)) (by kernel_rfl) (.one (.bo (heapOk h))) (fun L w1 hs => (Go.Proofs.Ytgleoebogikooaa.Dk.iHeapOk_ok (h) ([Value.slice Ahpages h.pages.length chpages]) w1 (Go.Proofs.Ytgleoebogikooaa.Dk.kHe_mk (rdRow_ext (hs.old 0 rfl) hrhpages)) (by assumption) (by assumption))) ?_
    refine go mixed 2000 [1, 2, 9] 1 (St.mk (Rg.sq (bitL 3 1) 4) [kCd (bitL 3 5), KI.code [true, true]] [(1, vI n), (2, vR 0 0), (9, vB !heapOk h)] [LB.mk [cS Ahpages h.pages.length chpages] 62]) (by kernel_rfl) (by kernel_rfl) (by kernel_rfl) ?_
    try simp only [fl_ne_self, fl_eq_self, fl_eq0, fl_ne0, fl_gt0, fl_lt0, nf_9, nf_8]
    refine go mixed 2000 [1, 2, 9] 1 (St.mk (Rg.sq (bitL 3 1) 4) [kCd (bitL 3 5), KI.code [true, true]] [(1, vI n), (2, vR 0 0), (9, vB false)] [LB.mk [cS Ahpages h.pages.length chpages] 62]) (by kernel_rfl) (by kernel_rfl) (by kernel_rfl) ?_
    refine lit_at 9 (b := false) (by kernel_rfl) ?_
    refine go mixed 2000 [1, 2, 9, 10] 1 (St.mk (Rg.sq (bitL 3 1) 5) [kCd (bitL 3 5), KI.code [true, true]] [(1, vI n), (2, vR 0 0), (9, vL false), (10, vI n)] [LB.mk [cS Ahpages h.pages.length chpages] 62]) (by kernel_rfl) (by kernel_rfl) (by kernel_rfl) ?_
    refine call_pure true (by kernel_rfl : atC _ _ _ true = some (55, [vI n, vI 1, vI 92], some 11, Rg.sq (bitL 3 1) 6)) (by kernel_rfl) (.one (.bo (decide (1 ≤ n) && decide (n ≤ 92)))) (fun L w1 hs => (Go.Proofs.Ytgleoebogikooaa.Dk.within_ok (n) (1) (92) w1)) ?_
    refine go mixed 2000 [1, 2, 13] 1 (St.mk Rg.no [kCd (bitL 3 5), KI.code [true, true]] [(1, vI n), (2, vR 0 0), (13, vB !(decide (1 ≤ n) && decide (n ≤ 92)))] [LB.mk [cS Ahpages h.pages.length chpages] 62]) (by kernel_rfl) (by kernel_rfl) (by kernel_rfl) ?_
    try simp only [fl_ne_self, fl_eq_self, fl_eq0, fl_ne0, fl_gt0, fl_lt0, nf_9, nf_8]
    refine go mixed 2000 [1, 2, 13] 1 (St.mk Rg.no [kCd (bitL 3 5), KI.code [true, true]] [(1, vI n), (2, vR 0 0), (13, vB true)] [LB.mk [cS Ahpages h.pages.length chpages] 62]) (by kernel_rfl) (by kernel_rfl) (by kernel_rfl) ?_
    refine lit_at 13 (b := true) (by kernel_rfl) ?_
    refine go mixed 2000 [4, 5] 0 (St.mk Rg.no [kCd (bitL 5 21), KI.code [true, true]] [(4, vI (-1)), (5, vI (-1))] []) (by kernel_rfl) (by kernel_rfl) (by kernel_rfl) ?_
    refine ret_ok (vs := [vI (-1), vI (-1)]) (by kernel_rfl) ?_
    intro L w1 hs
    exact ⟨by rw [hno]; rfl, hs.out0⟩
  replace hn : 1 ≤ n ∧ n ≤ 92 := Classical.not_not.1 hn
  have nf_8 : (!(decide (1 ≤ n) && decide (n ≤ 92))) = false := by simp only [Bool.not_eq_false', Bool.and_eq_true, decide_eq_true_eq]; omega
  have hye : hpPlace h n = hpGo h.pages n 0 := if_pos ⟨hok, hn.1, hn.2⟩
  refine go mixed 2000 [1, 2, 6] 1 (St.mk (Rg.sq (bitL 3 1) 1) [kCd (bitL 3 5), KI.code [true, true]] [(1, vI n), (2, vR 0 0), (6, SV.agg [cS Ahpages h.pages.length chpages])] [LB.mk [cS Ahpages h.pages.length chpages] 62]) (by kernel_rfl) (by kernel_rfl) (by kernel_rfl) ?_
  refine call_pure true (by kernel_rfl : atC _ _ _ true = some (39, [SV.agg [cS Ahpages h.pages.length chpages]], some 7, Rg.sq (bitL 3 1) 2)) (by kernel_rfl) (.one (.bo (heapOk h))) (fun L w1 hs => (Go.Proofs.Ytgleoebogikooaa.Dk.iHeapOk_ok (h) ([Value.slice Ahpages h.pages.length chpages]) w1 (Go.Proofs.Ytgleoebogikooaa.Dk.kHe_mk (rdRow_ext (hs.old 0 rfl) hrhpages)) (by assumption) (by assumption))) ?_
  refine go mixed 2000 [1, 2, 9] 1 (St.mk (Rg.sq (bitL 3 1) 4) [kCd (bitL 3 5), KI.code [true, true]] [(1, vI n), (2, vR 0 0), (9, vB !heapOk h)] [LB.mk [cS Ahpages h.pages.length chpages] 62]) (by kernel_rfl) (by kernel_rfl) (by kernel_rfl) ?_
  try simp only [fl_ne_self, fl_eq_self, fl_eq0, fl_ne0, fl_gt0, fl_lt0, nf_9, nf_8]
  refine go mixed 2000 [1, 2, 9] 1 (St.mk (Rg.sq (bitL 3 1) 4) [kCd (bitL 3 5), KI.code [true, true]] [(1, vI n), (2, vR 0 0), (9, vB false)] [LB.mk [cS Ahpages h.pages.length chpages] 62]) (by kernel_rfl) (by kernel_rfl) (by kernel_rfl) ?_
  refine lit_at 9 (b := false) (by kernel_rfl) ?_
  refine go mixed 2000 [1, 2, 9, 10] 1 (St.mk (Rg.sq (bitL 3 1) 5) [kCd (bitL 3 5), KI.code [true, true]] [(1, vI n), (2, vR 0 0), (9, vL false), (10, vI n)] [LB.mk [cS Ahpages h.pages.length chpages] 62]) (by kernel_rfl) (by kernel_rfl) (by kernel_rfl) ?_
  refine call_pure true (by kernel_rfl : atC _ _ _ true = some (55, [vI n, vI 1, vI 92], some 11, Rg.sq (bitL 3 1) 6)) (by kernel_rfl) (.one (.bo (decide (1 ≤ n) && decide (n ≤ 92)))) (fun L w1 hs => (Go.Proofs.Ytgleoebogikooaa.Dk.within_ok (n) (1) (92) w1)) ?_
  refine go mixed 2000 [1, 2, 13] 1 (St.mk Rg.no [kCd (bitL 3 5), KI.code [true, true]] [(1, vI n), (2, vR 0 0), (13, vB !(decide (1 ≤ n) && decide (n ≤ 92)))] [LB.mk [cS Ahpages h.pages.length chpages] 62]) (by kernel_rfl) (by kernel_rfl) (by kernel_rfl) ?_
  try simp only [fl_ne_self, fl_eq_self, fl_eq0, fl_ne0, fl_gt0, fl_lt0, nf_9, nf_8]
  refine go mixed 2000 [1, 2, 13] 1 (St.mk Rg.no [kCd (bitL 3 5), KI.code [true, true]] [(1, vI n), (2, vR 0 0), (13, vB false)] [LB.mk [cS Ahpages h.pages.length chpages] 62]) (by kernel_rfl) (by kernel_rfl) (by kernel_rfl) ?_
  refine lit_at 13 (b := false) (by kernel_rfl) ?_
  refine go mixed 2000 [14, 15] 0 (St.mk (Rg.sq (bitL 3 3) 2) [kCd (bitL 3 7)] [(14, SV.agg [cS Ahpages h.pages.length chpages]), (15, vI n)] []) (by kernel_rfl) (by kernel_rfl) (by kernel_rfl) ?_
  refine call_pure true (by kernel_rfl : atC _ _ _ true = some (87, [SV.agg [cS Ahpages h.pages.length chpages], vI n], some 16, Rg.sq (bitL 3 3) 3)) (by kernel_rfl) (.one (.v (Value.tuple #[Value.int IntKind.i64 (hpGo h.pages n 0).fst, Value.int IntKind.i64 (hpGo h.pages n 0).snd]))) (fun L w1 hs => (Go.Proofs.Ytgleoebogikooaa.Dk.iHPlace0_ok (h) ([Value.slice Ahpages h.pages.length chpages]) (n) w1 (Go.Proofs.Ytgleoebogikooaa.Dk.kHe_mk (rdRow_ext (hs.old 0 rfl) hrhpages)) (by assumption) (by assumption))) ?_
  refine go mixed 2000 [4, 5] 0 (St.mk Rg.no [kCd (bitL 3 7)] [(4, vI (hpGo h.pages n 0).fst), (5, vI (hpGo h.pages n 0).snd)] []) (by kernel_rfl) (by kernel_rfl) (by kernel_rfl) ?_
  refine ret_ok (vs := [vI (hpGo h.pages n 0).fst, vI (hpGo h.pages n 0).snd]) (by kernel_rfl) ?_
  intro L w1 hs
  exact ⟨by rw [hye]; rfl, hs.out0⟩

theorem sHPlace_ok (h : He) (csh : List Value) (n : Int) (w : World) (hh : kHe.rd w.heap h csh) (hl : h.pages.length ≤ 1048576) (hb : byHe h) :
    Calls Try.prog 41 #[.agg csh.toArray, .int .i64 n] w fun e w' => e = .returned (.tuple #[.int .i64 (hpPlace h n).1, .int .i64 (hpPlace h n).2]) ∧ Below w.heap.size w w' := by
  obtain ⟨Ahpages, chpages, rfl, hrhpages⟩ := kHe_inv hh
  refine enter (args := [.agg [.v (.slice Ahpages h.pages.length chpages)], .one (.v (.int .i64 n))]) Try.func41 (c := bodyOf Try.f41) rfl rfl (start_LOK _) (start_old w) ?_
  by_cases hok : ¬ heapOk h = true
  · have hno : hpPlace h n = (-1, -1) := if_neg fun hc => hok hc.1
    have nf_9 : (!heapOk h) = true := by rw [Bool.not_eq_true] at hok; rw [hok]; rfl
    refine go mixed 2000 [1, 2, 8] 1 (St.mk (Rg.sq (bitL 3 1) 1) [kCd (bitL 3 5), KI.code [true, true]] [(1, vI n), (2, vR 0 0), (8, SV.agg [cS Ahpages h.pages.length chpages])] [LB.mk [cS Ahpages h.pages.length chpages] 62]) (by kernel_rfl) (by kernel_rfl) (by kernel_rfl) ?_
    refine call_pure true (by kernel_rfl : atC _ _ _ true = some (37, [SV.agg [cS Ahpages h.pages.length chpages]], some 9, Rg.sq (bitL 3 1) 2)) (by kernel_rfl) (.one (.bo (heapOk h))) (fun L w1 hs => (Go.Proofs.Ytgleoebogikooaa.Dk.sHeapOk_ok (h) ([Value.slice Ahpages h.pages.length chpages]) w1 (Go.Proofs.Ytgleoebogikooaa.Dk.kHe_mk (rdRow_ext (hs.old 0 rfl) hrhpages)) (by assumption) (by assumption))) ?_
    refine go mixed 2000 [1, 2, 11] 1 (St.mk (Rg.sq (bitL 3 1) 4) [kCd (bitL 3 5), KI.code [true, true]] [(1, vI n), (2, vR 0 0), (11, vB !heapOk h)] [LB.mk [cS Ahpages h.pages.length chpages] 62]) (by kernel_rfl) (by kernel_rfl) (by kernel_rfl) ?_
    try simp only [fl_ne_self, fl_eq_self, fl_eq0, fl_ne0, fl_gt0, fl_lt0, nf_9]
    refine go mixed 2000 [1, 2, 11] 1 (St.mk (Rg.sq (bitL 3 1) 4) [kCd (bitL 3 5), KI.code [true, true]] [(1, vI n), (2, vR 0 0), (11, vB true)] [LB.mk [cS Ahpages h.pages.length chpages] 62]) (by kernel_rfl) (by kernel_rfl) (by kernel_rfl) ?_
    refine lit_at 11 (b := true) (by kernel_rfl) ?_
    refine go mixed 2000 [4, 5] 0 (St.mk Rg.no [kCd (bitL 5 21), KI.code [true, true]] [(4, vI (-1)), (5, vI (-1))] []) (by kernel_rfl) (by kernel_rfl) (by kernel_rfl) ?_
    refine ret_ok (vs := [vI (-1), vI (-1)]) (by kernel_rfl) ?_
    intro L w1 hs
    exact ⟨by rw [hno]; rfl, hs.out0⟩
  replace hok : heapOk h = true := Classical.not_not.1 hok
  have nf_9 : (!heapOk h) = false := by rw [hok]; rfl
  by_cases hn : ¬ (1 ≤ n ∧ n ≤ 92)
  · have hno : hpPlace h n = (-1, -1) := if_neg fun hc => hn hc.2
    have nf_8 : (!(decide (1 ≤ n) && decide (n ≤ 92))) = true := by simp only [Bool.not_eq_true', Bool.and_eq_false_iff, decide_eq_false_iff_not]; omega
    refine go mixed 2000 [1, 2, 8] 1 (St.mk (Rg.sq (bitL 3 1) 1) [kCd (bitL 3 5), KI.code [true, true]] [(1, vI n), (2, vR 0 0), (8, SV.agg [cS Ahpages h.pages.length chpages])] [LB.mk [cS Ahpages h.pages.length chpages] 62]) (by kernel_rfl) (by kernel_rfl) (by kernel_rfl) ?_
    refine call_pure true (by kernel_rfl : atC _ _ _ true = some (37, [SV.agg [cS Ahpages h.pages.length chpages]], some 9, Rg.sq (bitL 3 1) 2)) (by kernel_rfl) (.one (.bo (heapOk h))) (fun L w1 hs => (Go.Proofs.Ytgleoebogikooaa.Dk.sHeapOk_ok (h) ([Value.slice Ahpages h.pages.length chpages]) w1 (Go.Proofs.Ytgleoebogikooaa.Dk.kHe_mk (rdRow_ext (hs.old 0 rfl) hrhpages)) (by assumption) (by assumption))) ?_
    refine go mixed 2000 [1, 2, 11] 1 (St.mk (Rg.sq (bitL 3 1) 4) [kCd (bitL 3 5), KI.code [true, true]] [(1, vI n), (2, vR 0 0), (11, vB !heapOk h)] [LB.mk [cS Ahpages h.pages.length chpages] 62]) (by kernel_rfl) (by kernel_rfl) (by kernel_rfl) ?_
    try simp only [fl_ne_self, fl_eq_self, fl_eq0, fl_ne0, fl_gt0, fl_lt0, nf_9, nf_8]
    refine go mixed 2000 [1, 2, 11] 1 (St.mk (Rg.sq (bitL 3 1) 4) [kCd (bitL 3 5), KI.code [true, true]] [(1, vI n), (2, vR 0 0), (11, vB false)] [LB.mk [cS Ahpages h.pages.length chpages] 62]) (by kernel_rfl) (by kernel_rfl) (by kernel_rfl) ?_
    refine lit_at 11 (b := false) (by kernel_rfl) ?_
    refine go mixed 2000 [1, 2, 11, 12] 1 (St.mk (Rg.sq (bitL 3 1) 5) [kCd (bitL 3 5), KI.code [true, true]] [(1, vI n), (2, vR 0 0), (11, vL false), (12, vI n)] [LB.mk [cS Ahpages h.pages.length chpages] 62]) (by kernel_rfl) (by kernel_rfl) (by kernel_rfl) ?_
    refine call_pure true (by kernel_rfl : atC _ _ _ true = some (85, [vI n, vI 1, vI 92], some 13, Rg.sq (bitL 3 1) 6)) (by kernel_rfl) (.one (.bo (decide (1 ≤ n) && decide (n ≤ 92)))) (fun L w1 hs => (Go.Proofs.Ytgleoebogikooaa.Dk.l5in_ok (n) (1) (92) w1)) ?_
    refine go mixed 2000 [1, 2, 15] 1 (St.mk Rg.no [kCd (bitL 3 5), KI.code [true, true]] [(1, vI n), (2, vR 0 0), (15, vB !(decide (1 ≤ n) && decide (n ≤ 92)))] [LB.mk [cS Ahpages h.pages.length chpages] 62]) (by kernel_rfl) (by kernel_rfl) (by kernel_rfl) ?_
    try simp only [fl_ne_self, fl_eq_self, fl_eq0, fl_ne0, fl_gt0, fl_lt0, nf_9, nf_8]
    refine go mixed 2000 [1, 2, 15] 1 (St.mk Rg.no [kCd (bitL 3 5), KI.code [true, true]] [(1, vI n), (2, vR 0 0), (15, vB true)] [LB.mk [cS Ahpages h.pages.length chpages] 62]) (by kernel_rfl) (by kernel_rfl) (by kernel_rfl) ?_
    refine lit_at 15 (b := true) (by kernel_rfl) ?_
    refine go mixed 2000 [4, 5] 0 (St.mk Rg.no [kCd (bitL 5 21), KI.code [true, true]] [(4, vI (-1)), (5, vI (-1))] []) (by kernel_rfl) (by kernel_rfl) (by kernel_rfl) ?_
    refine ret_ok (vs := [vI (-1), vI (-1)]) (by kernel_rfl) ?_
    intro L w1 hs
    exact ⟨by rw [hno]; rfl, hs.out0⟩
  replace hn : 1 ≤ n ∧ n ≤ 92 := Classical.not_not.1 hn
  have nf_8 : (!(decide (1 ≤ n) && decide (n ≤ 92))) = false := by simp only [Bool.not_eq_false', Bool.and_eq_true, decide_eq_true_eq]; omega
  have hye : hpPlace h n = hpGo h.pages n 0 := if_pos ⟨hok, hn.1, hn.2⟩
  refine go mixed 2000 [1, 2, 8] 1 (St.mk (Rg.sq (bitL 3 1) 1) [kCd (bitL 3 5), KI.code [true, true]] [(1, vI n), (2, vR 0 0), (8, SV.agg [cS Ahpages h.pages.length chpages])] [LB.mk [cS Ahpages h.pages.length chpages] 62]) (by kernel_rfl) (by kernel_rfl) (by kernel_rfl) ?_
  refine call_pure true (by kernel_rfl : atC _ _ _ true = some (37, [SV.agg [cS Ahpages h.pages.length chpages]], some 9, Rg.sq (bitL 3 1) 2)) (by kernel_rfl) (.one (.bo (heapOk h))) (fun L w1 hs => (Go.Proofs.Ytgleoebogikooaa.Dk.sHeapOk_ok (h) ([Value.slice Ahpages h.pages.length chpages]) w1 (Go.Proofs.Ytgleoebogikooaa.Dk.kHe_mk (rdRow_ext (hs.old 0 rfl) hrhpages)) (by assumption) (by assumption))) ?_
  refine go mixed 2000 [1, 2, 11] 1 (St.mk (Rg.sq (bitL 3 1) 4) [kCd (bitL 3 5), KI.code [true, true]] [(1, vI n), (2, vR 0 0), (11, vB !heapOk h)] [LB.mk [cS Ahpages h.pages.length chpages] 62]) (by kernel_rfl) (by kernel_rfl) (by kernel_rfl) ?_
  try simp only [fl_ne_self, fl_eq_self, fl_eq0, fl_ne0, fl_gt0, fl_lt0, nf_9, nf_8]
  refine go mixed 2000 [1, 2, 11] 1 (St.mk (Rg.sq (bitL 3 1) 4) [kCd (bitL 3 5), KI.code [true, true]] [(1, vI n), (2, vR 0 0), (11, vB false)] [LB.mk [cS Ahpages h.pages.length chpages] 62]) (by kernel_rfl) (by kernel_rfl) (by kernel_rfl) ?_
  refine lit_at 11 (b := false) (by kernel_rfl) ?_
  refine go mixed 2000 [1, 2, 11, 12] 1 (St.mk (Rg.sq (bitL 3 1) 5) [kCd (bitL 3 5), KI.code [true, true]] [(1, vI n), (2, vR 0 0), (11, vL false), (12, vI n)] [LB.mk [cS Ahpages h.pages.length chpages] 62]) (by kernel_rfl) (by kernel_rfl) (by kernel_rfl) ?_
  refine call_pure true (by kernel_rfl : atC _ _ _ true = some (85, [vI n, vI 1, vI 92], some 13, Rg.sq (bitL 3 1) 6)) (by kernel_rfl) (.one (.bo (decide (1 ≤ n) && decide (n ≤ 92)))) (fun L w1 hs => (Go.Proofs.Ytgleoebogikooaa.Dk.l5in_ok (n) (1) (92) w1)) ?_
  refine go mixed 2000 [1, 2, 15] 1 (St.mk Rg.no [kCd (bitL 3 5), KI.code [true, true]] [(1, vI n), (2, vR 0 0), (15, vB !(decide (1 ≤ n) && decide (n ≤ 92)))] [LB.mk [cS Ahpages h.pages.length chpages] 62]) (by kernel_rfl) (by kernel_rfl) (by kernel_rfl) ?_
  try simp only [fl_ne_self, fl_eq_self, fl_eq0, fl_ne0, fl_gt0, fl_lt0, nf_9, nf_8]
  refine go mixed 2000 [1, 2, 15] 1 (St.mk Rg.no [kCd (bitL 3 5), KI.code [true, true]] [(1, vI n), (2, vR 0 0), (15, vB false)] [LB.mk [cS Ahpages h.pages.length chpages] 62]) (by kernel_rfl) (by kernel_rfl) (by kernel_rfl) ?_
  refine lit_at 15 (b := false) (by kernel_rfl) ?_
  refine go mixed 2000 [1, 2, 6] 1 (St.mk Rg.no [kLp (bitL 6 59), KI.block 0, kCd (bitL 3 7)] [(1, vI n), (2, vR 0 0), (6, vI 0)] [LB.mk [cS Ahpages h.pages.length chpages] 62]) (by kernel_rfl) (by kernel_rfl) (by kernel_rfl) ?_
  refine loop_at (ι := Nat) (fun i => [(6, .one (.v (.int .i64 i)))]) (fun _ => []) (fun _ => [oldA w]) (fun i => i ≤ h.pages.length ∧ hpGo h.pages n 0 = hpGo (h.pages.drop i) n i) (fun i => h.pages.length - i) 0 rfl rfl rfl ⟨Nat.zero_le _, rfl⟩ ?_
  rintro i ⟨hi, hg⟩ ih
  rcases Nat.lt_or_ge i h.pages.length with hlt | hge
  · have hps := (hb _ (List.getElem_mem hlt)).1
    by_cases hp : 0 ≤ pgPlace h.pages[i] n
    · have hit := hg.trans (hpGo_hit hlt hp)
      refine go mixed 2000 [1, 2, 6, 20] 1 (St.mk Rg.no [kCd (bitL 8 187), kCd (bitL 7 123), kLp (bitL 6 59), KI.block 0, kCd (bitL 3 7)] [(1, vI n), (2, vR 0 0), (6, vI (↑i : Int)), (20, vB (decide ((↑i : Int) < (↑h.pages.length : Int))))] [LB.mk [cS Ahpages h.pages.length chpages] 62]) (by kernel_rfl) (by kernel_rfl) (by kernel_rfl) ?_
      refine split_at 20 (b := decide ((↑i : Int) < (↑h.pages.length : Int))) (by kernel_rfl) (by kernel_rfl) ?_ ?_
      · intro hb1
        replace hb1 := of_decide_eq_true hb1
        refine go mixed 2000 [1, 2, 6, 24, 25] 1 (St.mk (Rg.sq (bitL 10 379) 3) [kCd (bitL 10 891), KI.block 1, kCd (bitL 8 251), kLp (bitL 6 59), KI.block 0, kCd (bitL 3 7)] [(1, vI n), (2, vR 0 0), (6, vI (↑i : Int)), (24, vS Ahpages h.pages.length chpages), (25, vI (↑i : Int))] [LB.mk [cS Ahpages h.pages.length chpages] 62]) (by kernel_rfl) (by kernel_rfl) (by kernel_rfl) ?_
        refine index_at 3 (by kernel_rfl : atP _ _ _ 3 false = some (Op.indexAddr 60 (tmpO 24) (tmpO 25), 0, some 26, Rg.sq (bitL 10 379) 4)) (ni := i) (sz := 2) (by kernel_rfl) rfl rfl rfl (by assumption) (fun L w1 hs => rd_some (i := i) (rdRow_ext (hs.old 0 rfl) hrhpages) (by assumption)) ?_
        intro a_1 ha_1
        cases ha_1
        refine go mixed 2000 [1, 2, 6, 26] 1 (St.mk (Rg.sq (bitL 10 379) 4) [kCd (bitL 10 891), KI.block 1, kCd (bitL 8 251), kLp (bitL 6 59), KI.block 0, kCd (bitL 3 7)] [(1, vI n), (2, vR 0 0), (6, vI (↑i : Int)), (26, vP (a_1.add (i * 2)))] [LB.mk [cS (some a_1) h.pages.length chpages] 62]) (by kernel_rfl) (by kernel_rfl) (by kernel_rfl) ?_
        obtain ⟨Aslots_el1, cslots_el1, hr1_el1, hc_el1⟩ := Go.Proofs.Ytgleoebogikooaa.Dk.kPg_at (i := i) hrhpages (by assumption)
        refine load_agg 4 (by kernel_rfl : atP _ _ _ 4 true = some (Op.load 115 (tmpO 26), 115, some 27, Rg.sq (bitL 10 379) 5)) (n := 2) (by kernel_rfl) rfl ?_
        intro L w1 hs
        refine ⟨[.v (Value.int IntKind.i64 h.pages[i].lsn), .v (Value.slice Aslots_el1 h.pages[i].slots.length cslots_el1)], rfl, cells_at0 (cellsH_ext (hs.old 0 rfl) hc_el1) rfl, ?_⟩
        clear hs
        refine go mixed 2000 [1, 2, 6, 27, 28] 1 (St.mk (Rg.sq (bitL 10 379) 6) [kCd (bitL 10 891), KI.block 1, kCd (bitL 8 251), kLp (bitL 6 59), KI.block 0, kCd (bitL 3 7)] [(1, vI n), (2, vR 0 0), (6, vI (↑i : Int)), (27, SV.agg [cI h.pages[i].lsn, cS Aslots_el1 h.pages[i].slots.length cslots_el1]), (28, vI n)] [LB.mk [cS (some a_1) h.pages.length chpages] 62]) (by kernel_rfl) (by kernel_rfl) (by kernel_rfl) ?_
        refine call_pure true (by kernel_rfl : atC _ _ _ true = some (86, [SV.agg [cI h.pages[i].lsn, cS Aslots_el1 h.pages[i].slots.length cslots_el1], vI n], some 29, Rg.sq (bitL 10 379) 7)) (by kernel_rfl) (.one (.v (Value.int IntKind.i64 (pgPlace h.pages[i] n)))) (fun L w1 hs => (Go.Proofs.Ytgleoebogikooaa.Dk.sPlace_ok (h.pages[i]) ([Value.int IntKind.i64 h.pages[i].lsn, Value.slice Aslots_el1 h.pages[i].slots.length cslots_el1]) (n) w1 (Go.Proofs.Ytgleoebogikooaa.Dk.kPg_mk (rdRow_ext (hs.old 0 rfl) hr1_el1)) (by assumption))) ?_
        refine go mixed 2000 [1, 2, 6, 7, 31] 1 (St.mk Rg.no [kCd (bitL 11 1915), KI.block 1, kCd (bitL 8 251), kLp (bitL 6 59), KI.block 0, kCd (bitL 3 7)] [(1, vI n), (2, vR 0 0), (6, vI (↑i : Int)), (7, vI (pgPlace h.pages[i] n)), (31, vB (decide (pgPlace h.pages[i] n ≥ 0)))] [LB.mk [cS (some a_1) h.pages.length chpages] 62]) (by kernel_rfl) (by kernel_rfl) (by kernel_rfl) ?_
        refine split_at 31 (b := decide (pgPlace h.pages[i] n ≥ 0)) (by kernel_rfl) (by kernel_rfl) ?_ ?_
        · intro hb2
          replace hb2 := of_decide_eq_true hb2
          refine go mixed 2000 [4, 5] 0 (St.mk Rg.no [kCd (bitL 13 6011), KI.block 1, kCd (bitL 8 251), kLp (bitL 6 59), KI.block 0, kCd (bitL 3 7)] [(4, vI (↑i : Int)), (5, vI (pgPlace h.pages[i] n))] []) (by kernel_rfl) (by kernel_rfl) (by kernel_rfl) ?_
          refine ret_ok (vs := [vI (↑i : Int), vI (pgPlace h.pages[i] n)]) (by kernel_rfl) ?_
          intro L w1 hs
          exact ⟨by rw [hye, hit]; rfl, hs.out0⟩
        · intro hb2
          replace hb2 := of_decide_eq_false hb2
          (exfalso; omega)
      · intro hb1
        replace hb1 := of_decide_eq_false hb1
        (exfalso; omega)
    · have hnx := hg.trans (hpGo_next hlt hp)
      refine go mixed 2000 [1, 2, 6, 20] 1 (St.mk Rg.no [kCd (bitL 8 187), kCd (bitL 7 123), kLp (bitL 6 59), KI.block 0, kCd (bitL 3 7)] [(1, vI n), (2, vR 0 0), (6, vI (↑i : Int)), (20, vB (decide ((↑i : Int) < (↑h.pages.length : Int))))] [LB.mk [cS Ahpages h.pages.length chpages] 62]) (by kernel_rfl) (by kernel_rfl) (by kernel_rfl) ?_
      refine split_at 20 (b := decide ((↑i : Int) < (↑h.pages.length : Int))) (by kernel_rfl) (by kernel_rfl) ?_ ?_
      · intro hb1
        replace hb1 := of_decide_eq_true hb1
        refine go mixed 2000 [1, 2, 6, 24, 25] 1 (St.mk (Rg.sq (bitL 10 379) 3) [kCd (bitL 10 891), KI.block 1, kCd (bitL 8 251), kLp (bitL 6 59), KI.block 0, kCd (bitL 3 7)] [(1, vI n), (2, vR 0 0), (6, vI (↑i : Int)), (24, vS Ahpages h.pages.length chpages), (25, vI (↑i : Int))] [LB.mk [cS Ahpages h.pages.length chpages] 62]) (by kernel_rfl) (by kernel_rfl) (by kernel_rfl) ?_
        refine index_at 3 (by kernel_rfl : atP _ _ _ 3 false = some (Op.indexAddr 60 (tmpO 24) (tmpO 25), 0, some 26, Rg.sq (bitL 10 379) 4)) (ni := i) (sz := 2) (by kernel_rfl) rfl rfl rfl (by assumption) (fun L w1 hs => rd_some (i := i) (rdRow_ext (hs.old 0 rfl) hrhpages) (by assumption)) ?_
        intro a_1 ha_1
        cases ha_1
        refine go mixed 2000 [1, 2, 6, 26] 1 (St.mk (Rg.sq (bitL 10 379) 4) [kCd (bitL 10 891), KI.block 1, kCd (bitL 8 251), kLp (bitL 6 59), KI.block 0, kCd (bitL 3 7)] [(1, vI n), (2, vR 0 0), (6, vI (↑i : Int)), (26, vP (a_1.add (i * 2)))] [LB.mk [cS (some a_1) h.pages.length chpages] 62]) (by kernel_rfl) (by kernel_rfl) (by kernel_rfl) ?_
        obtain ⟨Aslots_el1, cslots_el1, hr1_el1, hc_el1⟩ := Go.Proofs.Ytgleoebogikooaa.Dk.kPg_at (i := i) hrhpages (by assumption)
        refine load_agg 4 (by kernel_rfl : atP _ _ _ 4 true = some (Op.load 115 (tmpO 26), 115, some 27, Rg.sq (bitL 10 379) 5)) (n := 2) (by kernel_rfl) rfl ?_
        intro L w1 hs
        refine ⟨[.v (Value.int IntKind.i64 h.pages[i].lsn), .v (Value.slice Aslots_el1 h.pages[i].slots.length cslots_el1)], rfl, cells_at0 (cellsH_ext (hs.old 0 rfl) hc_el1) rfl, ?_⟩
        clear hs
        refine go mixed 2000 [1, 2, 6, 27, 28] 1 (St.mk (Rg.sq (bitL 10 379) 6) [kCd (bitL 10 891), KI.block 1, kCd (bitL 8 251), kLp (bitL 6 59), KI.block 0, kCd (bitL 3 7)] [(1, vI n), (2, vR 0 0), (6, vI (↑i : Int)), (27, SV.agg [cI h.pages[i].lsn, cS Aslots_el1 h.pages[i].slots.length cslots_el1]), (28, vI n)] [LB.mk [cS (some a_1) h.pages.length chpages] 62]) (by kernel_rfl) (by kernel_rfl) (by kernel_rfl) ?_
        refine call_pure true (by kernel_rfl : atC _ _ _ true = some (86, [SV.agg [cI h.pages[i].lsn, cS Aslots_el1 h.pages[i].slots.length cslots_el1], vI n], some 29, Rg.sq (bitL 10 379) 7)) (by kernel_rfl) (.one (.v (Value.int IntKind.i64 (pgPlace h.pages[i] n)))) (fun L w1 hs => (Go.Proofs.Ytgleoebogikooaa.Dk.sPlace_ok (h.pages[i]) ([Value.int IntKind.i64 h.pages[i].lsn, Value.slice Aslots_el1 h.pages[i].slots.length cslots_el1]) (n) w1 (Go.Proofs.Ytgleoebogikooaa.Dk.kPg_mk (rdRow_ext (hs.old 0 rfl) hr1_el1)) (by assumption))) ?_
        refine go mixed 2000 [1, 2, 6, 7, 31] 1 (St.mk Rg.no [kCd (bitL 11 1915), KI.block 1, kCd (bitL 8 251), kLp (bitL 6 59), KI.block 0, kCd (bitL 3 7)] [(1, vI n), (2, vR 0 0), (6, vI (↑i : Int)), (7, vI (pgPlace h.pages[i] n)), (31, vB (decide (pgPlace h.pages[i] n ≥ 0)))] [LB.mk [cS (some a_1) h.pages.length chpages] 62]) (by kernel_rfl) (by kernel_rfl) (by kernel_rfl) ?_
        refine split_at 31 (b := decide (pgPlace h.pages[i] n ≥ 0)) (by kernel_rfl) (by kernel_rfl) ?_ ?_
        · intro hb2
          replace hb2 := of_decide_eq_true hb2
          (exfalso; omega)
        · intro hb2
          replace hb2 := of_decide_eq_false hb2
          refine go mixed 2000 [1, 2, 6] 1 (St.mk Rg.no [kLp (bitL 6 59), KI.block 0, kCd (bitL 3 7)] [(1, vI n), (2, vR 0 0), (6, vI (IntKind.i64.wrap ((↑i : Int) + 1)))] [LB.mk [cS (some a_1) h.pages.length chpages] 62]) (by kernel_rfl) (by kernel_rfl) (by kernel_rfl) ?_
          rw [wrap_succ (by omega)]; exact ih (i + 1) ⟨hlt, hnx⟩ (by omega)
      · intro hb1
        replace hb1 := of_decide_eq_false hb1
        (exfalso; omega)
  obtain rfl : i = h.pages.length := by omega
  have hen := hg.trans hpGo_end
  refine go mixed 2000 [1, 2, 6, 20] 1 (St.mk Rg.no [kCd (bitL 8 187), kCd (bitL 7 123), kLp (bitL 6 59), KI.block 0, kCd (bitL 3 7)] [(1, vI n), (2, vR 0 0), (6, vI (↑h.pages.length : Int)), (20, vB (decide ((↑h.pages.length : Int) < (↑h.pages.length : Int))))] [LB.mk [cS Ahpages h.pages.length chpages] 62]) (by kernel_rfl) (by kernel_rfl) (by kernel_rfl) ?_
  refine split_at 20 (b := decide ((↑h.pages.length : Int) < (↑h.pages.length : Int))) (by kernel_rfl) (by kernel_rfl) ?_ ?_
  · intro hb1
    replace hb1 := of_decide_eq_true hb1
    (exfalso; omega)
  · intro hb1
    replace hb1 := of_decide_eq_false hb1
    refine go mixed 2000 [2, 37] 1 (St.mk Rg.no [kCd (bitL 5 23), kCd (bitL 4 15)] [(2, vR 0 0), (37, vB (decide ((↑h.pages.length : Int) < 16)))] [LB.mk [cS Ahpages h.pages.length chpages] 62]) (by kernel_rfl) (by kernel_rfl) (by kernel_rfl) ?_
    refine split_at 37 (b := decide ((↑h.pages.length : Int) < 16)) (by kernel_rfl) (by kernel_rfl) ?_ ?_
    · intro hb2
      replace hb2 := of_decide_eq_true hb2
      refine go mixed 2000 [4, 5] 0 (St.mk Rg.no [kCd (bitL 7 87), kCd (bitL 4 15)] [(4, vI (↑h.pages.length : Int)), (5, vI 0)] []) (by kernel_rfl) (by kernel_rfl) (by kernel_rfl) ?_
      refine ret_ok (vs := [vI (↑h.pages.length : Int), vI 0]) (by kernel_rfl) ?_
      intro L w1 hs
      exact ⟨by rw [hye, hen, if_pos (by omega)]; rfl, hs.out0⟩
    · intro hb2
      replace hb2 := of_decide_eq_false hb2
      refine go mixed 2000 [4, 5] 0 (St.mk Rg.no [kCd (bitL 5 31)] [(4, vI (-1)), (5, vI (-1))] []) (by kernel_rfl) (by kernel_rfl) (by kernel_rfl) ?_
      refine ret_ok (vs := [vI (-1), vI (-1)]) (by kernel_rfl) ?_
      intro L w1 hs
      exact ⟨by rw [hye, hen, if_neg (by omega)]; rfl, hs.out0⟩

theorem lawHeapPlace_ok (h : He) (csh : List Value) (n : Int) (w : World) (hh : kHe.rd w.heap h csh) (hw : wHe h) (hby : ∀ p ∈ h.pages, ∀ s ∈ p.slots, byOk s) :
    Calls Try.prog 9 #[.agg csh.toArray, .int .i64 n] w fun e w' => e = .returned (.bool true) ∧ Below w.heap.size w w' := by
  obtain ⟨Ahpages, chpages, rfl, hrhpages⟩ := kHe_inv hh
  refine enter (args := [.agg [.v (.slice Ahpages h.pages.length chpages)], .one (.v (.int .i64 n))]) Try.func9 (c := bodyOf Try.f9) rfl rfl (start_LOK _) (start_old w) ?_
  skip
  refine go mixed 2000 [1, 2, 11, 12] 1 (St.mk (Rg.sq (bitL 3 3) 2) [kCd (bitL 3 7)] [(1, vI n), (2, vR 0 0), (11, SV.agg [cS Ahpages h.pages.length chpages]), (12, vI 1048576)] [LB.mk [cS Ahpages h.pages.length chpages] 57]) (by kernel_rfl) (by kernel_rfl) (by kernel_rfl) ?_
  refine call_at true (by kernel_rfl : atC _ _ _ true = some (36, [SV.agg [cS Ahpages h.pages.length chpages], vI 1048576], some 13, Rg.sq (bitL 3 3) 3)) (by kernel_rfl) (fun L w1 hs => (Go.Proofs.Ytgleoebogikooaa.Dk.szHeap_ok (h) ([Value.slice Ahpages h.pages.length chpages]) (1048576) w1 (Go.Proofs.Ytgleoebogikooaa.Dk.kHe_mk (rdRow_ext (hs.old 0 rfl) hrhpages)) (by omega) (by omega) (by assumption)).mono ?_)
  rintro e_ w2_ ⟨r_1, rfl, hf_, hq1⟩
  refine ⟨.one (.v (Value.int IntKind.i64 r_1)), _, _, rfl, fun _ => hf_.block, hs.below hf_, ?_⟩
  clear hs hf_
  refine go mixed 2000 [1, 2, 15] 1 (St.mk Rg.no [kCd (bitL 5 23), kCd (bitL 4 15)] [(1, vI n), (2, vR 0 0), (15, vB (decide (r_1 < 0)))] [LB.mk [cS Ahpages h.pages.length chpages] 57]) (by kernel_rfl) (by kernel_rfl) (by kernel_rfl) ?_
  skip
  by_cases hneg : r_1 < 0
  · refine go mixed 2000 [1, 2, 15] 1 (St.mk Rg.no [kCd (bitL 5 23), kCd (bitL 4 15)] [(1, vI n), (2, vR 0 0), (15, vB (decide (r_1 < 0)))] [LB.mk [cS Ahpages h.pages.length chpages] 57]) (by kernel_rfl) (by kernel_rfl) (by kernel_rfl) ?_
    refine split_at 15 (b := decide (r_1 < 0)) (by kernel_rfl) (by kernel_rfl) ?_ ?_
    · intro hb1
      replace hb1 := of_decide_eq_true hb1
      refine go mixed 2000 [4] 0 (St.mk Rg.no [kCd (bitL 7 87), kCd (bitL 4 15)] [(4, vL true)] []) (by kernel_rfl) (by kernel_rfl) (by kernel_rfl) ?_
      refine ret_ok (vs := [vL true]) (by kernel_rfl) ?_
      intro L w1 hs
      exact ⟨rfl, hs.out0⟩
    · intro hb1
      replace hb1 := of_decide_eq_false hb1
      (exfalso; omega)
  have hzH : zHe h ≤ 1048576 := by omega
  have hzh : zHe h = zRow zPg h.pages := rfl
  have hzh1 : zRow zPg h.pages = h.pages.length + (h.pages.map zPg).sum := rfl
  have hb := byHe_of hzH hby
  have hpl : h.pages.length ≤ 1048576 := by omega
  refine go mixed 2000 [1, 2, 15] 1 (St.mk Rg.no [kCd (bitL 5 23), kCd (bitL 4 15)] [(1, vI n), (2, vR 0 0), (15, vB (decide (r_1 < 0)))] [LB.mk [cS Ahpages h.pages.length chpages] 57]) (by kernel_rfl) (by kernel_rfl) (by kernel_rfl) ?_
  refine split_at 15 (b := decide (r_1 < 0)) (by kernel_rfl) (by kernel_rfl) ?_ ?_
  · intro hb1
    replace hb1 := of_decide_eq_true hb1
    (exfalso; omega)
  · intro hb1
    replace hb1 := of_decide_eq_false hb1
    refine go mixed 2000 [1, 2, 17] 1 (St.mk (Rg.sq (bitL 5 15) 1) [kCd (bitL 5 31)] [(1, vI n), (2, vR 0 0), (17, SV.agg [cS Ahpages h.pages.length chpages])] [LB.mk [cS Ahpages h.pages.length chpages] 57]) (by kernel_rfl) (by kernel_rfl) (by kernel_rfl) ?_
    refine call_at true (by kernel_rfl : atC _ _ _ true = some (38, [SV.agg [cS Ahpages h.pages.length chpages]], some 18, Rg.sq (bitL 5 15) 2)) (by kernel_rfl) (fun L w1 hs => (Go.Proofs.Ytgleoebogikooaa.Dk.toHeap_ok (h) ([Value.slice Ahpages h.pages.length chpages]) w1 (Go.Proofs.Ytgleoebogikooaa.Dk.kHe_mk (rdRow_ext (hs.old 0 rfl) hrhpages)) (by assumption)).mono ?_)
    rintro e_ w2_ ⟨Aopages_1, copages_1, rfl, hf_⟩
    refine ⟨.agg [.v (Value.slice Aopages_1 h.pages.length copages_1)], _, _, rfl, fun _ => hf_.1.block, hs.fresh hf_, ?_⟩
    clear hs hf_
    refine go mixed 2000 [1, 2, 18, 19] 1 (St.mk (Rg.sq (bitL 5 15) 3) [kCd (bitL 5 31)] [(1, vI n), (2, vR 0 0), (18, SV.agg [cS Aopages_1 h.pages.length copages_1]), (19, vI n)] [LB.mk [cS Ahpages h.pages.length chpages] 57]) (by kernel_rfl) (by kernel_rfl) (by kernel_rfl) ?_
    refine call_pure true (by kernel_rfl : atC _ _ _ true = some (41, [SV.agg [cS Aopages_1 h.pages.length copages_1], vI n], some 20, Rg.sq (bitL 5 15) 4)) (by kernel_rfl) (.one (.v (Value.tuple #[Value.int IntKind.i64 (hpPlace h n).fst, Value.int IntKind.i64 (hpPlace h n).snd]))) (fun L w1 hs => (Go.Proofs.Ytgleoebogikooaa.Dk.sHPlace_ok (h) ([Value.slice Aopages_1 h.pages.length copages_1]) (n) w1 (Go.Proofs.Ytgleoebogikooaa.Dk.kHe_mk (hs.rd 0 rfl)) (by assumption) (by assumption))) ?_
    refine go mixed 2000 [1, 2, 6, 7, 23] 1 (St.mk (Rg.sq (bitL 6 31) 1) [kCd (bitL 6 63)] [(1, vI n), (2, vR 0 0), (6, vI (hpPlace h n).fst), (7, vI (hpPlace h n).snd), (23, SV.agg [cS Ahpages h.pages.length chpages])] [LB.mk [cS Ahpages h.pages.length chpages] 57]) (by kernel_rfl) (by kernel_rfl) (by kernel_rfl) ?_
    refine call_at true (by kernel_rfl : atC _ _ _ true = some (38, [SV.agg [cS Ahpages h.pages.length chpages]], some 24, Rg.sq (bitL 6 31) 2)) (by kernel_rfl) (fun L w1 hs => (Go.Proofs.Ytgleoebogikooaa.Dk.toHeap_ok (h) ([Value.slice Ahpages h.pages.length chpages]) w1 (Go.Proofs.Ytgleoebogikooaa.Dk.kHe_mk (rdRow_ext (hs.old 1 rfl) hrhpages)) (by assumption)).mono ?_)
    rintro e_ w2_ ⟨Aopages_2, copages_2, rfl, hf_⟩
    refine ⟨.agg [.v (Value.slice Aopages_2 h.pages.length copages_2)], _, _, rfl, fun _ => hf_.1.block, hs.fresh hf_, ?_⟩
    clear hs hf_
    refine go mixed 2000 [2, 6, 7, 8, 26, 27] 2 (St.mk (Rg.sq (bitL 7 63) 2) [kCd (bitL 7 127)] [(2, vR 0 0), (6, vI (hpPlace h n).fst), (7, vI (hpPlace h n).snd), (8, vR 1 0), (26, SV.agg [cS Aopages_2 h.pages.length copages_2]), (27, vI n)] [LB.mk [cS Ahpages h.pages.length chpages] 57, LB.mk [cS Aopages_2 h.pages.length copages_2] 62]) (by kernel_rfl) (by kernel_rfl) (by kernel_rfl) ?_
    refine call_pure true (by kernel_rfl : atC _ _ _ true = some (42, [SV.agg [cS Aopages_2 h.pages.length copages_2], vI n], some 28, Rg.sq (bitL 7 63) 3)) (by kernel_rfl) (.one (.v (Value.tuple #[Value.int IntKind.i64 (hpPlace h n).fst, Value.int IntKind.i64 (hpPlace h n).snd]))) (fun L w1 hs => (Go.Proofs.Ytgleoebogikooaa.Dk.iHPlace_ok (h) ([Value.slice Aopages_2 h.pages.length copages_2]) (n) w1 (Go.Proofs.Ytgleoebogikooaa.Dk.kHe_mk (hs.rd 0 rfl)) (by assumption) (by assumption))) ?_
    refine go mixed 2000 [2, 7, 8, 10, 34] 2 (St.mk (Rg.sq (bitL 9 127) 4) [kCd (bitL 9 383), kCd (bitL 8 255)] [(2, vR 0 0), (7, vI (hpPlace h n).snd), (8, vR 1 0), (10, vI (hpPlace h n).snd), (34, vB ((hpPlace h n).fst != (hpPlace h n).fst))] [LB.mk [cS Ahpages h.pages.length chpages] 57, LB.mk [cS Aopages_2 h.pages.length copages_2] 62]) (by kernel_rfl) (by kernel_rfl) (by kernel_rfl) ?_
    refine split_at 34 (b := (hpPlace h n).fst != (hpPlace h n).fst) (by kernel_rfl) (by kernel_rfl) ?_ ?_
    · intro hb2
      replace hb2 := bne_iff_ne.1 hb2
      (exfalso; omega)
    · intro hb2
      replace hb2 := bne_eq_false_iff_eq.1 hb2
      refine go mixed 2000 [2, 8, 38] 2 (St.mk Rg.no [kCd (bitL 9 383), kCd (bitL 8 255)] [(2, vR 0 0), (8, vR 1 0), (38, vB ((hpPlace h n).snd != (hpPlace h n).snd))] [LB.mk [cS Ahpages h.pages.length chpages] 57, LB.mk [cS Aopages_2 h.pages.length copages_2] 62]) (by kernel_rfl) (by kernel_rfl) (by kernel_rfl) ?_
      refine split_at 38 (b := (hpPlace h n).snd != (hpPlace h n).snd) (by kernel_rfl) (by kernel_rfl) ?_ ?_
      · intro hb3
        replace hb3 := bne_iff_ne.1 hb3
        (exfalso; omega)
      · intro hb3
        replace hb3 := bne_eq_false_iff_eq.1 hb3
        refine go mixed 2000 [39, 40] 0 (St.mk (Rg.dr (bitL 10 255) (bitL 5 3) 3 2) [kCd (bitL 10 767), kCd (bitL 9 511)] [(39, SV.agg [cS Aopages_2 h.pages.length copages_2]), (40, SV.agg [cS Ahpages h.pages.length chpages])] []) (by kernel_rfl) (by kernel_rfl) (by kernel_rfl) ?_
        refine call_at true (by kernel_rfl : atC _ _ _ true = some (38, [SV.agg [cS Ahpages h.pages.length chpages]], some 41, Rg.dr (bitL 10 255) (bitL 5 7) 2 10)) (by kernel_rfl) (fun L w1 hs => (Go.Proofs.Ytgleoebogikooaa.Dk.toHeap_ok (h) ([Value.slice Ahpages h.pages.length chpages]) w1 (Go.Proofs.Ytgleoebogikooaa.Dk.kHe_mk (rdRow_ext (hs.old 2 rfl) hrhpages)) (by assumption)).mono ?_)
        rintro e_ w2_ ⟨Aopages_3, copages_3, rfl, hf_⟩
        refine ⟨.agg [.v (Value.slice Aopages_3 h.pages.length copages_3)], _, _, rfl, fun _ => hf_.1.block, hs.fresh hf_, ?_⟩
        clear hs hf_
        refine go mixed 2000 [39, 41] 0 (St.mk (Rg.dr (bitL 10 255) (bitL 5 7) 2 10) [kCd (bitL 10 767), kCd (bitL 9 511)] [(39, SV.agg [cS Aopages_2 h.pages.length copages_2]), (41, SV.agg [cS Aopages_3 h.pages.length copages_3])] []) (by kernel_rfl) (by kernel_rfl) (by kernel_rfl) ?_
        refine call_pure true (by kernel_rfl : atC _ _ _ true = some (40, [SV.agg [cS Aopages_2 h.pages.length copages_2], SV.agg [cS Aopages_3 h.pages.length copages_3]], some 42, Rg.dr (bitL 10 255) (bitL 5 15) 1 10)) (by kernel_rfl) (.one (.bo (true))) (fun L w1 hs => (Go.Proofs.Ytgleoebogikooaa.Dk.eqHeap_ok (h) ([Value.slice Aopages_2 h.pages.length copages_2]) ([Value.slice Aopages_3 h.pages.length copages_3]) w1 (Go.Proofs.Ytgleoebogikooaa.Dk.kHe_mk (hs.rd 1 rfl)) (Go.Proofs.Ytgleoebogikooaa.Dk.kHe_mk (hs.rd 0 rfl)) (by assumption))) ?_
        refine go mixed 2000 [43] 0 (St.mk Rg.no [kCd (bitL 10 767), kCd (bitL 9 511)] [(43, vB false)] []) (by kernel_rfl) (by kernel_rfl) (by kernel_rfl) ?_
        refine lit_at 43 (b := false) (by kernel_rfl) ?_
        refine go mixed 2000 [4] 0 (St.mk Rg.no [kCd (bitL 10 1023)] [(4, vL true)] []) (by kernel_rfl) (by kernel_rfl) (by kernel_rfl) ?_
        refine ret_ok (vs := [vL true]) (by kernel_rfl) ?_
        intro L w1 hs
        exact ⟨rfl, (hs.erases [0, 0, 0]).out0⟩

end Go.Proofs.Ytgleoebogikooaa.Dk
