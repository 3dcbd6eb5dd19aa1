/- Walks of functions of the program: what each call returns and what it leaves in memory. Conditions: those that each theorem names. -/
import Derived.Test.YtgleoebogikooaaZ4
import Derived.Test.YtgleoebogikooaaY4
namespace Go.Proofs.Ytgleoebogikooaa.Dk
set_option linter.unusedVariables false
set_option linter.unusedSimpArgs false
open Go.Proofs.Ytgleoebogikooaa.Sx Go.Proofs Go.RowKit
set_option maxRecDepth 100000
set_option maxHeartbeats 1000000
theorem mkBB_idem : ∀ (l : List (List Int)) (k : Int), mkBB (mkBB l k) k = mkBB l k
  | [], _ => rfl
  | y :: r, k => by simp only [mkBB, mkB_len, mkBB_idem r]
theorem mkPs_idem : ∀ (l : List Pg) (k : Int), mkPs (mkPs l k) k = mkPs l k
  | [], _ => rfl
  | x :: r, k => by simp only [mkPs, mkPg, mkBB_lenSum, mkBB_idem, mkPs_idem r]
theorem heldByteSS_ok (ys : List (List Int)) (vys : Value) (k : Int) (w : World) (hys : rdRow (kRow 5 kU8) w.heap ys vys) (hx : ys = mkBB ys k) (hl : ys.length ≤ 1048576) (hl2 : lenSum ys ≤ 1048576) (hl3 : ∀ y ∈ ys, y.length ≤ 1048576) (hk : 0 ≤ k ∧ k ≤ 1073741824) :
    Calls Try.prog 133 #[vys, .int .i64 k] w fun e w' => e = .returned (.int .i64 (k + lenSum ys)) ∧ Below w.heap.size w w' := by
  obtain ⟨Ays, cys, rfl⟩ := rdRow_form hys
  refine enter (args := [.one (.v (.slice Ays ys.length cys)), .one (.v (.int .i64 k))]) Try.func133 (c := bodyOf Try.f133) rfl rfl (start_LOK _) (start_old w) ?_
  have rows_on : True := trivial
  refine gm [0, 1, 5] 0 (St.mk Rg.no [kLp (bitL 5 29), KI.block 0, KI.code [true, true]] [(0, vS Ays ys.length cys), (1, vI k), (5, vI 0)] []) ?_
  refine loop_at (ι := Nat) (fun i => [(1, .one (.v (.int .i64 (k + (lenSum (ys.take i) : Int))))), (5, .one (.v (.int .i64 i)))]) (fun _ => []) (fun i => [oldA w]) (fun i => i ≤ ys.length) (fun i => ys.length - i) 0 (by simp [updTm, lk, lenSum]; exact ⟨rfl, rfl⟩) rfl rfl (Nat.zero_le _) ?_
  intro i hi ih
  rcases Nat.lt_or_ge i ys.length with hlt | hge
  · have hle := lenSum_take_le ys i
    have hle2 := lenSum_take hlt
    have hle3 := lenSum_take_le ys (i + 1)
    have hyl := hl3 _ (List.getElem_mem hlt)
    obtain ⟨K, hK⟩ : ∃ K : Int, K = k + (lenSum (ys.take i) : Int) := ⟨_, rfl⟩
    have hmk : ys[i] = mkB ys[i].length K := by rw [hK]; exact (List.getElem_of_eq hx hlt).trans (mkBB_get hlt _)
    rw [← hK]
    have hK2 : k + (lenSum (ys.take (i + 1)) : Int) = K + (ys[i].length : Int) := by omega
    refine gm [0, 1, 5, 9] 0 (St.mk Rg.no [kCd (bitL 7 93), kCd (bitL 6 61), kLp (bitL 5 29), KI.block 0, KI.code [true, true]] [(0, vS Ays ys.length cys), (1, vI K), (5, vI (↑i : Int)), (9, vB (decide ((↑i : Int) < (↑ys.length : Int))))] []) ?_
    refine spl 9 (decide ((↑i : Int) < (↑ys.length : Int))) ?_ ?_
    · intro hb1
      replace hb1 := of_decide_eq_true hb1
      refine gm [0, 1, 5, 12, 13] 0 (St.mk (Rg.sq (bitL 9 189) 2) [kCd (bitL 9 445), KI.block 1, kCd (bitL 7 125), kLp (bitL 5 29), KI.block 0, KI.code [true, true]] [(0, vS Ays ys.length cys), (1, vI K), (5, vI (↑i : Int)), (12, vS Ays ys.length cys), (13, vI (↑i : Int))] []) ?_
      refine index_at 2 (by kernel_rfl : atP _ _ _ 2 false = some (Op.indexAddr 113 (tmpO 12) (tmpO 13), 0, some 14, Rg.sq (bitL 9 189) 3)) (ni := i) (sz := 1) (by kernel_rfl) rfl rfl rfl (by assumption) (fun L w1 hs => rd_some (i := i) (rdRow_ext (hs.old 0 rfl) hys) (by assumption)) ?_
      intro a_1 ha_1
      cases ha_1
      refine gm [0, 1, 5, 14] 0 (St.mk (Rg.sq (bitL 9 189) 3) [kCd (bitL 9 445), KI.block 1, kCd (bitL 7 125), kLp (bitL 5 29), KI.block 0, KI.code [true, true]] [(0, vS (some a_1) ys.length cys), (1, vI K), (5, vI (↑i : Int)), (14, vP (a_1.add (i * 1)))] []) ?_
      obtain ⟨Ai_r1, ci_r1, hce_r1, hrw_r1⟩ := rd_row (i := i) hys (by assumption)
      refine load_one 3 (by kernel_rfl : atP _ _ _ 3 true = some (Op.load 40 (tmpO 14), 40, some 15, Rg.sq (bitL 9 189) 4)) (n := 1) (by kernel_rfl) rfl ?_
      intro L w1 hs
      refine ⟨.v (.slice Ai_r1 ((ys)[i]'(by assumption)).length ci_r1), cellH_ext (hs.old 0 rfl) hce_r1, ?_⟩
      clear hs
      refine gm [0, 5, 15, 16] 0 (St.mk (Rg.sq (bitL 9 189) 5) [kCd (bitL 9 445), KI.block 1, kCd (bitL 7 125), kLp (bitL 5 29), KI.block 0, KI.code [true, true]] [(0, vS (some a_1) ys.length cys), (5, vI (↑i : Int)), (15, vS Ai_r1 ys[i].length ci_r1), (16, vI K)] []) ?_
      refine call_pure true (by kernel_rfl : atC _ _ _ true = some (63, [vS Ai_r1 ys[i].length ci_r1, vI K], some 17, Rg.sq (bitL 9 189) 6)) (by kernel_rfl) (.one (.v (Value.int IntKind.i64 (K + (↑ys[i].length : Int))))) (fun L w1 hs => (Go.Proofs.Ytgleoebogikooaa.Dk.heldByteS_ok (ys[i]) (Value.slice Ai_r1 ys[i].length ci_r1) (K) w1 (rdRow_ext (hs.old 0 rfl) hrw_r1) (by assumption) (by assumption) (by omega))) ?_
      refine gm [0, 1, 5, 19] 0 (St.mk Rg.no [kCd (bitL 10 957), KI.block 1, kCd (bitL 7 125), kLp (bitL 5 29), KI.block 0, KI.code [true, true]] [(0, vS (some a_1) ys.length cys), (1, vI (K + (↑ys[i].length : Int))), (5, vI (↑i : Int)), (19, vB (decide (K + (↑ys[i].length : Int) < 0)))] []) ?_
      refine spl 19 (decide (K + (↑ys[i].length : Int) < 0)) ?_ ?_
      · intro hb2
        replace hb2 := of_decide_eq_true hb2
        (exfalso; omega)
      · intro hb2
        replace hb2 := of_decide_eq_false hb2
        refine gm [0, 1, 5] 0 (St.mk Rg.no [kLp (bitL 5 29), KI.block 0, KI.code [true, true]] [(0, vS (some a_1) ys.length cys), (1, vI (K + (↑ys[i].length : Int))), (5, vI (IntKind.i64.wrap ((↑i : Int) + 1)))] []) ?_
        rw [wrap_succ (by omega), ← hK2]; exact ih (i + 1) hlt (by omega)
    · intro hb1
      replace hb1 := of_decide_eq_false hb1
      (exfalso; omega)
  · obtain rfl : i = ys.length := by omega
    rw [List.take_length]
    refine gm [0, 1, 5, 9] 0 (St.mk Rg.no [kCd (bitL 7 93), kCd (bitL 6 61), kLp (bitL 5 29), KI.block 0, KI.code [true, true]] [(0, vS Ays ys.length cys), (1, vI (k + (↑(lenSum ys) : Int))), (5, vI (↑ys.length : Int)), (9, vB (decide ((↑ys.length : Int) < (↑ys.length : Int))))] []) ?_
    refine spl 9 (decide ((↑ys.length : Int) < (↑ys.length : Int))) ?_ ?_
    · intro hb1
      replace hb1 := of_decide_eq_true hb1
      (exfalso; omega)
    · intro hb1
      replace hb1 := of_decide_eq_false hb1
      refine gm [4] 0 (St.mk Rg.no [kCd (bitL 3 7)] [(4, vI (k + (↑(lenSum ys) : Int)))] []) ?_
      refine rtk [vI (k + (↑(lenSum ys) : Int))] ?_
      intro L w1 hs
      exact ⟨rfl, hs.out0⟩

theorem heldPageS_ok (xs : List Pg) (vxs : Value) (k : Int) (w : World) (hxs : rdRow kPg w.heap xs vxs) (hx : xs = mkPs xs k) (hl : xs.length ≤ 1048576) (hn : nPs xs ≤ 16777216) (hsl : ∀ p ∈ xs, p.slots.length ≤ 1048576 ∧ lenSum p.slots ≤ 1048576 ∧ ∀ y ∈ p.slots, y.length ≤ 1048576) (hk : 0 ≤ k ∧ k ≤ 1048576) :
    Calls Try.prog 95 #[vxs, .int .i64 k] w fun e w' => e = .returned (.int .i64 (k + nPs xs)) ∧ Below w.heap.size w w' := by
  obtain ⟨Axs, cxs, rfl⟩ := rdRow_form hxs
  refine enter (args := [.one (.v (.slice Axs xs.length cxs)), .one (.v (.int .i64 k))]) Try.func95 (c := bodyOf Try.f95) rfl rfl (start_LOK _) (start_old w) ?_
  have rows_on : True := trivial
  refine gm [0, 1, 5] 0 (St.mk Rg.no [kLp (bitL 5 29), KI.block 0, KI.code [true, true]] [(0, vS Axs xs.length cxs), (1, vI k), (5, vI 0)] []) ?_
  refine loop_at (ι := Nat) (fun i => [(1, .one (.v (.int .i64 (k + (nPs (xs.take i) : Int))))), (5, .one (.v (.int .i64 i)))]) (fun _ => []) (fun i => [oldA w]) (fun i => i ≤ xs.length) (fun i => xs.length - i) 0 (by simp [updTm, lk, nPs]; exact ⟨rfl, rfl⟩) rfl rfl (Nat.zero_le _) ?_
  intro i hi ih
  rcases Nat.lt_or_ge i xs.length with hlt | hge
  · have hle := nPs_take_le xs i
    have hle2 := nPs_take hlt
    have hle3 := nPs_take_le xs (i + 1)
    obtain ⟨hs1, hs2, hs3⟩ := hsl _ (List.getElem_mem hlt)
    obtain ⟨K, hK⟩ : ∃ K : Int, K = k + (nPs (xs.take i) : Int) := ⟨_, rfl⟩
    have hmk : xs[i] = mkPg xs[i] K := by rw [hK]; exact (List.getElem_of_eq hx hlt).trans (mkPs_get hlt _)
    rw [← hK]
    have m1 : xs[i].lsn = K := by rw [hmk]; rfl
    have m2 : xs[i].slots = mkBB xs[i].slots (K + 1) := congrArg Pg.slots hmk
    have nf_1 : IntKind.i64.wrap (K + 1) = K + 1 := by rw [IntKind.wrap_i64]; omega
    have hK2 : k + (nPs (xs.take (i + 1)) : Int) = K + 1 + (lenSum xs[i].slots : Int) := by omega
    refine gm [0, 1, 5, 9] 0 (St.mk Rg.no [kCd (bitL 7 93), kCd (bitL 6 61), kLp (bitL 5 29), KI.block 0, KI.code [true, true]] [(0, vS Axs xs.length cxs), (1, vI K), (5, vI (↑i : Int)), (9, vB (decide ((↑i : Int) < (↑xs.length : Int))))] []) ?_
    refine spl 9 (decide ((↑i : Int) < (↑xs.length : Int))) ?_ ?_
    · intro hb1
      replace hb1 := of_decide_eq_true hb1
      refine gm [0, 1, 5, 12, 13] 0 (St.mk (Rg.sq (bitL 10 189) 2) [kCd (bitL 10 701), kCd (bitL 9 445), KI.block 1, kCd (bitL 7 125), kLp (bitL 5 29), KI.block 0, KI.code [true, true]] [(0, vS Axs xs.length cxs), (1, vI K), (5, vI (↑i : Int)), (12, vS Axs xs.length cxs), (13, vI (↑i : Int))] []) ?_
      refine index_at 2 (by kernel_rfl : atP _ _ _ 2 false = some (Op.indexAddr 60 (tmpO 12) (tmpO 13), 0, some 14, Rg.sq (bitL 10 189) 3)) (ni := i) (sz := 2) (by kernel_rfl) rfl rfl rfl (by assumption) (fun L w1 hs => rd_some (i := i) (rdRow_ext (hs.old 0 rfl) hxs) (by assumption)) ?_
      intro a_1 ha_1
      cases ha_1
      refine gm [0, 1, 5, 15] 0 (St.mk (Rg.sq (bitL 10 189) 4) [kCd (bitL 10 701), kCd (bitL 9 445), KI.block 1, kCd (bitL 7 125), kLp (bitL 5 29), KI.block 0, KI.code [true, true]] [(0, vS (some a_1) xs.length cxs), (1, vI K), (5, vI (↑i : Int)), (15, vP ((a_1.add (i * 2)).add 0))] []) ?_
      obtain ⟨Aslots_el1, cslots_el1, hr1_el1, hc_el1⟩ := Go.Proofs.Ytgleoebogikooaa.Dk.kPg_at (i := i) hxs (by assumption)
      refine load_one 4 (by kernel_rfl : atP _ _ _ 4 true = some (Op.load 3 (tmpO 15), 3, some 16, Rg.sq (bitL 10 189) 5)) (n := 1) (by kernel_rfl) rfl ?_
      intro L w1 hs
      refine ⟨.v (Value.int IntKind.i64 xs[i].lsn), cell_at 0 (cellsH_ext (hs.old 0 rfl) hc_el1) rfl, ?_⟩
      clear hs
      refine gm [0, 1, 5, 18] 0 (St.mk Rg.no [kCd (bitL 10 701), kCd (bitL 9 445), KI.block 1, kCd (bitL 7 125), kLp (bitL 5 29), KI.block 0, KI.code [true, true]] [(0, vS (some a_1) xs.length cxs), (1, vI K), (5, vI (↑i : Int)), (18, vB (xs[i].lsn != K))] []) ?_
      refine spl 18 (xs[i].lsn != K) ?_ ?_
      · intro hb2
        replace hb2 := bne_iff_ne.1 hb2
        (exfalso; omega)
      · intro hb2
        replace hb2 := bne_eq_false_iff_eq.1 hb2
        refine gm [0, 1, 5, 21, 22] 0 (St.mk (Rg.sq (bitL 11 957) 2) [kCd (bitL 11 1981), KI.block 1, kCd (bitL 7 125), kLp (bitL 5 29), KI.block 0, KI.code [true, true]] [(0, vS (some a_1) xs.length cxs), (1, vI (IntKind.i64.wrap (K + 1))), (5, vI (↑i : Int)), (21, vS (some a_1) xs.length cxs), (22, vI (↑i : Int))] []) ?_
        try simp only [fl_ne_self, fl_eq_self, fl_eq0, fl_ne0, fl_gt0, fl_lt0, nf_1]
        refine index_at 2 (by kernel_rfl : atP _ _ _ 2 false = some (Op.indexAddr 60 (tmpO 21) (tmpO 22), 0, some 23, Rg.sq (bitL 11 957) 3)) (ni := i) (sz := 2) (by kernel_rfl) rfl rfl rfl (by assumption) (fun L w1 hs => rd_some (i := i) (rdRow_ext (hs.old 0 rfl) hxs) (by assumption)) ?_
        intro a_2 ha_2
        cases ha_2
        refine gm [0, 1, 5, 24] 0 (St.mk (Rg.sq (bitL 11 957) 4) [kCd (bitL 11 1981), KI.block 1, kCd (bitL 7 125), kLp (bitL 5 29), KI.block 0, KI.code [true, true]] [(0, vS (some a_1) xs.length cxs), (1, vI (K + 1)), (5, vI (↑i : Int)), (24, vP ((a_1.add (i * 2)).add 1))] []) ?_
        obtain ⟨Aslots_el2, cslots_el2, hr1_el2, hc_el2⟩ := Go.Proofs.Ytgleoebogikooaa.Dk.kPg_at (i := i) hxs (by assumption)
        refine load_one 4 (by kernel_rfl : atP _ _ _ 4 true = some (Op.load 113 (tmpO 24), 113, some 25, Rg.sq (bitL 11 957) 5)) (n := 1) (by kernel_rfl) rfl ?_
        intro L w1 hs
        refine ⟨.v (Value.slice Aslots_el2 xs[i].slots.length cslots_el2), cell_at 1 (cellsH_ext (hs.old 0 rfl) hc_el2) rfl, ?_⟩
        clear hs
        refine gm [0, 5, 25, 26] 0 (St.mk (Rg.sq (bitL 11 957) 6) [kCd (bitL 11 1981), KI.block 1, kCd (bitL 7 125), kLp (bitL 5 29), KI.block 0, KI.code [true, true]] [(0, vS (some a_1) xs.length cxs), (5, vI (↑i : Int)), (25, vS Aslots_el2 xs[i].slots.length cslots_el2), (26, vI (K + 1))] []) ?_
        refine call_pure true (by kernel_rfl : atC _ _ _ true = some (133, [vS Aslots_el2 xs[i].slots.length cslots_el2, vI (K + 1)], some 27, Rg.sq (bitL 11 957) 7)) (by kernel_rfl) (.one (.v (Value.int IntKind.i64 (K + 1 + (↑(lenSum xs[i].slots) : Int))))) (fun L w1 hs => (Go.Proofs.Ytgleoebogikooaa.Dk.heldByteSS_ok (xs[i].slots) (Value.slice Aslots_el2 xs[i].slots.length cslots_el2) (K + 1) w1 (rdRow_ext (hs.old 0 rfl) hr1_el2) (by assumption) (by assumption) (by assumption) (by assumption) (by omega))) ?_
        refine gm [0, 1, 5, 29] 0 (St.mk Rg.no [kCd (bitL 12 4029), KI.block 1, kCd (bitL 7 125), kLp (bitL 5 29), KI.block 0, KI.code [true, true]] [(0, vS (some a_1) xs.length cxs), (1, vI (K + 1 + (↑(lenSum xs[i].slots) : Int))), (5, vI (↑i : Int)), (29, vB (decide (K + 1 + (↑(lenSum xs[i].slots) : Int) < 0)))] []) ?_
        refine spl 29 (decide (K + 1 + (↑(lenSum xs[i].slots) : Int) < 0)) ?_ ?_
        · intro hb3
          replace hb3 := of_decide_eq_true hb3
          (exfalso; omega)
        · intro hb3
          replace hb3 := of_decide_eq_false hb3
          refine gm [0, 1, 5] 0 (St.mk Rg.no [kLp (bitL 5 29), KI.block 0, KI.code [true, true]] [(0, vS (some a_1) xs.length cxs), (1, vI (K + 1 + (↑(lenSum xs[i].slots) : Int))), (5, vI (IntKind.i64.wrap ((↑i : Int) + 1)))] []) ?_
          rw [wrap_succ (by omega), ← hK2]; exact ih (i + 1) hlt (by omega)
    · intro hb1
      replace hb1 := of_decide_eq_false hb1
      (exfalso; omega)
  · obtain rfl : i = xs.length := by omega
    rw [List.take_length]
    refine gm [0, 1, 5, 9] 0 (St.mk Rg.no [kCd (bitL 7 93), kCd (bitL 6 61), kLp (bitL 5 29), KI.block 0, KI.code [true, true]] [(0, vS Axs xs.length cxs), (1, vI (k + (↑(nPs xs) : Int))), (5, vI (↑xs.length : Int)), (9, vB (decide ((↑xs.length : Int) < (↑xs.length : Int))))] []) ?_
    refine spl 9 (decide ((↑xs.length : Int) < (↑xs.length : Int))) ?_ ?_
    · intro hb1
      replace hb1 := of_decide_eq_true hb1
      (exfalso; omega)
    · intro hb1
      replace hb1 := of_decide_eq_false hb1
      refine gm [4] 0 (St.mk Rg.no [kCd (bitL 3 7)] [(4, vI (k + (↑(nPs xs) : Int)))] []) ?_
      refine rtk [vI (k + (↑(nPs xs) : Int))] ?_
      intro L w1 hs
      exact ⟨rfl, hs.out0⟩

theorem heldHeap_ok (h : He) (csh : List Value) (k : Int) (w : World) (hh : kHe.rd w.heap h csh) (hx : h.pages = mkPs h.pages k) (hl : h.pages.length ≤ 1048576) (hn : nPs h.pages ≤ 16777216) (hsl : ∀ p ∈ h.pages, p.slots.length ≤ 1048576 ∧ lenSum p.slots ≤ 1048576 ∧ ∀ y ∈ p.slots, y.length ≤ 1048576) (hk : 0 ≤ k ∧ k ≤ 1048576) :
    Calls Try.prog 51 #[.agg csh.toArray, .int .i64 k] w fun e w' => e = .returned (.int .i64 (k + nPs h.pages)) ∧ Below w.heap.size w w' := by
  obtain ⟨Ahpages, chpages, rfl, hrhpages⟩ := kHe_inv hh
  refine enter (args := [.agg [.v (.slice Ahpages h.pages.length chpages)], .one (.v (.int .i64 k))]) Try.func51 (c := bodyOf Try.f51) rfl rfl (start_LOK _) (start_old w) ?_
  refine gm [6, 7] 0 (St.mk (Rg.sq [true, false] 3) [KI.code [true, true]] [(6, vS Ahpages h.pages.length chpages), (7, vI k)] []) ?_
  refine call_pure true (by kernel_rfl : atC _ _ _ true = some (95, [vS Ahpages h.pages.length chpages, vI k], some 8, Rg.sq [true, false] 4)) (by kernel_rfl) (.one (.v (Value.int IntKind.i64 (k + (↑(nPs h.pages) : Int))))) (fun L w1 hs => (Go.Proofs.Ytgleoebogikooaa.Dk.heldPageS_ok (h.pages) (Value.slice Ahpages h.pages.length chpages) (k) w1 (rdRow_ext (hs.old 0 rfl) hrhpages) (by assumption) (by assumption) (by assumption) (by assumption) (by assumption))) ?_
  refine gm [1, 10] 0 (St.mk Rg.no [kCd (bitL 4 11), kCd (bitL 3 7)] [(1, vI (k + (↑(nPs h.pages) : Int))), (10, vB (decide (k + (↑(nPs h.pages) : Int) < 0)))] []) ?_
  refine spl 10 (decide (k + (↑(nPs h.pages) : Int) < 0)) ?_ ?_
  · intro hb1
    replace hb1 := of_decide_eq_true hb1
    (exfalso; omega)
  · intro hb1
    replace hb1 := of_decide_eq_false hb1
    refine gm [4] 0 (St.mk Rg.no [kCd (bitL 4 15)] [(4, vI (k + (↑(nPs h.pages) : Int)))] []) ?_
    refine rtk [vI (k + (↑(nPs h.pages) : Int))] ?_
    intro L w1 hs
    exact ⟨rfl, hs.out0⟩

end Go.Proofs.Ytgleoebogikooaa.Dk
