/- Walks of functions of the program: what each call returns and what it leaves in memory. Conditions: those that each theorem names. -/
import Derived.Test.YtgleoebogikooaaM4
namespace Go.Proofs.Ytgleoebogikooaa.Dk
set_option linter.unusedVariables false
set_option linter.unusedSimpArgs false
open Go.Proofs.Ytgleoebogikooaa.Sx Go.Proofs Go.RowKit
set_option maxRecDepth 100000
set_option maxHeartbeats 1000000
theorem heldEntryS_ok (ys : List En) (vys : Value) (k : Int) (w : World) (hys : rdRow kEn w.heap ys vys) (xs : List En) (hx : ys = mkEs xs k) (hl : xs.length ≤ 1048576) (hn : nEs xs ≤ 68719476736) (hkl : ∀ x ∈ xs, x.key.t.length ≤ 1048576) (hk : 0 ≤ k ∧ k ≤ 1073741824) :
    Calls Try.prog 24 #[vys, .int .i64 k] w fun e w' => e = .returned (.int .i64 (k + nEs xs)) ∧ Below w.heap.size w w' := by
  obtain ⟨Ays, cys, rfl⟩ := rdRow_form hys
  refine enter (args := [.one (.v (.slice Ays ys.length cys)), .one (.v (.int .i64 k))]) Try.func24 (c := bodyOf Try.f24) rfl rfl (start_LOK _) (start_old w) ?_
  have hln : ys.length = xs.length := by rw [hx, mkEs_len]
  refine go mixed 2000 [0, 1, 5] 0 (St.mk Rg.no [kLp (bitL 5 29), KI.block 0, KI.code [true, true]] [(0, vS Ays ys.length cys), (1, vI k), (5, vI 0)] []) (by kernel_rfl) (by kernel_rfl) (by kernel_rfl) ?_
  refine loop_at (ι := Nat) (fun i => [(1, .one (.v (.int .i64 (k + (nEs (xs.take i) : Int))))), (5, .one (.v (.int .i64 i)))]) (fun _ => []) (fun i => [oldA w]) (fun i => i ≤ ys.length) (fun i => ys.length - i) 0 (by simp [updTm, lk, nEs]; exact ⟨rfl, rfl⟩) rfl rfl (Nat.zero_le _) ?_
  intro i hi ih
  rcases Nat.lt_or_ge i ys.length with hlt | hge
  · have hlx : i < xs.length := by omega
    have hle := nEs_take_le xs i
    have hle2 := nEs_take hlx
    have hle3 := nEs_take_le xs (i + 1)
    have htl := hkl _ (List.getElem_mem hlx)
    have hm : ys[i] = mkEn xs[i] (k + nEs (xs.take i)) := (List.getElem_of_eq hx hlt).trans (mkEs_get hlx _)
    obtain ⟨K, hK⟩ : ∃ K : Int, K = k + (nEs (xs.take i) : Int) := ⟨_, rfl⟩
    rw [← hK] at hm ⊢
    have m1 : ys[i].key.kind = K := by rw [hm]; rfl
    have m2 : ys[i].key.n = K + 1 := by rw [hm]; rfl
    have m3 : ys[i].key.f = fI (K + 1 + 1) := by rw [hm, show K + 1 + 1 = K + 2 by omega]; rfl
    have m4 : ys[i].key.t = mkB ys[i].key.t.length (K + 1 + 1 + 1) := by
      have e1 : ys[i].key.t = mkB xs[i].key.t.length (K + 3) := by rw [hm]; rfl
      have e2 : ys[i].key.t.length = xs[i].key.t.length := by rw [e1, mkB_len]
      rw [e2, e1, show K + 1 + 1 + 1 = K + 3 by omega]
    have m4l : ys[i].key.t.length = xs[i].key.t.length := by rw [hm]; exact mkB_len _ _
    have m5 : ys[i].id = K + 1 + 1 + 1 + (ys[i].key.t.length : Int) := by rw [m4l, hm, show K + 1 + 1 + 1 = K + 3 by omega]; rfl
    have nf_1 : IntKind.i64.wrap (K + 1) = K + 1 := by rw [IntKind.wrap_i64]; omega
    have nf_2 : IntKind.i64.wrap (K + 1 + 1) = K + 1 + 1 := by rw [IntKind.wrap_i64]; omega
    have nf_3 : IntKind.i64.wrap (K + 1 + 1 + 1) = K + 1 + 1 + 1 := by rw [IntKind.wrap_i64]; omega
    have hend : IntKind.i64.wrap (K + 1 + 1 + 1 + (ys[i].key.t.length : Int) + 1) = k + (nEs (xs.take (i + 1)) : Int) := by rw [IntKind.wrap_i64]; omega
    have hnan : isNaN (FloatKind.f64.nearest (K + 1 + 1)) = false := fI_nan (by omega)
    skip
    refine go mixed 2000 [0, 1, 5, 9] 0 (St.mk Rg.no [kCd (bitL 7 93), kCd (bitL 6 61), kLp (bitL 5 29), KI.block 0, KI.code [true, true]] [(0, vS Ays ys.length cys), (1, vI K), (5, vI (↑i : Int)), (9, vB (decide ((↑i : Int) < (↑ys.length : Int))))] []) (by kernel_rfl) (by kernel_rfl) (by kernel_rfl) ?_
    refine split_at 9 (b := decide ((↑i : Int) < (↑ys.length : Int))) (by kernel_rfl) (by kernel_rfl) ?_ ?_
    rotate_left
    · intro hb1
      replace hb1 := of_decide_eq_false hb1
      (exfalso; omega)
    intro hb1
    replace hb1 := of_decide_eq_true hb1
    refine go mixed 2000 [0, 1, 5, 12, 13] 0 (St.mk (Rg.sq (bitL 10 189) 2) [kCd (bitL 10 701), kCd (bitL 9 445), KI.block 1, kCd (bitL 7 125), kLp (bitL 5 29), KI.block 0, KI.code [true, true]] [(0, vS Ays ys.length cys), (1, vI K), (5, vI (↑i : Int)), (12, vS Ays ys.length cys), (13, vI (↑i : Int))] []) (by kernel_rfl) (by kernel_rfl) (by kernel_rfl) ?_
    refine index_at 2 (by kernel_rfl : atP _ _ _ 2 false = some (Op.indexAddr 34 (tmpO 12) (tmpO 13), 0, some 14, Rg.sq (bitL 10 189) 3)) (ni := i) (sz := 5) (by kernel_rfl) rfl rfl rfl (by assumption) (fun L w1 hs => rd_some (i := i) (rdRow_ext (hs.old 0 rfl) hys) (by assumption)) ?_
    intro a_1 ha_1
    cases ha_1
    refine go mixed 2000 [0, 1, 5, 16] 0 (St.mk (Rg.sq (bitL 10 189) 5) [kCd (bitL 10 701), kCd (bitL 9 445), KI.block 1, kCd (bitL 7 125), kLp (bitL 5 29), KI.block 0, KI.code [true, true]] [(0, vS (some a_1) ys.length cys), (1, vI K), (5, vI (↑i : Int)), (16, vP (((a_1.add (i * 5)).add 0).add 0))] []) (by kernel_rfl) (by kernel_rfl) (by kernel_rfl) ?_
    obtain ⟨bkey_f_el1, Akey_t_el1, ckey_t_el1, hr1_el1, hr2_el1, hr3_el1, hc_el1⟩ := Go.Proofs.Ytgleoebogikooaa.Dk.kEn_at (i := i) hys (by assumption)
    refine load_one 5 (by kernel_rfl : atP _ _ _ 5 true = some (Op.load 3 (tmpO 16), 3, some 17, Rg.sq (bitL 10 189) 6)) (n := 1) (by kernel_rfl) rfl ?_
    intro L w1 hs
    refine ⟨.v (Value.int IntKind.i64 ys[i].key.kind), cell_deep (by simp only [add_add, Nat.add_zero, Nat.zero_add]) <| cell_at 0 (cellsH_ext (hs.old 0 rfl) hc_el1) rfl, ?_⟩
    clear hs
    refine go mixed 2000 [0, 1, 5, 19] 0 (St.mk Rg.no [kCd (bitL 10 701), kCd (bitL 9 445), KI.block 1, kCd (bitL 7 125), kLp (bitL 5 29), KI.block 0, KI.code [true, true]] [(0, vS (some a_1) ys.length cys), (1, vI K), (5, vI (↑i : Int)), (19, vB (ys[i].key.kind != K))] []) (by kernel_rfl) (by kernel_rfl) (by kernel_rfl) ?_
    refine split_at 19 (b := ys[i].key.kind != K) (by kernel_rfl) (by kernel_rfl) ?_ ?_
    · intro hb2
      replace hb2 := bne_iff_ne.1 hb2
      (exfalso; omega)
    intro hb2
    replace hb2 := bne_eq_false_iff_eq.1 hb2
    refine go mixed 2000 [0, 1, 5, 22, 23] 0 (St.mk (Rg.sq (bitL 12 957) 2) [kCd (bitL 12 3005), kCd (bitL 11 1981), KI.block 1, kCd (bitL 7 125), kLp (bitL 5 29), KI.block 0, KI.code [true, true]] [(0, vS (some a_1) ys.length cys), (1, vI (IntKind.i64.wrap (K + 1))), (5, vI (↑i : Int)), (22, vS (some a_1) ys.length cys), (23, vI (↑i : Int))] []) (by kernel_rfl) (by kernel_rfl) (by kernel_rfl) ?_
    simp only [fl_ne_self, fl_eq_self, fl_eq0, fl_ne0, fl_gt0, fl_lt0, hnan, hr1_el1, hr2_el1, nf_1, nf_2, nf_3]
    refine index_at 2 (by kernel_rfl : atP _ _ _ 2 false = some (Op.indexAddr 34 (tmpO 22) (tmpO 23), 0, some 24, Rg.sq (bitL 12 957) 3)) (ni := i) (sz := 5) (by kernel_rfl) rfl rfl rfl (by assumption) (fun L w1 hs => rd_some (i := i) (rdRow_ext (hs.old 0 rfl) hys) (by assumption)) ?_
    intro a_2 ha_2
    cases ha_2
    refine go mixed 2000 [0, 1, 5, 26] 0 (St.mk (Rg.sq (bitL 12 957) 5) [kCd (bitL 12 3005), kCd (bitL 11 1981), KI.block 1, kCd (bitL 7 125), kLp (bitL 5 29), KI.block 0, KI.code [true, true]] [(0, vS (some a_1) ys.length cys), (1, vI (K + 1)), (5, vI (↑i : Int)), (26, vP (((a_1.add (i * 5)).add 0).add 1))] []) (by kernel_rfl) (by kernel_rfl) (by kernel_rfl) ?_
    obtain ⟨bkey_f_el2, Akey_t_el2, ckey_t_el2, hr1_el2, hr2_el2, hr3_el2, hc_el2⟩ := Go.Proofs.Ytgleoebogikooaa.Dk.kEn_at (i := i) hys (by assumption)
    refine load_one 5 (by kernel_rfl : atP _ _ _ 5 true = some (Op.load 3 (tmpO 26), 3, some 27, Rg.sq (bitL 12 957) 6)) (n := 1) (by kernel_rfl) rfl ?_
    intro L w1 hs
    refine ⟨.v (Value.int IntKind.i64 ys[i].key.n), cell_deep (by simp only [add_add, Nat.add_zero, Nat.zero_add]) <| cell_at 1 (cellsH_ext (hs.old 0 rfl) hc_el2) rfl, ?_⟩
    clear hs
    refine go mixed 2000 [0, 1, 5, 29] 0 (St.mk Rg.no [kCd (bitL 12 3005), kCd (bitL 11 1981), KI.block 1, kCd (bitL 7 125), kLp (bitL 5 29), KI.block 0, KI.code [true, true]] [(0, vS (some a_1) ys.length cys), (1, vI (K + 1)), (5, vI (↑i : Int)), (29, vB (ys[i].key.n != K + 1))] []) (by kernel_rfl) (by kernel_rfl) (by kernel_rfl) ?_
    refine split_at 29 (b := ys[i].key.n != K + 1) (by kernel_rfl) (by kernel_rfl) ?_ ?_
    · intro hb3
      replace hb3 := bne_iff_ne.1 hb3
      (exfalso; omega)
    intro hb3
    replace hb3 := bne_eq_false_iff_eq.1 hb3
    refine go mixed 2000 [0, 1, 5, 32, 33] 0 (St.mk (Rg.sq (bitL 14 4029) 2) [kCd (bitL 14 12221), kCd (bitL 13 8125), KI.block 1, kCd (bitL 7 125), kLp (bitL 5 29), KI.block 0, KI.code [true, true]] [(0, vS (some a_1) ys.length cys), (1, vI (IntKind.i64.wrap (K + 1 + 1))), (5, vI (↑i : Int)), (32, vS (some a_1) ys.length cys), (33, vI (↑i : Int))] []) (by kernel_rfl) (by kernel_rfl) (by kernel_rfl) ?_
    simp only [fl_ne_self, fl_eq_self, fl_eq0, fl_ne0, fl_gt0, fl_lt0, hnan, hr1_el1, hr2_el1, hr1_el2, hr2_el2, nf_1, nf_2, nf_3]
    refine index_at 2 (by kernel_rfl : atP _ _ _ 2 false = some (Op.indexAddr 34 (tmpO 32) (tmpO 33), 0, some 34, Rg.sq (bitL 14 4029) 3)) (ni := i) (sz := 5) (by kernel_rfl) rfl rfl rfl (by assumption) (fun L w1 hs => rd_some (i := i) (rdRow_ext (hs.old 0 rfl) hys) (by assumption)) ?_
    intro a_2 ha_2
    cases ha_2
    refine go mixed 2000 [0, 1, 5, 36] 0 (St.mk (Rg.sq (bitL 14 4029) 5) [kCd (bitL 14 12221), kCd (bitL 13 8125), KI.block 1, kCd (bitL 7 125), kLp (bitL 5 29), KI.block 0, KI.code [true, true]] [(0, vS (some a_1) ys.length cys), (1, vI (K + 1 + 1)), (5, vI (↑i : Int)), (36, vP (((a_1.add (i * 5)).add 0).add 2))] []) (by kernel_rfl) (by kernel_rfl) (by kernel_rfl) ?_
    obtain ⟨bkey_f_el3, Akey_t_el3, ckey_t_el3, hr1_el3, hr2_el3, hr3_el3, hc_el3⟩ := Go.Proofs.Ytgleoebogikooaa.Dk.kEn_at (i := i) hys (by assumption)
    refine load_one 5 (by kernel_rfl : atP _ _ _ 5 true = some (Op.load 39 (tmpO 36), 39, some 37, Rg.sq (bitL 14 4029) 6)) (n := 1) (by kernel_rfl) rfl ?_
    intro L w1 hs
    refine ⟨.v (Value.float FloatKind.f64 bkey_f_el3), cell_deep (by simp only [add_add, Nat.add_zero, Nat.zero_add]) <| cell_at 2 (cellsH_ext (hs.old 0 rfl) hc_el3) rfl, ?_⟩
    clear hs
    refine go mixed 2000 [0, 1, 5, 40] 0 (St.mk Rg.no [kCd (bitL 14 12221), kCd (bitL 13 8125), KI.block 1, kCd (bitL 7 125), kLp (bitL 5 29), KI.block 0, KI.code [true, true]] [(0, vS (some a_1) ys.length cys), (1, vI (K + 1 + 1)), (5, vI (↑i : Int)), (40, vB (FloatKind.f64.format.order bkey_f_el3 (FloatKind.f64.nearest (K + 1 + 1)) != some Ordering.eq))] []) (by kernel_rfl) (by kernel_rfl) (by kernel_rfl) ?_
    have hbe : bkey_f_el3 = FloatKind.f64.nearest (K + 1 + 1) := fI_of (by omega) hr1_el3 (hr2_el3.trans m3)
    subst hbe
    skip
    refine go mixed 2000 [0, 1, 5, 40] 0 (St.mk Rg.no [kCd (bitL 14 12221), kCd (bitL 13 8125), KI.block 1, kCd (bitL 7 125), kLp (bitL 5 29), KI.block 0, KI.code [true, true]] [(0, vS (some a_1) ys.length cys), (1, vI (K + 1 + 1)), (5, vI (↑i : Int)), (40, vB (FloatKind.f64.format.order (FloatKind.f64.nearest (K + 1 + 1)) (FloatKind.f64.nearest (K + 1 + 1)) != some Ordering.eq))] []) (by kernel_rfl) (by kernel_rfl) (by kernel_rfl) ?_
    simp only [fl_ne_self, fl_eq_self, fl_eq0, fl_ne0, fl_gt0, fl_lt0, hnan, hr1_el1, hr2_el1, hr1_el2, hr2_el2, hr1_el3, hr2_el3, nf_1, nf_2, nf_3]
    refine go mixed 2000 [0, 1, 5, 40] 0 (St.mk Rg.no [kCd (bitL 14 12221), kCd (bitL 13 8125), KI.block 1, kCd (bitL 7 125), kLp (bitL 5 29), KI.block 0, KI.code [true, true]] [(0, vS (some a_1) ys.length cys), (1, vI (K + 1 + 1)), (5, vI (↑i : Int)), (40, vB false)] []) (by kernel_rfl) (by kernel_rfl) (by kernel_rfl) ?_
    refine lit_at 40 (b := false) (by kernel_rfl) ?_
    refine go mixed 2000 [0, 1, 5, 43, 44] 0 (St.mk (Rg.sq (bitL 15 16317) 2) [kCd (bitL 15 32701), KI.block 1, kCd (bitL 7 125), kLp (bitL 5 29), KI.block 0, KI.code [true, true]] [(0, vS (some a_1) ys.length cys), (1, vI (IntKind.i64.wrap (K + 1 + 1 + 1))), (5, vI (↑i : Int)), (43, vS (some a_1) ys.length cys), (44, vI (↑i : Int))] []) (by kernel_rfl) (by kernel_rfl) (by kernel_rfl) ?_
    simp only [fl_ne_self, fl_eq_self, fl_eq0, fl_ne0, fl_gt0, fl_lt0, hnan, hr1_el1, hr2_el1, hr1_el2, hr2_el2, hr1_el3, hr2_el3, nf_1, nf_2, nf_3]
    refine index_at 2 (by kernel_rfl : atP _ _ _ 2 false = some (Op.indexAddr 34 (tmpO 43) (tmpO 44), 0, some 45, Rg.sq (bitL 15 16317) 3)) (ni := i) (sz := 5) (by kernel_rfl) rfl rfl rfl (by assumption) (fun L w1 hs => rd_some (i := i) (rdRow_ext (hs.old 0 rfl) hys) (by assumption)) ?_
    intro a_2 ha_2
    cases ha_2
    refine go mixed 2000 [0, 1, 5, 47] 0 (St.mk (Rg.sq (bitL 15 16317) 5) [kCd (bitL 15 32701), KI.block 1, kCd (bitL 7 125), kLp (bitL 5 29), KI.block 0, KI.code [true, true]] [(0, vS (some a_1) ys.length cys), (1, vI (K + 1 + 1 + 1)), (5, vI (↑i : Int)), (47, vP (((a_1.add (i * 5)).add 0).add 3))] []) (by kernel_rfl) (by kernel_rfl) (by kernel_rfl) ?_
    obtain ⟨bkey_f_el4, Akey_t_el4, ckey_t_el4, hr1_el4, hr2_el4, hr3_el4, hc_el4⟩ := Go.Proofs.Ytgleoebogikooaa.Dk.kEn_at (i := i) hys (by assumption)
    refine load_one 5 (by kernel_rfl : atP _ _ _ 5 true = some (Op.load 40 (tmpO 47), 40, some 48, Rg.sq (bitL 15 16317) 6)) (n := 1) (by kernel_rfl) rfl ?_
    intro L w1 hs
    refine ⟨.v (Value.slice Akey_t_el4 ys[i].key.t.length ckey_t_el4), cell_deep (by simp only [add_add, Nat.add_zero, Nat.zero_add]) <| cell_at 3 (cellsH_ext (hs.old 0 rfl) hc_el4) rfl, ?_⟩
    clear hs
    refine go mixed 2000 [0, 5, 48, 49] 0 (St.mk (Rg.sq (bitL 15 16317) 7) [kCd (bitL 15 32701), KI.block 1, kCd (bitL 7 125), kLp (bitL 5 29), KI.block 0, KI.code [true, true]] [(0, vS (some a_1) ys.length cys), (5, vI (↑i : Int)), (48, vS Akey_t_el4 ys[i].key.t.length ckey_t_el4), (49, vI (K + 1 + 1 + 1))] []) (by kernel_rfl) (by kernel_rfl) (by kernel_rfl) ?_
    refine call_pure true (by kernel_rfl : atC _ _ _ true = some (63, [vS Akey_t_el4 ys[i].key.t.length ckey_t_el4, vI (K + 1 + 1 + 1)], some 50, Rg.sq (bitL 15 16317) 8)) (by kernel_rfl) (.one (.v (Value.int IntKind.i64 (K + 1 + 1 + 1 + (↑ys[i].key.t.length : Int))))) (fun L w1 hs => (Go.Proofs.Ytgleoebogikooaa.Dk.heldByteS_ok (ys[i].key.t) (Value.slice Akey_t_el4 ys[i].key.t.length ckey_t_el4) (K + 1 + 1 + 1) w1 (rdRow_ext (hs.old 0 rfl) hr3_el4) (by assumption) (by omega) (by omega))) ?_
    refine go mixed 2000 [0, 1, 5, 52] 0 (St.mk Rg.no [kCd (bitL 17 98237), kCd (bitL 16 65469), KI.block 1, kCd (bitL 7 125), kLp (bitL 5 29), KI.block 0, KI.code [true, true]] [(0, vS (some a_1) ys.length cys), (1, vI (K + 1 + 1 + 1 + (↑ys[i].key.t.length : Int))), (5, vI (↑i : Int)), (52, vB (decide (K + 1 + 1 + 1 + (↑ys[i].key.t.length : Int) < 0)))] []) (by kernel_rfl) (by kernel_rfl) (by kernel_rfl) ?_
    refine split_at 52 (b := decide (K + 1 + 1 + 1 + (↑ys[i].key.t.length : Int) < 0)) (by kernel_rfl) (by kernel_rfl) ?_ ?_
    · intro hb4
      replace hb4 := of_decide_eq_true hb4
      (exfalso; omega)
    · intro hb4
      replace hb4 := of_decide_eq_false hb4
      refine go mixed 2000 [0, 1, 5, 53, 54] 0 (St.mk (Rg.sq (bitL 18 65469) 2) [kCd (bitL 18 196541), kCd (bitL 17 131005), KI.block 1, kCd (bitL 7 125), kLp (bitL 5 29), KI.block 0, KI.code [true, true]] [(0, vS (some a_1) ys.length cys), (1, vI (K + 1 + 1 + 1 + (↑ys[i].key.t.length : Int))), (5, vI (↑i : Int)), (53, vS (some a_1) ys.length cys), (54, vI (↑i : Int))] []) (by kernel_rfl) (by kernel_rfl) (by kernel_rfl) ?_
      refine index_at 2 (by kernel_rfl : atP _ _ _ 2 false = some (Op.indexAddr 34 (tmpO 53) (tmpO 54), 0, some 55, Rg.sq (bitL 18 65469) 3)) (ni := i) (sz := 5) (by kernel_rfl) rfl rfl rfl (by assumption) (fun L w1 hs => rd_some (i := i) (rdRow_ext (hs.old 0 rfl) hys) (by assumption)) ?_
      intro a_2 ha_2
      cases ha_2
      refine go mixed 2000 [0, 1, 5, 56] 0 (St.mk (Rg.sq (bitL 18 65469) 4) [kCd (bitL 18 196541), kCd (bitL 17 131005), KI.block 1, kCd (bitL 7 125), kLp (bitL 5 29), KI.block 0, KI.code [true, true]] [(0, vS (some a_1) ys.length cys), (1, vI (K + 1 + 1 + 1 + (↑ys[i].key.t.length : Int))), (5, vI (↑i : Int)), (56, vP ((a_1.add (i * 5)).add 4))] []) (by kernel_rfl) (by kernel_rfl) (by kernel_rfl) ?_
      obtain ⟨bkey_f_el5, Akey_t_el5, ckey_t_el5, hr1_el5, hr2_el5, hr3_el5, hc_el5⟩ := Go.Proofs.Ytgleoebogikooaa.Dk.kEn_at (i := i) hys (by assumption)
      refine load_one 4 (by kernel_rfl : atP _ _ _ 4 true = some (Op.load 3 (tmpO 56), 3, some 57, Rg.sq (bitL 18 65469) 5)) (n := 1) (by kernel_rfl) rfl ?_
      intro L w1 hs
      refine ⟨.v (Value.int IntKind.i64 ys[i].id), cell_at 4 (cellsH_ext (hs.old 0 rfl) hc_el5) rfl, ?_⟩
      clear hs
      refine go mixed 2000 [0, 1, 5, 59] 0 (St.mk Rg.no [kCd (bitL 18 196541), kCd (bitL 17 131005), KI.block 1, kCd (bitL 7 125), kLp (bitL 5 29), KI.block 0, KI.code [true, true]] [(0, vS (some a_1) ys.length cys), (1, vI (K + 1 + 1 + 1 + (↑ys[i].key.t.length : Int))), (5, vI (↑i : Int)), (59, vB (ys[i].id != K + 1 + 1 + 1 + (↑ys[i].key.t.length : Int)))] []) (by kernel_rfl) (by kernel_rfl) (by kernel_rfl) ?_
      refine split_at 59 (b := ys[i].id != K + 1 + 1 + 1 + (↑ys[i].key.t.length : Int)) (by kernel_rfl) (by kernel_rfl) ?_ ?_
      · intro hb5
        replace hb5 := bne_iff_ne.1 hb5
        (exfalso; omega)
      · intro hb5
        replace hb5 := bne_eq_false_iff_eq.1 hb5
        refine go mixed 2000 [0, 1, 5] 0 (St.mk Rg.no [kLp (bitL 5 29), KI.block 0, KI.code [true, true]] [(0, vS (some a_1) ys.length cys), (1, vI (IntKind.i64.wrap (K + 1 + 1 + 1 + (↑ys[i].key.t.length : Int) + 1))), (5, vI (IntKind.i64.wrap ((↑i : Int) + 1)))] []) (by kernel_rfl) (by kernel_rfl) (by kernel_rfl) ?_
        rw [wrap_succ (by omega), hend]; exact ih (i + 1) hlt (by omega)
  · obtain rfl : i = ys.length := by omega
    rw [show xs.take ys.length = xs by rw [hln, List.take_length]]
    refine go mixed 2000 [0, 1, 5, 9] 0 (St.mk Rg.no [kCd (bitL 7 93), kCd (bitL 6 61), kLp (bitL 5 29), KI.block 0, KI.code [true, true]] [(0, vS Ays ys.length cys), (1, vI (k + (↑(nEs xs) : Int))), (5, vI (↑ys.length : Int)), (9, vB (decide ((↑ys.length : Int) < (↑ys.length : Int))))] []) (by kernel_rfl) (by kernel_rfl) (by kernel_rfl) ?_
    refine split_at 9 (b := decide ((↑ys.length : Int) < (↑ys.length : Int))) (by kernel_rfl) (by kernel_rfl) ?_ ?_
    · intro hb1
      replace hb1 := of_decide_eq_true hb1
      (exfalso; omega)
    · intro hb1
      replace hb1 := of_decide_eq_false hb1
      refine go mixed 2000 [4] 0 (St.mk Rg.no [kCd (bitL 3 7)] [(4, vI (k + (↑(nEs xs) : Int)))] []) (by kernel_rfl) (by kernel_rfl) (by kernel_rfl) ?_
      refine ret_ok (vs := [vI (k + (↑(nEs xs) : Int))]) (by kernel_rfl) ?_
      intro L w1 hs
      exact ⟨rfl, hs.out0⟩

end Go.Proofs.Ytgleoebogikooaa.Dk
