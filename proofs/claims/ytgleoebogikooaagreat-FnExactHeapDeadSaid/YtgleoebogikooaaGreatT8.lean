/- Walks of functions of the program: what each call returns and what it leaves in memory. Conditions: those that each theorem names. -/
import Derived.Test.YtgleoebogikooaaGreatT7
namespace Go.Proofs.YtgleoebogikooaaGreat.Dk
set_option linter.unusedVariables false
set_option linter.unusedSimpArgs false
open Go.Proofs.YtgleoebogikooaaGreat.Sx Go.Proofs Go.RowKit
set_option maxRecDepth 100000
set_option maxHeartbeats 1000000
theorem heldRowS_ok (ys : List Rw) (vys : Value) (k : Int) (w : World) (hys : rdRow kRw w.heap ys vys) (hx : ys = mkRs ys k) (hl : ys.length ≤ 1048576) (hn : nRs ys ≤ 268435456) (hkl : ∀ x ∈ ys, x.tuple.key.t.length ≤ 40 ∧ x.tuple.value.t.length ≤ 40) (hk : 0 ≤ k ∧ k ≤ 1048576) :
  Calls Tryz.prog 14 #[vys, .int .i64 k] w fun e w' => e = .returned (.int .i64 (k + nRs ys)) ∧ Below w.heap.size w w' := by
 obtain ⟨Ays, cys, rfl⟩ := rdRow_form hys
 refine enter (args := [.one (.v (.slice Ays ys.length cys)), .one (.v (.int .i64 k))]) Tryz.func14 (c := bodyOf Tryz.f14) rfl rfl (start_LOK _) (start_old w) ?_
 refine gn 0 Rg.no [kLp (bitL 5 29), KI.block 0, KI.code [true, true]] [(0, vS Ays ys.length cys), (1, vI k), (5, vI 0)] [] ?_
 refine loop_at (ι := Nat) (fun i => [(1, .one (.v (.int .i64 (k + (nRs (ys.take i) : Int))))), (5, .one (.v (.int .i64 i)))]) (fun _ => []) (fun i => [oldA w]) (fun i => i ≤ ys.length) (fun i => ys.length - i) 0 (by simp [updTm, lk, nRs]; exact ⟨rfl, rfl⟩) rfl rfl (Nat.zero_le _) ?_
 intro i hi ih
 rcases Nat.lt_or_ge i ys.length with hlt | hge
 ·have hle := nRs_take_le ys i
  have hle2 := nRs_take hlt
  have hle3 := nRs_take_le ys (i + 1)
  obtain ⟨hk1, hk2⟩ := hkl _ (List.getElem_mem hlt)
  have hnr : nRw ys[i] = 10 + ys[i].tuple.key.t.length + ys[i].tuple.value.t.length := rfl
  obtain ⟨K0, hK0⟩ : ∃ K : Int, K = k + (nRs (ys.take i) : Int) := ⟨_, rfl⟩
  rw [← hK0]
  obtain ⟨K1, hK1⟩ : ∃ K : Int, K = K0 + 1 := ⟨_, rfl⟩
  have nf_1 : IntKind.i64.wrap (K0 + 1) = K1 := by rw [IntKind.wrap_i64]; omega
  obtain ⟨K2, hK2⟩ : ∃ K : Int, K = K1 + 1 := ⟨_, rfl⟩
  have nf_2 : IntKind.i64.wrap (K1 + 1) = K2 := by rw [IntKind.wrap_i64]; omega
  obtain ⟨K3, hK3⟩ : ∃ K : Int, K = K2 + 1 := ⟨_, rfl⟩
  have nf_3 : IntKind.i64.wrap (K2 + 1) = K3 := by rw [IntKind.wrap_i64]; omega
  obtain ⟨K4, hK4⟩ : ∃ K : Int, K = K3 + 1 := ⟨_, rfl⟩
  have nf_4 : IntKind.i64.wrap (K3 + 1) = K4 := by rw [IntKind.wrap_i64]; omega
  obtain ⟨K5, hK5⟩ : ∃ K : Int, K = K4 + 1 := ⟨_, rfl⟩
  have nf_5 : IntKind.i64.wrap (K4 + 1) = K5 := by rw [IntKind.wrap_i64]; omega
  obtain ⟨K6, hK6⟩ : ∃ K : Int, K = K5 + 1 := ⟨_, rfl⟩
  have nf_6 : IntKind.i64.wrap (K5 + 1) = K6 := by rw [IntKind.wrap_i64]; omega
  obtain ⟨K7, hK7⟩ : ∃ K : Int, K = K6 + 1 := ⟨_, rfl⟩
  have nf_7 : IntKind.i64.wrap (K6 + 1) = K7 := by rw [IntKind.wrap_i64]; omega
  obtain ⟨K8, hK8⟩ : ∃ K : Int, K = K7 + (ys[i].tuple.key.t.length : Int) := ⟨_, rfl⟩
  have nf_8 : K7 + (ys[i].tuple.key.t.length : Int) = K8 := hK8.symm
  obtain ⟨K9, hK9⟩ : ∃ K : Int, K = K8 + 1 := ⟨_, rfl⟩
  have nf_9 : IntKind.i64.wrap (K8 + 1) = K9 := by rw [IntKind.wrap_i64]; omega
  obtain ⟨K10, hK10⟩ : ∃ K : Int, K = K9 + 1 := ⟨_, rfl⟩
  have nf_10 : IntKind.i64.wrap (K9 + 1) = K10 := by rw [IntKind.wrap_i64]; omega
  obtain ⟨K11, hK11⟩ : ∃ K : Int, K = K10 + 1 := ⟨_, rfl⟩
  have nf_11 : IntKind.i64.wrap (K10 + 1) = K11 := by rw [IntKind.wrap_i64]; omega
  have hm : ys[i] = mkRw ys[i] K0 := by rw [hK0]; exact (List.getElem_of_eq hx hlt).trans (mkRs_get hlt _)
  have m0 : ys[i].page = K0 := congrArg Rw.page hm
  have m1 : ys[i].slot = K1 := (congrArg Rw.slot hm).trans (by show K0 + 1 = K1; omega)
  have m2 : ys[i].tuple.xmin = K2 := (congrArg (fun r : Rw => r.tuple.xmin) hm).trans (by show K0 + 2 = K2; omega)
  have m3 : ys[i].tuple.xmax = K3 := (congrArg (fun r : Rw => r.tuple.xmax) hm).trans (by show K0 + 3 = K3; omega)
  have m4 : ys[i].tuple.key.kind = K4 := (congrArg (fun r : Rw => r.tuple.key.kind) hm).trans (by show K0 + 4 = K4; omega)
  have m5 : ys[i].tuple.key.n = K5 := (congrArg (fun r : Rw => r.tuple.key.n) hm).trans (by show K0 + 5 = K5; omega)
  have m6 : ys[i].tuple.key.f = fI K6 := (congrArg (fun r : Rw => r.tuple.key.f) hm).trans (by show fI (K0 + 6) = fI K6; rw [show K0 + 6 = K6 by omega])
  have m7 : ys[i].tuple.key.t = mkB ys[i].tuple.key.t.length K7 := (congrArg (fun r : Rw => r.tuple.key.t) hm).trans (by show mkB ys[i].tuple.key.t.length (K0 + 7) = _; rw [show K0 + 7 = K7 by omega])
  have m8 : ys[i].tuple.value.kind = K8 := (congrArg (fun r : Rw => r.tuple.value.kind) hm).trans (by show K0 + 7 + (ys[i].tuple.key.t.length : Int) = K8; omega)
  have m9 : ys[i].tuple.value.n = K9 := (congrArg (fun r : Rw => r.tuple.value.n) hm).trans (by show K0 + 8 + (ys[i].tuple.key.t.length : Int) = K9; omega)
  have m10 : ys[i].tuple.value.f = fI K10 := (congrArg (fun r : Rw => r.tuple.value.f) hm).trans (by show fI (K0 + 9 + (ys[i].tuple.key.t.length : Int)) = fI K10; rw [show K0 + 9 + (ys[i].tuple.key.t.length : Int) = K10 by omega])
  have m11 : ys[i].tuple.value.t = mkB ys[i].tuple.value.t.length K11 := (congrArg (fun r : Rw => r.tuple.value.t) hm).trans (by show mkB ys[i].tuple.value.t.length (K0 + 10 + (ys[i].tuple.key.t.length : Int)) = _; rw [show K0 + 10 + (ys[i].tuple.key.t.length : Int) = K11 by omega])
  have nf_12 : K11 + (ys[i].tuple.value.t.length : Int) = k + (nRs (ys.take (i + 1)) : Int) := by omega
  have n1 : isNaN (FloatKind.f64.nearest K6) = false := fI_nan (by omega)
  have n2 : isNaN (FloatKind.f64.nearest K10) = false := fI_nan (by omega)
  skip
  refine gn 0 Rg.no [kCd (bitL 7 93), kCd (bitL 6 61), kLp (bitL 5 29), KI.block 0, KI.code [true, true]] [(0, vS Ays ys.length cys), (1, vI K0), (5, vI (↑i : Int)), (9, vB (decide ((↑i : Int) < (↑ys.length : Int))))] [] ?_
  refine spl 9 (decide ((↑i : Int) < (↑ys.length : Int))) ?_ ?_
  rotate_left
  ·intro hb1
   replace hb1 := of_decide_eq_false hb1
   (exfalso; omega)
  intro hb1
  replace hb1 := of_decide_eq_true hb1
  refine gn 0 (Rg.sq (bitL 10 189) 2) [kCd (bitL 10 701), kCd (bitL 9 445), KI.block 1, kCd (bitL 7 125), kLp (bitL 5 29), KI.block 0, KI.code [true, true]] [(0, vS Ays ys.length cys), (1, vI K0), (5, vI (↑i : Int)), (12, vS Ays ys.length cys), (13, vI (↑i : Int))] [] ?_
  refine index_at 2 (by kernel_rfl : atP _ _ _ 2 false = some (Op.indexAddr 26 (tmpO 12) (tmpO 13), 0, some 14, Rg.sq (bitL 10 189) 3)) (ni := i) (sz := 12) (by kernel_rfl) rfl rfl rfl ‹_› (fun L w1 hs => rd_some (i := i) (rdRow_ext (hs.old 0 rfl) hys) ‹_›) ?_
  intro a_1 ha_1
  cases ha_1
  refine gn 0 (Rg.sq (bitL 10 189) 4) [kCd (bitL 10 701), kCd (bitL 9 445), KI.block 1, kCd (bitL 7 125), kLp (bitL 5 29), KI.block 0, KI.code [true, true]] [(0, vS (some a_1) ys.length cys), (1, vI K0), (5, vI (↑i : Int)), (15, vP ((a_1.add (i * 12)).add 0))] [] ?_
  obtain ⟨btuple_key_f_el1, Atuple_key_t_el1, ctuple_key_t_el1, btuple_value_f_el1, Atuple_value_t_el1, ctuple_value_t_el1, hr1_el1, hr2_el1, hr3_el1, hr4_el1, hr5_el1, hr6_el1, hc_el1⟩ := kRw_at (i := i) hys ‹_›
  refine load_one 4 (by kernel_rfl : atP _ _ _ 4 true = some (Op.load 3 (tmpO 15), 3, some 16, Rg.sq (bitL 10 189) 5)) (n := 1) (by kernel_rfl) rfl ?_
  intro L w1 hs
  refine ⟨.v (Value.int IntKind.i64 ys[i].page), cell_at 0 (cellsH_ext (hs.old 0 rfl) hc_el1) rfl, ?_⟩
  clear hs
  refine gn 0 Rg.no [kCd (bitL 10 701), kCd (bitL 9 445), KI.block 1, kCd (bitL 7 125), kLp (bitL 5 29), KI.block 0, KI.code [true, true]] [(0, vS (some a_1) ys.length cys), (1, vI K0), (5, vI (↑i : Int)), (18, vB (ys[i].page != K0))] [] ?_
  refine spl 18 (ys[i].page != K0) ?_ ?_
  ·intro hb2
   replace hb2 := bne_iff_ne.1 hb2
   (exfalso; omega)
  intro hb2
  replace hb2 := bne_eq_false_iff_eq.1 hb2
  refine gn 0 (Rg.sq (bitL 12 957) 2) [kCd (bitL 12 3005), kCd (bitL 11 1981), KI.block 1, kCd (bitL 7 125), kLp (bitL 5 29), KI.block 0, KI.code [true, true]] [(0, vS (some a_1) ys.length cys), (1, vI (IntKind.i64.wrap (K0 + 1))), (5, vI (↑i : Int)), (21, vS (some a_1) ys.length cys), (22, vI (↑i : Int))] [] ?_
  try simp only [flx, n1, n2, hr1_el1, hr2_el1, hr4_el1, hr5_el1, nf_1, nf_2, nf_3, nf_4, nf_5, nf_6, nf_7, nf_8, nf_9, nf_10, nf_11, nf_12]
  refine index_at 2 (by kernel_rfl : atP _ _ _ 2 false = some (Op.indexAddr 26 (tmpO 21) (tmpO 22), 0, some 23, Rg.sq (bitL 12 957) 3)) (ni := i) (sz := 12) (by kernel_rfl) rfl rfl rfl ‹_› (fun L w1 hs => rd_some (i := i) (rdRow_ext (hs.old 0 rfl) hys) ‹_›) ?_
  intro a_2 ha_2
  cases ha_2
  refine gn 0 (Rg.sq (bitL 12 957) 4) [kCd (bitL 12 3005), kCd (bitL 11 1981), KI.block 1, kCd (bitL 7 125), kLp (bitL 5 29), KI.block 0, KI.code [true, true]] [(0, vS (some a_1) ys.length cys), (1, vI K1), (5, vI (↑i : Int)), (24, vP ((a_1.add (i * 12)).add 1))] [] ?_
  obtain ⟨btuple_key_f_el2, Atuple_key_t_el2, ctuple_key_t_el2, btuple_value_f_el2, Atuple_value_t_el2, ctuple_value_t_el2, hr1_el2, hr2_el2, hr3_el2, hr4_el2, hr5_el2, hr6_el2, hc_el2⟩ := kRw_at (i := i) hys ‹_›
  refine load_one 4 (by kernel_rfl : atP _ _ _ 4 true = some (Op.load 3 (tmpO 24), 3, some 25, Rg.sq (bitL 12 957) 5)) (n := 1) (by kernel_rfl) rfl ?_
  intro L w1 hs
  refine ⟨.v (Value.int IntKind.i64 ys[i].slot), cell_at 1 (cellsH_ext (hs.old 0 rfl) hc_el2) rfl, ?_⟩
  clear hs
  refine gn 0 Rg.no [kCd (bitL 12 3005), kCd (bitL 11 1981), KI.block 1, kCd (bitL 7 125), kLp (bitL 5 29), KI.block 0, KI.code [true, true]] [(0, vS (some a_1) ys.length cys), (1, vI K1), (5, vI (↑i : Int)), (27, vB (ys[i].slot != K1))] [] ?_
  refine spl 27 (ys[i].slot != K1) ?_ ?_
  ·intro hb3
   replace hb3 := bne_iff_ne.1 hb3
   (exfalso; omega)
  intro hb3
  replace hb3 := bne_eq_false_iff_eq.1 hb3
  refine gn 0 (Rg.sq (bitL 14 4029) 2) [kCd (bitL 14 12221), kCd (bitL 13 8125), KI.block 1, kCd (bitL 7 125), kLp (bitL 5 29), KI.block 0, KI.code [true, true]] [(0, vS (some a_1) ys.length cys), (1, vI (IntKind.i64.wrap (K1 + 1))), (5, vI (↑i : Int)), (30, vS (some a_1) ys.length cys), (31, vI (↑i : Int))] [] ?_
  try simp only [flx, n1, n2, hr1_el1, hr2_el1, hr4_el1, hr5_el1, hr1_el2, hr2_el2, hr4_el2, hr5_el2, nf_1, nf_2, nf_3, nf_4, nf_5, nf_6, nf_7, nf_8, nf_9, nf_10, nf_11, nf_12]
  refine index_at 2 (by kernel_rfl : atP _ _ _ 2 false = some (Op.indexAddr 26 (tmpO 30) (tmpO 31), 0, some 32, Rg.sq (bitL 14 4029) 3)) (ni := i) (sz := 12) (by kernel_rfl) rfl rfl rfl ‹_› (fun L w1 hs => rd_some (i := i) (rdRow_ext (hs.old 0 rfl) hys) ‹_›) ?_
  intro a_2 ha_2
  cases ha_2
  refine gn 0 (Rg.sq (bitL 14 4029) 5) [kCd (bitL 14 12221), kCd (bitL 13 8125), KI.block 1, kCd (bitL 7 125), kLp (bitL 5 29), KI.block 0, KI.code [true, true]] [(0, vS (some a_1) ys.length cys), (1, vI K2), (5, vI (↑i : Int)), (34, vP (((a_1.add (i * 12)).add 2).add 0))] [] ?_
  obtain ⟨btuple_key_f_el3, Atuple_key_t_el3, ctuple_key_t_el3, btuple_value_f_el3, Atuple_value_t_el3, ctuple_value_t_el3, hr1_el3, hr2_el3, hr3_el3, hr4_el3, hr5_el3, hr6_el3, hc_el3⟩ := kRw_at (i := i) hys ‹_›
  refine load_one 5 (by kernel_rfl : atP _ _ _ 5 true = some (Op.load 3 (tmpO 34), 3, some 35, Rg.sq (bitL 14 4029) 6)) (n := 1) (by kernel_rfl) rfl ?_
  intro L w1 hs
  refine ⟨.v (Value.int IntKind.i64 ys[i].tuple.xmin), cell_deep (by simp only [add_add, Nat.add_zero, Nat.zero_add]) <| cell_at 2 (cellsH_ext (hs.old 0 rfl) hc_el3) rfl, ?_⟩
  clear hs
  refine gn 0 Rg.no [kCd (bitL 14 12221), kCd (bitL 13 8125), KI.block 1, kCd (bitL 7 125), kLp (bitL 5 29), KI.block 0, KI.code [true, true]] [(0, vS (some a_1) ys.length cys), (1, vI K2), (5, vI (↑i : Int)), (37, vB (ys[i].tuple.xmin != K2))] [] ?_
  refine spl 37 (ys[i].tuple.xmin != K2) ?_ ?_
  ·intro hb4
   replace hb4 := bne_iff_ne.1 hb4
   (exfalso; omega)
  intro hb4
  replace hb4 := bne_eq_false_iff_eq.1 hb4
  refine gn 0 (Rg.sq (bitL 16 16317) 2) [kCd (bitL 16 49085), kCd (bitL 15 32701), KI.block 1, kCd (bitL 7 125), kLp (bitL 5 29), KI.block 0, KI.code [true, true]] [(0, vS (some a_1) ys.length cys), (1, vI (IntKind.i64.wrap (K2 + 1))), (5, vI (↑i : Int)), (40, vS (some a_1) ys.length cys), (41, vI (↑i : Int))] [] ?_
  try simp only [flx, n1, n2, hr1_el1, hr2_el1, hr4_el1, hr5_el1, hr1_el2, hr2_el2, hr4_el2, hr5_el2, hr1_el3, hr2_el3, hr4_el3, hr5_el3, nf_1, nf_2, nf_3, nf_4, nf_5, nf_6, nf_7, nf_8, nf_9, nf_10, nf_11, nf_12]
  refine index_at 2 (by kernel_rfl : atP _ _ _ 2 false = some (Op.indexAddr 26 (tmpO 40) (tmpO 41), 0, some 42, Rg.sq (bitL 16 16317) 3)) (ni := i) (sz := 12) (by kernel_rfl) rfl rfl rfl ‹_› (fun L w1 hs => rd_some (i := i) (rdRow_ext (hs.old 0 rfl) hys) ‹_›) ?_
  intro a_2 ha_2
  cases ha_2
  refine gn 0 (Rg.sq (bitL 16 16317) 5) [kCd (bitL 16 49085), kCd (bitL 15 32701), KI.block 1, kCd (bitL 7 125), kLp (bitL 5 29), KI.block 0, KI.code [true, true]] [(0, vS (some a_1) ys.length cys), (1, vI K3), (5, vI (↑i : Int)), (44, vP (((a_1.add (i * 12)).add 2).add 1))] [] ?_
  obtain ⟨btuple_key_f_el4, Atuple_key_t_el4, ctuple_key_t_el4, btuple_value_f_el4, Atuple_value_t_el4, ctuple_value_t_el4, hr1_el4, hr2_el4, hr3_el4, hr4_el4, hr5_el4, hr6_el4, hc_el4⟩ := kRw_at (i := i) hys ‹_›
  refine load_one 5 (by kernel_rfl : atP _ _ _ 5 true = some (Op.load 3 (tmpO 44), 3, some 45, Rg.sq (bitL 16 16317) 6)) (n := 1) (by kernel_rfl) rfl ?_
  intro L w1 hs
  refine ⟨.v (Value.int IntKind.i64 ys[i].tuple.xmax), cell_deep (by simp only [add_add, Nat.add_zero, Nat.zero_add]) <| cell_at 3 (cellsH_ext (hs.old 0 rfl) hc_el4) rfl, ?_⟩
  clear hs
  refine gn 0 Rg.no [kCd (bitL 16 49085), kCd (bitL 15 32701), KI.block 1, kCd (bitL 7 125), kLp (bitL 5 29), KI.block 0, KI.code [true, true]] [(0, vS (some a_1) ys.length cys), (1, vI K3), (5, vI (↑i : Int)), (47, vB (ys[i].tuple.xmax != K3))] [] ?_
  refine spl 47 (ys[i].tuple.xmax != K3) ?_ ?_
  ·intro hb5
   replace hb5 := bne_iff_ne.1 hb5
   (exfalso; omega)
  intro hb5
  replace hb5 := bne_eq_false_iff_eq.1 hb5
  refine gn 0 (Rg.sq (bitL 18 65469) 2) [kCd (bitL 18 196541), kCd (bitL 17 131005), KI.block 1, kCd (bitL 7 125), kLp (bitL 5 29), KI.block 0, KI.code [true, true]] [(0, vS (some a_1) ys.length cys), (1, vI (IntKind.i64.wrap (K3 + 1))), (5, vI (↑i : Int)), (50, vS (some a_1) ys.length cys), (51, vI (↑i : Int))] [] ?_
  try simp only [flx, n1, n2, hr1_el1, hr2_el1, hr4_el1, hr5_el1, hr1_el2, hr2_el2, hr4_el2, hr5_el2, hr1_el3, hr2_el3, hr4_el3, hr5_el3, hr1_el4, hr2_el4, hr4_el4, hr5_el4, nf_1, nf_2, nf_3, nf_4, nf_5, nf_6, nf_7, nf_8, nf_9, nf_10, nf_11, nf_12]
  refine index_at 2 (by kernel_rfl : atP _ _ _ 2 false = some (Op.indexAddr 26 (tmpO 50) (tmpO 51), 0, some 52, Rg.sq (bitL 18 65469) 3)) (ni := i) (sz := 12) (by kernel_rfl) rfl rfl rfl ‹_› (fun L w1 hs => rd_some (i := i) (rdRow_ext (hs.old 0 rfl) hys) ‹_›) ?_
  intro a_2 ha_2
  cases ha_2
  refine gn 0 (Rg.sq (bitL 18 65469) 6) [kCd (bitL 18 196541), kCd (bitL 17 131005), KI.block 1, kCd (bitL 7 125), kLp (bitL 5 29), KI.block 0, KI.code [true, true]] [(0, vS (some a_1) ys.length cys), (1, vI K4), (5, vI (↑i : Int)), (55, vP ((((a_1.add (i * 12)).add 2).add 2).add 0))] [] ?_
  obtain ⟨btuple_key_f_el5, Atuple_key_t_el5, ctuple_key_t_el5, btuple_value_f_el5, Atuple_value_t_el5, ctuple_value_t_el5, hr1_el5, hr2_el5, hr3_el5, hr4_el5, hr5_el5, hr6_el5, hc_el5⟩ := kRw_at (i := i) hys ‹_›
  refine load_one 6 (by kernel_rfl : atP _ _ _ 6 true = some (Op.load 3 (tmpO 55), 3, some 56, Rg.sq (bitL 18 65469) 7)) (n := 1) (by kernel_rfl) rfl ?_
  intro L w1 hs
  refine ⟨.v (Value.int IntKind.i64 ys[i].tuple.key.kind), cell_deep (by simp only [add_add, Nat.add_zero, Nat.zero_add]) <| cell_at 4 (cellsH_ext (hs.old 0 rfl) hc_el5) rfl, ?_⟩
  clear hs
  refine gn 0 Rg.no [kCd (bitL 18 196541), kCd (bitL 17 131005), KI.block 1, kCd (bitL 7 125), kLp (bitL 5 29), KI.block 0, KI.code [true, true]] [(0, vS (some a_1) ys.length cys), (1, vI K4), (5, vI (↑i : Int)), (58, vB (ys[i].tuple.key.kind != K4))] [] ?_
  refine spl 58 (ys[i].tuple.key.kind != K4) ?_ ?_
  ·intro hb6
   replace hb6 := bne_iff_ne.1 hb6
   (exfalso; omega)
  intro hb6
  replace hb6 := bne_eq_false_iff_eq.1 hb6
  refine gn 0 (Rg.sq (bitL 20 262077) 2) [kCd (bitL 20 786365), kCd (bitL 19 524221), KI.block 1, kCd (bitL 7 125), kLp (bitL 5 29), KI.block 0, KI.code [true, true]] [(0, vS (some a_1) ys.length cys), (1, vI (IntKind.i64.wrap (K4 + 1))), (5, vI (↑i : Int)), (61, vS (some a_1) ys.length cys), (62, vI (↑i : Int))] [] ?_
  try simp only [flx, n1, n2, hr1_el1, hr2_el1, hr4_el1, hr5_el1, hr1_el2, hr2_el2, hr4_el2, hr5_el2, hr1_el3, hr2_el3, hr4_el3, hr5_el3, hr1_el4, hr2_el4, hr4_el4, hr5_el4, hr1_el5, hr2_el5, hr4_el5, hr5_el5, nf_1, nf_2, nf_3, nf_4, nf_5, nf_6, nf_7, nf_8, nf_9, nf_10, nf_11, nf_12]
  refine index_at 2 (by kernel_rfl : atP _ _ _ 2 false = some (Op.indexAddr 26 (tmpO 61) (tmpO 62), 0, some 63, Rg.sq (bitL 20 262077) 3)) (ni := i) (sz := 12) (by kernel_rfl) rfl rfl rfl ‹_› (fun L w1 hs => rd_some (i := i) (rdRow_ext (hs.old 0 rfl) hys) ‹_›) ?_
  intro a_2 ha_2
  cases ha_2
  refine gn 0 (Rg.sq (bitL 20 262077) 6) [kCd (bitL 20 786365), kCd (bitL 19 524221), KI.block 1, kCd (bitL 7 125), kLp (bitL 5 29), KI.block 0, KI.code [true, true]] [(0, vS (some a_1) ys.length cys), (1, vI K5), (5, vI (↑i : Int)), (66, vP ((((a_1.add (i * 12)).add 2).add 2).add 1))] [] ?_
  obtain ⟨btuple_key_f_el6, Atuple_key_t_el6, ctuple_key_t_el6, btuple_value_f_el6, Atuple_value_t_el6, ctuple_value_t_el6, hr1_el6, hr2_el6, hr3_el6, hr4_el6, hr5_el6, hr6_el6, hc_el6⟩ := kRw_at (i := i) hys ‹_›
  refine load_one 6 (by kernel_rfl : atP _ _ _ 6 true = some (Op.load 3 (tmpO 66), 3, some 67, Rg.sq (bitL 20 262077) 7)) (n := 1) (by kernel_rfl) rfl ?_
  intro L w1 hs
  refine ⟨.v (Value.int IntKind.i64 ys[i].tuple.key.n), cell_deep (by simp only [add_add, Nat.add_zero, Nat.zero_add]) <| cell_at 5 (cellsH_ext (hs.old 0 rfl) hc_el6) rfl, ?_⟩
  clear hs
  refine gn 0 Rg.no [kCd (bitL 20 786365), kCd (bitL 19 524221), KI.block 1, kCd (bitL 7 125), kLp (bitL 5 29), KI.block 0, KI.code [true, true]] [(0, vS (some a_1) ys.length cys), (1, vI K5), (5, vI (↑i : Int)), (69, vB (ys[i].tuple.key.n != K5))] [] ?_
  refine spl 69 (ys[i].tuple.key.n != K5) ?_ ?_
  ·intro hb7
   replace hb7 := bne_iff_ne.1 hb7
   (exfalso; omega)
  intro hb7
  replace hb7 := bne_eq_false_iff_eq.1 hb7
  refine gn 0 (Rg.sq (bitL 22 1048509) 2) [kCd (bitL 22 3145661), kCd (bitL 21 2097085), KI.block 1, kCd (bitL 7 125), kLp (bitL 5 29), KI.block 0, KI.code [true, true]] [(0, vS (some a_1) ys.length cys), (1, vI (IntKind.i64.wrap (K5 + 1))), (5, vI (↑i : Int)), (72, vS (some a_1) ys.length cys), (73, vI (↑i : Int))] [] ?_
  try simp only [flx, n1, n2, hr1_el1, hr2_el1, hr4_el1, hr5_el1, hr1_el2, hr2_el2, hr4_el2, hr5_el2, hr1_el3, hr2_el3, hr4_el3, hr5_el3, hr1_el4, hr2_el4, hr4_el4, hr5_el4, hr1_el5, hr2_el5, hr4_el5, hr5_el5, hr1_el6, hr2_el6, hr4_el6, hr5_el6, nf_1, nf_2, nf_3, nf_4, nf_5, nf_6, nf_7, nf_8, nf_9, nf_10, nf_11, nf_12]
  refine index_at 2 (by kernel_rfl : atP _ _ _ 2 false = some (Op.indexAddr 26 (tmpO 72) (tmpO 73), 0, some 74, Rg.sq (bitL 22 1048509) 3)) (ni := i) (sz := 12) (by kernel_rfl) rfl rfl rfl ‹_› (fun L w1 hs => rd_some (i := i) (rdRow_ext (hs.old 0 rfl) hys) ‹_›) ?_
  intro a_2 ha_2
  cases ha_2
  refine gn 0 (Rg.sq (bitL 22 1048509) 6) [kCd (bitL 22 3145661), kCd (bitL 21 2097085), KI.block 1, kCd (bitL 7 125), kLp (bitL 5 29), KI.block 0, KI.code [true, true]] [(0, vS (some a_1) ys.length cys), (1, vI K6), (5, vI (↑i : Int)), (77, vP ((((a_1.add (i * 12)).add 2).add 2).add 2))] [] ?_
  obtain ⟨btuple_key_f_el7, Atuple_key_t_el7, ctuple_key_t_el7, btuple_value_f_el7, Atuple_value_t_el7, ctuple_value_t_el7, hr1_el7, hr2_el7, hr3_el7, hr4_el7, hr5_el7, hr6_el7, hc_el7⟩ := kRw_at (i := i) hys ‹_›
  refine load_one 6 (by kernel_rfl : atP _ _ _ 6 true = some (Op.load 43 (tmpO 77), 43, some 78, Rg.sq (bitL 22 1048509) 7)) (n := 1) (by kernel_rfl) rfl ?_
  intro L w1 hs
  refine ⟨.v (Value.float FloatKind.f64 btuple_key_f_el7), cell_deep (by simp only [add_add, Nat.add_zero, Nat.zero_add]) <| cell_at 6 (cellsH_ext (hs.old 0 rfl) hc_el7) rfl, ?_⟩
  clear hs
  refine gn 0 Rg.no [kCd (bitL 22 3145661), kCd (bitL 21 2097085), KI.block 1, kCd (bitL 7 125), kLp (bitL 5 29), KI.block 0, KI.code [true, true]] [(0, vS (some a_1) ys.length cys), (1, vI K6), (5, vI (↑i : Int)), (81, vB (FloatKind.f64.format.order btuple_key_f_el7 (FloatKind.f64.nearest K6) != some Ordering.eq))] [] ?_
  have hbe : btuple_key_f_el7 = FloatKind.f64.nearest K6 := fI_of (by omega) hr1_el7 (hr2_el7.trans m6)
  subst hbe
  skip
  refine gn 0 Rg.no [kCd (bitL 22 3145661), kCd (bitL 21 2097085), KI.block 1, kCd (bitL 7 125), kLp (bitL 5 29), KI.block 0, KI.code [true, true]] [(0, vS (some a_1) ys.length cys), (1, vI K6), (5, vI (↑i : Int)), (81, vB (FloatKind.f64.format.order (FloatKind.f64.nearest K6) (FloatKind.f64.nearest K6) != some Ordering.eq))] [] ?_
  try simp only [flx, n1, n2, hr1_el1, hr2_el1, hr4_el1, hr5_el1, hr1_el2, hr2_el2, hr4_el2, hr5_el2, hr1_el3, hr2_el3, hr4_el3, hr5_el3, hr1_el4, hr2_el4, hr4_el4, hr5_el4, hr1_el5, hr2_el5, hr4_el5, hr5_el5, hr1_el6, hr2_el6, hr4_el6, hr5_el6, hr4_el7, hr5_el7, hr1_el7, hr2_el7, nf_1, nf_2, nf_3, nf_4, nf_5, nf_6, nf_7, nf_8, nf_9, nf_10, nf_11, nf_12]
  refine gn 0 Rg.no [kCd (bitL 22 3145661), kCd (bitL 21 2097085), KI.block 1, kCd (bitL 7 125), kLp (bitL 5 29), KI.block 0, KI.code [true, true]] [(0, vS (some a_1) ys.length cys), (1, vI K6), (5, vI (↑i : Int)), (81, vB false)] [] ?_
  refine ltk 81 false ?_
  refine gn 0 (Rg.sq (bitL 23 4194237) 2) [kCd (bitL 23 8388541), KI.block 1, kCd (bitL 7 125), kLp (bitL 5 29), KI.block 0, KI.code [true, true]] [(0, vS (some a_1) ys.length cys), (1, vI (IntKind.i64.wrap (K6 + 1))), (5, vI (↑i : Int)), (84, vS (some a_1) ys.length cys), (85, vI (↑i : Int))] [] ?_
  try simp only [flx, n1, n2, hr1_el1, hr2_el1, hr4_el1, hr5_el1, hr1_el2, hr2_el2, hr4_el2, hr5_el2, hr1_el3, hr2_el3, hr4_el3, hr5_el3, hr1_el4, hr2_el4, hr4_el4, hr5_el4, hr1_el5, hr2_el5, hr4_el5, hr5_el5, hr1_el6, hr2_el6, hr4_el6, hr5_el6, hr4_el7, hr5_el7, hr1_el7, hr2_el7, nf_1, nf_2, nf_3, nf_4, nf_5, nf_6, nf_7, nf_8, nf_9, nf_10, nf_11, nf_12]
  refine index_at 2 (by kernel_rfl : atP _ _ _ 2 false = some (Op.indexAddr 26 (tmpO 84) (tmpO 85), 0, some 86, Rg.sq (bitL 23 4194237) 3)) (ni := i) (sz := 12) (by kernel_rfl) rfl rfl rfl ‹_› (fun L w1 hs => rd_some (i := i) (rdRow_ext (hs.old 0 rfl) hys) ‹_›) ?_
  intro a_2 ha_2
  cases ha_2
  refine gn 0 (Rg.sq (bitL 23 4194237) 6) [kCd (bitL 23 8388541), KI.block 1, kCd (bitL 7 125), kLp (bitL 5 29), KI.block 0, KI.code [true, true]] [(0, vS (some a_1) ys.length cys), (1, vI K7), (5, vI (↑i : Int)), (89, vP ((((a_1.add (i * 12)).add 2).add 2).add 3))] [] ?_
  obtain ⟨btuple_key_f_el8, Atuple_key_t_el8, ctuple_key_t_el8, btuple_value_f_el8, Atuple_value_t_el8, ctuple_value_t_el8, hr1_el8, hr2_el8, hr3_el8, hr4_el8, hr5_el8, hr6_el8, hc_el8⟩ := kRw_at (i := i) hys ‹_›
  refine load_one 6 (by kernel_rfl : atP _ _ _ 6 true = some (Op.load 44 (tmpO 89), 44, some 90, Rg.sq (bitL 23 4194237) 7)) (n := 1) (by kernel_rfl) rfl ?_
  intro L w1 hs
  refine ⟨.v (Value.slice Atuple_key_t_el8 ys[i].tuple.key.t.length ctuple_key_t_el8), cell_deep (by simp only [add_add, Nat.add_zero, Nat.zero_add]) <| cell_at 7 (cellsH_ext (hs.old 0 rfl) hc_el8) rfl, ?_⟩
  clear hs
  refine gn 0 (Rg.sq (bitL 23 4194237) 8) [kCd (bitL 23 8388541), KI.block 1, kCd (bitL 7 125), kLp (bitL 5 29), KI.block 0, KI.code [true, true]] [(0, vS (some a_1) ys.length cys), (5, vI (↑i : Int)), (90, vS Atuple_key_t_el8 ys[i].tuple.key.t.length ctuple_key_t_el8), (91, vI K7)] [] ?_
  refine cpk 36 [vS Atuple_key_t_el8 ys[i].tuple.key.t.length ctuple_key_t_el8, vI K7] (some 92) (Rg.sq (bitL 23 4194237) 9) (.one (.v (Value.int IntKind.i64 (K7 + (↑ys[i].tuple.key.t.length : Int))))) (fun L w1 hs => (heldByteS_ok (ys[i].tuple.key.t) (Value.slice Atuple_key_t_el8 ys[i].tuple.key.t.length ctuple_key_t_el8) (K7) w1 (rdRow_ext (hs.old 0 rfl) hr3_el8) ‹_› (by omega) (by omega))) ?_
  refine gn 0 Rg.no [kCd (bitL 25 25165757), kCd (bitL 24 16777149), KI.block 1, kCd (bitL 7 125), kLp (bitL 5 29), KI.block 0, KI.code [true, true]] [(0, vS (some a_1) ys.length cys), (1, vI (K7 + (↑ys[i].tuple.key.t.length : Int))), (5, vI (↑i : Int)), (94, vB (decide (K7 + (↑ys[i].tuple.key.t.length : Int) < 0)))] [] ?_
  try simp only [flx, n1, n2, hr1_el1, hr2_el1, hr4_el1, hr5_el1, hr1_el2, hr2_el2, hr4_el2, hr5_el2, hr1_el3, hr2_el3, hr4_el3, hr5_el3, hr1_el4, hr2_el4, hr4_el4, hr5_el4, hr1_el5, hr2_el5, hr4_el5, hr5_el5, hr1_el6, hr2_el6, hr4_el6, hr5_el6, hr4_el7, hr5_el7, hr1_el7, hr2_el7, hr1_el8, hr2_el8, hr4_el8, hr5_el8, nf_1, nf_2, nf_3, nf_4, nf_5, nf_6, nf_7, nf_8, nf_9, nf_10, nf_11, nf_12]
  refine spl 94 (decide (K8 < 0)) ?_ ?_
  ·intro hb8
   replace hb8 := of_decide_eq_true hb8
   (exfalso; omega)
  intro hb8
  replace hb8 := of_decide_eq_false hb8
  refine gn 0 (Rg.sq (bitL 26 16777149) 2) [kCd (bitL 26 50331581), kCd (bitL 25 33554365), KI.block 1, kCd (bitL 7 125), kLp (bitL 5 29), KI.block 0, KI.code [true, true]] [(0, vS (some a_1) ys.length cys), (1, vI K8), (5, vI (↑i : Int)), (95, vS (some a_1) ys.length cys), (96, vI (↑i : Int))] [] ?_
  refine index_at 2 (by kernel_rfl : atP _ _ _ 2 false = some (Op.indexAddr 26 (tmpO 95) (tmpO 96), 0, some 97, Rg.sq (bitL 26 16777149) 3)) (ni := i) (sz := 12) (by kernel_rfl) rfl rfl rfl ‹_› (fun L w1 hs => rd_some (i := i) (rdRow_ext (hs.old 0 rfl) hys) ‹_›) ?_
  intro a_2 ha_2
  cases ha_2
  refine gn 0 (Rg.sq (bitL 26 16777149) 6) [kCd (bitL 26 50331581), kCd (bitL 25 33554365), KI.block 1, kCd (bitL 7 125), kLp (bitL 5 29), KI.block 0, KI.code [true, true]] [(0, vS (some a_1) ys.length cys), (1, vI K8), (5, vI (↑i : Int)), (100, vP ((((a_1.add (i * 12)).add 2).add 6).add 0))] [] ?_
  obtain ⟨btuple_key_f_el9, Atuple_key_t_el9, ctuple_key_t_el9, btuple_value_f_el9, Atuple_value_t_el9, ctuple_value_t_el9, hr1_el9, hr2_el9, hr3_el9, hr4_el9, hr5_el9, hr6_el9, hc_el9⟩ := kRw_at (i := i) hys ‹_›
  refine load_one 6 (by kernel_rfl : atP _ _ _ 6 true = some (Op.load 3 (tmpO 100), 3, some 101, Rg.sq (bitL 26 16777149) 7)) (n := 1) (by kernel_rfl) rfl ?_
  intro L w1 hs
  refine ⟨.v (Value.int IntKind.i64 ys[i].tuple.value.kind), cell_deep (by simp only [add_add, Nat.add_zero, Nat.zero_add]) <| cell_at 8 (cellsH_ext (hs.old 0 rfl) hc_el9) rfl, ?_⟩
  clear hs
  refine gn 0 Rg.no [kCd (bitL 26 50331581), kCd (bitL 25 33554365), KI.block 1, kCd (bitL 7 125), kLp (bitL 5 29), KI.block 0, KI.code [true, true]] [(0, vS (some a_1) ys.length cys), (1, vI K8), (5, vI (↑i : Int)), (103, vB (ys[i].tuple.value.kind != K8))] [] ?_
  refine spl 103 (ys[i].tuple.value.kind != K8) ?_ ?_
  ·intro hb9
   replace hb9 := bne_iff_ne.1 hb9
   (exfalso; omega)
  intro hb9
  replace hb9 := bne_eq_false_iff_eq.1 hb9
  refine gn 0 (Rg.sq (bitL 28 67108797) 2) [kCd (bitL 28 201326525), kCd (bitL 27 134217661), KI.block 1, kCd (bitL 7 125), kLp (bitL 5 29), KI.block 0, KI.code [true, true]] [(0, vS (some a_1) ys.length cys), (1, vI (IntKind.i64.wrap (K8 + 1))), (5, vI (↑i : Int)), (106, vS (some a_1) ys.length cys), (107, vI (↑i : Int))] [] ?_
  try simp only [flx, n1, n2, hr1_el1, hr2_el1, hr4_el1, hr5_el1, hr1_el2, hr2_el2, hr4_el2, hr5_el2, hr1_el3, hr2_el3, hr4_el3, hr5_el3, hr1_el4, hr2_el4, hr4_el4, hr5_el4, hr1_el5, hr2_el5, hr4_el5, hr5_el5, hr1_el6, hr2_el6, hr4_el6, hr5_el6, hr4_el7, hr5_el7, hr1_el7, hr2_el7, hr1_el8, hr2_el8, hr4_el8, hr5_el8, hr1_el9, hr2_el9, hr4_el9, hr5_el9, nf_1, nf_2, nf_3, nf_4, nf_5, nf_6, nf_7, nf_8, nf_9, nf_10, nf_11, nf_12]
  refine index_at 2 (by kernel_rfl : atP _ _ _ 2 false = some (Op.indexAddr 26 (tmpO 106) (tmpO 107), 0, some 108, Rg.sq (bitL 28 67108797) 3)) (ni := i) (sz := 12) (by kernel_rfl) rfl rfl rfl ‹_› (fun L w1 hs => rd_some (i := i) (rdRow_ext (hs.old 0 rfl) hys) ‹_›) ?_
  intro a_2 ha_2
  cases ha_2
  refine gn 0 (Rg.sq (bitL 28 67108797) 6) [kCd (bitL 28 201326525), kCd (bitL 27 134217661), KI.block 1, kCd (bitL 7 125), kLp (bitL 5 29), KI.block 0, KI.code [true, true]] [(0, vS (some a_1) ys.length cys), (1, vI K9), (5, vI (↑i : Int)), (111, vP ((((a_1.add (i * 12)).add 2).add 6).add 1))] [] ?_
  obtain ⟨btuple_key_f_el10, Atuple_key_t_el10, ctuple_key_t_el10, btuple_value_f_el10, Atuple_value_t_el10, ctuple_value_t_el10, hr1_el10, hr2_el10, hr3_el10, hr4_el10, hr5_el10, hr6_el10, hc_el10⟩ := kRw_at (i := i) hys ‹_›
  refine load_one 6 (by kernel_rfl : atP _ _ _ 6 true = some (Op.load 3 (tmpO 111), 3, some 112, Rg.sq (bitL 28 67108797) 7)) (n := 1) (by kernel_rfl) rfl ?_
  intro L w1 hs
  refine ⟨.v (Value.int IntKind.i64 ys[i].tuple.value.n), cell_deep (by simp only [add_add, Nat.add_zero, Nat.zero_add]) <| cell_at 9 (cellsH_ext (hs.old 0 rfl) hc_el10) rfl, ?_⟩
  clear hs
  refine gn 0 Rg.no [kCd (bitL 28 201326525), kCd (bitL 27 134217661), KI.block 1, kCd (bitL 7 125), kLp (bitL 5 29), KI.block 0, KI.code [true, true]] [(0, vS (some a_1) ys.length cys), (1, vI K9), (5, vI (↑i : Int)), (114, vB (ys[i].tuple.value.n != K9))] [] ?_
  refine spl 114 (ys[i].tuple.value.n != K9) ?_ ?_
  ·intro hb10
   replace hb10 := bne_iff_ne.1 hb10
   (exfalso; omega)
  intro hb10
  replace hb10 := bne_eq_false_iff_eq.1 hb10
  refine gn 0 (Rg.sq (bitL 30 268435389) 2) [kCd (bitL 30 805306301), kCd (bitL 29 536870845), KI.block 1, kCd (bitL 7 125), kLp (bitL 5 29), KI.block 0, KI.code [true, true]] [(0, vS (some a_1) ys.length cys), (1, vI (IntKind.i64.wrap (K9 + 1))), (5, vI (↑i : Int)), (117, vS (some a_1) ys.length cys), (118, vI (↑i : Int))] [] ?_
  try simp only [flx, n1, n2, hr1_el1, hr2_el1, hr4_el1, hr5_el1, hr1_el2, hr2_el2, hr4_el2, hr5_el2, hr1_el3, hr2_el3, hr4_el3, hr5_el3, hr1_el4, hr2_el4, hr4_el4, hr5_el4, hr1_el5, hr2_el5, hr4_el5, hr5_el5, hr1_el6, hr2_el6, hr4_el6, hr5_el6, hr4_el7, hr5_el7, hr1_el7, hr2_el7, hr1_el8, hr2_el8, hr4_el8, hr5_el8, hr1_el9, hr2_el9, hr4_el9, hr5_el9, hr1_el10, hr2_el10, hr4_el10, hr5_el10, nf_1, nf_2, nf_3, nf_4, nf_5, nf_6, nf_7, nf_8, nf_9, nf_10, nf_11, nf_12]
  refine index_at 2 (by kernel_rfl : atP _ _ _ 2 false = some (Op.indexAddr 26 (tmpO 117) (tmpO 118), 0, some 119, Rg.sq (bitL 30 268435389) 3)) (ni := i) (sz := 12) (by kernel_rfl) rfl rfl rfl ‹_› (fun L w1 hs => rd_some (i := i) (rdRow_ext (hs.old 0 rfl) hys) ‹_›) ?_
  intro a_2 ha_2
  cases ha_2
  refine gn 0 (Rg.sq (bitL 30 268435389) 6) [kCd (bitL 30 805306301), kCd (bitL 29 536870845), KI.block 1, kCd (bitL 7 125), kLp (bitL 5 29), KI.block 0, KI.code [true, true]] [(0, vS (some a_1) ys.length cys), (1, vI K10), (5, vI (↑i : Int)), (122, vP ((((a_1.add (i * 12)).add 2).add 6).add 2))] [] ?_
  obtain ⟨btuple_key_f_el11, Atuple_key_t_el11, ctuple_key_t_el11, btuple_value_f_el11, Atuple_value_t_el11, ctuple_value_t_el11, hr1_el11, hr2_el11, hr3_el11, hr4_el11, hr5_el11, hr6_el11, hc_el11⟩ := kRw_at (i := i) hys ‹_›
  refine load_one 6 (by kernel_rfl : atP _ _ _ 6 true = some (Op.load 43 (tmpO 122), 43, some 123, Rg.sq (bitL 30 268435389) 7)) (n := 1) (by kernel_rfl) rfl ?_
  intro L w1 hs
  refine ⟨.v (Value.float FloatKind.f64 btuple_value_f_el11), cell_deep (by simp only [add_add, Nat.add_zero, Nat.zero_add]) <| cell_at 10 (cellsH_ext (hs.old 0 rfl) hc_el11) rfl, ?_⟩
  clear hs
  refine gn 0 Rg.no [kCd (bitL 30 805306301), kCd (bitL 29 536870845), KI.block 1, kCd (bitL 7 125), kLp (bitL 5 29), KI.block 0, KI.code [true, true]] [(0, vS (some a_1) ys.length cys), (1, vI K10), (5, vI (↑i : Int)), (126, vB (FloatKind.f64.format.order btuple_value_f_el11 (FloatKind.f64.nearest K10) != some Ordering.eq))] [] ?_
  have hbe : btuple_value_f_el11 = FloatKind.f64.nearest K10 := fI_of (by omega) hr4_el11 (hr5_el11.trans m10)
  subst hbe
  skip
  refine gn 0 Rg.no [kCd (bitL 30 805306301), kCd (bitL 29 536870845), KI.block 1, kCd (bitL 7 125), kLp (bitL 5 29), KI.block 0, KI.code [true, true]] [(0, vS (some a_1) ys.length cys), (1, vI K10), (5, vI (↑i : Int)), (126, vB (FloatKind.f64.format.order (FloatKind.f64.nearest K10) (FloatKind.f64.nearest K10) != some Ordering.eq))] [] ?_
  try simp only [flx, n1, n2, hr1_el1, hr2_el1, hr4_el1, hr5_el1, hr1_el2, hr2_el2, hr4_el2, hr5_el2, hr1_el3, hr2_el3, hr4_el3, hr5_el3, hr1_el4, hr2_el4, hr4_el4, hr5_el4, hr1_el5, hr2_el5, hr4_el5, hr5_el5, hr1_el6, hr2_el6, hr4_el6, hr5_el6, hr4_el7, hr5_el7, hr1_el7, hr2_el7, hr1_el8, hr2_el8, hr4_el8, hr5_el8, hr1_el9, hr2_el9, hr4_el9, hr5_el9, hr1_el10, hr2_el10, hr4_el10, hr5_el10, hr1_el11, hr2_el11, hr4_el11, hr5_el11, nf_1, nf_2, nf_3, nf_4, nf_5, nf_6, nf_7, nf_8, nf_9, nf_10, nf_11, nf_12]
  refine gn 0 Rg.no [kCd (bitL 30 805306301), kCd (bitL 29 536870845), KI.block 1, kCd (bitL 7 125), kLp (bitL 5 29), KI.block 0, KI.code [true, true]] [(0, vS (some a_1) ys.length cys), (1, vI K10), (5, vI (↑i : Int)), (126, vB false)] [] ?_
  refine ltk 126 false ?_
  refine gn 0 (Rg.sq (bitL 31 1073741757) 2) [kCd (bitL 31 2147483581), KI.block 1, kCd (bitL 7 125), kLp (bitL 5 29), KI.block 0, KI.code [true, true]] [(0, vS (some a_1) ys.length cys), (1, vI (IntKind.i64.wrap (K10 + 1))), (5, vI (↑i : Int)), (129, vS (some a_1) ys.length cys), (130, vI (↑i : Int))] [] ?_
  try simp only [flx, n1, n2, hr1_el1, hr2_el1, hr4_el1, hr5_el1, hr1_el2, hr2_el2, hr4_el2, hr5_el2, hr1_el3, hr2_el3, hr4_el3, hr5_el3, hr1_el4, hr2_el4, hr4_el4, hr5_el4, hr1_el5, hr2_el5, hr4_el5, hr5_el5, hr1_el6, hr2_el6, hr4_el6, hr5_el6, hr4_el7, hr5_el7, hr1_el7, hr2_el7, hr1_el8, hr2_el8, hr4_el8, hr5_el8, hr1_el9, hr2_el9, hr4_el9, hr5_el9, hr1_el10, hr2_el10, hr4_el10, hr5_el10, hr1_el11, hr2_el11, hr4_el11, hr5_el11, nf_1, nf_2, nf_3, nf_4, nf_5, nf_6, nf_7, nf_8, nf_9, nf_10, nf_11, nf_12]
  refine index_at 2 (by kernel_rfl : atP _ _ _ 2 false = some (Op.indexAddr 26 (tmpO 129) (tmpO 130), 0, some 131, Rg.sq (bitL 31 1073741757) 3)) (ni := i) (sz := 12) (by kernel_rfl) rfl rfl rfl ‹_› (fun L w1 hs => rd_some (i := i) (rdRow_ext (hs.old 0 rfl) hys) ‹_›) ?_
  intro a_2 ha_2
  cases ha_2
  refine gn 0 (Rg.sq (bitL 31 1073741757) 6) [kCd (bitL 31 2147483581), KI.block 1, kCd (bitL 7 125), kLp (bitL 5 29), KI.block 0, KI.code [true, true]] [(0, vS (some a_1) ys.length cys), (1, vI K11), (5, vI (↑i : Int)), (134, vP ((((a_1.add (i * 12)).add 2).add 6).add 3))] [] ?_
  obtain ⟨btuple_key_f_el12, Atuple_key_t_el12, ctuple_key_t_el12, btuple_value_f_el12, Atuple_value_t_el12, ctuple_value_t_el12, hr1_el12, hr2_el12, hr3_el12, hr4_el12, hr5_el12, hr6_el12, hc_el12⟩ := kRw_at (i := i) hys ‹_›
  refine load_one 6 (by kernel_rfl : atP _ _ _ 6 true = some (Op.load 44 (tmpO 134), 44, some 135, Rg.sq (bitL 31 1073741757) 7)) (n := 1) (by kernel_rfl) rfl ?_
  intro L w1 hs
  refine ⟨.v (Value.slice Atuple_value_t_el12 ys[i].tuple.value.t.length ctuple_value_t_el12), cell_deep (by simp only [add_add, Nat.add_zero, Nat.zero_add]) <| cell_at 11 (cellsH_ext (hs.old 0 rfl) hc_el12) rfl, ?_⟩
  clear hs
  refine gn 0 (Rg.sq (bitL 31 1073741757) 8) [kCd (bitL 31 2147483581), KI.block 1, kCd (bitL 7 125), kLp (bitL 5 29), KI.block 0, KI.code [true, true]] [(0, vS (some a_1) ys.length cys), (5, vI (↑i : Int)), (135, vS Atuple_value_t_el12 ys[i].tuple.value.t.length ctuple_value_t_el12), (136, vI K11)] [] ?_
  refine cpk 36 [vS Atuple_value_t_el12 ys[i].tuple.value.t.length ctuple_value_t_el12, vI K11] (some 137) (Rg.sq (bitL 31 1073741757) 9) (.one (.v (Value.int IntKind.i64 (K11 + (↑ys[i].tuple.value.t.length : Int))))) (fun L w1 hs => (heldByteS_ok (ys[i].tuple.value.t) (Value.slice Atuple_value_t_el12 ys[i].tuple.value.t.length ctuple_value_t_el12) (K11) w1 (rdRow_ext (hs.old 0 rfl) hr6_el12) ‹_› (by omega) (by omega))) ?_
  refine gn 0 Rg.no [kCd (bitL 32 4294967229), KI.block 1, kCd (bitL 7 125), kLp (bitL 5 29), KI.block 0, KI.code [true, true]] [(0, vS (some a_1) ys.length cys), (1, vI (K11 + (↑ys[i].tuple.value.t.length : Int))), (5, vI (↑i : Int)), (139, vB (decide (K11 + (↑ys[i].tuple.value.t.length : Int) < 0)))] [] ?_
  try simp only [flx, n1, n2, hr1_el1, hr2_el1, hr4_el1, hr5_el1, hr1_el2, hr2_el2, hr4_el2, hr5_el2, hr1_el3, hr2_el3, hr4_el3, hr5_el3, hr1_el4, hr2_el4, hr4_el4, hr5_el4, hr1_el5, hr2_el5, hr4_el5, hr5_el5, hr1_el6, hr2_el6, hr4_el6, hr5_el6, hr4_el7, hr5_el7, hr1_el7, hr2_el7, hr1_el8, hr2_el8, hr4_el8, hr5_el8, hr1_el9, hr2_el9, hr4_el9, hr5_el9, hr1_el10, hr2_el10, hr4_el10, hr5_el10, hr1_el11, hr2_el11, hr4_el11, hr5_el11, hr1_el12, hr2_el12, hr4_el12, hr5_el12, nf_1, nf_2, nf_3, nf_4, nf_5, nf_6, nf_7, nf_8, nf_9, nf_10, nf_11, nf_12]
  refine spl 139 (decide (k + (↑(nRs (List.take (i + 1) ys)) : Int) < 0)) ?_ ?_
  ·intro hb11
   replace hb11 := of_decide_eq_true hb11
   (exfalso; omega)
  ·intro hb11
   replace hb11 := of_decide_eq_false hb11
   refine gn 0 Rg.no [kLp (bitL 5 29), KI.block 0, KI.code [true, true]] [(0, vS (some a_1) ys.length cys), (1, vI (k + (↑(nRs (List.take (i + 1) ys)) : Int))), (5, vI (IntKind.i64.wrap ((↑i : Int) + 1)))] [] ?_
   rw [wrap_succ (by omega)]; exact ih (i + 1) hlt (by omega)
 ·obtain rfl : i = ys.length := by omega
  rw [List.take_length]
  refine gn 0 Rg.no [kCd (bitL 7 93), kCd (bitL 6 61), kLp (bitL 5 29), KI.block 0, KI.code [true, true]] [(0, vS Ays ys.length cys), (1, vI (k + (↑(nRs ys) : Int))), (5, vI (↑ys.length : Int)), (9, vB (decide ((↑ys.length : Int) < (↑ys.length : Int))))] [] ?_
  refine spl 9 (decide ((↑ys.length : Int) < (↑ys.length : Int))) ?_ ?_
  ·intro hb1
   replace hb1 := of_decide_eq_true hb1
   (exfalso; omega)
  ·intro hb1
   replace hb1 := of_decide_eq_false hb1
   refine gn 0 Rg.no [kCd (bitL 3 7)] [(4, vI (k + (↑(nRs ys) : Int)))] [] ?_
   refine rtk [vI (k + (↑(nRs ys) : Int))] ?_
   intro L w1 hs
   exact ⟨rfl, hs.out0⟩
end Go.Proofs.YtgleoebogikooaaGreat.Dk
