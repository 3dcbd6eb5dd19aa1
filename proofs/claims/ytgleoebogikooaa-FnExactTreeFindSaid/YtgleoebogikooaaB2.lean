/- Walks of functions of the program: what each call returns and what it leaves in memory. Conditions: those that each theorem names. -/
import Derived.Test.YtgleoebogikooaaB1
namespace Go.Proofs.Ytgleoebogikooaa.Dk
set_option linter.unusedVariables false
set_option linter.unusedSimpArgs false
open Go.Proofs.Ytgleoebogikooaa.Sx Go.Proofs Go.RowKit
set_option maxRecDepth 100000
set_option maxHeartbeats 1000000
def asc : List En → Bool
  | [] => true
  | [_] => true
  | a :: b :: r => decide (cmpEn a b < 0) && asc (b :: r)
theorem asc_drop {xs : List En} {i : Nat} (h1 : 1 ≤ i) (h : i < xs.length) : asc (xs.drop (i - 1)) = (decide (cmpEn (xs[i - 1]'(by omega)) xs[i] < 0) && asc (xs.drop i)) := by
  obtain ⟨k, rfl⟩ : ∃ k, i = k + 1 := ⟨i - 1, by omega⟩
  simp only [Nat.add_sub_cancel]
  rw [List.drop_eq_getElem_cons (show k < xs.length by omega), List.drop_eq_getElem_cons h]
  rfl
theorem asc_end {xs : List En} {i : Nat} (h1 : 1 ≤ i) (h : xs.length ≤ i) : asc (xs.drop (i - 1)) = true := by
  rcases Nat.lt_or_ge (i - 1) xs.length with h2 | h2
  · rw [List.drop_eq_getElem_cons h2, List.drop_eq_nil_of_le (by omega)]; rfl
  · rw [List.drop_eq_nil_of_le h2]; rfl
def nodeOk (n : Nd) : Bool := n.entries.all entOk && decide (n.entries.length ≤ 4) && asc n.entries && (if n.leaf then decide (n.kids.length = 0) else decide (0 < n.entries.length) && decide (n.kids.length = n.entries.length + 1))
theorem nodeOk_bad {n : Nd} {i : Nat} (q1 : n.entries.all entOk = true) (h1 : 1 ≤ i) (h : i < n.entries.length) (ha : asc n.entries = asc (n.entries.drop (i - 1))) (hc : ¬ cmpEn (n.entries[i - 1]'(by omega)) n.entries[i] < 0) : nodeOk n = false := by
  unfold nodeOk
  rw [ha, asc_drop h1 h, decide_eq_false hc]
  simp
theorem nodeOk_leaf {n : Nd} (q1 : n.entries.all entOk = true) (q2 : n.entries.length ≤ 4) (ha : asc n.entries = true) (hl : n.leaf = true) : ((n.kids.length : Int) == 0) = nodeOk n := by
  unfold nodeOk
  rw [q1, ha, decide_eq_true q2, hl, Bool.eq_iff_iff]
  simp
theorem nodeOk_in {n : Nd} (q1 : n.entries.all entOk = true) (q2 : n.entries.length ≤ 4) (ha : asc n.entries = true) (hl : n.leaf = false) (h0 : 0 < n.entries.length) : ((n.kids.length : Int) == IntKind.i64.wrap ((n.entries.length : Int) + 1)) = nodeOk n := by
  unfold nodeOk
  rw [q1, ha, decide_eq_true q2, hl, Bool.eq_iff_iff, IntKind.wrap_i64]
  simp
  omega
theorem nodeOk_in0 {n : Nd} (q1 : n.entries.all entOk = true) (q2 : n.entries.length ≤ 4) (ha : asc n.entries = true) (hl : n.leaf = false) (h0 : ¬ 0 < n.entries.length) : false = nodeOk n := by
  unfold nodeOk
  rw [q1, ha, decide_eq_true q2, hl, decide_eq_false h0]
  simp
theorem iIsNode_ok (n : Nd) (csn : List Value) (w : World) (hn : kNd.rd w.heap n csn) (pk : ∀ e ∈ n.entries, byOk e.key.t) (hl : n.entries.length ≤ 1048576) :
    Calls Try.prog 99 #[.agg csn.toArray] w fun e w' => e = .returned (.bool (nodeOk n)) ∧ Below w.heap.size w w' := by
  obtain ⟨Anentries, cnentries, Ankids, cnkids, rfl, hrnentries, hrnkids⟩ := kNd_inv hn
  refine enter (args := [.agg [.bo n.leaf, .v (.slice Anentries n.entries.length cnentries), .v (.slice Ankids n.kids.length cnkids)]]) Try.func99 (c := bodyOf Try.f99) rfl rfl (start_LOK _) (start_old w) ?_
  refine go mixed 2000 [1, 5] 1 (St.mk (Rg.sq (bitL 3 1) 2) [kCd (bitL 3 5), KI.code [true, true]] [(1, vR 0 0), (5, vS Anentries n.entries.length cnentries)] [LB.mk [SC.bo n.leaf, cS Anentries n.entries.length cnentries, cS Ankids n.kids.length cnkids] 96]) (by kernel_rfl) (by kernel_rfl) (by kernel_rfl) ?_
  refine call_pure true (by kernel_rfl : atC _ _ _ true = some (140, [vS Anentries n.entries.length cnentries, SV.one (SC.v (Value.func (Fn.func 141) #[] #[]))], some 6, Rg.sq (bitL 3 1) 3)) (by kernel_rfl) (.one (.bo (n.entries.all entOk))) (fun L w1 hs => (Go.Proofs.Ytgleoebogikooaa.Dk.allEnt_ok (n.entries) (Value.slice Anentries n.entries.length cnentries) w1 (rdRow_ext (hs.old 0 rfl) hrnentries) (by assumption))) ?_
  refine go mixed 2000 [1, 8] 1 (St.mk (Rg.sq (bitL 3 1) 5) [kCd (bitL 3 5), KI.code [true, true]] [(1, vR 0 0), (8, vB !n.entries.all entOk)] [LB.mk [SC.bo n.leaf, cS Anentries n.entries.length cnentries, cS Ankids n.kids.length cnkids] 96]) (by kernel_rfl) (by kernel_rfl) (by kernel_rfl) ?_
  refine split_at 8 (b := !n.entries.all entOk) (by kernel_rfl) (by kernel_rfl) ?_ ?_
  · intro hb1
    try simp only [decide_eq_true_eq, decide_eq_false_iff_not, Bool.not_eq_true', Bool.not_eq_false', Bool.and_eq_true, Bool.or_eq_true, Bool.and_eq_false_imp, bne_iff_ne, beq_iff_eq, bne_eq_false_iff_eq, beq_eq_false_iff_ne, ne_eq, Decidable.not_not, Int.not_le, Int.not_lt, Nat.not_le, Nat.not_lt] at hb1
    refine go mixed 2000 [2] 0 (St.mk Rg.no [kCd (bitL 5 21), KI.code [true, true]] [(2, vL false)] []) (by kernel_rfl) (by kernel_rfl) (by kernel_rfl) ?_
    refine ret_ok (vs := [vL false]) (by kernel_rfl) ?_
    intro L w1 hs
    exact ⟨retB (by simp [nodeOk, *]), hs.out0⟩
  intro hb1
  try simp only [decide_eq_true_eq, decide_eq_false_iff_not, Bool.not_eq_true', Bool.not_eq_false', Bool.and_eq_true, Bool.or_eq_true, Bool.and_eq_false_imp, bne_iff_ne, beq_iff_eq, bne_eq_false_iff_eq, beq_eq_false_iff_ne, ne_eq, Decidable.not_not, Int.not_le, Int.not_lt, Nat.not_le, Nat.not_lt] at hb1
  refine go mixed 2000 [1, 13] 1 (St.mk Rg.no [kCd (bitL 3 5), KI.code [true, true]] [(1, vR 0 0), (13, vB (decide ((↑n.entries.length : Int) > 4)))] [LB.mk [SC.bo n.leaf, cS Anentries n.entries.length cnentries, cS Ankids n.kids.length cnkids] 96]) (by kernel_rfl) (by kernel_rfl) (by kernel_rfl) ?_
  refine split_at 13 (b := decide ((↑n.entries.length : Int) > 4)) (by kernel_rfl) (by kernel_rfl) ?_ ?_
  · intro hb2
    replace hb2 := of_decide_eq_true hb2
    refine go mixed 2000 [2] 0 (St.mk Rg.no [kCd (bitL 5 21), KI.code [true, true]] [(2, vL false)] []) (by kernel_rfl) (by kernel_rfl) (by kernel_rfl) ?_
    refine ret_ok (vs := [vL false]) (by kernel_rfl) ?_
    intro L w1 hs
    exact ⟨retB (by unfold nodeOk; simp only [*]; simp; omega), hs.out0⟩
  intro hb2
  replace hb2 := of_decide_eq_false hb2
  refine go mixed 2000 [1, 3] 1 (St.mk Rg.no [kLp (bitL 6 59), KI.block 0, kCd (bitL 3 7)] [(1, vR 0 0), (3, vI 1)] [LB.mk [SC.bo n.leaf, cS Anentries n.entries.length cnentries, cS Ankids n.kids.length cnkids] 96]) (by kernel_rfl) (by kernel_rfl) (by kernel_rfl) ?_
  have q1 : n.entries.all entOk = true := by simp_all
  have q2 : n.entries.length ≤ 4 := by omega
  refine loop_at (ι := Nat) (fun i => [(3, .one (.v (.int .i64 i)))]) (fun _ => []) (fun i => [oldA w]) (fun i => 1 ≤ i ∧ i ≤ n.entries.length + 1 ∧ asc n.entries = asc (n.entries.drop (i - 1))) (fun i => (n.entries.length + 1) - i) 1 rfl rfl rfl ⟨Nat.le_refl _, by omega, rfl⟩ ?_
  intro i hi ih
  have nf_1 : IntKind.i64.wrap ((i : Int) - 1) = ((i - 1 : Nat) : Int) := by rw [IntKind.wrap_i64]; omega
  have sd_1 : ∀ (j : Nat) (h : j < n.entries.length), byOk (n.entries[j]).key.t := fun j h => pk _ (List.getElem_mem h)
  refine go mixed 2000 [1, 3, 18] 1 (St.mk Rg.no [kCd (bitL 8 187), kCd (bitL 7 123), kLp (bitL 6 59), KI.block 0, kCd (bitL 3 7)] [(1, vR 0 0), (3, vI (↑i : Int)), (18, vB (decide ((↑i : Int) < (↑n.entries.length : Int))))] [LB.mk [SC.bo n.leaf, cS Anentries n.entries.length cnentries, cS Ankids n.kids.length cnkids] 96]) (by kernel_rfl) (by kernel_rfl) (by kernel_rfl) ?_
  refine split_at 18 (b := decide ((↑i : Int) < (↑n.entries.length : Int))) (by kernel_rfl) (by kernel_rfl) ?_ ?_
  · intro hb3
    replace hb3 := of_decide_eq_true hb3
    refine go mixed 2000 [1, 3, 22, 24, 28, 29] 1 (St.mk (Rg.dr (bitL 10 379) (bitL 13 463) 6 2) [kCd (bitL 10 891), KI.block 1, kCd (bitL 8 251), kLp (bitL 6 59), KI.block 0, kCd (bitL 3 7)] [(1, vR 0 0), (3, vI (↑i : Int)), (22, vS Anentries n.entries.length cnentries), (24, vI (IntKind.i64.wrap ((↑i : Int) - 1))), (28, vS Anentries n.entries.length cnentries), (29, vI (↑i : Int))] [LB.mk [SC.bo n.leaf, cS Anentries n.entries.length cnentries, cS Ankids n.kids.length cnkids] 96]) (by kernel_rfl) (by kernel_rfl) (by kernel_rfl) ?_
    simp only [fl_ne_self, fl_eq_self, fl_eq0, fl_ne0, fl_gt0, fl_lt0, nf_1]
    refine index_at 4 (by kernel_rfl : atP _ _ _ 4 false = some (Op.indexAddr 34 (tmpO 22) (tmpO 24), 0, some 25, Rg.dr (bitL 10 379) (bitL 13 479) 5 2)) (ni := i - 1) (sz := 5) (by kernel_rfl) rfl rfl rfl (by omega) (fun L w1 hs => rd_some (i := i - 1) (rdRow_ext (hs.old 0 rfl) hrnentries) (by omega)) ?_
    intro a_1 ha_1
    cases ha_1
    refine go mixed 2000 [1, 3, 25, 28, 29] 1 (St.mk (Rg.dr (bitL 10 379) (bitL 13 479) 5 2) [kCd (bitL 10 891), KI.block 1, kCd (bitL 8 251), kLp (bitL 6 59), KI.block 0, kCd (bitL 3 7)] [(1, vR 0 0), (3, vI (↑i : Int)), (25, vP (a_1.add ((i - 1) * 5))), (28, vS (some a_1) n.entries.length cnentries), (29, vI (↑i : Int))] [LB.mk [SC.bo n.leaf, cS (some a_1) n.entries.length cnentries, cS Ankids n.kids.length cnkids] 96]) (by kernel_rfl) (by kernel_rfl) (by kernel_rfl) ?_
    refine index_at 9 (by kernel_rfl : atP _ _ _ 9 false = some (Op.indexAddr 34 (tmpO 28) (tmpO 29), 0, some 30, Rg.dr (bitL 10 379) (bitL 13 991) 4 2)) (ni := i) (sz := 5) (by kernel_rfl) rfl rfl rfl (by omega) (fun L w1 hs => rd_some (i := i) (rdRow_ext (hs.old 0 rfl) hrnentries) (by omega)) ?_
    intro a_2 ha_2
    cases ha_2
    refine go mixed 2000 [1, 3, 25, 30] 1 (St.mk (Rg.dr (bitL 10 379) (bitL 13 991) 4 2) [kCd (bitL 10 891), KI.block 1, kCd (bitL 8 251), kLp (bitL 6 59), KI.block 0, kCd (bitL 3 7)] [(1, vR 0 0), (3, vI (↑i : Int)), (25, vP (a_1.add ((i - 1) * 5))), (30, vP (a_1.add (i * 5)))] [LB.mk [SC.bo n.leaf, cS (some a_1) n.entries.length cnentries, cS Ankids n.kids.length cnkids] 96]) (by kernel_rfl) (by kernel_rfl) (by kernel_rfl) ?_
    obtain ⟨bkey_f_el1, Akey_t_el1, ckey_t_el1, hr1_el1, hr2_el1, hr3_el1, hc_el1⟩ := Go.Proofs.Ytgleoebogikooaa.Dk.kEn_at (i := i - 1) hrnentries (by omega)
    refine load_agg 5 (by kernel_rfl : atP _ _ _ 5 true = some (Op.load 101 (tmpO 25), 101, some 26, Rg.dr (bitL 10 379) (bitL 13 1023) 3 2)) (n := 5) (by kernel_rfl) rfl ?_
    intro L w1 hs
    refine ⟨[.v (Value.int IntKind.i64 n.entries[i - 1].key.kind), .v (Value.int IntKind.i64 n.entries[i - 1].key.n), .v (Value.float FloatKind.f64 bkey_f_el1), .v (Value.slice Akey_t_el1 n.entries[i - 1].key.t.length ckey_t_el1), .v (Value.int IntKind.i64 n.entries[i - 1].id)], rfl, cells_at0 (cellsH_ext (hs.old 0 rfl) hc_el1) rfl, ?_⟩
    clear hs
    refine go mixed 2000 [1, 3, 26, 30] 1 (St.mk (Rg.dr (bitL 10 379) (bitL 13 1023) 3 2) [kCd (bitL 10 891), KI.block 1, kCd (bitL 8 251), kLp (bitL 6 59), KI.block 0, kCd (bitL 3 7)] [(1, vR 0 0), (3, vI (↑i : Int)), (26, SV.agg [cI n.entries[i - 1].key.kind, cI n.entries[i - 1].key.n, cF bkey_f_el1, cS Akey_t_el1 n.entries[i - 1].key.t.length ckey_t_el1, cI n.entries[i - 1].id]), (30, vP (a_1.add (i * 5)))] [LB.mk [SC.bo n.leaf, cS (some a_1) n.entries.length cnentries, cS Ankids n.kids.length cnkids] 96]) (by kernel_rfl) (by kernel_rfl) (by kernel_rfl) ?_
    obtain ⟨bkey_f_el2, Akey_t_el2, ckey_t_el2, hr1_el2, hr2_el2, hr3_el2, hc_el2⟩ := Go.Proofs.Ytgleoebogikooaa.Dk.kEn_at (i := i) hrnentries (by omega)
    refine load_agg 10 (by kernel_rfl : atP _ _ _ 10 true = some (Op.load 101 (tmpO 30), 101, some 31, Rg.dr (bitL 10 379) (bitL 13 2047) 2 2)) (n := 5) (by kernel_rfl) rfl ?_
    intro L w1 hs
    refine ⟨[.v (Value.int IntKind.i64 n.entries[i].key.kind), .v (Value.int IntKind.i64 n.entries[i].key.n), .v (Value.float FloatKind.f64 bkey_f_el2), .v (Value.slice Akey_t_el2 n.entries[i].key.t.length ckey_t_el2), .v (Value.int IntKind.i64 n.entries[i].id)], rfl, cells_at0 (cellsH_ext (hs.old 0 rfl) hc_el2) rfl, ?_⟩
    clear hs
    refine go mixed 2000 [1, 3, 26, 31] 1 (St.mk (Rg.dr (bitL 10 379) (bitL 13 2047) 2 2) [kCd (bitL 10 891), KI.block 1, kCd (bitL 8 251), kLp (bitL 6 59), KI.block 0, kCd (bitL 3 7)] [(1, vR 0 0), (3, vI (↑i : Int)), (26, SV.agg [cI n.entries[i - 1].key.kind, cI n.entries[i - 1].key.n, cF bkey_f_el1, cS Akey_t_el1 n.entries[i - 1].key.t.length ckey_t_el1, cI n.entries[i - 1].id]), (31, SV.agg [cI n.entries[i].key.kind, cI n.entries[i].key.n, cF bkey_f_el2, cS Akey_t_el2 n.entries[i].key.t.length ckey_t_el2, cI n.entries[i].id])] [LB.mk [SC.bo n.leaf, cS (some a_1) n.entries.length cnentries, cS Ankids n.kids.length cnkids] 96]) (by kernel_rfl) (by kernel_rfl) (by kernel_rfl) ?_
    refine call_pure true (by kernel_rfl : atC _ _ _ true = some (100, [SV.agg [cI n.entries[i - 1].key.kind, cI n.entries[i - 1].key.n, cF bkey_f_el1, cS Akey_t_el1 n.entries[i - 1].key.t.length ckey_t_el1, cI n.entries[i - 1].id], SV.agg [cI n.entries[i].key.kind, cI n.entries[i].key.n, cF bkey_f_el2, cS Akey_t_el2 n.entries[i].key.t.length ckey_t_el2, cI n.entries[i].id]], some 32, Rg.dr (bitL 10 379) (bitL 13 4095) 1 11)) (by kernel_rfl) (.one (.v (Value.int IntKind.i64 (cmpEn n.entries[i - 1] n.entries[i])))) (fun L w1 hs => (Go.Proofs.Ytgleoebogikooaa.Dk.iCmpEn_ok (n.entries[i - 1]) ([Value.int IntKind.i64 n.entries[i - 1].key.kind, Value.int IntKind.i64 n.entries[i - 1].key.n, Value.float FloatKind.f64 bkey_f_el1, Value.slice Akey_t_el1 n.entries[i - 1].key.t.length ckey_t_el1, Value.int IntKind.i64 n.entries[i - 1].id]) (n.entries[i]) ([Value.int IntKind.i64 n.entries[i].key.kind, Value.int IntKind.i64 n.entries[i].key.n, Value.float FloatKind.f64 bkey_f_el2, Value.slice Akey_t_el2 n.entries[i].key.t.length ckey_t_el2, Value.int IntKind.i64 n.entries[i].id]) w1 (Go.Proofs.Ytgleoebogikooaa.Dk.kEn_mk (by assumption) hr2_el1 (rdRow_ext (hs.old 0 rfl) hr3_el1)) (Go.Proofs.Ytgleoebogikooaa.Dk.kEn_mk (by assumption) hr2_el2 (rdRow_ext (hs.old 0 rfl) hr3_el2)) (by exact sd_1 _ _) (by exact sd_1 _ _))) ?_
    refine go mixed 2000 [1, 3, 33] 1 (St.mk Rg.no [kCd (bitL 10 891), KI.block 1, kCd (bitL 8 251), kLp (bitL 6 59), KI.block 0, kCd (bitL 3 7)] [(1, vR 0 0), (3, vI (↑i : Int)), (33, vB (decide (cmpEn n.entries[i - 1] n.entries[i] ≥ 0)))] [LB.mk [SC.bo n.leaf, cS (some a_1) n.entries.length cnentries, cS Ankids n.kids.length cnkids] 96]) (by kernel_rfl) (by kernel_rfl) (by kernel_rfl) ?_
    refine split_at 33 (b := decide (cmpEn n.entries[i - 1] n.entries[i] ≥ 0)) (by kernel_rfl) (by kernel_rfl) ?_ ?_
    · intro hb4
      replace hb4 := of_decide_eq_true hb4
      refine go mixed 2000 [2] 0 (St.mk Rg.no [kCd (bitL 12 2939), KI.block 1, kCd (bitL 8 251), kLp (bitL 6 59), KI.block 0, kCd (bitL 3 7)] [(2, vL false)] []) (by kernel_rfl) (by kernel_rfl) (by kernel_rfl) ?_
      refine ret_ok (vs := [vL false]) (by kernel_rfl) ?_
      intro L w1 hs
      exact ⟨retB (nodeOk_bad (i := i) q1 hi.1 (by omega) hi.2.2 (by omega)).symm, hs.out0⟩
    · intro hb4
      replace hb4 := of_decide_eq_false hb4
      refine go mixed 2000 [1, 3] 1 (St.mk Rg.no [kLp (bitL 6 59), KI.block 0, kCd (bitL 3 7)] [(1, vR 0 0), (3, vI (IntKind.i64.wrap ((↑i : Int) + 1)))] [LB.mk [SC.bo n.leaf, cS (some a_1) n.entries.length cnentries, cS Ankids n.kids.length cnkids] 96]) (by kernel_rfl) (by kernel_rfl) (by kernel_rfl) ?_
      rw [wrap_succ (by omega)]; exact ih (i + 1) ⟨by omega, by omega, by rw [hi.2.2, asc_drop hi.1 (by omega), decide_eq_true (by omega), Nat.add_sub_cancel, Bool.true_and]⟩ (by omega)
  · intro hb3
    replace hb3 := of_decide_eq_false hb3
    refine go mixed 2000 [1, 35] 1 (St.mk Rg.no [kCd (bitL 5 23), kCd (bitL 4 15)] [(1, vR 0 0), (35, vB n.leaf)] [LB.mk [SC.bo n.leaf, cS Anentries n.entries.length cnentries, cS Ankids n.kids.length cnkids] 96]) (by kernel_rfl) (by kernel_rfl) (by kernel_rfl) ?_
    refine split_at 35 (b := n.leaf) (by kernel_rfl) (by kernel_rfl) ?_ ?_
    · intro hb4
      refine go mixed 2000 [2] 0 (St.mk Rg.no [kCd (bitL 7 87), kCd (bitL 4 15)] [(2, vB ((↑n.kids.length : Int) == 0))] []) (by kernel_rfl) (by kernel_rfl) (by kernel_rfl) ?_
      refine ret_ok (vs := [vB ((↑n.kids.length : Int) == 0)]) (by kernel_rfl) ?_
      intro L w1 hs
      exact ⟨retB (nodeOk_leaf q1 q2 (by rw [hi.2.2]; exact asc_end hi.1 (by omega)) (by assumption)), hs.out0⟩
    · intro hb4
      refine go mixed 2000 [1, 44] 1 (St.mk (Rg.sq (bitL 5 15) 5) [kCd (bitL 5 31)] [(1, vR 0 0), (44, vB (decide ((↑n.entries.length : Int) > 0)))] [LB.mk [SC.bo n.leaf, cS Anentries n.entries.length cnentries, cS Ankids n.kids.length cnkids] 96]) (by kernel_rfl) (by kernel_rfl) (by kernel_rfl) ?_
      refine split_at 44 (b := decide ((↑n.entries.length : Int) > 0)) (by kernel_rfl) (by kernel_rfl) ?_ ?_
      · intro hb5
        replace hb5 := of_decide_eq_true hb5
        refine go mixed 2000 [2] 0 (St.mk Rg.no [kCd (bitL 5 31)] [(2, vB ((↑n.kids.length : Int) == IntKind.i64.wrap ((↑n.entries.length : Int) + 1)))] []) (by kernel_rfl) (by kernel_rfl) (by kernel_rfl) ?_
        refine ret_ok (vs := [vB ((↑n.kids.length : Int) == IntKind.i64.wrap ((↑n.entries.length : Int) + 1))]) (by kernel_rfl) ?_
        intro L w1 hs
        exact ⟨retB (nodeOk_in q1 q2 (by rw [hi.2.2]; exact asc_end hi.1 (by omega)) (by assumption) (by omega)), hs.out0⟩
      · intro hb5
        replace hb5 := of_decide_eq_false hb5
        refine go mixed 2000 [2] 0 (St.mk Rg.no [kCd (bitL 5 31)] [(2, vL false)] []) (by kernel_rfl) (by kernel_rfl) (by kernel_rfl) ?_
        refine ret_ok (vs := [vL false]) (by kernel_rfl) ?_
        intro L w1 hs
        exact ⟨retB (nodeOk_in0 q1 q2 (by rw [hi.2.2]; exact asc_end hi.1 (by omega)) (by assumption) (by omega)), hs.out0⟩

end Go.Proofs.Ytgleoebogikooaa.Dk
