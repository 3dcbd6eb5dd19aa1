/- Walks of functions of the program: what each call returns and what it leaves in memory. Conditions: those that each theorem names. -/
import Derived.Test.YtgleoebogikooaaW2
namespace Go.Proofs.Ytgleoebogikooaa.Dk
set_option linter.unusedVariables false
set_option linter.unusedSimpArgs false
open Go.Proofs.Ytgleoebogikooaa.Sx Go.Proofs Go.RowKit
set_option maxRecDepth 100000
set_option maxHeartbeats 1000000
theorem index0BB_ok (F : Nat) (hF : goesB Try.prog F = true) (p : (List Int) → Bool) (xs : List (List Int)) (vxs : Value) (w : World) (hxs : rdRow (kRow 5 kU8) w.heap xs vxs) (hl : xs.length ≤ 1048576) (hp : Pred (evR kU8) F #[] w xs p) :
    Calls Try.prog 160 #[vxs, .func (.func F) #[] #[]] w fun e w' => e = .returned (.int .i64 (idxOf p xs)) ∧ Below w.heap.size w w' := by
  obtain ⟨Axs, cxs, rfl⟩ := rdRow_form hxs
  refine enter (args := [.one (.v (.slice Axs xs.length cxs)), .one (.v (.func (.func F) #[] #[]))]) Try.func160 (c := bodyOf Try.f160) rfl rfl (start_LOK _) (start_old w) ?_
  refine go mixed 2000 [0, 1, 7, 8] 0 (St.mk Rg.no [kLp (bitL 5 29), KI.block 0, KI.code [true, true]] [(0, vS Axs xs.length cxs), (1, SV.one (SC.v (Value.func (Fn.func F) #[] #[]))), (7, vI (↑xs.length : Int)), (8, vI 0)] []) (by kernel_rfl) (by kernel_rfl) (by kernel_rfl) ?_
  refine loop_at (ι := Nat) (fun i => [(8, .one (.v (.int .i64 i)))]) (fun _ => []) (fun i => [oldA w]) (fun i => i ≤ xs.length ∧ ∀ x ∈ xs.take i, p x = false) (fun i => xs.length - i) 0 rfl rfl rfl ⟨Nat.zero_le _, fun x hx => by simp at hx⟩ ?_
  intro i hi ih
  refine go mixed 2000 [0, 1, 7, 8, 9] 0 (St.mk Rg.no [kCd (bitL 7 61), kCd (bitL 7 125), kLp (bitL 5 29), KI.block 0, KI.code [true, true]] [(0, vS Axs xs.length cxs), (1, SV.one (SC.v (Value.func (Fn.func F) #[] #[]))), (7, vI (↑xs.length : Int)), (8, vI (↑i : Int)), (9, vB (decide ((↑i : Int) < (↑xs.length : Int))))] []) (by kernel_rfl) (by kernel_rfl) (by kernel_rfl) ?_
  refine split_at 9 (b := decide ((↑i : Int) < (↑xs.length : Int))) (by kernel_rfl) (by kernel_rfl) ?_ ?_
  rotate_left
  · intro hb1
    replace hb1 := of_decide_eq_false hb1
    refine go mixed 2000 [4] 0 (St.mk Rg.no [kCd (bitL 3 7)] [(4, vI (-1))] []) (by kernel_rfl) (by kernel_rfl) (by kernel_rfl) ?_
    refine ret_ok (vs := [vI (-1)]) (by kernel_rfl) ?_
    intro L w1 hs
    exact ⟨retI (idx_none (fun x hx => hi.2 x (by rw [List.take_of_length_le (by omega)]; exact hx))).symm, hs.out0⟩
  intro hb1
  replace hb1 := of_decide_eq_true hb1
  refine go mixed 2000 [0, 1, 5, 7, 8, 11, 12, 13] 0 (St.mk (Rg.sq (bitL 11 893) 3) [kCd (bitL 11 1917), KI.block 1, kCd (bitL 8 253), kLp (bitL 5 29), KI.block 0, KI.code [true, true]] [(0, vS Axs xs.length cxs), (1, SV.one (SC.v (Value.func (Fn.func F) #[] #[]))), (5, vI (↑i : Int)), (7, vI (↑xs.length : Int)), (8, vI (↑i : Int)), (11, SV.one (SC.v (Value.func (Fn.func F) #[] #[]))), (12, vS Axs xs.length cxs), (13, vI (↑i : Int))] []) (by kernel_rfl) (by kernel_rfl) (by kernel_rfl) ?_
  refine index_at 3 (by kernel_rfl : atP _ _ _ 3 false = some (Op.indexAddr 113 (tmpO 12) (tmpO 13), 0, some 14, Rg.sq (bitL 11 893) 4)) (ni := i) (sz := 1) (by kernel_rfl) rfl rfl rfl (by omega) (fun L w1 hs => rd_some (i := i) (rdRow_ext (hs.old 0 rfl) hxs) (by omega)) ?_
  intro a_1 ha_1
  cases ha_1
  refine go mixed 2000 [0, 1, 5, 7, 8, 11, 14] 0 (St.mk (Rg.sq (bitL 11 893) 4) [kCd (bitL 11 1917), KI.block 1, kCd (bitL 8 253), kLp (bitL 5 29), KI.block 0, KI.code [true, true]] [(0, vS (some a_1) xs.length cxs), (1, SV.one (SC.v (Value.func (Fn.func F) #[] #[]))), (5, vI (↑i : Int)), (7, vI (↑xs.length : Int)), (8, vI (↑i : Int)), (11, SV.one (SC.v (Value.func (Fn.func F) #[] #[]))), (14, vP (a_1.add (i * 1)))] []) (by kernel_rfl) (by kernel_rfl) (by kernel_rfl) ?_
  have hlt : i < xs.length := by omega
  obtain ⟨Ai, ci, hcell, hrow⟩ := rd_row hxs hlt
  refine load_one 4 (by kernel_rfl : atP _ _ _ 4 true = some (Op.load 40 (tmpO 14), 40, some 15, Rg.sq (bitL 11 893) 5)) (n := 1) (by kernel_rfl) rfl ?_
  intro L w1 hs
  refine ⟨.v (.slice Ai _ ci), cellH_ext (hs.old 0 rfl) hcell, ?_⟩
  clear hs
  refine go mixed 2000 [0, 1, 5, 7, 8, 11, 15] 0 (St.mk (Rg.sq (bitL 11 893) 5) [kCd (bitL 11 1917), KI.block 1, kCd (bitL 8 253), kLp (bitL 5 29), KI.block 0, KI.code [true, true]] [(0, vS (some a_1) xs.length cxs), (1, SV.one (SC.v (Value.func (Fn.func F) #[] #[]))), (5, vI (↑i : Int)), (7, vI (↑xs.length : Int)), (8, vI (↑i : Int)), (11, SV.one (SC.v (Value.func (Fn.func F) #[] #[]))), (15, vS Ai xs[i].length ci)] []) (by kernel_rfl) (by kernel_rfl) (by kernel_rfl) ?_
  refine call_pure true (by kernel_rfl : atC _ _ _ true = some (F, [vS Ai xs[i].length ci], some 16, Rg.sq (bitL 11 893) 6)) hF (.one (.bo (p xs[i]))) (fun L w1 hs => hp w1 (hs.old 0 rfl) _ (List.getElem_mem hlt) _ (rdRow_ext (hs.old 0 rfl) hrow)) ?_
  refine go mixed 2000 [0, 1, 5, 7, 8, 16] 0 (St.mk Rg.no [kCd (bitL 11 1917), KI.block 1, kCd (bitL 8 253), kLp (bitL 5 29), KI.block 0, KI.code [true, true]] [(0, vS (some a_1) xs.length cxs), (1, SV.one (SC.v (Value.func (Fn.func F) #[] #[]))), (5, vI (↑i : Int)), (7, vI (↑xs.length : Int)), (8, vI (↑i : Int)), (16, vB (p xs[i]))] []) (by kernel_rfl) (by kernel_rfl) (by kernel_rfl) ?_
  refine split_at 16 (b := p xs[i]) (by kernel_rfl) (by kernel_rfl) ?_ ?_
  · intro h2
    refine go mixed 2000 [4] 0 (St.mk Rg.no [kCd (bitL 13 6013), KI.block 1, kCd (bitL 8 253), kLp (bitL 5 29), KI.block 0, KI.code [true, true]] [(4, vI (↑i : Int))] []) (by kernel_rfl) (by kernel_rfl) (by kernel_rfl) ?_
    refine ret_ok (vs := [vI (↑i : Int)]) (by kernel_rfl) ?_
    intro L w1 hs
    exact ⟨by rw [idx_hit hlt hi.2 h2]; rfl, hs.out0⟩
  intro h2
  refine go mixed 2000 [0, 1, 7, 8] 0 (St.mk Rg.no [kLp (bitL 5 29), KI.block 0, KI.code [true, true]] [(0, vS (some a_1) xs.length cxs), (1, SV.one (SC.v (Value.func (Fn.func F) #[] #[]))), (7, vI (↑xs.length : Int)), (8, vI (IntKind.i64.wrap ((↑i : Int) + 1)))] []) (by kernel_rfl) (by kernel_rfl) (by kernel_rfl) ?_
  rw [wrap_succ (by omega)]
  refine ih (i + 1) ⟨hlt, fun x hx => ?_⟩ (by omega)
  rw [List.take_succ_eq_append_getElem hlt] at hx
  rcases List.mem_append.1 hx with hx | hx
  · exact hi.2 x hx
  · rw [List.mem_singleton.1 hx]; exact h2

def emptyS (s : List Int) : Bool := decide (s.length = 0)
def pgPlace (p : Pg) (n : Int) : Int := if pgU p < 0 ∨ ¬ (1 ≤ n ∧ n ≤ 92) then -1 else if 0 ≤ idxOf emptyS p.slots ∧ pgU p + n ≤ 240 then idxOf emptyS p.slots else if p.slots.length < 16 ∧ pgU p + 1 + n ≤ 240 then p.slots.length else -1
theorem pgU_bnd (p : Pg) : -1 ≤ pgU p ∧ pgU p ≤ 240 := by
  unfold pgU
  split
  · rename_i h; have := h.2.2.2.1; omega
  · omega
theorem idx_cases {α : Type} (q : α → Bool) (xs : List α) : (idxOf q xs = -1 ∧ ∀ x ∈ xs, q x = false) ∨ ∃ i : Nat, idxOf q xs = (i : Int) ∧ ∃ hi : i < xs.length, q xs[i] = true ∧ ∀ x ∈ xs.take i, q x = false := by
  cases h : xs.findIdx? q with
  | none =>
    have h1 := List.findIdx?_eq_none_iff.1 h
    exact .inl ⟨idx_none h1, h1⟩
  | some i =>
    obtain ⟨hi, hp, hb⟩ := List.findIdx?_eq_some_iff_getElem.1 h
    refine .inr ⟨i, by simp [idxOf, h], hi, hp, fun x hx => ?_⟩
    obtain ⟨j, hj, rfl⟩ := List.mem_iff_getElem.1 hx
    have hj2 : j < i := by rw [List.length_take] at hj; omega
    have := hb j hj2
    rw [List.getElem_take]
    simpa using this
theorem placeLit_ok (b : List Int) (vb : Value) (w : World) (hb : rdRow kU8 w.heap b vb) :
    Calls Try.prog 172 #[vb] w fun e w' => e = .returned (.bool (emptyS b)) ∧ Below w.heap.size w w' := by
  obtain ⟨Ab, cb, rfl⟩ := rdRow_form hb
  refine enter (args := [.one (.v (.slice Ab b.length cb))]) Try.func172 (c := bodyOf Try.f172) rfl rfl (start_LOK _) (start_old w) ?_
  refine go mixed 2000 [2] 0 (St.mk Rg.no [KI.code [true, true]] [(2, vB ((↑b.length : Int) == 0))] []) (by kernel_rfl) (by kernel_rfl) (by kernel_rfl) ?_
  refine ret_ok (vs := [vB ((↑b.length : Int) == 0)]) (by kernel_rfl) ?_
  intro L w1 hs
  exact ⟨retB (by rw [Bool.eq_iff_iff]; simp only [emptyS, Bool.and_eq_true, Bool.or_eq_true, Bool.not_eq_true', Bool.not_eq_false', Bool.and_eq_false_imp, Bool.or_eq_false_iff, decide_eq_true_eq, decide_eq_false_iff_not, beq_iff_eq, bne_iff_ne, Bool.false_eq_true, Bool.true_eq_false, ne_eq, true_iff, false_iff, iff_true, iff_false]; omega), hs.out0⟩

theorem idxEmpty_ok (xs : List (List Int)) (vxs : Value) (w : World) (hxs : rdRow (kRow 5 kU8) w.heap xs vxs) (hl : xs.length ≤ 1048576) :
    Calls Try.prog 160 #[vxs, .func (.func 172) #[] #[]] w fun e w' => e = .returned (.int .i64 (idxOf emptyS xs)) ∧ Below w.heap.size w w' :=
  index0BB_ok 172 (by kernel_rfl) emptyS xs vxs w hxs hl (fun w1 _ x hx v hv => placeLit_ok x v w1 hv)
theorem iPlace_ok (p : Pg) (csp : List Value) (n : Int) (w : World) (hp : kPg.rd w.heap p csp) (hl : p.slots.length ≤ 1048576) :
    Calls Try.prog 128 #[.agg csp.toArray, .int .i64 n] w fun e w' => e = .returned (.int .i64 (pgPlace p n)) ∧ Below w.heap.size w w' := by
  obtain ⟨Apslots, cpslots, rfl, hrpslots⟩ := kPg_inv hp
  refine enter (args := [.agg [.v (.int .i64 p.lsn), .v (.slice Apslots p.slots.length cpslots)], .one (.v (.int .i64 n))]) Try.func128 (c := bodyOf Try.f128) rfl rfl (start_LOK _) (start_old w) ?_
  have hu := pgU_bnd p
  have nf_1 : IntKind.i64.wrap (pgU p + 1) = pgU p + 1 := by rw [IntKind.wrap_i64]; omega
  by_cases hn : ¬ (1 ≤ n ∧ n ≤ 92)
  · have hno : pgPlace p n = -1 := if_pos (.inr hn)
    rw [hno]
    refine go mixed 2000 [1, 2, 7] 1 (St.mk (Rg.sq [true, false] 1) [KI.code [true, true]] [(1, vI n), (2, vR 0 0), (7, SV.agg [cI p.lsn, cS Apslots p.slots.length cpslots])] [LB.mk [cI p.lsn, cS Apslots p.slots.length cpslots] 115]) (by kernel_rfl) (by kernel_rfl) (by kernel_rfl) ?_
    refine call_pure true (by kernel_rfl : atC _ _ _ true = some (80, [SV.agg [cI p.lsn, cS Apslots p.slots.length cpslots]], some 8, Rg.sq [true, false] 2)) (by kernel_rfl) (.one (.v (Value.int IntKind.i64 (pgU p)))) (fun L w1 hs => (Go.Proofs.Ytgleoebogikooaa.Dk.iPgUsed_ok (p) ([Value.int IntKind.i64 p.lsn, Value.slice Apslots p.slots.length cpslots]) w1 (Go.Proofs.Ytgleoebogikooaa.Dk.kPg_mk (rdRow_ext (hs.old 0 rfl) hrpslots)) (by assumption))) ?_
    refine go mixed 2000 [1, 2, 5, 11] 1 (St.mk (Rg.sq (bitL 4 3) 3) [kCd (bitL 4 11), kCd (bitL 3 7)] [(1, vI n), (2, vR 0 0), (5, vI (pgU p)), (11, vB (decide (pgU p < 0)))] [LB.mk [cI p.lsn, cS Apslots p.slots.length cpslots] 115]) (by kernel_rfl) (by kernel_rfl) (by kernel_rfl) ?_
    refine split_at 11 (b := decide (pgU p < 0)) (by kernel_rfl) (by kernel_rfl) ?_ ?_
    · intro hb1
      replace hb1 := of_decide_eq_true hb1
      refine go mixed 2000 [4] 0 (St.mk Rg.no [kCd (bitL 6 43), kCd (bitL 3 7)] [(4, vI (-1))] []) (by kernel_rfl) (by kernel_rfl) (by kernel_rfl) ?_
      refine ret_ok (vs := [vI (-1)]) (by kernel_rfl) ?_
      intro L w1 hs
      exact ⟨retI rfl, hs.out0⟩
    · intro hb1
      replace hb1 := of_decide_eq_false hb1
      refine go mixed 2000 [1, 2, 5, 11, 12] 1 (St.mk (Rg.sq (bitL 4 3) 4) [kCd (bitL 4 11), kCd (bitL 3 7)] [(1, vI n), (2, vR 0 0), (5, vI (pgU p)), (11, vL false), (12, vI n)] [LB.mk [cI p.lsn, cS Apslots p.slots.length cpslots] 115]) (by kernel_rfl) (by kernel_rfl) (by kernel_rfl) ?_
      refine call_pure true (by kernel_rfl : atC _ _ _ true = some (55, [vI n, vI 1, vI 92], some 13, Rg.sq (bitL 4 3) 5)) (by kernel_rfl) (.one (.bo (decide (1 ≤ n) && decide (n ≤ 92)))) (fun L w1 hs => (Go.Proofs.Ytgleoebogikooaa.Dk.within_ok (n) (1) (92) w1)) ?_
      refine go mixed 2000 [1, 2, 5, 15] 1 (St.mk Rg.no [kCd (bitL 4 11), kCd (bitL 3 7)] [(1, vI n), (2, vR 0 0), (5, vI (pgU p)), (15, vB !(decide (1 ≤ n) && decide (n ≤ 92)))] [LB.mk [cI p.lsn, cS Apslots p.slots.length cpslots] 115]) (by kernel_rfl) (by kernel_rfl) (by kernel_rfl) ?_
      refine split_at 15 (b := !(decide (1 ≤ n) && decide (n ≤ 92))) (by kernel_rfl) (by kernel_rfl) ?_ ?_
      · intro hb2
        try simp only [decide_eq_true_eq, decide_eq_false_iff_not, Bool.not_eq_true', Bool.not_eq_false', Bool.and_eq_true, Bool.or_eq_true, Bool.and_eq_false_imp, bne_iff_ne, beq_iff_eq, bne_eq_false_iff_eq, beq_eq_false_iff_ne, ne_eq, Decidable.not_not, Int.not_le, Int.not_lt, Nat.not_le, Nat.not_lt] at hb2
        refine go mixed 2000 [4] 0 (St.mk Rg.no [kCd (bitL 6 43), kCd (bitL 3 7)] [(4, vI (-1))] []) (by kernel_rfl) (by kernel_rfl) (by kernel_rfl) ?_
        refine ret_ok (vs := [vI (-1)]) (by kernel_rfl) ?_
        intro L w1 hs
        exact ⟨retI rfl, hs.out0⟩
      · intro hb2
        try simp only [decide_eq_true_eq, decide_eq_false_iff_not, Bool.not_eq_true', Bool.not_eq_false', Bool.and_eq_true, Bool.or_eq_true, Bool.and_eq_false_imp, bne_iff_ne, beq_iff_eq, bne_eq_false_iff_eq, beq_eq_false_iff_ne, ne_eq, Decidable.not_not, Int.not_le, Int.not_lt, Nat.not_le, Nat.not_lt] at hb2
        (exfalso; omega)
  replace hn : 1 ≤ n ∧ n ≤ 92 := Classical.not_not.1 hn
  by_cases hneg : pgU p < 0
  · have hno : pgPlace p n = -1 := if_pos (.inl hneg)
    rw [hno]
    refine go mixed 2000 [1, 2, 7] 1 (St.mk (Rg.sq [true, false] 1) [KI.code [true, true]] [(1, vI n), (2, vR 0 0), (7, SV.agg [cI p.lsn, cS Apslots p.slots.length cpslots])] [LB.mk [cI p.lsn, cS Apslots p.slots.length cpslots] 115]) (by kernel_rfl) (by kernel_rfl) (by kernel_rfl) ?_
    refine call_pure true (by kernel_rfl : atC _ _ _ true = some (80, [SV.agg [cI p.lsn, cS Apslots p.slots.length cpslots]], some 8, Rg.sq [true, false] 2)) (by kernel_rfl) (.one (.v (Value.int IntKind.i64 (pgU p)))) (fun L w1 hs => (Go.Proofs.Ytgleoebogikooaa.Dk.iPgUsed_ok (p) ([Value.int IntKind.i64 p.lsn, Value.slice Apslots p.slots.length cpslots]) w1 (Go.Proofs.Ytgleoebogikooaa.Dk.kPg_mk (rdRow_ext (hs.old 0 rfl) hrpslots)) (by assumption))) ?_
    refine go mixed 2000 [1, 2, 5, 11] 1 (St.mk (Rg.sq (bitL 4 3) 3) [kCd (bitL 4 11), kCd (bitL 3 7)] [(1, vI n), (2, vR 0 0), (5, vI (pgU p)), (11, vB (decide (pgU p < 0)))] [LB.mk [cI p.lsn, cS Apslots p.slots.length cpslots] 115]) (by kernel_rfl) (by kernel_rfl) (by kernel_rfl) ?_
    refine split_at 11 (b := decide (pgU p < 0)) (by kernel_rfl) (by kernel_rfl) ?_ ?_
    · intro hb1
      replace hb1 := of_decide_eq_true hb1
      refine go mixed 2000 [4] 0 (St.mk Rg.no [kCd (bitL 6 43), kCd (bitL 3 7)] [(4, vI (-1))] []) (by kernel_rfl) (by kernel_rfl) (by kernel_rfl) ?_
      refine ret_ok (vs := [vI (-1)]) (by kernel_rfl) ?_
      intro L w1 hs
      exact ⟨retI rfl, hs.out0⟩
    · intro hb1
      replace hb1 := of_decide_eq_false hb1
      (exfalso; omega)
  have nf_2 : IntKind.i64.wrap (pgU p + n) = pgU p + n := by rw [IntKind.wrap_i64]; omega
  have nf_3 : IntKind.i64.wrap (pgU p + 1 + n) = pgU p + 1 + n := by rw [IntKind.wrap_i64]; omega
  have h1 : ¬ (pgU p < 0 ∨ ¬ (1 ≤ n ∧ n ≤ 92)) := by omega
  have hic := idx_cases emptyS p.slots
  have hib : -1 ≤ idxOf emptyS p.slots ∧ idxOf emptyS p.slots ≤ 1048576 := by
    rcases hic with ⟨h, _⟩ | ⟨i, h, hi, _⟩ <;> omega
  clear hic
  refine go mixed 2000 [1, 2, 7] 1 (St.mk (Rg.sq [true, false] 1) [KI.code [true, true]] [(1, vI n), (2, vR 0 0), (7, SV.agg [cI p.lsn, cS Apslots p.slots.length cpslots])] [LB.mk [cI p.lsn, cS Apslots p.slots.length cpslots] 115]) (by kernel_rfl) (by kernel_rfl) (by kernel_rfl) ?_
  refine call_pure true (by kernel_rfl : atC _ _ _ true = some (80, [SV.agg [cI p.lsn, cS Apslots p.slots.length cpslots]], some 8, Rg.sq [true, false] 2)) (by kernel_rfl) (.one (.v (Value.int IntKind.i64 (pgU p)))) (fun L w1 hs => (Go.Proofs.Ytgleoebogikooaa.Dk.iPgUsed_ok (p) ([Value.int IntKind.i64 p.lsn, Value.slice Apslots p.slots.length cpslots]) w1 (Go.Proofs.Ytgleoebogikooaa.Dk.kPg_mk (rdRow_ext (hs.old 0 rfl) hrpslots)) (by assumption))) ?_
  refine go mixed 2000 [1, 2, 5, 11] 1 (St.mk (Rg.sq (bitL 4 3) 3) [kCd (bitL 4 11), kCd (bitL 3 7)] [(1, vI n), (2, vR 0 0), (5, vI (pgU p)), (11, vB (decide (pgU p < 0)))] [LB.mk [cI p.lsn, cS Apslots p.slots.length cpslots] 115]) (by kernel_rfl) (by kernel_rfl) (by kernel_rfl) ?_
  refine split_at 11 (b := decide (pgU p < 0)) (by kernel_rfl) (by kernel_rfl) ?_ ?_
  · intro hb1
    replace hb1 := of_decide_eq_true hb1
    (exfalso; omega)
  · intro hb1
    replace hb1 := of_decide_eq_false hb1
    refine go mixed 2000 [1, 2, 5, 11, 12] 1 (St.mk (Rg.sq (bitL 4 3) 4) [kCd (bitL 4 11), kCd (bitL 3 7)] [(1, vI n), (2, vR 0 0), (5, vI (pgU p)), (11, vL false), (12, vI n)] [LB.mk [cI p.lsn, cS Apslots p.slots.length cpslots] 115]) (by kernel_rfl) (by kernel_rfl) (by kernel_rfl) ?_
    refine call_pure true (by kernel_rfl : atC _ _ _ true = some (55, [vI n, vI 1, vI 92], some 13, Rg.sq (bitL 4 3) 5)) (by kernel_rfl) (.one (.bo (decide (1 ≤ n) && decide (n ≤ 92)))) (fun L w1 hs => (Go.Proofs.Ytgleoebogikooaa.Dk.within_ok (n) (1) (92) w1)) ?_
    refine go mixed 2000 [1, 2, 5, 15] 1 (St.mk Rg.no [kCd (bitL 4 11), kCd (bitL 3 7)] [(1, vI n), (2, vR 0 0), (5, vI (pgU p)), (15, vB !(decide (1 ≤ n) && decide (n ≤ 92)))] [LB.mk [cI p.lsn, cS Apslots p.slots.length cpslots] 115]) (by kernel_rfl) (by kernel_rfl) (by kernel_rfl) ?_
    refine split_at 15 (b := !(decide (1 ≤ n) && decide (n ≤ 92))) (by kernel_rfl) (by kernel_rfl) ?_ ?_
    · intro hb2
      try simp only [decide_eq_true_eq, decide_eq_false_iff_not, Bool.not_eq_true', Bool.not_eq_false', Bool.and_eq_true, Bool.or_eq_true, Bool.and_eq_false_imp, bne_iff_ne, beq_iff_eq, bne_eq_false_iff_eq, beq_eq_false_iff_ne, ne_eq, Decidable.not_not, Int.not_le, Int.not_lt, Nat.not_le, Nat.not_lt] at hb2
      (exfalso; omega)
    · intro hb2
      try simp only [decide_eq_true_eq, decide_eq_false_iff_not, Bool.not_eq_true', Bool.not_eq_false', Bool.and_eq_true, Bool.or_eq_true, Bool.and_eq_false_imp, bne_iff_ne, beq_iff_eq, bne_eq_false_iff_eq, beq_eq_false_iff_ne, ne_eq, Decidable.not_not, Int.not_le, Int.not_lt, Nat.not_le, Nat.not_lt] at hb2
      refine go mixed 2000 [1, 2, 5, 17] 1 (St.mk (Rg.sq (bitL 4 7) 2) [kCd (bitL 4 15)] [(1, vI n), (2, vR 0 0), (5, vI (pgU p)), (17, vS Apslots p.slots.length cpslots)] [LB.mk [cI p.lsn, cS Apslots p.slots.length cpslots] 115]) (by kernel_rfl) (by kernel_rfl) (by kernel_rfl) ?_
      refine call_pure true (by kernel_rfl : atC _ _ _ true = some (160, [vS Apslots p.slots.length cpslots, SV.one (SC.v (Value.func (Fn.func 172) #[] #[]))], some 18, Rg.sq (bitL 4 7) 3)) (by kernel_rfl) (.one (.v (Value.int IntKind.i64 (idxOf emptyS p.slots)))) (fun L w1 hs => (Go.Proofs.Ytgleoebogikooaa.Dk.idxEmpty_ok (p.slots) (Value.slice Apslots p.slots.length cpslots) w1 (rdRow_ext (hs.old 0 rfl) hrpslots) (by assumption))) ?_
      refine go mixed 2000 [1, 2, 5, 6, 22] 1 (St.mk (Rg.sq (bitL 7 47) 3) [kCd (bitL 7 111), KI.block 0, kCd (bitL 5 31)] [(1, vI n), (2, vR 0 0), (5, vI (pgU p)), (6, vI (idxOf emptyS p.slots)), (22, vB (decide (idxOf emptyS p.slots ≥ 0)))] [LB.mk [cI p.lsn, cS Apslots p.slots.length cpslots] 115]) (by kernel_rfl) (by kernel_rfl) (by kernel_rfl) ?_
      refine split_at 22 (b := decide (idxOf emptyS p.slots ≥ 0)) (by kernel_rfl) (by kernel_rfl) ?_ ?_
      · intro hb3
        replace hb3 := of_decide_eq_true hb3
        refine go mixed 2000 [1, 2, 5, 6, 19] 1 (St.mk Rg.no [kCd (bitL 7 111), KI.block 0, kCd (bitL 5 31)] [(1, vI n), (2, vR 0 0), (5, vI (pgU p)), (6, vI (idxOf emptyS p.slots)), (19, vB (decide (IntKind.i64.wrap (pgU p + n) ≤ 240)))] [LB.mk [cI p.lsn, cS Apslots p.slots.length cpslots] 115]) (by kernel_rfl) (by kernel_rfl) (by kernel_rfl) ?_
        try simp only [fl_ne_self, fl_eq_self, fl_eq0, fl_ne0, fl_gt0, fl_lt0, nf_1, nf_2, nf_3]
        refine split_at 19 (b := decide (pgU p + n ≤ 240)) (by kernel_rfl) (by kernel_rfl) ?_ ?_
        · intro hb4
          replace hb4 := of_decide_eq_true hb4
          refine go mixed 2000 [4] 0 (St.mk Rg.no [kCd (bitL 9 367), KI.block 0, kCd (bitL 5 31)] [(4, vI (idxOf emptyS p.slots))] []) (by kernel_rfl) (by kernel_rfl) (by kernel_rfl) ?_
          refine ret_ok (vs := [vI (idxOf emptyS p.slots)]) (by kernel_rfl) ?_
          intro L w1 hs
          exact ⟨retI (by unfold pgPlace; rw [if_neg h1, if_pos (by omega)]), hs.out0⟩
        · intro hb4
          replace hb4 := of_decide_eq_false hb4
          refine go mixed 2000 [1, 2, 5, 34] 1 (St.mk (Rg.sq (bitL 9 239) 5) [kCd (bitL 9 495), KI.block 0, kCd (bitL 5 31)] [(1, vI n), (2, vR 0 0), (5, vI (pgU p)), (34, vB (decide ((↑p.slots.length : Int) < 16)))] [LB.mk [cI p.lsn, cS Apslots p.slots.length cpslots] 115]) (by kernel_rfl) (by kernel_rfl) (by kernel_rfl) ?_
          refine split_at 34 (b := decide ((↑p.slots.length : Int) < 16)) (by kernel_rfl) (by kernel_rfl) ?_ ?_
          · intro hb5
            replace hb5 := of_decide_eq_true hb5
            refine go mixed 2000 [2, 29] 1 (St.mk Rg.no [kCd (bitL 9 495), KI.block 0, kCd (bitL 5 31)] [(2, vR 0 0), (29, vB (decide (IntKind.i64.wrap (IntKind.i64.wrap (pgU p + 1) + n) ≤ 240)))] [LB.mk [cI p.lsn, cS Apslots p.slots.length cpslots] 115]) (by kernel_rfl) (by kernel_rfl) (by kernel_rfl) ?_
            try simp only [fl_ne_self, fl_eq_self, fl_eq0, fl_ne0, fl_gt0, fl_lt0, nf_1, nf_2, nf_3]
            refine split_at 29 (b := decide (pgU p + 1 + n ≤ 240)) (by kernel_rfl) (by kernel_rfl) ?_ ?_
            · intro hb6
              replace hb6 := of_decide_eq_true hb6
              (exfalso; omega)
            · intro hb6
              replace hb6 := of_decide_eq_false hb6
              refine go mixed 2000 [4] 0 (St.mk Rg.no [kCd (bitL 6 63)] [(4, vI (-1))] []) (by kernel_rfl) (by kernel_rfl) (by kernel_rfl) ?_
              refine ret_ok (vs := [vI (-1)]) (by kernel_rfl) ?_
              intro L w1 hs
              exact ⟨retI (by unfold pgPlace; rw [if_neg h1, if_neg (by omega), if_neg (by omega)]), hs.out0⟩
          · intro hb5
            replace hb5 := of_decide_eq_false hb5
            refine go mixed 2000 [4] 0 (St.mk Rg.no [kCd (bitL 6 63)] [(4, vI (-1))] []) (by kernel_rfl) (by kernel_rfl) (by kernel_rfl) ?_
            refine ret_ok (vs := [vI (-1)]) (by kernel_rfl) ?_
            intro L w1 hs
            exact ⟨retI (by unfold pgPlace; rw [if_neg h1, if_neg (by omega), if_neg (by omega)]), hs.out0⟩
      · intro hb3
        replace hb3 := of_decide_eq_false hb3
        refine go mixed 2000 [1, 2, 5, 34] 1 (St.mk (Rg.sq (bitL 9 239) 5) [kCd (bitL 9 495), KI.block 0, kCd (bitL 5 31)] [(1, vI n), (2, vR 0 0), (5, vI (pgU p)), (34, vB (decide ((↑p.slots.length : Int) < 16)))] [LB.mk [cI p.lsn, cS Apslots p.slots.length cpslots] 115]) (by kernel_rfl) (by kernel_rfl) (by kernel_rfl) ?_
        refine split_at 34 (b := decide ((↑p.slots.length : Int) < 16)) (by kernel_rfl) (by kernel_rfl) ?_ ?_
        · intro hb4
          replace hb4 := of_decide_eq_true hb4
          refine go mixed 2000 [2, 29] 1 (St.mk Rg.no [kCd (bitL 9 495), KI.block 0, kCd (bitL 5 31)] [(2, vR 0 0), (29, vB (decide (IntKind.i64.wrap (IntKind.i64.wrap (pgU p + 1) + n) ≤ 240)))] [LB.mk [cI p.lsn, cS Apslots p.slots.length cpslots] 115]) (by kernel_rfl) (by kernel_rfl) (by kernel_rfl) ?_
          try simp only [fl_ne_self, fl_eq_self, fl_eq0, fl_ne0, fl_gt0, fl_lt0, nf_1, nf_2, nf_3]
          refine split_at 29 (b := decide (pgU p + 1 + n ≤ 240)) (by kernel_rfl) (by kernel_rfl) ?_ ?_
          · intro hb5
            replace hb5 := of_decide_eq_true hb5
            refine go mixed 2000 [4] 0 (St.mk Rg.no [kCd (bitL 11 1519), KI.block 0, kCd (bitL 5 31)] [(4, vI (↑p.slots.length : Int))] []) (by kernel_rfl) (by kernel_rfl) (by kernel_rfl) ?_
            refine ret_ok (vs := [vI (↑p.slots.length : Int)]) (by kernel_rfl) ?_
            intro L w1 hs
            exact ⟨retI (by unfold pgPlace; rw [if_neg h1, if_neg (by omega), if_pos (by omega)]), hs.out0⟩
          · intro hb5
            replace hb5 := of_decide_eq_false hb5
            refine go mixed 2000 [4] 0 (St.mk Rg.no [kCd (bitL 6 63)] [(4, vI (-1))] []) (by kernel_rfl) (by kernel_rfl) (by kernel_rfl) ?_
            refine ret_ok (vs := [vI (-1)]) (by kernel_rfl) ?_
            intro L w1 hs
            exact ⟨retI (by unfold pgPlace; rw [if_neg h1, if_neg (by omega), if_neg (by omega)]), hs.out0⟩
        · intro hb4
          replace hb4 := of_decide_eq_false hb4
          refine go mixed 2000 [4] 0 (St.mk Rg.no [kCd (bitL 6 63)] [(4, vI (-1))] []) (by kernel_rfl) (by kernel_rfl) (by kernel_rfl) ?_
          refine ret_ok (vs := [vI (-1)]) (by kernel_rfl) ?_
          intro L w1 hs
          exact ⟨retI (by unfold pgPlace; rw [if_neg h1, if_neg (by omega), if_neg (by omega)]), hs.out0⟩

theorem take_ne {l : List (List Int)} {i : Nat} {q : Prop} (h : ∀ s ∈ l.take i, ¬ (s.length = 0 ∧ q)) (hi : i < l.length) (hx : ¬ (l[i].length = 0 ∧ q)) : ∀ s ∈ l.take (i + 1), ¬ (s.length = 0 ∧ q) := fun s hs => by
  rw [List.take_succ_eq_append_getElem hi] at hs
  rcases List.mem_append.1 hs with hs | hs
  · exact h s hs
  · rw [List.mem_singleton.1 hs]; exact hx
theorem place_hit {p : Pg} {n : Int} {i : Nat} (h1 : ¬ (pgU p < 0 ∨ ¬ (1 ≤ n ∧ n ≤ 92))) (hi : i < p.slots.length) (ha : ∀ s ∈ p.slots.take i, ¬ (s.length = 0 ∧ pgU p + n ≤ 240)) (hx : p.slots[i].length = 0) (hq : pgU p + n ≤ 240) : pgPlace p n = i := by
  have h2 : idxOf emptyS p.slots = i := idx_hit hi (fun x hx => decide_eq_false (fun h => ha x hx ⟨h, hq⟩)) (decide_eq_true hx)
  unfold pgPlace
  rw [if_neg h1, h2, if_pos (by omega)]
theorem place_end {p : Pg} {n : Int} (h1 : ¬ (pgU p < 0 ∨ ¬ (1 ≤ n ∧ n ≤ 92))) (ha : ∀ s ∈ p.slots, ¬ (s.length = 0 ∧ pgU p + n ≤ 240)) : pgPlace p n = if p.slots.length < 16 ∧ pgU p + 1 + n ≤ 240 then (p.slots.length : Int) else -1 := by
  unfold pgPlace
  rw [if_neg h1, if_neg]
  intro hc
  have h2 : idxOf emptyS p.slots = -1 := idx_none (fun x hx => decide_eq_false (fun h => ha x hx ⟨h, hc.2⟩))
  omega
theorem sPlace_ok (p : Pg) (csp : List Value) (n : Int) (w : World) (hp : kPg.rd w.heap p csp) (hl : p.slots.length ≤ 1048576) :
    Calls Try.prog 86 #[.agg csp.toArray, .int .i64 n] w fun e w' => e = .returned (.int .i64 (pgPlace p n)) ∧ Below w.heap.size w w' := by
  obtain ⟨Apslots, cpslots, rfl, hrpslots⟩ := kPg_inv hp
  refine enter (args := [.agg [.v (.int .i64 p.lsn), .v (.slice Apslots p.slots.length cpslots)], .one (.v (.int .i64 n))]) Try.func86 (c := bodyOf Try.f86) rfl rfl (start_LOK _) (start_old w) ?_
  have rows_on : True := trivial
  have hu := pgU_bnd p
  have nf_1 : IntKind.i64.wrap (pgU p + 1) = pgU p + 1 := by rw [IntKind.wrap_i64]; omega
  by_cases hn : ¬ (1 ≤ n ∧ n ≤ 92)
  · have hno : pgPlace p n = -1 := if_pos (.inr hn)
    rw [hno]
    refine go mixed 2000 [1, 2, 7] 1 (St.mk (Rg.sq [true, false] 1) [KI.code [true, true]] [(1, vI n), (2, vR 0 0), (7, SV.agg [cI p.lsn, cS Apslots p.slots.length cpslots])] [LB.mk [cI p.lsn, cS Apslots p.slots.length cpslots] 115]) (by kernel_rfl) (by kernel_rfl) (by kernel_rfl) ?_
    refine call_pure true (by kernel_rfl : atC _ _ _ true = some (75, [SV.agg [cI p.lsn, cS Apslots p.slots.length cpslots]], some 8, Rg.sq [true, false] 2)) (by kernel_rfl) (.one (.v (Value.int IntKind.i64 (pgU p)))) (fun L w1 hs => (Go.Proofs.Ytgleoebogikooaa.Dk.sPgUsed_ok (p) ([Value.int IntKind.i64 p.lsn, Value.slice Apslots p.slots.length cpslots]) w1 (Go.Proofs.Ytgleoebogikooaa.Dk.kPg_mk (rdRow_ext (hs.old 0 rfl) hrpslots)) (by assumption))) ?_
    refine go mixed 2000 [1, 2, 5, 11] 1 (St.mk (Rg.sq (bitL 4 3) 3) [kCd (bitL 4 11), kCd (bitL 3 7)] [(1, vI n), (2, vR 0 0), (5, vI (pgU p)), (11, vB (decide (pgU p < 0)))] [LB.mk [cI p.lsn, cS Apslots p.slots.length cpslots] 115]) (by kernel_rfl) (by kernel_rfl) (by kernel_rfl) ?_
    refine split_at 11 (b := decide (pgU p < 0)) (by kernel_rfl) (by kernel_rfl) ?_ ?_
    · intro hb1
      replace hb1 := of_decide_eq_true hb1
      refine go mixed 2000 [4] 0 (St.mk Rg.no [kCd (bitL 6 43), kCd (bitL 3 7)] [(4, vI (-1))] []) (by kernel_rfl) (by kernel_rfl) (by kernel_rfl) ?_
      refine ret_ok (vs := [vI (-1)]) (by kernel_rfl) ?_
      intro L w1 hs
      exact ⟨retI rfl, hs.out0⟩
    · intro hb1
      replace hb1 := of_decide_eq_false hb1
      refine go mixed 2000 [1, 2, 5, 11, 12] 1 (St.mk (Rg.sq (bitL 4 3) 4) [kCd (bitL 4 11), kCd (bitL 3 7)] [(1, vI n), (2, vR 0 0), (5, vI (pgU p)), (11, vL false), (12, vI n)] [LB.mk [cI p.lsn, cS Apslots p.slots.length cpslots] 115]) (by kernel_rfl) (by kernel_rfl) (by kernel_rfl) ?_
      refine call_pure true (by kernel_rfl : atC _ _ _ true = some (85, [vI n, vI 1, vI 92], some 13, Rg.sq (bitL 4 3) 5)) (by kernel_rfl) (.one (.bo (decide (1 ≤ n) && decide (n ≤ 92)))) (fun L w1 hs => (Go.Proofs.Ytgleoebogikooaa.Dk.l5in_ok (n) (1) (92) w1)) ?_
      refine go mixed 2000 [1, 2, 5, 15] 1 (St.mk Rg.no [kCd (bitL 4 11), kCd (bitL 3 7)] [(1, vI n), (2, vR 0 0), (5, vI (pgU p)), (15, vB !(decide (1 ≤ n) && decide (n ≤ 92)))] [LB.mk [cI p.lsn, cS Apslots p.slots.length cpslots] 115]) (by kernel_rfl) (by kernel_rfl) (by kernel_rfl) ?_
      refine split_at 15 (b := !(decide (1 ≤ n) && decide (n ≤ 92))) (by kernel_rfl) (by kernel_rfl) ?_ ?_
      · intro hb2
        try simp only [decide_eq_true_eq, decide_eq_false_iff_not, Bool.not_eq_true', Bool.not_eq_false', Bool.and_eq_true, Bool.or_eq_true, Bool.and_eq_false_imp, bne_iff_ne, beq_iff_eq, bne_eq_false_iff_eq, beq_eq_false_iff_ne, ne_eq, Decidable.not_not, Int.not_le, Int.not_lt, Nat.not_le, Nat.not_lt] at hb2
        refine go mixed 2000 [4] 0 (St.mk Rg.no [kCd (bitL 6 43), kCd (bitL 3 7)] [(4, vI (-1))] []) (by kernel_rfl) (by kernel_rfl) (by kernel_rfl) ?_
        refine ret_ok (vs := [vI (-1)]) (by kernel_rfl) ?_
        intro L w1 hs
        exact ⟨retI rfl, hs.out0⟩
      · intro hb2
        try simp only [decide_eq_true_eq, decide_eq_false_iff_not, Bool.not_eq_true', Bool.not_eq_false', Bool.and_eq_true, Bool.or_eq_true, Bool.and_eq_false_imp, bne_iff_ne, beq_iff_eq, bne_eq_false_iff_eq, beq_eq_false_iff_ne, ne_eq, Decidable.not_not, Int.not_le, Int.not_lt, Nat.not_le, Nat.not_lt] at hb2
        (exfalso; omega)
  replace hn : 1 ≤ n ∧ n ≤ 92 := Classical.not_not.1 hn
  by_cases hneg : pgU p < 0
  · have hno : pgPlace p n = -1 := if_pos (.inl hneg)
    rw [hno]
    refine go mixed 2000 [1, 2, 7] 1 (St.mk (Rg.sq [true, false] 1) [KI.code [true, true]] [(1, vI n), (2, vR 0 0), (7, SV.agg [cI p.lsn, cS Apslots p.slots.length cpslots])] [LB.mk [cI p.lsn, cS Apslots p.slots.length cpslots] 115]) (by kernel_rfl) (by kernel_rfl) (by kernel_rfl) ?_
    refine call_pure true (by kernel_rfl : atC _ _ _ true = some (75, [SV.agg [cI p.lsn, cS Apslots p.slots.length cpslots]], some 8, Rg.sq [true, false] 2)) (by kernel_rfl) (.one (.v (Value.int IntKind.i64 (pgU p)))) (fun L w1 hs => (Go.Proofs.Ytgleoebogikooaa.Dk.sPgUsed_ok (p) ([Value.int IntKind.i64 p.lsn, Value.slice Apslots p.slots.length cpslots]) w1 (Go.Proofs.Ytgleoebogikooaa.Dk.kPg_mk (rdRow_ext (hs.old 0 rfl) hrpslots)) (by assumption))) ?_
    refine go mixed 2000 [1, 2, 5, 11] 1 (St.mk (Rg.sq (bitL 4 3) 3) [kCd (bitL 4 11), kCd (bitL 3 7)] [(1, vI n), (2, vR 0 0), (5, vI (pgU p)), (11, vB (decide (pgU p < 0)))] [LB.mk [cI p.lsn, cS Apslots p.slots.length cpslots] 115]) (by kernel_rfl) (by kernel_rfl) (by kernel_rfl) ?_
    refine split_at 11 (b := decide (pgU p < 0)) (by kernel_rfl) (by kernel_rfl) ?_ ?_
    · intro hb1
      replace hb1 := of_decide_eq_true hb1
      refine go mixed 2000 [4] 0 (St.mk Rg.no [kCd (bitL 6 43), kCd (bitL 3 7)] [(4, vI (-1))] []) (by kernel_rfl) (by kernel_rfl) (by kernel_rfl) ?_
      refine ret_ok (vs := [vI (-1)]) (by kernel_rfl) ?_
      intro L w1 hs
      exact ⟨retI rfl, hs.out0⟩
    · intro hb1
      replace hb1 := of_decide_eq_false hb1
      (exfalso; omega)
  have nf_2 : IntKind.i64.wrap (pgU p + n) = pgU p + n := by rw [IntKind.wrap_i64]; omega
  have nf_3 : IntKind.i64.wrap (pgU p + 1 + n) = pgU p + 1 + n := by rw [IntKind.wrap_i64]; omega
  have h1 : ¬ (pgU p < 0 ∨ ¬ (1 ≤ n ∧ n ≤ 92)) := by omega
  refine go mixed 2000 [1, 2, 7] 1 (St.mk (Rg.sq [true, false] 1) [KI.code [true, true]] [(1, vI n), (2, vR 0 0), (7, SV.agg [cI p.lsn, cS Apslots p.slots.length cpslots])] [LB.mk [cI p.lsn, cS Apslots p.slots.length cpslots] 115]) (by kernel_rfl) (by kernel_rfl) (by kernel_rfl) ?_
  refine call_pure true (by kernel_rfl : atC _ _ _ true = some (75, [SV.agg [cI p.lsn, cS Apslots p.slots.length cpslots]], some 8, Rg.sq [true, false] 2)) (by kernel_rfl) (.one (.v (Value.int IntKind.i64 (pgU p)))) (fun L w1 hs => (Go.Proofs.Ytgleoebogikooaa.Dk.sPgUsed_ok (p) ([Value.int IntKind.i64 p.lsn, Value.slice Apslots p.slots.length cpslots]) w1 (Go.Proofs.Ytgleoebogikooaa.Dk.kPg_mk (rdRow_ext (hs.old 0 rfl) hrpslots)) (by assumption))) ?_
  refine go mixed 2000 [1, 2, 5, 11] 1 (St.mk (Rg.sq (bitL 4 3) 3) [kCd (bitL 4 11), kCd (bitL 3 7)] [(1, vI n), (2, vR 0 0), (5, vI (pgU p)), (11, vB (decide (pgU p < 0)))] [LB.mk [cI p.lsn, cS Apslots p.slots.length cpslots] 115]) (by kernel_rfl) (by kernel_rfl) (by kernel_rfl) ?_
  refine split_at 11 (b := decide (pgU p < 0)) (by kernel_rfl) (by kernel_rfl) ?_ ?_
  · intro hb1
    replace hb1 := of_decide_eq_true hb1
    (exfalso; omega)
  intro hb1
  replace hb1 := of_decide_eq_false hb1
  refine go mixed 2000 [1, 2, 5, 11, 12] 1 (St.mk (Rg.sq (bitL 4 3) 4) [kCd (bitL 4 11), kCd (bitL 3 7)] [(1, vI n), (2, vR 0 0), (5, vI (pgU p)), (11, vL false), (12, vI n)] [LB.mk [cI p.lsn, cS Apslots p.slots.length cpslots] 115]) (by kernel_rfl) (by kernel_rfl) (by kernel_rfl) ?_
  refine call_pure true (by kernel_rfl : atC _ _ _ true = some (85, [vI n, vI 1, vI 92], some 13, Rg.sq (bitL 4 3) 5)) (by kernel_rfl) (.one (.bo (decide (1 ≤ n) && decide (n ≤ 92)))) (fun L w1 hs => (Go.Proofs.Ytgleoebogikooaa.Dk.l5in_ok (n) (1) (92) w1)) ?_
  refine go mixed 2000 [1, 2, 5, 15] 1 (St.mk Rg.no [kCd (bitL 4 11), kCd (bitL 3 7)] [(1, vI n), (2, vR 0 0), (5, vI (pgU p)), (15, vB !(decide (1 ≤ n) && decide (n ≤ 92)))] [LB.mk [cI p.lsn, cS Apslots p.slots.length cpslots] 115]) (by kernel_rfl) (by kernel_rfl) (by kernel_rfl) ?_
  refine split_at 15 (b := !(decide (1 ≤ n) && decide (n ≤ 92))) (by kernel_rfl) (by kernel_rfl) ?_ ?_
  · intro hb2
    try simp only [decide_eq_true_eq, decide_eq_false_iff_not, Bool.not_eq_true', Bool.not_eq_false', Bool.and_eq_true, Bool.or_eq_true, Bool.and_eq_false_imp, bne_iff_ne, beq_iff_eq, bne_eq_false_iff_eq, beq_eq_false_iff_ne, ne_eq, Decidable.not_not, Int.not_le, Int.not_lt, Nat.not_le, Nat.not_lt] at hb2
    (exfalso; omega)
  intro hb2
  try simp only [decide_eq_true_eq, decide_eq_false_iff_not, Bool.not_eq_true', Bool.not_eq_false', Bool.and_eq_true, Bool.or_eq_true, Bool.and_eq_false_imp, bne_iff_ne, beq_iff_eq, bne_eq_false_iff_eq, beq_eq_false_iff_ne, ne_eq, Decidable.not_not, Int.not_le, Int.not_lt, Nat.not_le, Nat.not_lt] at hb2
  refine go mixed 2000 [1, 2, 5, 6] 1 (St.mk Rg.no [kLp (bitL 7 119), KI.block 0, kCd (bitL 4 15)] [(1, vI n), (2, vR 0 0), (5, vI (pgU p)), (6, vI 0)] [LB.mk [cI p.lsn, cS Apslots p.slots.length cpslots] 115]) (by kernel_rfl) (by kernel_rfl) (by kernel_rfl) ?_
  refine loop_at (ι := Nat) (fun i => [(6, .one (.v (.int .i64 i)))]) (fun _ => []) (fun _ => [oldA w]) (fun i => i ≤ p.slots.length ∧ ∀ s ∈ p.slots.take i, ¬ (s.length = 0 ∧ pgU p + n ≤ 240)) (fun i => p.slots.length - i) 0 rfl rfl rfl ⟨Nat.zero_le _, fun s hs => by simp at hs⟩ ?_
  rintro i ⟨hi, ha⟩ ih
  rcases Nat.lt_or_ge i p.slots.length with hlt | hge
  · refine go mixed 2000 [1, 2, 5, 6, 20] 1 (St.mk Rg.no [kCd (bitL 9 375), kCd (bitL 8 247), kLp (bitL 7 119), KI.block 0, kCd (bitL 4 15)] [(1, vI n), (2, vR 0 0), (5, vI (pgU p)), (6, vI (↑i : Int)), (20, vB (decide ((↑i : Int) < (↑p.slots.length : Int))))] [LB.mk [cI p.lsn, cS Apslots p.slots.length cpslots] 115]) (by kernel_rfl) (by kernel_rfl) (by kernel_rfl) ?_
    refine split_at 20 (b := decide ((↑i : Int) < (↑p.slots.length : Int))) (by kernel_rfl) (by kernel_rfl) ?_ ?_
    · intro hb3
      replace hb3 := of_decide_eq_true hb3
      refine go mixed 2000 [1, 2, 5, 6, 24, 25] 1 (St.mk (Rg.sq (bitL 11 759) 3) [kCd (bitL 11 1783), KI.block 1, kCd (bitL 9 503), kLp (bitL 7 119), KI.block 0, kCd (bitL 4 15)] [(1, vI n), (2, vR 0 0), (5, vI (pgU p)), (6, vI (↑i : Int)), (24, vS Apslots p.slots.length cpslots), (25, vI (↑i : Int))] [LB.mk [cI p.lsn, cS Apslots p.slots.length cpslots] 115]) (by kernel_rfl) (by kernel_rfl) (by kernel_rfl) ?_
      refine index_at 3 (by kernel_rfl : atP _ _ _ 3 false = some (Op.indexAddr 113 (tmpO 24) (tmpO 25), 0, some 26, Rg.sq (bitL 11 759) 4)) (ni := i) (sz := 1) (by kernel_rfl) rfl rfl rfl (by assumption) (fun L w1 hs => rd_some (i := i) (rdRow_ext (hs.old 0 rfl) hrpslots) (by assumption)) ?_
      intro a_1 ha_1
      cases ha_1
      refine go mixed 2000 [1, 2, 5, 6, 26] 1 (St.mk (Rg.sq (bitL 11 759) 4) [kCd (bitL 11 1783), KI.block 1, kCd (bitL 9 503), kLp (bitL 7 119), KI.block 0, kCd (bitL 4 15)] [(1, vI n), (2, vR 0 0), (5, vI (pgU p)), (6, vI (↑i : Int)), (26, vP (a_1.add (i * 1)))] [LB.mk [cI p.lsn, cS (some a_1) p.slots.length cpslots] 115]) (by kernel_rfl) (by kernel_rfl) (by kernel_rfl) ?_
      obtain ⟨Ai_r1, ci_r1, hce_r1, hrw_r1⟩ := rd_row (i := i) hrpslots (by assumption)
      refine load_one 4 (by kernel_rfl : atP _ _ _ 4 true = some (Op.load 40 (tmpO 26), 40, some 27, Rg.sq (bitL 11 759) 5)) (n := 1) (by kernel_rfl) rfl ?_
      intro L w1 hs
      refine ⟨.v (.slice Ai_r1 ((p.slots)[i]'(by assumption)).length ci_r1), cellH_ext (hs.old 0 rfl) hce_r1, ?_⟩
      clear hs
      refine go mixed 2000 [1, 2, 5, 6, 30] 1 (St.mk (Rg.sq (bitL 11 759) 8) [kCd (bitL 11 1783), KI.block 1, kCd (bitL 9 503), kLp (bitL 7 119), KI.block 0, kCd (bitL 4 15)] [(1, vI n), (2, vR 0 0), (5, vI (pgU p)), (6, vI (↑i : Int)), (30, vB ((↑p.slots[i].length : Int) == 0))] [LB.mk [cI p.lsn, cS (some a_1) p.slots.length cpslots] 115]) (by kernel_rfl) (by kernel_rfl) (by kernel_rfl) ?_
      refine split_at 30 (b := (↑p.slots[i].length : Int) == 0) (by kernel_rfl) (by kernel_rfl) ?_ ?_
      · intro hb4
        replace hb4 := beq_iff_eq.1 hb4
        refine go mixed 2000 [1, 2, 5, 6, 35] 1 (St.mk Rg.no [kCd (bitL 11 1783), KI.block 1, kCd (bitL 9 503), kLp (bitL 7 119), KI.block 0, kCd (bitL 4 15)] [(1, vI n), (2, vR 0 0), (5, vI (pgU p)), (6, vI (↑i : Int)), (35, vB (decide (IntKind.i64.wrap (pgU p + n) ≤ 240)))] [LB.mk [cI p.lsn, cS (some a_1) p.slots.length cpslots] 115]) (by kernel_rfl) (by kernel_rfl) (by kernel_rfl) ?_
        try simp only [fl_ne_self, fl_eq_self, fl_eq0, fl_ne0, fl_gt0, fl_lt0, nf_1, nf_2, nf_3]
        refine split_at 35 (b := decide (pgU p + n ≤ 240)) (by kernel_rfl) (by kernel_rfl) ?_ ?_
        · intro hb5
          replace hb5 := of_decide_eq_true hb5
          refine go mixed 2000 [4] 0 (St.mk Rg.no [kCd (bitL 13 5879), KI.block 1, kCd (bitL 9 503), kLp (bitL 7 119), KI.block 0, kCd (bitL 4 15)] [(4, vI (↑i : Int))] []) (by kernel_rfl) (by kernel_rfl) (by kernel_rfl) ?_
          refine ret_ok (vs := [vI (↑i : Int)]) (by kernel_rfl) ?_
          intro L w1 hs
          exact ⟨retI (place_hit h1 hlt ha (by omega) (by omega)).symm, hs.out0⟩
        · intro hb5
          replace hb5 := of_decide_eq_false hb5
          refine go mixed 2000 [1, 2, 5, 6] 1 (St.mk Rg.no [kLp (bitL 7 119), KI.block 0, kCd (bitL 4 15)] [(1, vI n), (2, vR 0 0), (5, vI (pgU p)), (6, vI (IntKind.i64.wrap ((↑i : Int) + 1)))] [LB.mk [cI p.lsn, cS (some a_1) p.slots.length cpslots] 115]) (by kernel_rfl) (by kernel_rfl) (by kernel_rfl) ?_
          rw [wrap_succ (by omega)]; exact ih (i + 1) ⟨hlt, take_ne ha hlt (by omega)⟩ (by omega)
      · intro hb4
        replace hb4 := beq_eq_false_iff_ne.1 hb4
        refine go mixed 2000 [1, 2, 5, 6] 1 (St.mk Rg.no [kLp (bitL 7 119), KI.block 0, kCd (bitL 4 15)] [(1, vI n), (2, vR 0 0), (5, vI (pgU p)), (6, vI (IntKind.i64.wrap ((↑i : Int) + 1)))] [LB.mk [cI p.lsn, cS (some a_1) p.slots.length cpslots] 115]) (by kernel_rfl) (by kernel_rfl) (by kernel_rfl) ?_
        rw [wrap_succ (by omega)]; exact ih (i + 1) ⟨hlt, take_ne ha hlt (by omega)⟩ (by omega)
    · intro hb3
      replace hb3 := of_decide_eq_false hb3
      (exfalso; omega)
  obtain rfl : i = p.slots.length := by omega
  rw [List.take_length] at ha
  have he := place_end h1 ha
  refine go mixed 2000 [1, 2, 5, 6, 20] 1 (St.mk Rg.no [kCd (bitL 9 375), kCd (bitL 8 247), kLp (bitL 7 119), KI.block 0, kCd (bitL 4 15)] [(1, vI n), (2, vR 0 0), (5, vI (pgU p)), (6, vI (↑p.slots.length : Int)), (20, vB (decide ((↑p.slots.length : Int) < (↑p.slots.length : Int))))] [LB.mk [cI p.lsn, cS Apslots p.slots.length cpslots] 115]) (by kernel_rfl) (by kernel_rfl) (by kernel_rfl) ?_
  refine split_at 20 (b := decide ((↑p.slots.length : Int) < (↑p.slots.length : Int))) (by kernel_rfl) (by kernel_rfl) ?_ ?_
  · intro hb3
    replace hb3 := of_decide_eq_true hb3
    (exfalso; omega)
  · intro hb3
    replace hb3 := of_decide_eq_false hb3
    refine go mixed 2000 [1, 2, 5, 41] 1 (St.mk (Rg.sq (bitL 6 15) 5) [kCd (bitL 6 47), kCd (bitL 5 31)] [(1, vI n), (2, vR 0 0), (5, vI (pgU p)), (41, vB (decide ((↑p.slots.length : Int) < 16)))] [LB.mk [cI p.lsn, cS Apslots p.slots.length cpslots] 115]) (by kernel_rfl) (by kernel_rfl) (by kernel_rfl) ?_
    refine split_at 41 (b := decide ((↑p.slots.length : Int) < 16)) (by kernel_rfl) (by kernel_rfl) ?_ ?_
    · intro hb4
      replace hb4 := of_decide_eq_true hb4
      refine go mixed 2000 [2, 47] 1 (St.mk Rg.no [kCd (bitL 6 47), kCd (bitL 5 31)] [(2, vR 0 0), (47, vB (decide (IntKind.i64.wrap (IntKind.i64.wrap (pgU p + 1) + n) ≤ 240)))] [LB.mk [cI p.lsn, cS Apslots p.slots.length cpslots] 115]) (by kernel_rfl) (by kernel_rfl) (by kernel_rfl) ?_
      try simp only [fl_ne_self, fl_eq_self, fl_eq0, fl_ne0, fl_gt0, fl_lt0, nf_1, nf_2, nf_3]
      refine split_at 47 (b := decide (pgU p + 1 + n ≤ 240)) (by kernel_rfl) (by kernel_rfl) ?_ ?_
      · intro hb5
        replace hb5 := of_decide_eq_true hb5
        refine go mixed 2000 [4] 0 (St.mk Rg.no [kCd (bitL 8 175), kCd (bitL 5 31)] [(4, vI (↑p.slots.length : Int))] []) (by kernel_rfl) (by kernel_rfl) (by kernel_rfl) ?_
        refine ret_ok (vs := [vI (↑p.slots.length : Int)]) (by kernel_rfl) ?_
        intro L w1 hs
        exact ⟨retI (he.trans (if_pos (by omega))).symm, hs.out0⟩
      · intro hb5
        replace hb5 := of_decide_eq_false hb5
        refine go mixed 2000 [4] 0 (St.mk Rg.no [kCd (bitL 6 63)] [(4, vI (-1))] []) (by kernel_rfl) (by kernel_rfl) (by kernel_rfl) ?_
        refine ret_ok (vs := [vI (-1)]) (by kernel_rfl) ?_
        intro L w1 hs
        exact ⟨retI (he.trans (if_neg (by omega))).symm, hs.out0⟩
    · intro hb4
      replace hb4 := of_decide_eq_false hb4
      refine go mixed 2000 [4] 0 (St.mk Rg.no [kCd (bitL 6 63)] [(4, vI (-1))] []) (by kernel_rfl) (by kernel_rfl) (by kernel_rfl) ?_
      refine ret_ok (vs := [vI (-1)]) (by kernel_rfl) ?_
      intro L w1 hs
      exact ⟨retI (he.trans (if_neg (by omega))).symm, hs.out0⟩

end Go.Proofs.Ytgleoebogikooaa.Dk
