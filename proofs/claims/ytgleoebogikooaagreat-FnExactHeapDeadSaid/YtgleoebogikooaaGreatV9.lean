/- Walks of functions of the program: what each call returns and what it leaves in memory. Conditions: those that each theorem names. -/
import Derived.Test.YtgleoebogikooaaGreatV8
namespace Go.Proofs.YtgleoebogikooaaGreat.Dk
set_option linter.unusedVariables false
set_option linter.unusedSimpArgs false
open Go.Proofs.YtgleoebogikooaaGreat.Sx Go.Proofs Go.RowKit
set_option maxRecDepth 100000
set_option maxHeartbeats 1000000
structure He where
 pages : List Pg
def kHe : Kn He := kVia (fun x => x.pages) (kRow 58 kPg)
theorem kHe_inv {h : Hp} {x : He} {cs : List Value} (hx : kHe.rd h x cs) : ∃ (Apages : Option Addr) (cpages : Nat), cs = [.slice Apages x.pages.length cpages] ∧ rdRow kPg h x.pages (.slice Apages x.pages.length cpages) := by
 have r0 := hx
 obtain ⟨v0, rfl, hrpages⟩ := r0
 obtain ⟨Apages, cpages, rfl⟩ := rdRow_form hrpages
 exact ⟨Apages, cpages, rfl, hrpages⟩
theorem kHe_mk {h : Hp} {pages : List Pg} {vpages : Value} (hrpages : rdRow kPg h pages vpages) : kHe.rd h ⟨pages⟩ [vpages] :=
 ⟨_, rfl, hrpages⟩
def zPg (x : Pg) : Nat := zRow (fun l => l.length) x.slots
def wPg (x : Pg) : Prop := (x.slots.length ≤ 9223372036854775807 ∧ ∀ e ∈ x.slots, e.length ≤ 9223372036854775807)
def zHe (x : He) : Nat := zRow zPg x.pages
def wHe (x : He) : Prop := (x.pages.length ≤ 9223372036854775807 ∧ ∀ e ∈ x.pages, wPg e)
theorem indexPg_ok (F : Nat) (hF : goesB Tryz.prog F = true) (cv : Value) (p : Pg → Bool) (xs : List Pg) (vxs : Value) (w : World) (hxs : rdRow kPg w.heap xs vxs) (hl : xs.length ≤ 1048576) (hp : Pred (evA kPg) F #[cv] w xs p) :
  Calls Tryz.prog 113 #[vxs, .func (.func F) #[] #[cv]] w fun e w' => e = .returned (.int .i64 (idxOf p xs)) ∧ Below w.heap.size w w' := by
 obtain ⟨Axs, cxs, rfl⟩ := rdRow_form hxs
 refine enter (args := [.one (.v (.slice Axs xs.length cxs)), .one (.v (.func (.func F) #[] #[cv]))]) Tryz.func113 (c := bodyOf Tryz.f113) rfl rfl (start_LOK _) (start_old w) ?_
 refine gn 0 Rg.no [kLp (bitL 5 29), KI.block 0, KI.code [true, true]] [(0, vS Axs xs.length cxs), (1, SV.one (SC.v (Value.func (Fn.func F) #[] #[cv]))), (7, vI (↑xs.length : Int)), (8, vI 0)] [] ?_
 refine loop_at (ι := Nat) (fun i => [(8, .one (.v (.int .i64 i)))]) (fun _ => []) (fun i => [oldA w]) (fun i => i ≤ xs.length ∧ ∀ x ∈ xs.take i, p x = false) (fun i => xs.length - i) 0 rfl rfl rfl ⟨Nat.zero_le _, fun x hx => by simp at hx⟩ ?_
 intro i hi ih
 refine gn 0 Rg.no [kCd (bitL 7 61), kCd (bitL 7 125), kLp (bitL 5 29), KI.block 0, KI.code [true, true]] [(0, vS Axs xs.length cxs), (1, SV.one (SC.v (Value.func (Fn.func F) #[] #[cv]))), (7, vI (↑xs.length : Int)), (8, vI (↑i : Int)), (9, vB (decide ((↑i : Int) < (↑xs.length : Int))))] [] ?_
 refine spl 9 (decide ((↑i : Int) < (↑xs.length : Int))) ?_ ?_
 rotate_left
 ·intro hb1
  replace hb1 := of_decide_eq_false hb1
  refine gn 0 Rg.no [kCd (bitL 3 7)] [(4, vI (-1))] [] ?_
  refine rtk [vI (-1)] ?_
  intro L w1 hs
  exact ⟨retI (idx_none (fun x hx => hi.2 x (by rw [List.take_of_length_le (by omega)]; exact hx))).symm, hs.out0⟩
 intro hb1
 replace hb1 := of_decide_eq_true hb1
 refine gn 0 (Rg.sq (bitL 11 893) 3) [kCd (bitL 11 1917), KI.block 1, kCd (bitL 8 253), kLp (bitL 5 29), KI.block 0, KI.code [true, true]] [(0, vS Axs xs.length cxs), (1, SV.one (SC.v (Value.func (Fn.func F) #[] #[cv]))), (5, vI (↑i : Int)), (7, vI (↑xs.length : Int)), (8, vI (↑i : Int)), (11, SV.one (SC.v (Value.func (Fn.func F) #[] #[cv]))), (12, vS Axs xs.length cxs), (13, vI (↑i : Int))] [] ?_
 refine index_at 3 (by kernel_rfl : atP _ _ _ 3 false = some (Op.indexAddr 28 (tmpO 12) (tmpO 13), 0, some 14, Rg.sq (bitL 11 893) 4)) (ni := i) (sz := 2) (by kernel_rfl) rfl rfl rfl (by omega) (fun L w1 hs => rd_some (i := i) (rdRow_ext (hs.old 0 rfl) hxs) (by omega)) ?_
 intro a_1 ha_1
 cases ha_1
 refine gn 0 (Rg.sq (bitL 11 893) 4) [kCd (bitL 11 1917), KI.block 1, kCd (bitL 8 253), kLp (bitL 5 29), KI.block 0, KI.code [true, true]] [(0, vS (some a_1) xs.length cxs), (1, SV.one (SC.v (Value.func (Fn.func F) #[] #[cv]))), (5, vI (↑i : Int)), (7, vI (↑xs.length : Int)), (8, vI (↑i : Int)), (11, SV.one (SC.v (Value.func (Fn.func F) #[] #[cv]))), (14, vP (a_1.add (i * 2)))] [] ?_
 obtain ⟨Aslots_el1, cslots_el1, hr1_el1, hc_el1⟩ := kPg_at (i := i) hxs (by omega)
 refine load_agg 4 (by kernel_rfl : atP _ _ _ 4 true = some (Op.load 58 (tmpO 14), 58, some 15, Rg.sq (bitL 11 893) 5)) (n := 2) (by kernel_rfl) rfl ?_
 intro L w1 hs
 refine ⟨[.v (Value.int IntKind.i64 xs[i].lsn), .v (Value.slice Aslots_el1 xs[i].slots.length cslots_el1)], rfl, cells_at0 (cellsH_ext (hs.old 0 rfl) hc_el1) rfl, ?_⟩
 clear hs
 refine gn 0 (Rg.sq (bitL 11 893) 5) [kCd (bitL 11 1917), KI.block 1, kCd (bitL 8 253), kLp (bitL 5 29), KI.block 0, KI.code [true, true]] [(0, vS (some a_1) xs.length cxs), (1, SV.one (SC.v (Value.func (Fn.func F) #[] #[cv]))), (5, vI (↑i : Int)), (7, vI (↑xs.length : Int)), (8, vI (↑i : Int)), (11, SV.one (SC.v (Value.func (Fn.func F) #[] #[cv]))), (15, SV.agg [cI xs[i].lsn, cS Aslots_el1 xs[i].slots.length cslots_el1])] [] ?_
 have hlt : i < xs.length := by omega
 refine call_pure true (by kernel_rfl : atC _ _ _ true = some (F, [SV.agg [cI xs[i].lsn, cS Aslots_el1 xs[i].slots.length cslots_el1], SV.one (SC.v cv)], some 16, Rg.sq (bitL 11 893) 6)) hF (.one (.bo (p xs[i]))) (fun L w1 hs => hp w1 (hs.old 0 rfl) _ (List.getElem_mem hlt) _ ⟨_, rfl, kPg_mk (rdRow_ext (hs.old 0 rfl) hr1_el1)⟩) ?_
 refine gn 0 Rg.no [kCd (bitL 11 1917), KI.block 1, kCd (bitL 8 253), kLp (bitL 5 29), KI.block 0, KI.code [true, true]] [(0, vS (some a_1) xs.length cxs), (1, SV.one (SC.v (Value.func (Fn.func F) #[] #[cv]))), (5, vI (↑i : Int)), (7, vI (↑xs.length : Int)), (8, vI (↑i : Int)), (16, vB (p xs[i]))] [] ?_
 refine spl 16 (p xs[i]) ?_ ?_
 ·intro h2
  refine gn 0 Rg.no [kCd (bitL 13 6013), KI.block 1, kCd (bitL 8 253), kLp (bitL 5 29), KI.block 0, KI.code [true, true]] [(4, vI (↑i : Int))] [] ?_
  refine rtk [vI (↑i : Int)] ?_
  intro L w1 hs
  exact ⟨by rw [idx_hit hlt hi.2 h2]; rfl, hs.out0⟩
 intro h2
 refine gn 0 Rg.no [kLp (bitL 5 29), KI.block 0, KI.code [true, true]] [(0, vS (some a_1) xs.length cxs), (1, SV.one (SC.v (Value.func (Fn.func F) #[] #[cv]))), (7, vI (↑xs.length : Int)), (8, vI (IntKind.i64.wrap ((↑i : Int) + 1)))] [] ?_
 rw [wrap_succ (by omega)]
 refine ih (i + 1) ⟨hlt, fun x hx => ?_⟩ (by omega)
 rw [List.take_succ_eq_append_getElem hlt] at hx
 rcases List.mem_append.1 hx with hx | hx
 ·exact hi.2 x hx
 ·rw [List.mem_singleton.1 hx]; exact h2
theorem containsPg_ok (F : Nat) (hF : goesB Tryz.prog F = true) (cv : Value) (p : Pg → Bool) (xs : List Pg) (vxs : Value) (w : World) (hxs : rdRow kPg w.heap xs vxs) (hl : xs.length ≤ 1048576) (hp : Pred (evA kPg) F #[cv] w xs p) :
  Calls Tryz.prog 101 #[vxs, .func (.func F) #[] #[cv]] w fun e w' => e = .returned (.bool (xs.any p)) ∧ Below w.heap.size w w' := by
 obtain ⟨Axs, cxs, rfl⟩ := rdRow_form hxs
 refine enter (args := [.one (.v (.slice Axs xs.length cxs)), .one (.v (.func (.func F) #[] #[cv]))]) Tryz.func101 (c := bodyOf Tryz.f101) rfl rfl (start_LOK _) (start_old w) ?_
 refine gn 0 (Rg.sq [true, false] 2) [KI.code [true, true]] [(5, vS Axs xs.length cxs), (6, SV.one (SC.v (Value.func (Fn.func F) #[] #[cv])))] [] ?_
 refine cpk 113 [vS Axs xs.length cxs, SV.one (SC.v (Value.func (Fn.func F) #[] #[cv]))] (some 7) (Rg.sq [true, false] 3) (.one (.v (.int .i64 (idxOf p xs)))) (fun L w1 hs => indexPg_ok F hF cv p xs _ w1 (rdRow_ext (hs.old 0 rfl) hxs) hl (hp.ext (hs.old 0 rfl) hs.1.1.size)) ?_
 refine gn 0 Rg.no [KI.code [true, true]] [(4, vB (decide (idxOf p xs ≥ 0)))] [] ?_
 refine rtk [vB (decide (idxOf p xs ≥ 0))] ?_
 intro L w1 hs
 exact ⟨by rw [← idx_ge]; rfl, hs.out0⟩
theorem notLitPg_ok (F : Nat) (hF : goesB Tryz.prog F = true) (p : Pg → Bool) (xs : List Pg) (g : Nat) (t : Nat) (w : World) (hg : w.heap[g]? = some (.cells #[.func (.func F) #[] #[]] t (0, 0))) (hp : Pred (evA kPg) F #[] w xs p) :
  Pred (evA kPg) 102 #[.pointer (some ⟨g, 0, none⟩)] w xs (fun x => !p x) := by
 intro w0 hb x hx v hv
 have hsz := heap_grows hb
 have hg0 : cellH w0.heap ⟨g, 0, none⟩ = some (.func (.func F) #[] #[]) := by
  have h1 := (hb g (Array.getElem?_eq_some_iff.1 hg).1).trans hg
  simp [cellH, h1]
 obtain ⟨cs, rfl, hx1⟩ := hv
 have hx0 := hx1
 obtain ⟨Axslots, cxslots, rfl, hrxslots⟩ := kPg_inv hx1
 refine enter (args := [.agg [.v (.int .i64 x.lsn), .v (.slice Axslots x.slots.length cxslots)], .one (.v (.pointer (some ⟨g, 0, none⟩)))]) Tryz.func102 (c := bodyOf Tryz.f102) rfl rfl (start_LOK _) (start_old w0) ?_
 refine gn 1 (Rg.sq [true, false] 0) [KI.code [true, true]] [(1, vP (Addr.mk g 0 none)), (2, vR 0 0)] [LB.mk [cI x.lsn, cS Axslots x.slots.length cxslots] 58] ?_
 refine load_one 0 (by kernel_rfl : atP _ _ _ 0 true = some (Op.load 110 (tmpO 1), 110, some 4, Rg.sq [true, false] 1)) (n := 1) (by kernel_rfl) rfl ?_
 intro L w1 hs
 refine ⟨.v (.func (.func F) #[] #[]), cellH_ext (hs.old 0 rfl) hg0, ?_⟩
 clear hs
 refine gn 0 (Rg.sq [true, false] 2) [KI.code [true, true]] [(4, SV.one (SC.v (Value.func (Fn.func F) #[] #[]))), (5, SV.agg [cI x.lsn, cS Axslots x.slots.length cxslots])] [] ?_
 refine call_pure true (by kernel_rfl : atC _ _ _ true = some (F, [SV.agg [cI x.lsn, cS Axslots x.slots.length cxslots]], some 6, Rg.sq [true, false] 3)) hF (.one (.bo (p x))) (fun L w1 hs => hp w1 (fun b hb' => (hs.old 0 rfl b (Nat.lt_of_lt_of_le hb' hsz)).trans (hb b hb')) x hx _ ⟨_, rfl, kPg.ext (hs.old 0 rfl) hx0⟩) ?_
 refine gn 0 Rg.no [KI.code [true, true]] [(3, vB !p x)] [] ?_
 refine rtk [vB !p x] ?_
 intro L w1 hs
 exact ⟨rfl, hs.out0⟩
theorem areAllPg_ok (F : Nat) (hF : goesB Tryz.prog F = true) (p : Pg → Bool) (xs : List Pg) (vxs : Value) (w : World) (hxs : rdRow kPg w.heap xs vxs) (hl : xs.length ≤ 1048576) (hp : Pred (evA kPg) F #[] w xs p) :
  Calls Tryz.prog 85 #[vxs, .func (.func F) #[] #[]] w fun e w' => e = .returned (.bool (xs.all p)) ∧ Below w.heap.size w w' := by
 obtain ⟨Axs, cxs, rfl⟩ := rdRow_form hxs
 refine enter (args := [.one (.v (.slice Axs xs.length cxs)), .one (.v (.func (.func F) #[] #[]))]) Tryz.func85 (c := bodyOf Tryz.f85) rfl rfl (start_LOK _) (start_old w) ?_
 refine gn 1 (Rg.sq [true, false] 2) [KI.code [true, true]] [(5, vS Axs xs.length cxs), (6, SV.one (SC.fn 102 [Cap.p 0 0]))] [LB.mk [SC.v (Value.func (Fn.func F) #[] #[])] 110] ?_
 refine cpk 101 [vS Axs xs.length cxs, SV.one (SC.fn 102 [Cap.p 0 0])] (some 7) (Rg.sq [true, false] 3) (.one (.bo (xs.any (fun x => !p x)))) (fun L w1 hs => containsPg_ok 102 (by kernel_rfl) _ (fun x => !p x) xs _ w1 (rdRow_ext (hs.old 0 rfl) hxs) hl (notLitPg_ok F hF p xs _ 110 w1 (hs.2.1.2.2 0 _ rfl) (hp.ext (hs.old 0 rfl) hs.1.1.size))) ?_
 refine gn 0 Rg.no [KI.code [true, true]] [(4, vB !xs.any fun x => !p x)] [] ?_
 refine rtk [vB !xs.any fun x => !p x] ?_
 intro L w1 hs
 exact ⟨by rw [List.all_eq_not_any_not]; rfl, hs.out0⟩
theorem indexBB_ok (F : Nat) (hF : goesB Tryz.prog F = true) (cv : Value) (p : (List Int) → Bool) (xs : List (List Int)) (vxs : Value) (w : World) (hxs : rdRow (kRow 5 kU8) w.heap xs vxs) (hl : xs.length ≤ 1048576) (hp : Pred (evR kU8) F #[cv] w xs p) :
  Calls Tryz.prog 114 #[vxs, .func (.func F) #[] #[cv]] w fun e w' => e = .returned (.int .i64 (idxOf p xs)) ∧ Below w.heap.size w w' := by
 obtain ⟨Axs, cxs, rfl⟩ := rdRow_form hxs
 refine enter (args := [.one (.v (.slice Axs xs.length cxs)), .one (.v (.func (.func F) #[] #[cv]))]) Tryz.func114 (c := bodyOf Tryz.f114) rfl rfl (start_LOK _) (start_old w) ?_
 refine gn 0 Rg.no [kLp (bitL 5 29), KI.block 0, KI.code [true, true]] [(0, vS Axs xs.length cxs), (1, SV.one (SC.v (Value.func (Fn.func F) #[] #[cv]))), (7, vI (↑xs.length : Int)), (8, vI 0)] [] ?_
 refine loop_at (ι := Nat) (fun i => [(8, .one (.v (.int .i64 i)))]) (fun _ => []) (fun i => [oldA w]) (fun i => i ≤ xs.length ∧ ∀ x ∈ xs.take i, p x = false) (fun i => xs.length - i) 0 rfl rfl rfl ⟨Nat.zero_le _, fun x hx => by simp at hx⟩ ?_
 intro i hi ih
 refine gn 0 Rg.no [kCd (bitL 7 61), kCd (bitL 7 125), kLp (bitL 5 29), KI.block 0, KI.code [true, true]] [(0, vS Axs xs.length cxs), (1, SV.one (SC.v (Value.func (Fn.func F) #[] #[cv]))), (7, vI (↑xs.length : Int)), (8, vI (↑i : Int)), (9, vB (decide ((↑i : Int) < (↑xs.length : Int))))] [] ?_
 refine spl 9 (decide ((↑i : Int) < (↑xs.length : Int))) ?_ ?_
 rotate_left
 ·intro hb1
  replace hb1 := of_decide_eq_false hb1
  refine gn 0 Rg.no [kCd (bitL 3 7)] [(4, vI (-1))] [] ?_
  refine rtk [vI (-1)] ?_
  intro L w1 hs
  exact ⟨retI (idx_none (fun x hx => hi.2 x (by rw [List.take_of_length_le (by omega)]; exact hx))).symm, hs.out0⟩
 intro hb1
 replace hb1 := of_decide_eq_true hb1
 refine gn 0 (Rg.sq (bitL 11 893) 3) [kCd (bitL 11 1917), KI.block 1, kCd (bitL 8 253), kLp (bitL 5 29), KI.block 0, KI.code [true, true]] [(0, vS Axs xs.length cxs), (1, SV.one (SC.v (Value.func (Fn.func F) #[] #[cv]))), (5, vI (↑i : Int)), (7, vI (↑xs.length : Int)), (8, vI (↑i : Int)), (11, SV.one (SC.v (Value.func (Fn.func F) #[] #[cv]))), (12, vS Axs xs.length cxs), (13, vI (↑i : Int))] [] ?_
 refine index_at 3 (by kernel_rfl : atP _ _ _ 3 false = some (Op.indexAddr 56 (tmpO 12) (tmpO 13), 0, some 14, Rg.sq (bitL 11 893) 4)) (ni := i) (sz := 1) (by kernel_rfl) rfl rfl rfl (by omega) (fun L w1 hs => rd_some (i := i) (rdRow_ext (hs.old 0 rfl) hxs) (by omega)) ?_
 intro a_1 ha_1
 cases ha_1
 refine gn 0 (Rg.sq (bitL 11 893) 4) [kCd (bitL 11 1917), KI.block 1, kCd (bitL 8 253), kLp (bitL 5 29), KI.block 0, KI.code [true, true]] [(0, vS (some a_1) xs.length cxs), (1, SV.one (SC.v (Value.func (Fn.func F) #[] #[cv]))), (5, vI (↑i : Int)), (7, vI (↑xs.length : Int)), (8, vI (↑i : Int)), (11, SV.one (SC.v (Value.func (Fn.func F) #[] #[cv]))), (14, vP (a_1.add (i * 1)))] [] ?_
 have hlt : i < xs.length := by omega
 obtain ⟨Ai, ci, hcell, hrow⟩ := rd_row hxs hlt
 refine load_one 4 (by kernel_rfl : atP _ _ _ 4 true = some (Op.load 44 (tmpO 14), 44, some 15, Rg.sq (bitL 11 893) 5)) (n := 1) (by kernel_rfl) rfl ?_
 intro L w1 hs
 refine ⟨.v (.slice Ai _ ci), cellH_ext (hs.old 0 rfl) hcell, ?_⟩
 clear hs
 refine gn 0 (Rg.sq (bitL 11 893) 5) [kCd (bitL 11 1917), KI.block 1, kCd (bitL 8 253), kLp (bitL 5 29), KI.block 0, KI.code [true, true]] [(0, vS (some a_1) xs.length cxs), (1, SV.one (SC.v (Value.func (Fn.func F) #[] #[cv]))), (5, vI (↑i : Int)), (7, vI (↑xs.length : Int)), (8, vI (↑i : Int)), (11, SV.one (SC.v (Value.func (Fn.func F) #[] #[cv]))), (15, vS Ai xs[i].length ci)] [] ?_
 refine call_pure true (by kernel_rfl : atC _ _ _ true = some (F, [vS Ai xs[i].length ci, SV.one (SC.v cv)], some 16, Rg.sq (bitL 11 893) 6)) hF (.one (.bo (p xs[i]))) (fun L w1 hs => hp w1 (hs.old 0 rfl) _ (List.getElem_mem hlt) _ (rdRow_ext (hs.old 0 rfl) hrow)) ?_
 refine gn 0 Rg.no [kCd (bitL 11 1917), KI.block 1, kCd (bitL 8 253), kLp (bitL 5 29), KI.block 0, KI.code [true, true]] [(0, vS (some a_1) xs.length cxs), (1, SV.one (SC.v (Value.func (Fn.func F) #[] #[cv]))), (5, vI (↑i : Int)), (7, vI (↑xs.length : Int)), (8, vI (↑i : Int)), (16, vB (p xs[i]))] [] ?_
 refine spl 16 (p xs[i]) ?_ ?_
 ·intro h2
  refine gn 0 Rg.no [kCd (bitL 13 6013), KI.block 1, kCd (bitL 8 253), kLp (bitL 5 29), KI.block 0, KI.code [true, true]] [(4, vI (↑i : Int))] [] ?_
  refine rtk [vI (↑i : Int)] ?_
  intro L w1 hs
  exact ⟨by rw [idx_hit hlt hi.2 h2]; rfl, hs.out0⟩
 intro h2
 refine gn 0 Rg.no [kLp (bitL 5 29), KI.block 0, KI.code [true, true]] [(0, vS (some a_1) xs.length cxs), (1, SV.one (SC.v (Value.func (Fn.func F) #[] #[cv]))), (7, vI (↑xs.length : Int)), (8, vI (IntKind.i64.wrap ((↑i : Int) + 1)))] [] ?_
 rw [wrap_succ (by omega)]
 refine ih (i + 1) ⟨hlt, fun x hx => ?_⟩ (by omega)
 rw [List.take_succ_eq_append_getElem hlt] at hx
 rcases List.mem_append.1 hx with hx | hx
 ·exact hi.2 x hx
 ·rw [List.mem_singleton.1 hx]; exact h2
theorem containsBB_ok (F : Nat) (hF : goesB Tryz.prog F = true) (cv : Value) (p : (List Int) → Bool) (xs : List (List Int)) (vxs : Value) (w : World) (hxs : rdRow (kRow 5 kU8) w.heap xs vxs) (hl : xs.length ≤ 1048576) (hp : Pred (evR kU8) F #[cv] w xs p) :
  Calls Tryz.prog 103 #[vxs, .func (.func F) #[] #[cv]] w fun e w' => e = .returned (.bool (xs.any p)) ∧ Below w.heap.size w w' := by
 obtain ⟨Axs, cxs, rfl⟩ := rdRow_form hxs
 refine enter (args := [.one (.v (.slice Axs xs.length cxs)), .one (.v (.func (.func F) #[] #[cv]))]) Tryz.func103 (c := bodyOf Tryz.f103) rfl rfl (start_LOK _) (start_old w) ?_
 refine gn 0 (Rg.sq [true, false] 2) [KI.code [true, true]] [(5, vS Axs xs.length cxs), (6, SV.one (SC.v (Value.func (Fn.func F) #[] #[cv])))] [] ?_
 refine cpk 114 [vS Axs xs.length cxs, SV.one (SC.v (Value.func (Fn.func F) #[] #[cv]))] (some 7) (Rg.sq [true, false] 3) (.one (.v (.int .i64 (idxOf p xs)))) (fun L w1 hs => indexBB_ok F hF cv p xs _ w1 (rdRow_ext (hs.old 0 rfl) hxs) hl (hp.ext (hs.old 0 rfl) hs.1.1.size)) ?_
 refine gn 0 Rg.no [KI.code [true, true]] [(4, vB (decide (idxOf p xs ≥ 0)))] [] ?_
 refine rtk [vB (decide (idxOf p xs ≥ 0))] ?_
 intro L w1 hs
 exact ⟨by rw [← idx_ge]; rfl, hs.out0⟩
theorem notLitBB_ok (F : Nat) (hF : goesB Tryz.prog F = true) (p : (List Int) → Bool) (xs : List (List Int)) (g : Nat) (t : Nat) (w : World) (hg : w.heap[g]? = some (.cells #[.func (.func F) #[] #[]] t (0, 0))) (hp : Pred (evR kU8) F #[] w xs p) :
  Pred (evR kU8) 104 #[.pointer (some ⟨g, 0, none⟩)] w xs (fun x => !p x) := by
 intro w0 hb x hx v hv
 have hsz := heap_grows hb
 have hg0 : cellH w0.heap ⟨g, 0, none⟩ = some (.func (.func F) #[] #[]) := by
  have h1 := (hb g (Array.getElem?_eq_some_iff.1 hg).1).trans hg
  simp [cellH, h1]
 have hv : rdRow kU8 w0.heap x v := hv
 obtain ⟨Ai, ci, rfl⟩ := rdRow_form hv
 refine enter (args := [.one (.v (.slice Ai x.length ci)), .one (.v (.pointer (some ⟨g, 0, none⟩)))]) Tryz.func104 (c := bodyOf Tryz.f104) rfl rfl (start_LOK _) (start_old w0) ?_
 refine gn 0 (Rg.sq [true, false] 0) [KI.code [true, true]] [(0, vS Ai x.length ci), (1, vP (Addr.mk g 0 none))] [] ?_
 refine load_one 0 (by kernel_rfl : atP _ _ _ 0 true = some (Op.load 109 (tmpO 1), 109, some 4, Rg.sq [true, false] 1)) (n := 1) (by kernel_rfl) rfl ?_
 intro L w1 hs
 refine ⟨.v (.func (.func F) #[] #[]), cellH_ext (hs.old 0 rfl) hg0, ?_⟩
 clear hs
 refine gn 0 (Rg.sq [true, false] 2) [KI.code [true, true]] [(4, SV.one (SC.v (Value.func (Fn.func F) #[] #[]))), (5, vS Ai x.length ci)] [] ?_
 refine call_pure true (by kernel_rfl : atC _ _ _ true = some (F, [vS Ai x.length ci], some 6, Rg.sq [true, false] 3)) hF (.one (.bo (p x))) (fun L w1 hs => hp w1 (fun b hb' => (hs.old 0 rfl b (Nat.lt_of_lt_of_le hb' hsz)).trans (hb b hb')) x hx _ (rdRow_ext (hs.old 0 rfl) hv)) ?_
 refine gn 0 Rg.no [KI.code [true, true]] [(3, vB !p x)] [] ?_
 refine rtk [vB !p x] ?_
 intro L w1 hs
 exact ⟨rfl, hs.out0⟩
theorem areAllBB_ok (F : Nat) (hF : goesB Tryz.prog F = true) (p : (List Int) → Bool) (xs : List (List Int)) (vxs : Value) (w : World) (hxs : rdRow (kRow 5 kU8) w.heap xs vxs) (hl : xs.length ≤ 1048576) (hp : Pred (evR kU8) F #[] w xs p) :
  Calls Tryz.prog 88 #[vxs, .func (.func F) #[] #[]] w fun e w' => e = .returned (.bool (xs.all p)) ∧ Below w.heap.size w w' := by
 obtain ⟨Axs, cxs, rfl⟩ := rdRow_form hxs
 refine enter (args := [.one (.v (.slice Axs xs.length cxs)), .one (.v (.func (.func F) #[] #[]))]) Tryz.func88 (c := bodyOf Tryz.f88) rfl rfl (start_LOK _) (start_old w) ?_
 refine gn 1 (Rg.sq [true, false] 2) [KI.code [true, true]] [(5, vS Axs xs.length cxs), (6, SV.one (SC.fn 104 [Cap.p 0 0]))] [LB.mk [SC.v (Value.func (Fn.func F) #[] #[])] 109] ?_
 refine cpk 103 [vS Axs xs.length cxs, SV.one (SC.fn 104 [Cap.p 0 0])] (some 7) (Rg.sq [true, false] 3) (.one (.bo (xs.any (fun x => !p x)))) (fun L w1 hs => containsBB_ok 104 (by kernel_rfl) _ (fun x => !p x) xs _ w1 (rdRow_ext (hs.old 0 rfl) hxs) hl (notLitBB_ok F hF p xs _ 109 w1 (hs.2.1.2.2 0 _ rfl) (hp.ext (hs.old 0 rfl) hs.1.1.size))) ?_
 refine gn 0 Rg.no [KI.code [true, true]] [(4, vB !xs.any fun x => !p x)] [] ?_
 refine rtk [vB !xs.any fun x => !p x] ?_
 intro L w1 hs
 exact ⟨by rw [List.all_eq_not_any_not]; rfl, hs.out0⟩
def slotOk (s : List Int) : Bool := (tupR s).isSome || decide (s.length = 0)
def pgGood (p : Pg) : Bool := decide (0 ≤ pgU p) && p.slots.all slotOk
def heapOk (h : He) : Bool := decide (h.pages.length ≤ 16) && h.pages.all pgGood
def byPg (p : Pg) : Prop := ∀ s ∈ p.slots, byOk s ∧ s.length ≤ 1048576
def byHe (h : He) : Prop := ∀ p ∈ h.pages, p.slots.length ≤ 1048576 ∧ byPg p
theorem all_step {α : Type} {q : α → Bool} {l : List α} {i : Nat} (h : (l.take i).all q = true) (hi : i < l.length) (hx : q l[i] = true) : (l.take (i + 1)).all q = true := by
 rw [List.take_succ_eq_append_getElem hi, List.all_append, h]
 simp [hx]
theorem all_bad {α : Type} {q : α → Bool} {l : List α} {i : Nat} (hi : i < l.length) (hx : q l[i] = false) : l.all q = false := by
 rw [Bool.eq_false_iff]
 intro hc
 have := List.all_eq_true.1 hc _ (List.getElem_mem hi)
 rw [hx] at this
 cases this
theorem slotLit_ok (b : List Int) (vb : Value) (w : World) (hb : rdRow kU8 w.heap b vb) (hby : byOk b) (hl : b.length ≤ 1048576) :
  Calls Tryz.prog 89 #[vb] w fun e w' => e = .returned (.bool (slotOk b)) ∧ Below w.heap.size w w' := by
 obtain ⟨Ab, cb, rfl⟩ := rdRow_form hb
 refine enter (args := [.one (.v (.slice Ab b.length cb))]) Tryz.func89 (c := bodyOf Tryz.f89) rfl rfl (start_LOK _) (start_old w) ?_
 refine gn 0 (Rg.sq [true, false] 1) [KI.code [true, true]] [(0, vS Ab b.length cb), (6, vS Ab b.length cb)] [] ?_
 refine cak 90 [vS Ab b.length cb] (some 7) (Rg.sq [true, false] 2) (fun L w1 hs => (iTupRead_ok (b) (Value.slice Ab b.length cb) w1 (rdRow_ext (hs.old 0 rfl) hb) ‹_› ‹_›).mono ?_)
 rintro e_ w2_ ⟨bokey_1, Aokey_1, cokey_1, bovalue_1, Aovalue_1, covalue_1, rfl, hf_, hq1, hq2, hq3, hq4⟩
 refine ⟨.one (.v (Value.tuple #[Value.agg #[Value.int IntKind.i64 ((tupR b).getD zTu0).xmin, Value.int IntKind.i64 ((tupR b).getD zTu0).xmax, Value.int IntKind.i64 ((tupR b).getD zTu0).key.kind, Value.int IntKind.i64 ((tupR b).getD zTu0).key.n, Value.float FloatKind.f64 bokey_1, Value.slice Aokey_1 ((tupR b).getD zTu0).key.t.length cokey_1, Value.int IntKind.i64 ((tupR b).getD zTu0).value.kind, Value.int IntKind.i64 ((tupR b).getD zTu0).value.n, Value.float FloatKind.f64 bovalue_1, Value.slice Aovalue_1 ((tupR b).getD zTu0).value.t.length covalue_1], Value.bool (tupR b).isSome])), _, _, rfl, fun _ => hf_.1.block, hs.fresh hf_, ?_⟩
 clear hs hf_
 refine gn 0 (Rg.sq (bitL 3 3) 2) [kCd (bitL 3 7)] [(0, vS Ab b.length cb), (11, vB (tupR b).isSome)] [] ?_
 refine spl 11 ((tupR b).isSome) ?_ ?_
 ·intro hb1
  try simp only [sbb] at hb1
  refine gn 0 Rg.no [kCd (bitL 3 7)] [(2, vL true)] [] ?_
  refine rtk [vL true] ?_
  intro L w1 hs
  exact ⟨retB (by simp [slotOk, *]), (hs.erases [0, 0]).out0⟩
 ·intro hb1
  try simp only [sbb] at hb1
  refine gn 0 Rg.no [kCd (bitL 3 7)] [(2, vB ((↑b.length : Int) == 0))] [] ?_
  refine rtk [vB ((↑b.length : Int) == 0)] ?_
  intro L w1 hs
  exact ⟨retB (by rw [Bool.eq_iff_iff]; simp [slotOk, *]), (hs.erases [0, 0]).out0⟩
theorem allSlot_ok (xs : List (List Int)) (vxs : Value) (w : World) (hxs : rdRow (kRow 5 kU8) w.heap xs vxs) (hl : xs.length ≤ 1048576) (hb : ∀ s ∈ xs, byOk s ∧ s.length ≤ 1048576) :
  Calls Tryz.prog 88 #[vxs, .func (.func 89) #[] #[]] w fun e w' => e = .returned (.bool (xs.all slotOk)) ∧ Below w.heap.size w w' :=
 areAllBB_ok 89 (by kernel_rfl) slotOk xs vxs w hxs hl (fun w1 _ x hx v hv => slotLit_ok x v w1 hv (hb x hx).1 (hb x hx).2)
theorem pageLit_ok (p : Pg) (csp : List Value) (w : World) (hp : kPg.rd w.heap p csp) (hl : p.slots.length ≤ 1048576) (hb : byPg p) :
  Calls Tryz.prog 86 #[.agg csp.toArray] w fun e w' => e = .returned (.bool (pgGood p)) ∧ Below w.heap.size w w' := by
 obtain ⟨Apslots, cpslots, rfl, hrpslots⟩ := kPg_inv hp
 refine enter (args := [.agg [.v (.int .i64 p.lsn), .v (.slice Apslots p.slots.length cpslots)]]) Tryz.func86 (c := bodyOf Tryz.f86) rfl rfl (start_LOK _) (start_old w) ?_
 refine gn 1 (Rg.sq [true, false] 1) [KI.code [true, true]] [(1, vR 0 0), (3, SV.agg [cI p.lsn, cS Apslots p.slots.length cpslots])] [LB.mk [cI p.lsn, cS Apslots p.slots.length cpslots] 58] ?_
 refine cpk 87 [SV.agg [cI p.lsn, cS Apslots p.slots.length cpslots]] (some 4) (Rg.sq [true, false] 2) (.one (.v (Value.int IntKind.i64 (pgU p)))) (fun L w1 hs => (iPgUsed_ok (p) ([Value.int IntKind.i64 p.lsn, Value.slice Apslots p.slots.length cpslots]) w1 (kPg_mk (rdRow_ext (hs.old 0 rfl) hrpslots)) ‹_›)) ?_
 refine gn 1 (Rg.sq [true, false] 4) [KI.code [true, true]] [(1, vR 0 0), (6, vB (decide (pgU p ≥ 0)))] [LB.mk [cI p.lsn, cS Apslots p.slots.length cpslots] 58] ?_
 refine spl 6 (decide (pgU p ≥ 0)) ?_ ?_
 ·intro hb1
  replace hb1 := of_decide_eq_true hb1
  refine gn 0 (Rg.sq [true, false] 6) [KI.code [true, true]] [(6, vL true), (8, vS Apslots p.slots.length cpslots)] [] ?_
  refine cpk 88 [vS Apslots p.slots.length cpslots, SV.one (SC.v (Value.func (Fn.func 89) #[] #[]))] (some 9) (Rg.sq [true, false] 7) (.one (.bo (p.slots.all slotOk))) (fun L w1 hs => (allSlot_ok (p.slots) (Value.slice Apslots p.slots.length cpslots) w1 (rdRow_ext (hs.old 0 rfl) hrpslots) ‹_› ‹_›)) ?_
  refine gn 0 Rg.no [KI.code [true, true]] [(2, vB (p.slots.all slotOk))] [] ?_
  refine rtk [vB (p.slots.all slotOk)] ?_
  intro L w1 hs
  exact ⟨retB (by unfold pgGood; simp_all), hs.out0⟩
 ·intro hb1
  replace hb1 := of_decide_eq_false hb1
  refine gn 0 Rg.no [KI.code [true, true]] [(2, vL false)] [] ?_
  refine rtk [vL false] ?_
  intro L w1 hs
  exact ⟨retB (by unfold pgGood; simp_all; omega), hs.out0⟩
theorem allPage_ok (xs : List Pg) (vxs : Value) (w : World) (hxs : rdRow kPg w.heap xs vxs) (hl : xs.length ≤ 1048576) (hb : ∀ p ∈ xs, p.slots.length ≤ 1048576 ∧ byPg p) :
  Calls Tryz.prog 85 #[vxs, .func (.func 86) #[] #[]] w fun e w' => e = .returned (.bool (xs.all pgGood)) ∧ Below w.heap.size w w' :=
 areAllPg_ok 86 (by kernel_rfl) pgGood xs vxs w hxs hl (fun w1 _ x hx v ⟨cs, hv, hx1⟩ => by subst hv; exact pageLit_ok x cs w1 hx1 (hb x hx).1 (hb x hx).2)
theorem iHeapOk_ok (h : He) (csh : List Value) (w : World) (hh : kHe.rd w.heap h csh) (hl : h.pages.length ≤ 1048576) (hb : byHe h) :
  Calls Tryz.prog 56 #[.agg csh.toArray] w fun e w' => e = .returned (.bool (heapOk h)) ∧ Below w.heap.size w w' := by
 obtain ⟨Ahpages, chpages, rfl, hrhpages⟩ := kHe_inv hh
 refine enter (args := [.agg [.v (.slice Ahpages h.pages.length chpages)]]) Tryz.func56 (c := bodyOf Tryz.f56) rfl rfl (start_LOK _) (start_old w) ?_
 have hb0 : ∀ p ∈ h.pages, p.slots.length ≤ 1048576 ∧ byPg p := hb
 refine gn 1 (Rg.sq [true, false] 5) [KI.code [true, true]] [(1, vR 0 0), (7, vB (decide ((↑h.pages.length : Int) ≤ 16)))] [LB.mk [cS Ahpages h.pages.length chpages] 30] ?_
 refine spl 7 (decide ((↑h.pages.length : Int) ≤ 16)) ?_ ?_
 ·intro hb1
  replace hb1 := of_decide_eq_true hb1
  refine gn 0 (Rg.sq [true, false] 7) [KI.code [true, true]] [(7, vL true), (9, vS Ahpages h.pages.length chpages)] [] ?_
  refine cpk 85 [vS Ahpages h.pages.length chpages, SV.one (SC.v (Value.func (Fn.func 86) #[] #[]))] (some 10) (Rg.sq [true, false] 8) (.one (.bo (h.pages.all pgGood))) (fun L w1 hs => (allPage_ok (h.pages) (Value.slice Ahpages h.pages.length chpages) w1 (rdRow_ext (hs.old 0 rfl) hrhpages) ‹_› ‹_›)) ?_
  refine gn 0 Rg.no [KI.code [true, true]] [(2, vB (h.pages.all pgGood))] [] ?_
  refine rtk [vB (h.pages.all pgGood)] ?_
  intro L w1 hs
  exact ⟨retB (by unfold heapOk; simp_all; omega), hs.out0⟩
 ·intro hb1
  replace hb1 := of_decide_eq_false hb1
  refine gn 0 Rg.no [KI.code [true, true]] [(2, vL false)] [] ?_
  refine rtk [vL false] ?_
  intro L w1 hs
  exact ⟨retB (by unfold heapOk; simp_all; omega), hs.out0⟩
theorem sHeapOk_ok (h : He) (csh : List Value) (w : World) (hh : kHe.rd w.heap h csh) (hl : h.pages.length ≤ 1048576) (hb : byHe h) :
  Calls Tryz.prog 27 #[.agg csh.toArray] w fun e w' => e = .returned (.bool (heapOk h)) ∧ Below w.heap.size w w' := by
 obtain ⟨Ahpages, chpages, rfl, hrhpages⟩ := kHe_inv hh
 refine enter (args := [.agg [.v (.slice Ahpages h.pages.length chpages)]]) Tryz.func27 (c := bodyOf Tryz.f27) rfl rfl (start_LOK _) (start_old w) ?_
 by_cases h16 : ¬ h.pages.length ≤ 16
 ·have hno : heapOk h = false := by unfold heapOk; rw [decide_eq_false h16]; rfl
  refine gn 1 Rg.no [kCd (bitL 3 5), KI.code [true, true]] [(1, vR 0 0), (11, vB (decide ((↑h.pages.length : Int) > 16)))] [LB.mk [cS Ahpages h.pages.length chpages] 30] ?_
  refine spl 11 (decide ((↑h.pages.length : Int) > 16)) ?_ ?_
  ·intro hb1
   replace hb1 := of_decide_eq_true hb1
   refine gn 0 Rg.no [kCd (bitL 5 21), KI.code [true, true]] [(2, vL false)] [] ?_
   refine rtk [vL false] ?_
   intro L w1 hs
   exact ⟨retB hno.symm, hs.out0⟩
  ·intro hb1
   replace hb1 := of_decide_eq_false hb1
   (exfalso; omega)
 replace h16 : h.pages.length ≤ 16 := Classical.not_not.1 h16
 refine gn 1 Rg.no [kCd (bitL 3 5), KI.code [true, true]] [(1, vR 0 0), (11, vB (decide ((↑h.pages.length : Int) > 16)))] [LB.mk [cS Ahpages h.pages.length chpages] 30] ?_
 refine spl 11 (decide ((↑h.pages.length : Int) > 16)) ?_ ?_
 ·intro hb1
  replace hb1 := of_decide_eq_true hb1
  (exfalso; omega)
 intro hb1
 replace hb1 := of_decide_eq_false hb1
 refine gn 1 Rg.no [kLp (bitL 6 59), KI.block 0, kCd (bitL 3 7)] [(1, vR 0 0), (3, vI 0)] [LB.mk [cS Ahpages h.pages.length chpages] 30] ?_
 refine loop_at (ι := Nat) (fun i => [(3, .one (.v (.int .i64 i)))]) (fun _ => []) (fun _ => [oldA w]) (fun i => i ≤ h.pages.length ∧ (h.pages.take i).all pgGood = true) (fun i => h.pages.length - i) 0 rfl rfl rfl ⟨Nat.zero_le _, rfl⟩ ?_
 rintro i ⟨hi, hall⟩ ih
 rcases Nat.lt_or_ge i h.pages.length with hlt | hge
 ·obtain ⟨hp1, hp2⟩ := hb _ (List.getElem_mem hlt)
  by_cases hu : pgU h.pages[i] < 0
  ·have hno : heapOk h = false := by unfold heapOk; rw [all_bad hlt (by unfold pgGood; rw [decide_eq_false (by omega)]; rfl)]; simp
   refine gn 1 Rg.no [kCd (bitL 8 187), kCd (bitL 7 123), kLp (bitL 6 59), KI.block 0, kCd (bitL 3 7)] [(1, vR 0 0), (3, vI (↑i : Int)), (16, vB (decide ((↑i : Int) < (↑h.pages.length : Int))))] [LB.mk [cS Ahpages h.pages.length chpages] 30] ?_
   refine spl 16 (decide ((↑i : Int) < (↑h.pages.length : Int))) ?_ ?_
   ·intro hb2
    replace hb2 := of_decide_eq_true hb2
    refine gn 1 (Rg.sq (bitL 10 379) 3) [kCd (bitL 10 891), KI.block 1, kCd (bitL 8 251), kLp (bitL 6 59), KI.block 0, kCd (bitL 3 7)] [(1, vR 0 0), (3, vI (↑i : Int)), (20, vS Ahpages h.pages.length chpages), (21, vI (↑i : Int))] [LB.mk [cS Ahpages h.pages.length chpages] 30] ?_
    refine index_at 3 (by kernel_rfl : atP _ _ _ 3 false = some (Op.indexAddr 28 (tmpO 20) (tmpO 21), 0, some 22, Rg.sq (bitL 10 379) 4)) (ni := i) (sz := 2) (by kernel_rfl) rfl rfl rfl ‹_› (fun L w1 hs => rd_some (i := i) (rdRow_ext (hs.old 0 rfl) hrhpages) ‹_›) ?_
    intro a_1 ha_1
    cases ha_1
    refine gn 1 (Rg.sq (bitL 10 379) 4) [kCd (bitL 10 891), KI.block 1, kCd (bitL 8 251), kLp (bitL 6 59), KI.block 0, kCd (bitL 3 7)] [(1, vR 0 0), (3, vI (↑i : Int)), (22, vP (a_1.add (i * 2)))] [LB.mk [cS (some a_1) h.pages.length chpages] 30] ?_
    obtain ⟨Aslots_el1, cslots_el1, hr1_el1, hc_el1⟩ := kPg_at (i := i) hrhpages ‹_›
    refine load_agg 4 (by kernel_rfl : atP _ _ _ 4 true = some (Op.load 58 (tmpO 22), 58, some 23, Rg.sq (bitL 10 379) 5)) (n := 2) (by kernel_rfl) rfl ?_
    intro L w1 hs
    refine ⟨[.v (Value.int IntKind.i64 h.pages[i].lsn), .v (Value.slice Aslots_el1 h.pages[i].slots.length cslots_el1)], rfl, cells_at0 (cellsH_ext (hs.old 0 rfl) hc_el1) rfl, ?_⟩
    clear hs
    refine gn 2 (Rg.sq (bitL 12 891) 1) [kCd (bitL 12 2939), kCd (bitL 11 1915), KI.block 1, kCd (bitL 8 251), kLp (bitL 6 59), KI.block 0, kCd (bitL 3 7)] [(1, vR 0 0), (3, vI (↑i : Int)), (4, vR 1 0), (24, SV.agg [cI h.pages[i].lsn, cS Aslots_el1 h.pages[i].slots.length cslots_el1])] [LB.mk [cS (some a_1) h.pages.length chpages] 30, LB.mk [cI h.pages[i].lsn, cS Aslots_el1 h.pages[i].slots.length cslots_el1] 58] ?_
    refine cpk 50 [SV.agg [cI h.pages[i].lsn, cS Aslots_el1 h.pages[i].slots.length cslots_el1]] (some 25) (Rg.sq (bitL 12 891) 2) (.one (.v (Value.int IntKind.i64 (pgU h.pages[i])))) (fun L w1 hs => (sPgUsed_ok (h.pages[i]) ([Value.int IntKind.i64 h.pages[i].lsn, Value.slice Aslots_el1 h.pages[i].slots.length cslots_el1]) w1 (kPg_mk (rdRow_ext (hs.old 0 rfl) hr1_el1)) ‹_›)) ?_
    refine gn 2 Rg.no [kCd (bitL 12 2939), kCd (bitL 11 1915), KI.block 1, kCd (bitL 8 251), kLp (bitL 6 59), KI.block 0, kCd (bitL 3 7)] [(1, vR 0 0), (3, vI (↑i : Int)), (4, vR 1 0), (26, vB (decide (pgU h.pages[i] < 0)))] [LB.mk [cS (some a_1) h.pages.length chpages] 30, LB.mk [cI h.pages[i].lsn, cS Aslots_el1 h.pages[i].slots.length cslots_el1] 58] ?_
    refine spl 26 (decide (pgU h.pages[i] < 0)) ?_ ?_
    ·intro hb3
     replace hb3 := of_decide_eq_true hb3
     refine gn 0 Rg.no [kCd (bitL 14 11131), kCd (bitL 11 1915), KI.block 1, kCd (bitL 8 251), kLp (bitL 6 59), KI.block 0, kCd (bitL 3 7)] [(2, vL false)] [] ?_
     refine rtk [vL false] ?_
     intro L w1 hs
     exact ⟨retB hno.symm, hs.out0⟩
    ·intro hb3
     replace hb3 := of_decide_eq_false hb3
     (exfalso; omega)
   ·intro hb2
    replace hb2 := of_decide_eq_false hb2
    (exfalso; omega)
  refine gn 1 Rg.no [kCd (bitL 8 187), kCd (bitL 7 123), kLp (bitL 6 59), KI.block 0, kCd (bitL 3 7)] [(1, vR 0 0), (3, vI (↑i : Int)), (16, vB (decide ((↑i : Int) < (↑h.pages.length : Int))))] [LB.mk [cS Ahpages h.pages.length chpages] 30] ?_
  refine spl 16 (decide ((↑i : Int) < (↑h.pages.length : Int))) ?_ ?_
  rotate_left
  ·intro hb2
   replace hb2 := of_decide_eq_false hb2
   (exfalso; omega)
  intro hb2
  replace hb2 := of_decide_eq_true hb2
  refine gn 1 (Rg.sq (bitL 10 379) 3) [kCd (bitL 10 891), KI.block 1, kCd (bitL 8 251), kLp (bitL 6 59), KI.block 0, kCd (bitL 3 7)] [(1, vR 0 0), (3, vI (↑i : Int)), (20, vS Ahpages h.pages.length chpages), (21, vI (↑i : Int))] [LB.mk [cS Ahpages h.pages.length chpages] 30] ?_
  refine index_at 3 (by kernel_rfl : atP _ _ _ 3 false = some (Op.indexAddr 28 (tmpO 20) (tmpO 21), 0, some 22, Rg.sq (bitL 10 379) 4)) (ni := i) (sz := 2) (by kernel_rfl) rfl rfl rfl ‹_› (fun L w1 hs => rd_some (i := i) (rdRow_ext (hs.old 0 rfl) hrhpages) ‹_›) ?_
  intro a_1 ha_1
  cases ha_1
  refine gn 1 (Rg.sq (bitL 10 379) 4) [kCd (bitL 10 891), KI.block 1, kCd (bitL 8 251), kLp (bitL 6 59), KI.block 0, kCd (bitL 3 7)] [(1, vR 0 0), (3, vI (↑i : Int)), (22, vP (a_1.add (i * 2)))] [LB.mk [cS (some a_1) h.pages.length chpages] 30] ?_
  obtain ⟨Aslots_el1, cslots_el1, hr1_el1, hc_el1⟩ := kPg_at (i := i) hrhpages ‹_›
  refine load_agg 4 (by kernel_rfl : atP _ _ _ 4 true = some (Op.load 58 (tmpO 22), 58, some 23, Rg.sq (bitL 10 379) 5)) (n := 2) (by kernel_rfl) rfl ?_
  intro L w1 hs
  refine ⟨[.v (Value.int IntKind.i64 h.pages[i].lsn), .v (Value.slice Aslots_el1 h.pages[i].slots.length cslots_el1)], rfl, cells_at0 (cellsH_ext (hs.old 0 rfl) hc_el1) rfl, ?_⟩
  clear hs
  refine gn 2 (Rg.sq (bitL 12 891) 1) [kCd (bitL 12 2939), kCd (bitL 11 1915), KI.block 1, kCd (bitL 8 251), kLp (bitL 6 59), KI.block 0, kCd (bitL 3 7)] [(1, vR 0 0), (3, vI (↑i : Int)), (4, vR 1 0), (24, SV.agg [cI h.pages[i].lsn, cS Aslots_el1 h.pages[i].slots.length cslots_el1])] [LB.mk [cS (some a_1) h.pages.length chpages] 30, LB.mk [cI h.pages[i].lsn, cS Aslots_el1 h.pages[i].slots.length cslots_el1] 58] ?_
  refine cpk 50 [SV.agg [cI h.pages[i].lsn, cS Aslots_el1 h.pages[i].slots.length cslots_el1]] (some 25) (Rg.sq (bitL 12 891) 2) (.one (.v (Value.int IntKind.i64 (pgU h.pages[i])))) (fun L w1 hs => (sPgUsed_ok (h.pages[i]) ([Value.int IntKind.i64 h.pages[i].lsn, Value.slice Aslots_el1 h.pages[i].slots.length cslots_el1]) w1 (kPg_mk (rdRow_ext (hs.old 0 rfl) hr1_el1)) ‹_›)) ?_
  refine gn 2 Rg.no [kCd (bitL 12 2939), kCd (bitL 11 1915), KI.block 1, kCd (bitL 8 251), kLp (bitL 6 59), KI.block 0, kCd (bitL 3 7)] [(1, vR 0 0), (3, vI (↑i : Int)), (4, vR 1 0), (26, vB (decide (pgU h.pages[i] < 0)))] [LB.mk [cS (some a_1) h.pages.length chpages] 30, LB.mk [cI h.pages[i].lsn, cS Aslots_el1 h.pages[i].slots.length cslots_el1] 58] ?_
  refine spl 26 (decide (pgU h.pages[i] < 0)) ?_ ?_
  ·intro hb3
   replace hb3 := of_decide_eq_true hb3
   (exfalso; omega)
  intro hb3
  replace hb3 := of_decide_eq_false hb3
  refine gn 2 Rg.no [kLp (bitL 14 16251), KI.block 2, KI.block 1, kCd (bitL 8 251), kLp (bitL 6 59), KI.block 0, kCd (bitL 3 7)] [(1, vR 0 0), (3, vI (↑i : Int)), (4, vR 1 0), (5, vI 0)] [LB.mk [cS (some a_1) h.pages.length chpages] 30, LB.mk [cI h.pages[i].lsn, cS Aslots_el1 h.pages[i].slots.length cslots_el1] 58] ?_
  have hsl : ∀ (k : Nat) (hk : k < h.pages[i].slots.length), byOk h.pages[i].slots[k] ∧ h.pages[i].slots[k].length ≤ 1048576 := fun k hk => hp2 _ (List.getElem_mem hk)
  refine loop_at (ι := Nat) (fun k => [(5, .one (.v (.int .i64 k)))]) (fun _ => []) (fun _ => [oldA w]) (fun k => k ≤ h.pages[i].slots.length ∧ (h.pages[i].slots.take k).all slotOk = true) (fun k => h.pages[i].slots.length - k) 0 rfl rfl rfl ⟨Nat.zero_le _, rfl⟩ ?_
  rintro k ⟨hk, hka⟩ ihk
  rcases Nat.lt_or_ge k h.pages[i].slots.length with hkl | hkg
  ·obtain ⟨hby1, hln1⟩ := hsl k hkl
   refine gn 2 Rg.no [kCd (bitL 16 49019), kCd (bitL 15 32635), kLp (bitL 14 16251), KI.block 2, KI.block 1, kCd (bitL 8 251), kLp (bitL 6 59), KI.block 0, kCd (bitL 3 7)] [(1, vR 0 0), (3, vI (↑i : Int)), (4, vR 1 0), (5, vI (↑k : Int)), (31, vB (decide ((↑k : Int) < (↑h.pages[i].slots.length : Int))))] [LB.mk [cS (some a_1) h.pages.length chpages] 30, LB.mk [cI h.pages[i].lsn, cS Aslots_el1 h.pages[i].slots.length cslots_el1] 58] ?_
   refine spl 31 (decide ((↑k : Int) < (↑h.pages[i].slots.length : Int))) ?_ ?_
   rotate_left
   ·intro hb4
    replace hb4 := of_decide_eq_false hb4
    (exfalso; omega)
   intro hb4
   replace hb4 := of_decide_eq_true hb4
   refine gn 2 (Rg.sq (bitL 18 98171) 3) [kCd (bitL 18 229243), KI.block 3, kCd (bitL 16 65403), kLp (bitL 14 16251), KI.block 2, KI.block 1, kCd (bitL 8 251), kLp (bitL 6 59), KI.block 0, kCd (bitL 3 7)] [(1, vR 0 0), (3, vI (↑i : Int)), (4, vR 1 0), (5, vI (↑k : Int)), (36, vS Aslots_el1 h.pages[i].slots.length cslots_el1), (37, vI (↑k : Int))] [LB.mk [cS (some a_1) h.pages.length chpages] 30, LB.mk [cI h.pages[i].lsn, cS Aslots_el1 h.pages[i].slots.length cslots_el1] 58] ?_
   refine index_at 3 (by kernel_rfl : atP _ _ _ 3 false = some (Op.indexAddr 56 (tmpO 36) (tmpO 37), 0, some 38, Rg.sq (bitL 18 98171) 4)) (ni := k) (sz := 1) (by kernel_rfl) rfl rfl rfl ‹_› (fun L w1 hs => rd_some (i := k) (rdRow_ext (hs.old 0 rfl) hr1_el1) ‹_›) ?_
   intro a_2 ha_2
   cases ha_2
   refine gn 2 (Rg.sq (bitL 18 98171) 4) [kCd (bitL 18 229243), KI.block 3, kCd (bitL 16 65403), kLp (bitL 14 16251), KI.block 2, KI.block 1, kCd (bitL 8 251), kLp (bitL 6 59), KI.block 0, kCd (bitL 3 7)] [(1, vR 0 0), (3, vI (↑i : Int)), (4, vR 1 0), (5, vI (↑k : Int)), (38, vP (a_2.add (k * 1)))] [LB.mk [cS (some a_1) h.pages.length chpages] 30, LB.mk [cI h.pages[i].lsn, cS (some a_2) h.pages[i].slots.length cslots_el1] 58] ?_
   obtain ⟨Ai, ci, hcell, hrow⟩ := rd_row hr1_el1 hkl
   refine load_one 4 (by kernel_rfl : atP _ _ _ 4 true = some (Op.load 44 (tmpO 38), 44, some 39, Rg.sq (bitL 18 98171) 5)) (n := 1) (by kernel_rfl) rfl ?_
   intro L w1 hs
   refine ⟨.v (.slice Ai (h.pages[i].slots[k]'hkl).length ci), cellH_ext (hs.old 0 rfl) hcell, ?_⟩
   clear hs
   refine gn 2 (Rg.sq (bitL 18 98171) 5) [kCd (bitL 18 229243), KI.block 3, kCd (bitL 16 65403), kLp (bitL 14 16251), KI.block 2, KI.block 1, kCd (bitL 8 251), kLp (bitL 6 59), KI.block 0, kCd (bitL 3 7)] [(1, vR 0 0), (3, vI (↑i : Int)), (4, vR 1 0), (5, vI (↑k : Int)), (39, vS Ai h.pages[i].slots[k].length ci)] [LB.mk [cS (some a_1) h.pages.length chpages] 30, LB.mk [cI h.pages[i].lsn, cS (some a_2) h.pages[i].slots.length cslots_el1] 58] ?_
   refine cak 28 [vS Ai h.pages[i].slots[k].length ci] (some 40) (Rg.sq (bitL 18 98171) 6) (fun L w1 hs => (sTupRead_ok (h.pages[i].slots[k]) (Value.slice Ai h.pages[i].slots[k].length ci) w1 (rdRow_ext (hs.old 0 rfl) hrow) ‹_› ‹_›).mono ?_)
   rintro e_ w2_ ⟨bokey_1, Aokey_1, cokey_1, bovalue_1, Aovalue_1, covalue_1, rfl, hf_, hq1, hq2, hq3, hq4⟩
   refine ⟨.one (.v (Value.tuple #[Value.agg #[Value.int IntKind.i64 ((tupR h.pages[i].slots[k]).getD zTu0).xmin, Value.int IntKind.i64 ((tupR h.pages[i].slots[k]).getD zTu0).xmax, Value.int IntKind.i64 ((tupR h.pages[i].slots[k]).getD zTu0).key.kind, Value.int IntKind.i64 ((tupR h.pages[i].slots[k]).getD zTu0).key.n, Value.float FloatKind.f64 bokey_1, Value.slice Aokey_1 ((tupR h.pages[i].slots[k]).getD zTu0).key.t.length cokey_1, Value.int IntKind.i64 ((tupR h.pages[i].slots[k]).getD zTu0).value.kind, Value.int IntKind.i64 ((tupR h.pages[i].slots[k]).getD zTu0).value.n, Value.float FloatKind.f64 bovalue_1, Value.slice Aovalue_1 ((tupR h.pages[i].slots[k]).getD zTu0).value.t.length covalue_1], Value.bool (tupR h.pages[i].slots[k]).isSome])), _, _, rfl, fun _ => hf_.1.block, hs.fresh hf_, ?_⟩
   clear hs hf_
   refine gn 2 (Rg.sq (bitL 19 229243) 3) [kCd (bitL 19 491387), KI.block 3, kCd (bitL 16 65403), kLp (bitL 14 16251), KI.block 2, KI.block 1, kCd (bitL 8 251), kLp (bitL 6 59), KI.block 0, kCd (bitL 3 7)] [(1, vR 0 0), (3, vI (↑i : Int)), (4, vR 1 0), (5, vI (↑k : Int)), (7, vB (tupR h.pages[i].slots[k]).isSome), (44, vS (some a_2) h.pages[i].slots.length cslots_el1), (45, vI (↑k : Int))] [LB.mk [cS (some a_1) h.pages.length chpages] 30, LB.mk [cI h.pages[i].lsn, cS (some a_2) h.pages[i].slots.length cslots_el1] 58] ?_
   refine index_at 3 (by kernel_rfl : atP _ _ _ 3 false = some (Op.indexAddr 56 (tmpO 44) (tmpO 45), 0, some 46, Rg.sq (bitL 19 229243) 4)) (ni := k) (sz := 1) (by kernel_rfl) rfl rfl rfl ‹_› (fun L w1 hs => rd_some (i := k) (rdRow_ext (hs.old 2 rfl) hr1_el1) ‹_›) ?_
   intro a_3 ha_3
   cases ha_3
   refine gn 2 (Rg.sq (bitL 19 229243) 4) [kCd (bitL 19 491387), KI.block 3, kCd (bitL 16 65403), kLp (bitL 14 16251), KI.block 2, KI.block 1, kCd (bitL 8 251), kLp (bitL 6 59), KI.block 0, kCd (bitL 3 7)] [(1, vR 0 0), (3, vI (↑i : Int)), (4, vR 1 0), (5, vI (↑k : Int)), (7, vB (tupR h.pages[i].slots[k]).isSome), (46, vP (a_2.add (k * 1)))] [LB.mk [cS (some a_1) h.pages.length chpages] 30, LB.mk [cI h.pages[i].lsn, cS (some a_2) h.pages[i].slots.length cslots_el1] 58] ?_
   refine h_erase 0 _ rfl ?_
   refine h_erase 0 _ rfl ?_
   obtain ⟨Ai2, ci2, hcell2, hrow2⟩ := rd_row hr1_el1 hkl
   refine load_one 4 (by kernel_rfl : atP _ _ _ 4 true = some (Op.load 44 (tmpO 46), 44, some 47, Rg.sq (bitL 19 229243) 5)) (n := 1) (by kernel_rfl) rfl ?_
   intro L w1 hs
   refine ⟨.v (.slice Ai2 (h.pages[i].slots[k]'hkl).length ci2), cellH_ext (hs.old 0 rfl) hcell2, ?_⟩
   clear hs
   by_cases hzero : h.pages[i].slots[k].length = 0
   ·have hso : slotOk h.pages[i].slots[k] = true := by unfold slotOk; rw [decide_eq_true hzero, Bool.or_true]
    refine gn 2 (Rg.sq (bitL 19 229243) 8) [kCd (bitL 19 491387), KI.block 3, kCd (bitL 16 65403), kLp (bitL 14 16251), KI.block 2, KI.block 1, kCd (bitL 8 251), kLp (bitL 6 59), KI.block 0, kCd (bitL 3 7)] [(1, vR 0 0), (3, vI (↑i : Int)), (4, vR 1 0), (5, vI (↑k : Int)), (7, vB (tupR h.pages[i].slots[k]).isSome), (50, vB (decide ((↑h.pages[i].slots[k].length : Int) > 0)))] [LB.mk [cS (some a_1) h.pages.length chpages] 30, LB.mk [cI h.pages[i].lsn, cS (some a_2) h.pages[i].slots.length cslots_el1] 58] ?_
    refine spl 50 (decide ((↑h.pages[i].slots[k].length : Int) > 0)) ?_ ?_
    ·intro hb5
     replace hb5 := of_decide_eq_true hb5
     (exfalso; omega)
    ·intro hb5
     replace hb5 := of_decide_eq_false hb5
     refine gn 2 Rg.no [kLp (bitL 14 16251), KI.block 2, KI.block 1, kCd (bitL 8 251), kLp (bitL 6 59), KI.block 0, kCd (bitL 3 7)] [(1, vR 0 0), (3, vI (↑i : Int)), (4, vR 1 0), (5, vI (IntKind.i64.wrap ((↑k : Int) + 1)))] [LB.mk [cS (some a_1) h.pages.length chpages] 30, LB.mk [cI h.pages[i].lsn, cS (some a_2) h.pages[i].slots.length cslots_el1] 58] ?_
     rw [wrap_succ (by omega)]; exact ihk (k + 1) ⟨hkl, all_step hka hkl hso⟩ (by omega)
   by_cases hsome : (tupR h.pages[i].slots[k]).isSome = true
   ·have hso : slotOk h.pages[i].slots[k] = true := by unfold slotOk; rw [hsome]; rfl
    have nf_1 : (!(tupR h.pages[i].slots[k]).isSome) = false := by rw [hsome]; rfl
    refine gn 2 (Rg.sq (bitL 19 229243) 8) [kCd (bitL 19 491387), KI.block 3, kCd (bitL 16 65403), kLp (bitL 14 16251), KI.block 2, KI.block 1, kCd (bitL 8 251), kLp (bitL 6 59), KI.block 0, kCd (bitL 3 7)] [(1, vR 0 0), (3, vI (↑i : Int)), (4, vR 1 0), (5, vI (↑k : Int)), (7, vB (tupR h.pages[i].slots[k]).isSome), (50, vB (decide ((↑h.pages[i].slots[k].length : Int) > 0)))] [LB.mk [cS (some a_1) h.pages.length chpages] 30, LB.mk [cI h.pages[i].lsn, cS (some a_2) h.pages[i].slots.length cslots_el1] 58] ?_
    refine spl 50 (decide ((↑h.pages[i].slots[k].length : Int) > 0)) ?_ ?_
    ·intro hb5
     replace hb5 := of_decide_eq_true hb5
     refine gn 2 Rg.no [kCd (bitL 19 491387), KI.block 3, kCd (bitL 16 65403), kLp (bitL 14 16251), KI.block 2, KI.block 1, kCd (bitL 8 251), kLp (bitL 6 59), KI.block 0, kCd (bitL 3 7)] [(1, vR 0 0), (3, vI (↑i : Int)), (4, vR 1 0), (5, vI (↑k : Int)), (53, vB !(tupR h.pages[i].slots[k]).isSome)] [LB.mk [cS (some a_1) h.pages.length chpages] 30, LB.mk [cI h.pages[i].lsn, cS (some a_2) h.pages[i].slots.length cslots_el1] 58] ?_
     try simp only [flx, hq1, hq2, hq3, hq4, nf_1]
     refine gn 2 Rg.no [kCd (bitL 19 491387), KI.block 3, kCd (bitL 16 65403), kLp (bitL 14 16251), KI.block 2, KI.block 1, kCd (bitL 8 251), kLp (bitL 6 59), KI.block 0, kCd (bitL 3 7)] [(1, vR 0 0), (3, vI (↑i : Int)), (4, vR 1 0), (5, vI (↑k : Int)), (53, vB false)] [LB.mk [cS (some a_1) h.pages.length chpages] 30, LB.mk [cI h.pages[i].lsn, cS (some a_2) h.pages[i].slots.length cslots_el1] 58] ?_
     refine ltk 53 false ?_
     refine gn 2 Rg.no [kLp (bitL 14 16251), KI.block 2, KI.block 1, kCd (bitL 8 251), kLp (bitL 6 59), KI.block 0, kCd (bitL 3 7)] [(1, vR 0 0), (3, vI (↑i : Int)), (4, vR 1 0), (5, vI (IntKind.i64.wrap ((↑k : Int) + 1)))] [LB.mk [cS (some a_1) h.pages.length chpages] 30, LB.mk [cI h.pages[i].lsn, cS (some a_2) h.pages[i].slots.length cslots_el1] 58] ?_
     rw [wrap_succ (by omega)]; exact ihk (k + 1) ⟨hkl, all_step hka hkl hso⟩ (by omega)
    ·intro hb5
     replace hb5 := of_decide_eq_false hb5
     (exfalso; omega)
   ·rw [Bool.not_eq_true] at hsome
    have nf_1 : (!(tupR h.pages[i].slots[k]).isSome) = true := by rw [hsome]; rfl
    have hno : heapOk h = false := by
     unfold heapOk
     rw [all_bad hlt (by unfold pgGood; rw [all_bad hkl (by unfold slotOk; rw [hsome, decide_eq_false hzero]; rfl), Bool.and_false])]
     simp
    refine gn 2 (Rg.sq (bitL 19 229243) 8) [kCd (bitL 19 491387), KI.block 3, kCd (bitL 16 65403), kLp (bitL 14 16251), KI.block 2, KI.block 1, kCd (bitL 8 251), kLp (bitL 6 59), KI.block 0, kCd (bitL 3 7)] [(1, vR 0 0), (3, vI (↑i : Int)), (4, vR 1 0), (5, vI (↑k : Int)), (7, vB (tupR h.pages[i].slots[k]).isSome), (50, vB (decide ((↑h.pages[i].slots[k].length : Int) > 0)))] [LB.mk [cS (some a_1) h.pages.length chpages] 30, LB.mk [cI h.pages[i].lsn, cS (some a_2) h.pages[i].slots.length cslots_el1] 58] ?_
    refine spl 50 (decide ((↑h.pages[i].slots[k].length : Int) > 0)) ?_ ?_
    ·intro hb5
     replace hb5 := of_decide_eq_true hb5
     refine gn 2 Rg.no [kCd (bitL 19 491387), KI.block 3, kCd (bitL 16 65403), kLp (bitL 14 16251), KI.block 2, KI.block 1, kCd (bitL 8 251), kLp (bitL 6 59), KI.block 0, kCd (bitL 3 7)] [(1, vR 0 0), (3, vI (↑i : Int)), (4, vR 1 0), (5, vI (↑k : Int)), (53, vB !(tupR h.pages[i].slots[k]).isSome)] [LB.mk [cS (some a_1) h.pages.length chpages] 30, LB.mk [cI h.pages[i].lsn, cS (some a_2) h.pages[i].slots.length cslots_el1] 58] ?_
     try simp only [flx, hq1, hq2, hq3, hq4, nf_1]
     refine gn 2 Rg.no [kCd (bitL 19 491387), KI.block 3, kCd (bitL 16 65403), kLp (bitL 14 16251), KI.block 2, KI.block 1, kCd (bitL 8 251), kLp (bitL 6 59), KI.block 0, kCd (bitL 3 7)] [(1, vR 0 0), (3, vI (↑i : Int)), (4, vR 1 0), (5, vI (↑k : Int)), (53, vB true)] [LB.mk [cS (some a_1) h.pages.length chpages] 30, LB.mk [cI h.pages[i].lsn, cS (some a_2) h.pages[i].slots.length cslots_el1] 58] ?_
     refine ltk 53 true ?_
     refine gn 0 Rg.no [kCd (bitL 21 1539963), KI.block 3, kCd (bitL 16 65403), kLp (bitL 14 16251), KI.block 2, KI.block 1, kCd (bitL 8 251), kLp (bitL 6 59), KI.block 0, kCd (bitL 3 7)] [(2, vL false)] [] ?_
     refine rtk [vL false] ?_
     intro L w1 hs
     exact ⟨retB hno.symm, hs.out0⟩
    ·intro hb5
     replace hb5 := of_decide_eq_false hb5
     (exfalso; omega)
  ·obtain rfl : k = h.pages[i].slots.length := by omega
   rw [List.take_length] at hka
   refine gn 2 Rg.no [kCd (bitL 16 49019), kCd (bitL 15 32635), kLp (bitL 14 16251), KI.block 2, KI.block 1, kCd (bitL 8 251), kLp (bitL 6 59), KI.block 0, kCd (bitL 3 7)] [(1, vR 0 0), (3, vI (↑i : Int)), (4, vR 1 0), (5, vI (↑h.pages[i].slots.length : Int)), (31, vB (decide ((↑h.pages[i].slots.length : Int) < (↑h.pages[i].slots.length : Int))))] [LB.mk [cS (some a_1) h.pages.length chpages] 30, LB.mk [cI h.pages[i].lsn, cS Aslots_el1 h.pages[i].slots.length cslots_el1] 58] ?_
   refine spl 31 (decide ((↑h.pages[i].slots.length : Int) < (↑h.pages[i].slots.length : Int))) ?_ ?_
   ·intro hb4
    replace hb4 := of_decide_eq_true hb4
    (exfalso; omega)
   ·intro hb4
    replace hb4 := of_decide_eq_false hb4
    refine gn 1 Rg.no [kLp (bitL 6 59), KI.block 0, kCd (bitL 3 7)] [(1, vR 0 0), (3, vI (IntKind.i64.wrap ((↑i : Int) + 1)))] [LB.mk [cS (some a_1) h.pages.length chpages] 30] ?_
    rw [wrap_succ (by omega)]; exact ih (i + 1) ⟨hlt, all_step hall hlt (by unfold pgGood; rw [hka, decide_eq_true (by omega)]; rfl)⟩ (by omega)
 obtain rfl : i = h.pages.length := by omega
 rw [List.take_length] at hall
 have hye : heapOk h = true := by unfold heapOk; rw [hall, decide_eq_true h16]; rfl
 refine gn 1 Rg.no [kCd (bitL 8 187), kCd (bitL 7 123), kLp (bitL 6 59), KI.block 0, kCd (bitL 3 7)] [(1, vR 0 0), (3, vI (↑h.pages.length : Int)), (16, vB (decide ((↑h.pages.length : Int) < (↑h.pages.length : Int))))] [LB.mk [cS Ahpages h.pages.length chpages] 30] ?_
 refine spl 16 (decide ((↑h.pages.length : Int) < (↑h.pages.length : Int))) ?_ ?_
 ·intro hb2
  replace hb2 := of_decide_eq_true hb2
  (exfalso; omega)
 ·intro hb2
  replace hb2 := of_decide_eq_false hb2
  refine gn 0 Rg.no [kCd (bitL 4 15)] [(2, vL true)] [] ?_
  refine rtk [vL true] ?_
  intro L w1 hs
  exact ⟨retB hye.symm, hs.out0⟩
end Go.Proofs.YtgleoebogikooaaGreat.Dk
