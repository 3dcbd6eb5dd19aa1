/- Walks of functions of the program: what each call returns and what it leaves in memory. Conditions: those that each theorem names. -/
import Derived.Test.YtgleoebogikooaaGreatV9
namespace Go.Proofs.YtgleoebogikooaaGreat.Dk
set_option linter.unusedVariables false
set_option linter.unusedSimpArgs false
open Go.Proofs.YtgleoebogikooaaGreat.Sx Go.Proofs Go.RowKit
set_option maxRecDepth 100000
set_option maxHeartbeats 1000000
theorem szByteSS_ok (xs : List (List Int)) (vxs : Value) (left : Int) (w : World) (hxs : rdRow (kRow 5 kU8) w.heap xs vxs) (h0 : 0 ≤ left) (h1 : left ≤ 1048576) (hw : xs.length ≤ 9223372036854775807 ∧ ∀ e ∈ xs, e.length ≤ 9223372036854775807) :
  Calls Tryz.prog 75 #[vxs, .int .i64 left] w fun e w' => ∃ r : Int, e = .returned (.int .i64 r) ∧ Below w.heap.size w w' ∧ ((((zRow (fun l => l.length) xs : Nat) : Int) ≤ left ∧ r = left - ((zRow (fun l => l.length) xs : Nat) : Int)) ∨ (left < ((zRow (fun l => l.length) xs : Nat) : Int) ∧ r = -1)) := by
 obtain ⟨Axs, cxs, rfl⟩ := rdRow_form hxs
 have rows_on : True := trivial
 refine enter (args := [.one (.v (.slice Axs xs.length cxs)), .one (.v (.int .i64 left))]) Tryz.func75 (c := bodyOf Tryz.f75) rfl rfl (start_LOK _) (start_old w) ?_
 have hwl := hw.1
 have sd_1 : ∀ (j : Nat) (h : j < xs.length), xs[j].length ≤ 9223372036854775807 := fun j h => hw.2 _ (List.getElem_mem h)
 have hz : zRow (fun l => l.length) xs = xs.length + (xs.map (fun l => l.length)).sum := rfl
 have nf_1 : IntKind.i64.wrap (left - (xs.length : Int)) = left - xs.length := by rw [IntKind.wrap_i64]; omega
 refine gn 0 Rg.no [kCd (bitL 4 11), kCd (bitL 3 7)] [(0, vS Axs xs.length cxs), (1, vI (IntKind.i64.wrap (left - (↑xs.length : Int)))), (11, vB (decide (IntKind.i64.wrap (left - (↑xs.length : Int)) < 0)))] [] ?_
 try simp only [flx, nf_1]
 refine spl 11 (decide (left - (↑xs.length : Int) < 0)) ?_ ?_
 ·intro hb1
  replace hb1 := of_decide_eq_true hb1
  refine gn 0 Rg.no [kCd (bitL 6 43), kCd (bitL 3 7)] [(4, vI (-1))] [] ?_
  refine rtk [vI (-1)] ?_
  intro L w1 hs
  exact ⟨_, rfl, hs.out0, by omega⟩
 intro hb1
 replace hb1 := of_decide_eq_false hb1
 refine gn 0 Rg.no [kLp (bitL 7 119), KI.block 0, kCd (bitL 4 15)] [(0, vS Axs xs.length cxs), (1, vI (left - (↑xs.length : Int))), (5, vI 0)] [] ?_
 refine loop_at (ι := Nat × Int) (fun s => [(5, .one (.v (.int .i64 s.1))), (1, .one (.v (.int .i64 s.2)))]) (fun _ => []) (fun _ => [oldA w]) (fun s => s.1 ≤ xs.length ∧ 0 ≤ s.2 ∧ s.2 = left - xs.length - (sumT (fun l => l.length) xs s.1 : Nat)) (fun s => xs.length - s.1) (0, left - xs.length) rfl rfl rfl ⟨Nat.zero_le _, by simp only; omega, by simp [sumT]⟩ ?_
 rintro ⟨i, l⟩ ⟨hi1, hi2, hi3⟩ ih
 simp only at hi1 hi2 hi3 ih ⊢
 have hs1 := sumT_succ (fun l => l.length) xs i
 have hs2 := sumT_le (fun l => l.length) xs
 have hs3 := sumT_all (fun l => l.length) xs i
 refine gn 0 Rg.no [kCd (bitL 9 375), kCd (bitL 8 247), kLp (bitL 7 119), KI.block 0, kCd (bitL 4 15)] [(0, vS Axs xs.length cxs), (1, vI l), (5, vI (↑i : Int)), (15, vB (decide ((↑i : Int) < (↑xs.length : Int))))] [] ?_
 refine spl 15 (decide ((↑i : Int) < (↑xs.length : Int))) ?_ ?_
 ·intro hb2
  replace hb2 := of_decide_eq_true hb2
  refine gn 0 (Rg.sq (bitL 11 759) 2) [kCd (bitL 11 1783), KI.block 1, kCd (bitL 9 503), kLp (bitL 7 119), KI.block 0, kCd (bitL 4 15)] [(0, vS Axs xs.length cxs), (1, vI l), (5, vI (↑i : Int)), (18, vS Axs xs.length cxs), (19, vI (↑i : Int))] [] ?_
  refine index_at 2 (by kernel_rfl : atP _ _ _ 2 false = some (Op.indexAddr 56 (tmpO 18) (tmpO 19), 0, some 20, Rg.sq (bitL 11 759) 3)) (ni := i) (sz := 1) (by kernel_rfl) rfl rfl rfl (by omega) (fun L w1 hs => rd_some (i := i) (rdRow_ext (hs.old 0 rfl) hxs) (by omega)) ?_
  intro a_1 ha_1
  cases ha_1
  refine gn 0 (Rg.sq (bitL 11 759) 3) [kCd (bitL 11 1783), KI.block 1, kCd (bitL 9 503), kLp (bitL 7 119), KI.block 0, kCd (bitL 4 15)] [(0, vS (some a_1) xs.length cxs), (1, vI l), (5, vI (↑i : Int)), (20, vP (a_1.add (i * 1)))] [] ?_
  obtain ⟨Ai_r1, ci_r1, hce_r1, hrw_r1⟩ := rd_row (i := i) hxs (by omega)
  refine load_one 3 (by kernel_rfl : atP _ _ _ 3 true = some (Op.load 44 (tmpO 20), 44, some 21, Rg.sq (bitL 11 759) 4)) (n := 1) (by kernel_rfl) rfl ?_
  intro L w1 hs
  refine ⟨.v (.slice Ai_r1 ((xs)[i]'(by omega)).length ci_r1), cellH_ext (hs.old 0 rfl) hce_r1, ?_⟩
  clear hs
  refine gn 0 (Rg.sq (bitL 11 759) 5) [kCd (bitL 11 1783), KI.block 1, kCd (bitL 9 503), kLp (bitL 7 119), KI.block 0, kCd (bitL 4 15)] [(0, vS (some a_1) xs.length cxs), (5, vI (↑i : Int)), (21, vS Ai_r1 xs[i].length ci_r1), (22, vI l)] [] ?_
  refine cak 40 [vS Ai_r1 xs[i].length ci_r1, vI l] (some 23) (Rg.sq (bitL 11 759) 6) (fun L w1 hs => (szByteS_ok (xs[i]) (Value.slice Ai_r1 xs[i].length ci_r1) (l) w1 (rdRow_ext (hs.old 0 rfl) hrw_r1) ‹_› (by omega) (by exact sd_1 _ _)).mono ?_)
  rintro e_ w2_ ⟨r_1, rfl, hf_, hq1⟩
  refine ⟨.one (.v (Value.int IntKind.i64 r_1)), _, _, rfl, fun _ => hf_.block, hs.below hf_, ?_⟩
  clear hs hf_
  refine gn 0 Rg.no [kCd (bitL 12 3831), KI.block 1, kCd (bitL 9 503), kLp (bitL 7 119), KI.block 0, kCd (bitL 4 15)] [(0, vS (some a_1) xs.length cxs), (1, vI r_1), (5, vI (↑i : Int)), (25, vB (decide (r_1 < 0)))] [] ?_
  refine spl 25 (decide (r_1 < 0)) ?_ ?_
  ·intro hb3
   replace hb3 := of_decide_eq_true hb3
   refine gn 0 Rg.no [kCd (bitL 14 12023), KI.block 1, kCd (bitL 9 503), kLp (bitL 7 119), KI.block 0, kCd (bitL 4 15)] [(4, vI (-1))] [] ?_
   refine rtk [vI (-1)] ?_
   intro L w1 hs
   exact ⟨_, rfl, hs.out0, by have := hs1 (by omega); have := hs2 (i + 1); omega⟩
  ·intro hb3
   replace hb3 := of_decide_eq_false hb3
   refine gn 0 Rg.no [kLp (bitL 7 119), KI.block 0, kCd (bitL 4 15)] [(0, vS (some a_1) xs.length cxs), (1, vI r_1), (5, vI (IntKind.i64.wrap ((↑i : Int) + 1)))] [] ?_
   rw [wrap_succ (by omega)]; exact ih (i + 1, _) ⟨by omega, by simp only; omega, by have := hs1 (by omega); simp only; omega⟩ (by simp only; omega)
 ·intro hb2
  replace hb2 := of_decide_eq_false hb2
  refine gn 0 Rg.no [kCd (bitL 5 31)] [(4, vI l)] [] ?_
  refine rtk [vI l] ?_
  intro L w1 hs
  exact ⟨_, rfl, hs.out0, by have := hs3 (by omega); omega⟩
theorem szPage_ok (x : Pg) (csx : List Value) (left : Int) (w : World) (hx : kPg.rd w.heap x csx) (h0 : 0 ≤ left) (h1 : left ≤ 1048576) (hw : wPg x) :
  Calls Tryz.prog 49 #[.agg csx.toArray, .int .i64 left] w fun e w' => ∃ r : Int, e = .returned (.int .i64 r) ∧ Below w.heap.size w w' ∧ ((((zPg x : Nat) : Int) ≤ left ∧ r = left - ((zPg x : Nat) : Int)) ∨ (left < ((zPg x : Nat) : Int) ∧ r = -1)) := by
 obtain ⟨Axslots, cxslots, rfl, hrxslots⟩ := kPg_inv hx
 refine enter (args := [.agg [.v (.int .i64 x.lsn), .v (.slice Axslots x.slots.length cxslots)], .one (.v (.int .i64 left))]) Tryz.func49 (c := bodyOf Tryz.f49) rfl rfl (start_LOK _) (start_old w) ?_
 have hz : zPg x = zRow (fun l => l.length) x.slots := rfl
 have hw0 : x.slots.length ≤ 9223372036854775807 ∧ ∀ e ∈ x.slots, e.length ≤ 9223372036854775807 := hw
 refine gn 0 (Rg.sq [true, false] 3) [KI.code [true, true]] [(6, vS Axslots x.slots.length cxslots), (7, vI left)] [] ?_
 refine cak 75 [vS Axslots x.slots.length cxslots, vI left] (some 8) (Rg.sq [true, false] 4) (fun L w1 hs => (szByteSS_ok (x.slots) (Value.slice Axslots x.slots.length cxslots) (left) w1 (rdRow_ext (hs.old 0 rfl) hrxslots) ‹_› ‹_› ‹_›).mono ?_)
 rintro e_ w2_ ⟨r_1, rfl, hf_, hq1⟩
 refine ⟨.one (.v (Value.int IntKind.i64 r_1)), _, _, rfl, fun _ => hf_.block, hs.below hf_, ?_⟩
 clear hs hf_
 refine gn 0 Rg.no [kCd (bitL 4 11), kCd (bitL 3 7)] [(1, vI r_1), (10, vB (decide (r_1 < 0)))] [] ?_
 refine spl 10 (decide (r_1 < 0)) ?_ ?_
 ·intro hb1
  replace hb1 := of_decide_eq_true hb1
  refine gn 0 Rg.no [kCd (bitL 6 43), kCd (bitL 3 7)] [(4, vI (-1))] [] ?_
  refine rtk [vI (-1)] ?_
  intro L w1 hs
  exact ⟨_, rfl, hs.out0, by omega⟩
 ·intro hb1
  replace hb1 := of_decide_eq_false hb1
  refine gn 0 Rg.no [kCd (bitL 4 15)] [(4, vI r_1)] [] ?_
  refine rtk [vI r_1] ?_
  intro L w1 hs
  exact ⟨_, rfl, hs.out0, by omega⟩
theorem szPageS_ok (xs : List Pg) (vxs : Value) (left : Int) (w : World) (hxs : rdRow kPg w.heap xs vxs) (h0 : 0 ≤ left) (h1 : left ≤ 1048576) (hw : xs.length ≤ 9223372036854775807 ∧ ∀ e ∈ xs, wPg e) :
  Calls Tryz.prog 26 #[vxs, .int .i64 left] w fun e w' => ∃ r : Int, e = .returned (.int .i64 r) ∧ Below w.heap.size w w' ∧ ((((zRow zPg xs : Nat) : Int) ≤ left ∧ r = left - ((zRow zPg xs : Nat) : Int)) ∨ (left < ((zRow zPg xs : Nat) : Int) ∧ r = -1)) := by
 obtain ⟨Axs, cxs, rfl⟩ := rdRow_form hxs
 refine enter (args := [.one (.v (.slice Axs xs.length cxs)), .one (.v (.int .i64 left))]) Tryz.func26 (c := bodyOf Tryz.f26) rfl rfl (start_LOK _) (start_old w) ?_
 have hwl := hw.1
 have sd_1 : ∀ (j : Nat) (h : j < xs.length), wPg xs[j] := fun j h => hw.2 _ (List.getElem_mem h)
 have hz : zRow zPg xs = xs.length + (xs.map zPg).sum := rfl
 have nf_1 : IntKind.i64.wrap (left - (xs.length : Int)) = left - xs.length := by rw [IntKind.wrap_i64]; omega
 refine gn 0 Rg.no [kCd (bitL 4 11), kCd (bitL 3 7)] [(0, vS Axs xs.length cxs), (1, vI (IntKind.i64.wrap (left - (↑xs.length : Int)))), (11, vB (decide (IntKind.i64.wrap (left - (↑xs.length : Int)) < 0)))] [] ?_
 try simp only [flx, nf_1]
 refine spl 11 (decide (left - (↑xs.length : Int) < 0)) ?_ ?_
 ·intro hb1
  replace hb1 := of_decide_eq_true hb1
  refine gn 0 Rg.no [kCd (bitL 6 43), kCd (bitL 3 7)] [(4, vI (-1))] [] ?_
  refine rtk [vI (-1)] ?_
  intro L w1 hs
  exact ⟨_, rfl, hs.out0, by omega⟩
 intro hb1
 replace hb1 := of_decide_eq_false hb1
 refine gn 0 Rg.no [kLp (bitL 7 119), KI.block 0, kCd (bitL 4 15)] [(0, vS Axs xs.length cxs), (1, vI (left - (↑xs.length : Int))), (5, vI 0)] [] ?_
 refine loop_at (ι := Nat × Int) (fun s => [(5, .one (.v (.int .i64 s.1))), (1, .one (.v (.int .i64 s.2)))]) (fun _ => []) (fun _ => [oldA w]) (fun s => s.1 ≤ xs.length ∧ 0 ≤ s.2 ∧ s.2 = left - xs.length - (sumT zPg xs s.1 : Nat)) (fun s => xs.length - s.1) (0, left - xs.length) rfl rfl rfl ⟨Nat.zero_le _, by simp only; omega, by simp [sumT]⟩ ?_
 rintro ⟨i, l⟩ ⟨hi1, hi2, hi3⟩ ih
 simp only at hi1 hi2 hi3 ih ⊢
 have hs1 := sumT_succ zPg xs i
 have hs2 := sumT_le zPg xs
 have hs3 := sumT_all zPg xs i
 refine gn 0 Rg.no [kCd (bitL 9 375), kCd (bitL 8 247), kLp (bitL 7 119), KI.block 0, kCd (bitL 4 15)] [(0, vS Axs xs.length cxs), (1, vI l), (5, vI (↑i : Int)), (15, vB (decide ((↑i : Int) < (↑xs.length : Int))))] [] ?_
 refine spl 15 (decide ((↑i : Int) < (↑xs.length : Int))) ?_ ?_
 ·intro hb2
  replace hb2 := of_decide_eq_true hb2
  refine gn 0 (Rg.sq (bitL 11 759) 2) [kCd (bitL 11 1783), KI.block 1, kCd (bitL 9 503), kLp (bitL 7 119), KI.block 0, kCd (bitL 4 15)] [(0, vS Axs xs.length cxs), (1, vI l), (5, vI (↑i : Int)), (18, vS Axs xs.length cxs), (19, vI (↑i : Int))] [] ?_
  refine index_at 2 (by kernel_rfl : atP _ _ _ 2 false = some (Op.indexAddr 22 (tmpO 18) (tmpO 19), 0, some 20, Rg.sq (bitL 11 759) 3)) (ni := i) (sz := 2) (by kernel_rfl) rfl rfl rfl (by omega) (fun L w1 hs => rd_some (i := i) (rdRow_ext (hs.old 0 rfl) hxs) (by omega)) ?_
  intro a_1 ha_1
  cases ha_1
  refine gn 0 (Rg.sq (bitL 11 759) 3) [kCd (bitL 11 1783), KI.block 1, kCd (bitL 9 503), kLp (bitL 7 119), KI.block 0, kCd (bitL 4 15)] [(0, vS (some a_1) xs.length cxs), (1, vI l), (5, vI (↑i : Int)), (20, vP (a_1.add (i * 2)))] [] ?_
  obtain ⟨Aslots_el1, cslots_el1, hr1_el1, hc_el1⟩ := kPg_at (i := i) hxs (by omega)
  refine load_agg 3 (by kernel_rfl : atP _ _ _ 3 true = some (Op.load 79 (tmpO 20), 79, some 21, Rg.sq (bitL 11 759) 4)) (n := 2) (by kernel_rfl) rfl ?_
  intro L w1 hs
  refine ⟨[.v (Value.int IntKind.i64 xs[i].lsn), .v (Value.slice Aslots_el1 xs[i].slots.length cslots_el1)], rfl, cells_at0 (cellsH_ext (hs.old 0 rfl) hc_el1) rfl, ?_⟩
  clear hs
  refine gn 0 (Rg.sq (bitL 11 759) 5) [kCd (bitL 11 1783), KI.block 1, kCd (bitL 9 503), kLp (bitL 7 119), KI.block 0, kCd (bitL 4 15)] [(0, vS (some a_1) xs.length cxs), (5, vI (↑i : Int)), (21, SV.agg [cI xs[i].lsn, cS Aslots_el1 xs[i].slots.length cslots_el1]), (22, vI l)] [] ?_
  refine cak 49 [SV.agg [cI xs[i].lsn, cS Aslots_el1 xs[i].slots.length cslots_el1], vI l] (some 23) (Rg.sq (bitL 11 759) 6) (fun L w1 hs => (szPage_ok (xs[i]) ([Value.int IntKind.i64 xs[i].lsn, Value.slice Aslots_el1 xs[i].slots.length cslots_el1]) (l) w1 (kPg_mk (rdRow_ext (hs.old 0 rfl) hr1_el1)) ‹_› (by omega) (by exact sd_1 _ _)).mono ?_)
  rintro e_ w2_ ⟨r_1, rfl, hf_, hq1⟩
  refine ⟨.one (.v (Value.int IntKind.i64 r_1)), _, _, rfl, fun _ => hf_.block, hs.below hf_, ?_⟩
  clear hs hf_
  refine gn 0 Rg.no [kCd (bitL 12 3831), KI.block 1, kCd (bitL 9 503), kLp (bitL 7 119), KI.block 0, kCd (bitL 4 15)] [(0, vS (some a_1) xs.length cxs), (1, vI r_1), (5, vI (↑i : Int)), (25, vB (decide (r_1 < 0)))] [] ?_
  refine spl 25 (decide (r_1 < 0)) ?_ ?_
  ·intro hb3
   replace hb3 := of_decide_eq_true hb3
   refine gn 0 Rg.no [kCd (bitL 14 12023), KI.block 1, kCd (bitL 9 503), kLp (bitL 7 119), KI.block 0, kCd (bitL 4 15)] [(4, vI (-1))] [] ?_
   refine rtk [vI (-1)] ?_
   intro L w1 hs
   exact ⟨_, rfl, hs.out0, by have := hs1 (by omega); have := hs2 (i + 1); omega⟩
  ·intro hb3
   replace hb3 := of_decide_eq_false hb3
   refine gn 0 Rg.no [kLp (bitL 7 119), KI.block 0, kCd (bitL 4 15)] [(0, vS (some a_1) xs.length cxs), (1, vI r_1), (5, vI (IntKind.i64.wrap ((↑i : Int) + 1)))] [] ?_
   rw [wrap_succ (by omega)]; exact ih (i + 1, _) ⟨by omega, by simp only; omega, by have := hs1 (by omega); simp only; omega⟩ (by simp only; omega)
 ·intro hb2
  replace hb2 := of_decide_eq_false hb2
  refine gn 0 Rg.no [kCd (bitL 5 31)] [(4, vI l)] [] ?_
  refine rtk [vI l] ?_
  intro L w1 hs
  exact ⟨_, rfl, hs.out0, by have := hs3 (by omega); omega⟩
theorem szHeap_ok (x : He) (csx : List Value) (left : Int) (w : World) (hx : kHe.rd w.heap x csx) (h0 : 0 ≤ left) (h1 : left ≤ 1048576) (hw : wHe x) :
  Calls Tryz.prog 6 #[.agg csx.toArray, .int .i64 left] w fun e w' => ∃ r : Int, e = .returned (.int .i64 r) ∧ Below w.heap.size w w' ∧ ((((zHe x : Nat) : Int) ≤ left ∧ r = left - ((zHe x : Nat) : Int)) ∨ (left < ((zHe x : Nat) : Int) ∧ r = -1)) := by
 obtain ⟨Axpages, cxpages, rfl, hrxpages⟩ := kHe_inv hx
 refine enter (args := [.agg [.v (.slice Axpages x.pages.length cxpages)], .one (.v (.int .i64 left))]) Tryz.func6 (c := bodyOf Tryz.f6) rfl rfl (start_LOK _) (start_old w) ?_
 have hz : zHe x = zRow zPg x.pages := rfl
 have hw0 : x.pages.length ≤ 9223372036854775807 ∧ ∀ e ∈ x.pages, wPg e := hw
 refine gn 0 (Rg.sq [true, false] 3) [KI.code [true, true]] [(6, vS Axpages x.pages.length cxpages), (7, vI left)] [] ?_
 refine cak 26 [vS Axpages x.pages.length cxpages, vI left] (some 8) (Rg.sq [true, false] 4) (fun L w1 hs => (szPageS_ok (x.pages) (Value.slice Axpages x.pages.length cxpages) (left) w1 (rdRow_ext (hs.old 0 rfl) hrxpages) ‹_› ‹_› ‹_›).mono ?_)
 rintro e_ w2_ ⟨r_1, rfl, hf_, hq1⟩
 refine ⟨.one (.v (Value.int IntKind.i64 r_1)), _, _, rfl, fun _ => hf_.block, hs.below hf_, ?_⟩
 clear hs hf_
 refine gn 0 Rg.no [kCd (bitL 4 11), kCd (bitL 3 7)] [(1, vI r_1), (10, vB (decide (r_1 < 0)))] [] ?_
 refine spl 10 (decide (r_1 < 0)) ?_ ?_
 ·intro hb1
  replace hb1 := of_decide_eq_true hb1
  refine gn 0 Rg.no [kCd (bitL 6 43), kCd (bitL 3 7)] [(4, vI (-1))] [] ?_
  refine rtk [vI (-1)] ?_
  intro L w1 hs
  exact ⟨_, rfl, hs.out0, by omega⟩
 ·intro hb1
  replace hb1 := of_decide_eq_false hb1
  refine gn 0 Rg.no [kCd (bitL 4 15)] [(4, vI r_1)] [] ?_
  refine rtk [vI r_1] ?_
  intro L w1 hs
  exact ⟨_, rfl, hs.out0, by omega⟩
theorem eqByteSS_ok (xs : List (List Int)) (v1 v2 : Value) (w : World) (h1 : rdRow (kRow 5 kU8) w.heap xs v1) (h2 : rdRow (kRow 5 kU8) w.heap xs v2) (hz : zRow (fun l => l.length) xs ≤ 1048576) :
  Calls Tryz.prog 92 #[v1, v2] w fun e w' => e = .returned (.bool true) ∧ Below w.heap.size w w' := by
 obtain ⟨A1, c1, rfl⟩ := rdRow_form h1
 obtain ⟨A2, c2, rfl⟩ := rdRow_form h2
 have hzz : zRow (fun l => l.length) xs = xs.length + (xs.map (fun l => l.length)).sum := rfl
 have sd_1 : ∀ (j : Nat) (h : j < xs.length), xs[j].length ≤ 1048576 := fun j h => by have := z_le (fun l => l.length) xs (List.getElem_mem h); omega
 have rows_on : True := trivial
 refine enter (args := [.one (.v (.slice A1 xs.length c1)), .one (.v (.slice A2 xs.length c2))]) Tryz.func92 (c := bodyOf Tryz.f92) rfl rfl (start_LOK _) (start_old w) ?_
 have hzl : xs.length ≤ 1048576 := by omega
 refine gn 0 Rg.no [kCd (bitL 3 5), KI.code [true, true]] [(0, vS A1 xs.length c1), (1, vS A2 xs.length c2), (10, vB ((↑xs.length : Int) != (↑xs.length : Int)))] [] ?_
 refine spl 10 ((↑xs.length : Int) != (↑xs.length : Int)) ?_ ?_
 ·intro hb1
  replace hb1 := bne_iff_ne.1 hb1
  (exfalso; omega)
 intro hb1
 replace hb1 := bne_eq_false_iff_eq.1 hb1
 refine gn 0 Rg.no [kLp (bitL 6 59), KI.block 0, kCd (bitL 3 7)] [(0, vS A1 xs.length c1), (1, vS A2 xs.length c2), (5, vI 0)] [] ?_
 refine loop_at (ι := Nat) (fun i => [(5, .one (.v (.int .i64 i)))]) (fun _ => []) (fun i => [oldA w]) (fun i => i ≤ xs.length) (fun i => xs.length - i) 0 rfl rfl rfl (Nat.zero_le _) ?_
 intro i hi ih
 refine gn 0 Rg.no [kCd (bitL 8 187), kCd (bitL 7 123), kLp (bitL 6 59), KI.block 0, kCd (bitL 3 7)] [(0, vS A1 xs.length c1), (1, vS A2 xs.length c2), (5, vI (↑i : Int)), (14, vB (decide ((↑i : Int) < (↑xs.length : Int))))] [] ?_
 refine spl 14 (decide ((↑i : Int) < (↑xs.length : Int))) ?_ ?_
 ·intro hb2
  replace hb2 := of_decide_eq_true hb2
  refine gn 0 (Rg.dr (bitL 10 379) (bitL 10 51) 6 2) [kCd (bitL 10 891), KI.block 1, kCd (bitL 8 251), kLp (bitL 6 59), KI.block 0, kCd (bitL 3 7)] [(0, vS A1 xs.length c1), (1, vS A2 xs.length c2), (5, vI (↑i : Int)), (17, vS A1 xs.length c1), (18, vI (↑i : Int)), (21, vS A2 xs.length c2), (22, vI (↑i : Int))] [] ?_
  refine index_at 2 (by kernel_rfl : atP _ _ _ 2 false = some (Op.indexAddr 56 (tmpO 17) (tmpO 18), 0, some 19, Rg.dr (bitL 10 379) (bitL 10 55) 5 2)) (ni := i) (sz := 1) (by kernel_rfl) rfl rfl rfl (by omega) (fun L w1 hs => rd_some (i := i) (rdRow_ext (hs.old 0 rfl) h1) (by omega)) ?_
  intro a_1 ha_1
  cases ha_1
  refine gn 0 (Rg.dr (bitL 10 379) (bitL 10 55) 5 2) [kCd (bitL 10 891), KI.block 1, kCd (bitL 8 251), kLp (bitL 6 59), KI.block 0, kCd (bitL 3 7)] [(0, vS (some a_1) xs.length c1), (1, vS A2 xs.length c2), (5, vI (↑i : Int)), (19, vP (a_1.add (i * 1))), (21, vS A2 xs.length c2), (22, vI (↑i : Int))] [] ?_
  refine index_at 6 (by kernel_rfl : atP _ _ _ 6 false = some (Op.indexAddr 56 (tmpO 21) (tmpO 22), 0, some 23, Rg.dr (bitL 10 379) (bitL 10 119) 4 2)) (ni := i) (sz := 1) (by kernel_rfl) rfl rfl rfl (by omega) (fun L w1 hs => rd_some (i := i) (rdRow_ext (hs.old 0 rfl) h2) (by omega)) ?_
  intro a_2 ha_2
  cases ha_2
  refine gn 0 (Rg.dr (bitL 10 379) (bitL 10 119) 4 2) [kCd (bitL 10 891), KI.block 1, kCd (bitL 8 251), kLp (bitL 6 59), KI.block 0, kCd (bitL 3 7)] [(0, vS (some a_1) xs.length c1), (1, vS (some a_2) xs.length c2), (5, vI (↑i : Int)), (19, vP (a_1.add (i * 1))), (23, vP (a_2.add (i * 1)))] [] ?_
  obtain ⟨Ai_r1, ci_r1, hce_r1, hrw_r1⟩ := rd_row (i := i) h1 (by omega)
  refine load_one 3 (by kernel_rfl : atP _ _ _ 3 true = some (Op.load 44 (tmpO 19), 44, some 20, Rg.dr (bitL 10 379) (bitL 10 127) 3 2)) (n := 1) (by kernel_rfl) rfl ?_
  intro L w1 hs
  refine ⟨.v (.slice Ai_r1 ((xs)[i]'(by omega)).length ci_r1), cellH_ext (hs.old 0 rfl) hce_r1, ?_⟩
  clear hs
  refine gn 0 (Rg.dr (bitL 10 379) (bitL 10 127) 3 2) [kCd (bitL 10 891), KI.block 1, kCd (bitL 8 251), kLp (bitL 6 59), KI.block 0, kCd (bitL 3 7)] [(0, vS (some a_1) xs.length c1), (1, vS (some a_2) xs.length c2), (5, vI (↑i : Int)), (20, vS Ai_r1 xs[i].length ci_r1), (23, vP (a_2.add (i * 1)))] [] ?_
  obtain ⟨Ai_r2, ci_r2, hce_r2, hrw_r2⟩ := rd_row (i := i) h2 (by omega)
  refine load_one 7 (by kernel_rfl : atP _ _ _ 7 true = some (Op.load 44 (tmpO 23), 44, some 24, Rg.dr (bitL 10 379) (bitL 10 255) 2 2)) (n := 1) (by kernel_rfl) rfl ?_
  intro L w1 hs
  refine ⟨.v (.slice Ai_r2 ((xs)[i]'(by omega)).length ci_r2), cellH_ext (hs.old 0 rfl) hce_r2, ?_⟩
  clear hs
  refine gn 0 (Rg.dr (bitL 10 379) (bitL 10 255) 2 2) [kCd (bitL 10 891), KI.block 1, kCd (bitL 8 251), kLp (bitL 6 59), KI.block 0, kCd (bitL 3 7)] [(0, vS (some a_1) xs.length c1), (1, vS (some a_2) xs.length c2), (5, vI (↑i : Int)), (20, vS Ai_r1 xs[i].length ci_r1), (24, vS Ai_r2 xs[i].length ci_r2)] [] ?_
  refine cpk 48 [vS Ai_r1 xs[i].length ci_r1, vS Ai_r2 xs[i].length ci_r2] (some 25) (Rg.dr (bitL 10 379) (bitL 10 511) 1 10) (.one (.bo (true))) (fun L w1 hs => (eqByteS_ok (xs[i]) (Value.slice Ai_r1 xs[i].length ci_r1) (Value.slice Ai_r2 xs[i].length ci_r2) w1 (rdRow_ext (hs.old 0 rfl) hrw_r1) (rdRow_ext (hs.old 0 rfl) hrw_r2) (by exact sd_1 _ _))) ?_
  refine gn 0 Rg.no [kCd (bitL 10 891), KI.block 1, kCd (bitL 8 251), kLp (bitL 6 59), KI.block 0, kCd (bitL 3 7)] [(0, vS (some a_1) xs.length c1), (1, vS (some a_2) xs.length c2), (5, vI (↑i : Int)), (26, vB false)] [] ?_
  refine ltk 26 false ?_
  refine gn 0 Rg.no [kLp (bitL 6 59), KI.block 0, kCd (bitL 3 7)] [(0, vS (some a_1) xs.length c1), (1, vS (some a_2) xs.length c2), (5, vI (IntKind.i64.wrap ((↑i : Int) + 1)))] [] ?_
  rw [wrap_succ (by omega)]; exact ih (i + 1) (by omega) (by omega)
 ·intro hb2
  replace hb2 := of_decide_eq_false hb2
  refine gn 0 Rg.no [kCd (bitL 4 15)] [(4, vL true)] [] ?_
  refine rtk [vL true] ?_
  intro L w1 hs
  exact ⟨rfl, hs.out0⟩
theorem eqPage_ok (x : Pg) (cs1 cs2 : List Value) (w : World) (h1 : kPg.rd w.heap x cs1) (h2 : kPg.rd w.heap x cs2) (hz : zPg x ≤ 1048576) :
  Calls Tryz.prog 61 #[.agg cs1.toArray, .agg cs2.toArray] w fun e w' => e = .returned (.bool true) ∧ Below w.heap.size w w' := by
 obtain ⟨A1slots, c1slots, rfl, hr1slots⟩ := kPg_inv h1
 obtain ⟨A2slots, c2slots, rfl, hr2slots⟩ := kPg_inv h2
 have hzz : zPg x = zRow (fun l => l.length) x.slots := rfl
 refine enter (args := [.agg [.v (.int .i64 x.lsn), .v (.slice A1slots x.slots.length c1slots)], .agg [.v (.int .i64 x.lsn), .v (.slice A2slots x.slots.length c2slots)]]) Tryz.func61 (c := bodyOf Tryz.f61) rfl rfl (start_LOK _) (start_old w) ?_
 refine gn 2 Rg.no [kCd (bitL 3 5), KI.code [true, true]] [(2, vR 0 0), (3, vR 1 0), (9, vB (x.lsn != x.lsn))] [LB.mk [cI x.lsn, cS A1slots x.slots.length c1slots] 58, LB.mk [cI x.lsn, cS A2slots x.slots.length c2slots] 58] ?_
 refine spl 9 (x.lsn != x.lsn) ?_ ?_
 ·intro hb1
  replace hb1 := bne_iff_ne.1 hb1
  (exfalso; omega)
 ·intro hb1
  replace hb1 := bne_eq_false_iff_eq.1 hb1
  refine gn 0 (Rg.sq (bitL 4 3) 4) [kCd (bitL 4 11), kCd (bitL 3 7)] [(11, vS A1slots x.slots.length c1slots), (13, vS A2slots x.slots.length c2slots)] [] ?_
  refine cpk 92 [vS A1slots x.slots.length c1slots, vS A2slots x.slots.length c2slots] (some 14) (Rg.sq (bitL 4 3) 5) (.one (.bo (true))) (fun L w1 hs => (eqByteSS_ok (x.slots) (Value.slice A1slots x.slots.length c1slots) (Value.slice A2slots x.slots.length c2slots) w1 (rdRow_ext (hs.old 0 rfl) hr1slots) (rdRow_ext (hs.old 0 rfl) hr2slots) ‹_›)) ?_
  refine gn 0 Rg.no [kCd (bitL 4 11), kCd (bitL 3 7)] [(15, vB false)] [] ?_
  refine ltk 15 false ?_
  refine gn 0 Rg.no [kCd (bitL 4 15)] [(4, vL true)] [] ?_
  refine rtk [vL true] ?_
  intro L w1 hs
  exact ⟨rfl, hs.out0⟩
theorem eqPageS_ok (xs : List Pg) (v1 v2 : Value) (w : World) (h1 : rdRow kPg w.heap xs v1) (h2 : rdRow kPg w.heap xs v2) (hz : zRow zPg xs ≤ 1048576) :
  Calls Tryz.prog 33 #[v1, v2] w fun e w' => e = .returned (.bool true) ∧ Below w.heap.size w w' := by
 obtain ⟨A1, c1, rfl⟩ := rdRow_form h1
 obtain ⟨A2, c2, rfl⟩ := rdRow_form h2
 have hzz : zRow zPg xs = xs.length + (xs.map zPg).sum := rfl
 have sd_1 : ∀ (j : Nat) (h : j < xs.length), zPg xs[j] ≤ 1048576 := fun j h => by have := z_le zPg xs (List.getElem_mem h); omega
 refine enter (args := [.one (.v (.slice A1 xs.length c1)), .one (.v (.slice A2 xs.length c2))]) Tryz.func33 (c := bodyOf Tryz.f33) rfl rfl (start_LOK _) (start_old w) ?_
 have hzl : xs.length ≤ 1048576 := by omega
 refine gn 0 Rg.no [kCd (bitL 3 5), KI.code [true, true]] [(0, vS A1 xs.length c1), (1, vS A2 xs.length c2), (10, vB ((↑xs.length : Int) != (↑xs.length : Int)))] [] ?_
 refine spl 10 ((↑xs.length : Int) != (↑xs.length : Int)) ?_ ?_
 ·intro hb1
  replace hb1 := bne_iff_ne.1 hb1
  (exfalso; omega)
 intro hb1
 replace hb1 := bne_eq_false_iff_eq.1 hb1
 refine gn 0 Rg.no [kLp (bitL 6 59), KI.block 0, kCd (bitL 3 7)] [(0, vS A1 xs.length c1), (1, vS A2 xs.length c2), (5, vI 0)] [] ?_
 refine loop_at (ι := Nat) (fun i => [(5, .one (.v (.int .i64 i)))]) (fun _ => []) (fun i => [oldA w]) (fun i => i ≤ xs.length) (fun i => xs.length - i) 0 rfl rfl rfl (Nat.zero_le _) ?_
 intro i hi ih
 refine gn 0 Rg.no [kCd (bitL 8 187), kCd (bitL 7 123), kLp (bitL 6 59), KI.block 0, kCd (bitL 3 7)] [(0, vS A1 xs.length c1), (1, vS A2 xs.length c2), (5, vI (↑i : Int)), (14, vB (decide ((↑i : Int) < (↑xs.length : Int))))] [] ?_
 refine spl 14 (decide ((↑i : Int) < (↑xs.length : Int))) ?_ ?_
 ·intro hb2
  replace hb2 := of_decide_eq_true hb2
  refine gn 0 (Rg.dr (bitL 10 379) (bitL 10 51) 6 2) [kCd (bitL 10 891), KI.block 1, kCd (bitL 8 251), kLp (bitL 6 59), KI.block 0, kCd (bitL 3 7)] [(0, vS A1 xs.length c1), (1, vS A2 xs.length c2), (5, vI (↑i : Int)), (17, vS A1 xs.length c1), (18, vI (↑i : Int)), (21, vS A2 xs.length c2), (22, vI (↑i : Int))] [] ?_
  refine index_at 2 (by kernel_rfl : atP _ _ _ 2 false = some (Op.indexAddr 28 (tmpO 17) (tmpO 18), 0, some 19, Rg.dr (bitL 10 379) (bitL 10 55) 5 2)) (ni := i) (sz := 2) (by kernel_rfl) rfl rfl rfl (by omega) (fun L w1 hs => rd_some (i := i) (rdRow_ext (hs.old 0 rfl) h1) (by omega)) ?_
  intro a_1 ha_1
  cases ha_1
  refine gn 0 (Rg.dr (bitL 10 379) (bitL 10 55) 5 2) [kCd (bitL 10 891), KI.block 1, kCd (bitL 8 251), kLp (bitL 6 59), KI.block 0, kCd (bitL 3 7)] [(0, vS (some a_1) xs.length c1), (1, vS A2 xs.length c2), (5, vI (↑i : Int)), (19, vP (a_1.add (i * 2))), (21, vS A2 xs.length c2), (22, vI (↑i : Int))] [] ?_
  refine index_at 6 (by kernel_rfl : atP _ _ _ 6 false = some (Op.indexAddr 28 (tmpO 21) (tmpO 22), 0, some 23, Rg.dr (bitL 10 379) (bitL 10 119) 4 2)) (ni := i) (sz := 2) (by kernel_rfl) rfl rfl rfl (by omega) (fun L w1 hs => rd_some (i := i) (rdRow_ext (hs.old 0 rfl) h2) (by omega)) ?_
  intro a_2 ha_2
  cases ha_2
  refine gn 0 (Rg.dr (bitL 10 379) (bitL 10 119) 4 2) [kCd (bitL 10 891), KI.block 1, kCd (bitL 8 251), kLp (bitL 6 59), KI.block 0, kCd (bitL 3 7)] [(0, vS (some a_1) xs.length c1), (1, vS (some a_2) xs.length c2), (5, vI (↑i : Int)), (19, vP (a_1.add (i * 2))), (23, vP (a_2.add (i * 2)))] [] ?_
  obtain ⟨Aslots_el1, cslots_el1, hr1_el1, hc_el1⟩ := kPg_at (i := i) h1 (by omega)
  refine load_agg 3 (by kernel_rfl : atP _ _ _ 3 true = some (Op.load 58 (tmpO 19), 58, some 20, Rg.dr (bitL 10 379) (bitL 10 127) 3 2)) (n := 2) (by kernel_rfl) rfl ?_
  intro L w1 hs
  refine ⟨[.v (Value.int IntKind.i64 xs[i].lsn), .v (Value.slice Aslots_el1 xs[i].slots.length cslots_el1)], rfl, cells_at0 (cellsH_ext (hs.old 0 rfl) hc_el1) rfl, ?_⟩
  clear hs
  refine gn 0 (Rg.dr (bitL 10 379) (bitL 10 127) 3 2) [kCd (bitL 10 891), KI.block 1, kCd (bitL 8 251), kLp (bitL 6 59), KI.block 0, kCd (bitL 3 7)] [(0, vS (some a_1) xs.length c1), (1, vS (some a_2) xs.length c2), (5, vI (↑i : Int)), (20, SV.agg [cI xs[i].lsn, cS Aslots_el1 xs[i].slots.length cslots_el1]), (23, vP (a_2.add (i * 2)))] [] ?_
  obtain ⟨Aslots_el2, cslots_el2, hr1_el2, hc_el2⟩ := kPg_at (i := i) h2 (by omega)
  refine load_agg 7 (by kernel_rfl : atP _ _ _ 7 true = some (Op.load 58 (tmpO 23), 58, some 24, Rg.dr (bitL 10 379) (bitL 10 255) 2 2)) (n := 2) (by kernel_rfl) rfl ?_
  intro L w1 hs
  refine ⟨[.v (Value.int IntKind.i64 xs[i].lsn), .v (Value.slice Aslots_el2 xs[i].slots.length cslots_el2)], rfl, cells_at0 (cellsH_ext (hs.old 0 rfl) hc_el2) rfl, ?_⟩
  clear hs
  refine gn 0 (Rg.dr (bitL 10 379) (bitL 10 255) 2 2) [kCd (bitL 10 891), KI.block 1, kCd (bitL 8 251), kLp (bitL 6 59), KI.block 0, kCd (bitL 3 7)] [(0, vS (some a_1) xs.length c1), (1, vS (some a_2) xs.length c2), (5, vI (↑i : Int)), (20, SV.agg [cI xs[i].lsn, cS Aslots_el1 xs[i].slots.length cslots_el1]), (24, SV.agg [cI xs[i].lsn, cS Aslots_el2 xs[i].slots.length cslots_el2])] [] ?_
  refine cpk 61 [SV.agg [cI xs[i].lsn, cS Aslots_el1 xs[i].slots.length cslots_el1], SV.agg [cI xs[i].lsn, cS Aslots_el2 xs[i].slots.length cslots_el2]] (some 25) (Rg.dr (bitL 10 379) (bitL 10 511) 1 10) (.one (.bo (true))) (fun L w1 hs => (eqPage_ok (xs[i]) ([Value.int IntKind.i64 xs[i].lsn, Value.slice Aslots_el1 xs[i].slots.length cslots_el1]) ([Value.int IntKind.i64 xs[i].lsn, Value.slice Aslots_el2 xs[i].slots.length cslots_el2]) w1 (kPg_mk (rdRow_ext (hs.old 0 rfl) hr1_el1)) (kPg_mk (rdRow_ext (hs.old 0 rfl) hr1_el2)) (by exact sd_1 _ _))) ?_
  refine gn 0 Rg.no [kCd (bitL 10 891), KI.block 1, kCd (bitL 8 251), kLp (bitL 6 59), KI.block 0, kCd (bitL 3 7)] [(0, vS (some a_1) xs.length c1), (1, vS (some a_2) xs.length c2), (5, vI (↑i : Int)), (26, vB false)] [] ?_
  refine ltk 26 false ?_
  refine gn 0 Rg.no [kLp (bitL 6 59), KI.block 0, kCd (bitL 3 7)] [(0, vS (some a_1) xs.length c1), (1, vS (some a_2) xs.length c2), (5, vI (IntKind.i64.wrap ((↑i : Int) + 1)))] [] ?_
  rw [wrap_succ (by omega)]; exact ih (i + 1) (by omega) (by omega)
 ·intro hb2
  replace hb2 := of_decide_eq_false hb2
  refine gn 0 Rg.no [kCd (bitL 4 15)] [(4, vL true)] [] ?_
  refine rtk [vL true] ?_
  intro L w1 hs
  exact ⟨rfl, hs.out0⟩
theorem eqHeap_ok (x : He) (cs1 cs2 : List Value) (w : World) (h1 : kHe.rd w.heap x cs1) (h2 : kHe.rd w.heap x cs2) (hz : zHe x ≤ 1048576) :
  Calls Tryz.prog 11 #[.agg cs1.toArray, .agg cs2.toArray] w fun e w' => e = .returned (.bool true) ∧ Below w.heap.size w w' := by
 obtain ⟨A1pages, c1pages, rfl, hr1pages⟩ := kHe_inv h1
 obtain ⟨A2pages, c2pages, rfl, hr2pages⟩ := kHe_inv h2
 have hzz : zHe x = zRow zPg x.pages := rfl
 refine enter (args := [.agg [.v (.slice A1pages x.pages.length c1pages)], .agg [.v (.slice A2pages x.pages.length c2pages)]]) Tryz.func11 (c := bodyOf Tryz.f11) rfl rfl (start_LOK _) (start_old w) ?_
 refine gn 0 (Rg.sq (bitL 3 1) 4) [kCd (bitL 3 5), KI.code [true, true]] [(6, vS A1pages x.pages.length c1pages), (8, vS A2pages x.pages.length c2pages)] [] ?_
 refine cpk 33 [vS A1pages x.pages.length c1pages, vS A2pages x.pages.length c2pages] (some 9) (Rg.sq (bitL 3 1) 5) (.one (.bo (true))) (fun L w1 hs => (eqPageS_ok (x.pages) (Value.slice A1pages x.pages.length c1pages) (Value.slice A2pages x.pages.length c2pages) w1 (rdRow_ext (hs.old 0 rfl) hr1pages) (rdRow_ext (hs.old 0 rfl) hr2pages) ‹_›)) ?_
 refine gn 0 Rg.no [kCd (bitL 3 5), KI.code [true, true]] [(10, vB false)] [] ?_
 refine ltk 10 false ?_
 refine gn 0 Rg.no [kCd (bitL 3 7)] [(4, vL true)] [] ?_
 refine rtk [vL true] ?_
 intro L w1 hs
 exact ⟨rfl, hs.out0⟩
theorem kPg_own {h : Hp} {S : Nat → Prop} {x : Pg} {Aslots : Option Addr} {cslots : Nat} (ho : sepL [rowA 44 (kRow 5 kU8) x.slots (.slice Aslots x.slots.length cslots)] h S) : kPg.ow h S x [.int .i64 x.lsn, .slice Aslots x.slots.length cslots] := by
 obtain ⟨T0, U0, t0, u0, d0, o0, p0⟩ := ho
 have e0 := rowA_holds.1 o0
 have s0 : ∀ b, T0 b → S b := fun b tb => t0 b tb
 refine kPg.mono (S := T0) (by grind) ?_
 exact ⟨[.int .i64 x.lsn], [.slice Aslots x.slots.length cslots], rfl, (fun _ => False), T0, by grind, by grind, by grind, rfl, ⟨_, rfl, e0⟩⟩
theorem kPg_zero {h : Hp} : kPg.ow h (fun _ => False) ⟨0, []⟩ [.int .i64 0, .slice none 0 0] :=
 kPg_own (x := ⟨0, []⟩) ⟨fun _ => False, fun _ => False, fun _ h => h, fun _ h => h, fun _ h => h.elim, rowA_nil, trivial⟩
theorem toByteSS_ok (xs : List (List Int)) (vxs : Value) (w : World) (hxs : rdRow (kRow 5 kU8) w.heap xs vxs) (hz : zRow (fun l => l.length) xs ≤ 1048576) :
  Calls Tryz.prog 84 #[vxs] w fun e w' => ∃ (Ao : Option Addr) (co : Nat), e = .returned (.slice Ao xs.length co) ∧ Fresh w w' [rowA 44 (kRow 5 kU8) xs (.slice Ao xs.length co)] := by
 obtain ⟨Axs, cxs, rfl⟩ := rdRow_form hxs
 have rows_on : True := trivial
 refine enter (args := [.one (.v (.slice Axs xs.length cxs))]) Tryz.func84 (c := bodyOf Tryz.f84) rfl rfl (start_LOK _) (start_old w) ?_
 have hzz : zRow (fun l => l.length) xs = xs.length + (xs.map (fun l => l.length)).sum := rfl
 have sd_1 : ∀ (j : Nat) (h : j < xs.length), xs[j].length ≤ 1048576 := fun j h => by have := z_le (fun l => l.length) xs (List.getElem_mem h); omega
 have hzl : xs.length ≤ 1048576 := by omega
 refine gn 0 (Rg.sq [true, false] 2) [KI.code [true, true]] [(0, vS Axs xs.length cxs), (6, vI (↑xs.length : Int))] [] ?_
 refine make_at (d := (kRow 5 kU8)) xs.length ([] : List Int) (zc := [.slice none 0 0]) (by_ := 24) (e := 44) true (by kernel_rfl : atB _ _ _ true = some (Op.makeSlice 56 (tmpO 6) (tmpO 6), 56, some 7, Rg.sq [true, false] 3)) (by kernel_rfl) (by kernel_rfl) rfl rfl rfl rfl (by omega) (by simp [maxLen]; omega) (fun _ => ⟨_, rfl, owRow_nil⟩) ?_
 intro g
 refine gn 0 Rg.no [kLp (bitL 6 59), KI.block 0, kCd (bitL 3 7)] [(0, vS Axs xs.length cxs), (3, vS (some (Addr.mk g 0 none)) xs.length xs.length), (4, vI 0)] [] ?_
 refine loop_at (ι := Nat) (fun i => [(4, .one (.v (.int .i64 i)))]) (fun _ => []) (fun i => [rowA 44 (kRow 5 kU8) (xs.take i ++ List.replicate (xs.length - i) ([] : List Int)) (.slice (some ⟨g, 0, none⟩) xs.length xs.length), oldA w]) (fun i => i ≤ xs.length) (fun i => xs.length - i) 0 rfl rfl (by simp) (Nat.zero_le _) ?_
 intro i hi ih
 have hfl : (xs.take i ++ List.replicate (xs.length - i) ([] : List Int)).length = xs.length := by simp; omega
 refine gn 0 Rg.no [kCd (bitL 8 187), kCd (bitL 7 123), kLp (bitL 6 59), KI.block 0, kCd (bitL 3 7)] [(0, vS Axs xs.length cxs), (3, vS (some (Addr.mk g 0 none)) xs.length xs.length), (4, vI (↑i : Int)), (11, vB (decide ((↑i : Int) < (↑xs.length : Int))))] [] ?_
 refine spl 11 (decide ((↑i : Int) < (↑xs.length : Int))) ?_ ?_
 rotate_left
 ·intro hb1
  replace hb1 := of_decide_eq_false hb1
  refine gn 0 Rg.no [kCd (bitL 4 15)] [(2, vS (some (Addr.mk g 0 none)) xs.length xs.length)] [] ?_
  refine rtk [vS (some (Addr.mk g 0 none)) xs.length xs.length] ?_
  intro L w1 hs
  have e1 : i = xs.length := (by omega); subst e1; simp only [List.take_length, Nat.sub_self, List.replicate_zero, List.append_nil] at hs; exact ⟨_, _, rfl, hs.out (As := [_])⟩
 intro hb1
 replace hb1 := of_decide_eq_true hb1
 refine gn 0 (Rg.sq (bitL 9 379) 4) [KI.block 1, kCd (bitL 8 251), kLp (bitL 6 59), KI.block 0, kCd (bitL 3 7)] [(0, vS Axs xs.length cxs), (3, vS (some (Addr.mk g 0 none)) xs.length xs.length), (4, vI (↑i : Int)), (14, vS (some (Addr.mk g 0 none)) xs.length xs.length), (15, vI (↑i : Int)), (16, vS Axs xs.length cxs), (17, vI (↑i : Int))] [] ?_
 refine index_at 4 (by kernel_rfl : atP _ _ _ 4 false = some (Op.indexAddr 56 (tmpO 16) (tmpO 17), 0, some 18, Rg.sq (bitL 9 379) 5)) (ni := i) (sz := 1) (by kernel_rfl) rfl rfl rfl (by omega) (fun L w1 hs => rd_some (i := i) (rdRow_ext (hs.old 1 rfl) hxs) (by omega)) ?_
 intro a_1 ha_1
 cases ha_1
 refine gn 0 (Rg.sq (bitL 9 379) 5) [KI.block 1, kCd (bitL 8 251), kLp (bitL 6 59), KI.block 0, kCd (bitL 3 7)] [(0, vS (some a_1) xs.length cxs), (3, vS (some (Addr.mk g 0 none)) xs.length xs.length), (4, vI (↑i : Int)), (14, vS (some (Addr.mk g 0 none)) xs.length xs.length), (15, vI (↑i : Int)), (18, vP (a_1.add (i * 1)))] [] ?_
 obtain ⟨Ai_r1, ci_r1, hce_r1, hrw_r1⟩ := rd_row (i := i) hxs (by omega)
 refine load_one 5 (by kernel_rfl : atP _ _ _ 5 true = some (Op.load 44 (tmpO 18), 44, some 19, Rg.sq (bitL 9 379) 6)) (n := 1) (by kernel_rfl) rfl ?_
 intro L w1 hs
 refine ⟨.v (.slice Ai_r1 ((xs)[i]'(by omega)).length ci_r1), cellH_ext (hs.old 1 rfl) hce_r1, ?_⟩
 clear hs
 refine gn 0 (Rg.sq (bitL 9 379) 6) [KI.block 1, kCd (bitL 8 251), kLp (bitL 6 59), KI.block 0, kCd (bitL 3 7)] [(0, vS (some a_1) xs.length cxs), (3, vS (some (Addr.mk g 0 none)) xs.length xs.length), (4, vI (↑i : Int)), (14, vS (some (Addr.mk g 0 none)) xs.length xs.length), (15, vI (↑i : Int)), (19, vS Ai_r1 xs[i].length ci_r1)] [] ?_
 refine cak 43 [vS Ai_r1 xs[i].length ci_r1] (some 20) (Rg.sq (bitL 9 379) 7) (fun L w1 hs => (toByteS_ok (xs[i]) (Value.slice Ai_r1 xs[i].length ci_r1) w1 (rdRow_ext (hs.old 1 rfl) hrw_r1) (by exact sd_1 _ _)).mono ?_)
 rintro e_ w2_ ⟨Ao_1, co_1, rfl, hf_⟩
 refine ⟨.one (.v (Value.slice Ao_1 xs[i].length co_1)), _, _, rfl, fun _ => hf_.1.block, hs.fresh hf_, ?_⟩
 clear hs hf_
 refine gn 0 (Rg.sq (bitL 9 379) 7) [KI.block 1, kCd (bitL 8 251), kLp (bitL 6 59), KI.block 0, kCd (bitL 3 7)] [(0, vS (some a_1) xs.length cxs), (3, vS (some (Addr.mk g 0 none)) xs.length xs.length), (4, vI (↑i : Int)), (14, vS (some (Addr.mk g 0 none)) xs.length xs.length), (15, vI (↑i : Int)), (20, vS Ao_1 xs[i].length co_1)] [] ?_
 refine index_at 7 (by kernel_rfl : atP _ _ _ 7 false = some (Op.indexAddr 56 (tmpO 14) (tmpO 15), 0, some 21, Rg.sq (bitL 9 379) 8)) (ni := i) (sz := 1) (by kernel_rfl) rfl rfl rfl (by omega) (fun L w1 hs => rd_some (i := i) (hs.rd 1 rfl) (by omega)) ?_
 intro a_2 ha_2
 cases ha_2
 refine gn 0 (Rg.sq (bitL 9 379) 8) [KI.block 1, kCd (bitL 8 251), kLp (bitL 6 59), KI.block 0, kCd (bitL 3 7)] [(0, vS (some a_1) xs.length cxs), (3, vS (some (Addr.mk g 0 none)) xs.length xs.length), (4, vI (↑i : Int)), (20, vS Ao_1 xs[i].length co_1), (21, vP ((Addr.mk g 0 none).add (i * 1)))] [] ?_
 have hlt : i < xs.length := by omega
 refine h_bring 1 rfl ?_
 refine store_el (A := [_]) (d := (kRow 5 kU8)) (y := xs[i]) (by kernel_rfl : atB _ _ _ false = some (Op.store 44 (tmpO 21) (tmpO 20), 0, none, Rg.sq (bitL 9 379) 9)) (by kernel_rfl) rfl rfl rfl rfl rfl (by simp; omega) (fun h S hA => row_el hA) ?_
 refine gn 0 Rg.no [kLp (bitL 6 59), KI.block 0, kCd (bitL 3 7)] [(0, vS (some a_1) xs.length cxs), (3, vS (some (Addr.mk g 0 none)) xs.length xs.length), (4, vI (IntKind.i64.wrap ((↑i : Int) + 1)))] [] ?_
 rw [wrap_succ (by omega), set_fill xs ([] : List Int) hlt]
 exact ih (i + 1) hlt (by omega)
theorem toPage_ok (x : Pg) (csx : List Value) (w : World) (hx : kPg.rd w.heap x csx) (hz : zPg x ≤ 1048576) :
  Calls Tryz.prog 55 #[.agg csx.toArray] w fun e w' => ∃ (Aoslots : Option Addr) (coslots : Nat), e = .returned (.agg #[.int .i64 x.lsn, .slice Aoslots x.slots.length coslots]) ∧ Fresh w w' [rowA 44 (kRow 5 kU8) x.slots (.slice Aoslots x.slots.length coslots)] := by
 obtain ⟨Axslots, cxslots, rfl, hrxslots⟩ := kPg_inv hx
 refine enter (args := [.agg [.v (.int .i64 x.lsn), .v (.slice Axslots x.slots.length cxslots)]]) Tryz.func55 (c := bodyOf Tryz.f55) rfl rfl (start_LOK _) (start_old w) ?_
 have hzz : zPg x = zRow (fun l => l.length) x.slots := rfl
 refine gn 3 (Rg.sq (bitL 4 7) 2) [kCd (bitL 4 15)] [(2, vR 1 0), (3, vR 2 0), (8, vS Axslots x.slots.length cxslots)] [LB.mk [cI x.lsn, cS Axslots x.slots.length cxslots] 79, LB.mk [cI 0, cS none 0 0] 58, LB.mk [cI x.lsn, cS none 0 0] 58] ?_
 refine cak 84 [vS Axslots x.slots.length cxslots] (some 9) (Rg.sq (bitL 4 7) 3) (fun L w1 hs => (toByteSS_ok (x.slots) (Value.slice Axslots x.slots.length cxslots) w1 (rdRow_ext (hs.old 0 rfl) hrxslots) ‹_›).mono ?_)
 rintro e_ w2_ ⟨Ao_1, co_1, rfl, hf_⟩
 refine ⟨.one (.v (Value.slice Ao_1 x.slots.length co_1)), _, _, rfl, fun _ => hf_.1.block, hs.fresh hf_, ?_⟩
 clear hs hf_
 refine gn 2 Rg.no [kCd (bitL 5 31)] [(2, vR 1 0)] [LB.mk [cI x.lsn, cS Axslots x.slots.length cxslots] 79, LB.mk [cI x.lsn, cS Ao_1 x.slots.length co_1] 58] ?_
 refine rtk [SV.agg [cI x.lsn, cS Ao_1 x.slots.length co_1]] ?_
 intro L w1 hs
 exact ⟨_, _, rfl, hs.out (As := [_])⟩
theorem toPageS_ok (xs : List Pg) (vxs : Value) (w : World) (hxs : rdRow kPg w.heap xs vxs) (hz : zRow zPg xs ≤ 1048576) :
  Calls Tryz.prog 29 #[vxs] w fun e w' => ∃ (Ao : Option Addr) (co : Nat), e = .returned (.slice Ao xs.length co) ∧ Fresh w w' [rowA 58 kPg xs (.slice Ao xs.length co)] := by
 obtain ⟨Axs, cxs, rfl⟩ := rdRow_form hxs
 refine enter (args := [.one (.v (.slice Axs xs.length cxs))]) Tryz.func29 (c := bodyOf Tryz.f29) rfl rfl (start_LOK _) (start_old w) ?_
 have hzz : zRow zPg xs = xs.length + (xs.map zPg).sum := rfl
 have sd_1 : ∀ (j : Nat) (h : j < xs.length), zPg xs[j] ≤ 1048576 := fun j h => by have := z_le zPg xs (List.getElem_mem h); omega
 have hzl : xs.length ≤ 1048576 := by omega
 refine gn 0 (Rg.sq [true, false] 2) [KI.code [true, true]] [(0, vS Axs xs.length cxs), (6, vI (↑xs.length : Int))] [] ?_
 refine make_at (d := kPg) xs.length (⟨0, []⟩ : Pg) (zc := [.int .i64 0, .slice none 0 0]) (by_ := 32) (e := 58) true (by kernel_rfl : atB _ _ _ true = some (Op.makeSlice 28 (tmpO 6) (tmpO 6), 28, some 7, Rg.sq [true, false] 3)) (by kernel_rfl) (by kernel_rfl) rfl rfl rfl rfl (by omega) (by simp [maxLen]; omega) (fun _ => kPg_zero) ?_
 intro g
 refine gn 0 Rg.no [kLp (bitL 6 59), KI.block 0, kCd (bitL 3 7)] [(0, vS Axs xs.length cxs), (3, vS (some (Addr.mk g 0 none)) xs.length xs.length), (4, vI 0)] [] ?_
 refine loop_at (ι := Nat) (fun i => [(4, .one (.v (.int .i64 i)))]) (fun _ => []) (fun i => [rowA 58 kPg (xs.take i ++ List.replicate (xs.length - i) (⟨0, []⟩ : Pg)) (.slice (some ⟨g, 0, none⟩) xs.length xs.length), oldA w]) (fun i => i ≤ xs.length) (fun i => xs.length - i) 0 rfl rfl (by simp) (Nat.zero_le _) ?_
 intro i hi ih
 have hfl : (xs.take i ++ List.replicate (xs.length - i) (⟨0, []⟩ : Pg)).length = xs.length := by simp; omega
 refine gn 0 Rg.no [kCd (bitL 8 187), kCd (bitL 7 123), kLp (bitL 6 59), KI.block 0, kCd (bitL 3 7)] [(0, vS Axs xs.length cxs), (3, vS (some (Addr.mk g 0 none)) xs.length xs.length), (4, vI (↑i : Int)), (11, vB (decide ((↑i : Int) < (↑xs.length : Int))))] [] ?_
 refine spl 11 (decide ((↑i : Int) < (↑xs.length : Int))) ?_ ?_
 rotate_left
 ·intro hb1
  replace hb1 := of_decide_eq_false hb1
  refine gn 0 Rg.no [kCd (bitL 4 15)] [(2, vS (some (Addr.mk g 0 none)) xs.length xs.length)] [] ?_
  refine rtk [vS (some (Addr.mk g 0 none)) xs.length xs.length] ?_
  intro L w1 hs
  have e1 : i = xs.length := (by omega); subst e1; simp only [List.take_length, Nat.sub_self, List.replicate_zero, List.append_nil] at hs; exact ⟨_, _, rfl, hs.out (As := [_])⟩
 intro hb1
 replace hb1 := of_decide_eq_true hb1
 refine gn 0 (Rg.sq (bitL 9 379) 4) [KI.block 1, kCd (bitL 8 251), kLp (bitL 6 59), KI.block 0, kCd (bitL 3 7)] [(0, vS Axs xs.length cxs), (3, vS (some (Addr.mk g 0 none)) xs.length xs.length), (4, vI (↑i : Int)), (14, vS (some (Addr.mk g 0 none)) xs.length xs.length), (15, vI (↑i : Int)), (16, vS Axs xs.length cxs), (17, vI (↑i : Int))] [] ?_
 refine index_at 4 (by kernel_rfl : atP _ _ _ 4 false = some (Op.indexAddr 22 (tmpO 16) (tmpO 17), 0, some 18, Rg.sq (bitL 9 379) 5)) (ni := i) (sz := 2) (by kernel_rfl) rfl rfl rfl (by omega) (fun L w1 hs => rd_some (i := i) (rdRow_ext (hs.old 1 rfl) hxs) (by omega)) ?_
 intro a_1 ha_1
 cases ha_1
 refine gn 0 (Rg.sq (bitL 9 379) 5) [KI.block 1, kCd (bitL 8 251), kLp (bitL 6 59), KI.block 0, kCd (bitL 3 7)] [(0, vS (some a_1) xs.length cxs), (3, vS (some (Addr.mk g 0 none)) xs.length xs.length), (4, vI (↑i : Int)), (14, vS (some (Addr.mk g 0 none)) xs.length xs.length), (15, vI (↑i : Int)), (18, vP (a_1.add (i * 2)))] [] ?_
 obtain ⟨Aslots_el1, cslots_el1, hr1_el1, hc_el1⟩ := kPg_at (i := i) hxs (by omega)
 refine load_agg 5 (by kernel_rfl : atP _ _ _ 5 true = some (Op.load 79 (tmpO 18), 79, some 19, Rg.sq (bitL 9 379) 6)) (n := 2) (by kernel_rfl) rfl ?_
 intro L w1 hs
 refine ⟨[.v (Value.int IntKind.i64 xs[i].lsn), .v (Value.slice Aslots_el1 xs[i].slots.length cslots_el1)], rfl, cells_at0 (cellsH_ext (hs.old 1 rfl) hc_el1) rfl, ?_⟩
 clear hs
 refine gn 0 (Rg.sq (bitL 9 379) 6) [KI.block 1, kCd (bitL 8 251), kLp (bitL 6 59), KI.block 0, kCd (bitL 3 7)] [(0, vS (some a_1) xs.length cxs), (3, vS (some (Addr.mk g 0 none)) xs.length xs.length), (4, vI (↑i : Int)), (14, vS (some (Addr.mk g 0 none)) xs.length xs.length), (15, vI (↑i : Int)), (19, SV.agg [cI xs[i].lsn, cS Aslots_el1 xs[i].slots.length cslots_el1])] [] ?_
 refine cak 55 [SV.agg [cI xs[i].lsn, cS Aslots_el1 xs[i].slots.length cslots_el1]] (some 20) (Rg.sq (bitL 9 379) 7) (fun L w1 hs => (toPage_ok (xs[i]) ([Value.int IntKind.i64 xs[i].lsn, Value.slice Aslots_el1 xs[i].slots.length cslots_el1]) w1 (kPg_mk (rdRow_ext (hs.old 1 rfl) hr1_el1)) (by exact sd_1 _ _)).mono ?_)
 rintro e_ w2_ ⟨Aoslots_1, coslots_1, rfl, hf_⟩
 refine ⟨.agg [.v (Value.int IntKind.i64 xs[i].lsn), .v (Value.slice Aoslots_1 xs[i].slots.length coslots_1)], _, _, rfl, fun _ => hf_.1.block, hs.fresh hf_, ?_⟩
 clear hs hf_
 refine gn 0 (Rg.sq (bitL 9 379) 7) [KI.block 1, kCd (bitL 8 251), kLp (bitL 6 59), KI.block 0, kCd (bitL 3 7)] [(0, vS (some a_1) xs.length cxs), (3, vS (some (Addr.mk g 0 none)) xs.length xs.length), (4, vI (↑i : Int)), (14, vS (some (Addr.mk g 0 none)) xs.length xs.length), (15, vI (↑i : Int)), (20, SV.agg [cI xs[i].lsn, cS Aoslots_1 xs[i].slots.length coslots_1])] [] ?_
 refine index_at 7 (by kernel_rfl : atP _ _ _ 7 false = some (Op.indexAddr 28 (tmpO 14) (tmpO 15), 0, some 21, Rg.sq (bitL 9 379) 8)) (ni := i) (sz := 2) (by kernel_rfl) rfl rfl rfl (by omega) (fun L w1 hs => rd_some (i := i) (hs.rd 1 rfl) (by omega)) ?_
 intro a_2 ha_2
 cases ha_2
 refine gn 0 (Rg.sq (bitL 9 379) 8) [KI.block 1, kCd (bitL 8 251), kLp (bitL 6 59), KI.block 0, kCd (bitL 3 7)] [(0, vS (some a_1) xs.length cxs), (3, vS (some (Addr.mk g 0 none)) xs.length xs.length), (4, vI (↑i : Int)), (20, SV.agg [cI xs[i].lsn, cS Aoslots_1 xs[i].slots.length coslots_1]), (21, vP ((Addr.mk g 0 none).add (i * 2)))] [] ?_
 have hlt : i < xs.length := by omega
 refine h_bring 1 rfl ?_
 refine store_el (A := [_]) (d := kPg) (y := xs[i]) (by kernel_rfl : atB _ _ _ false = some (Op.store 58 (tmpO 21) (tmpO 20), 0, none, Rg.sq (bitL 9 379) 9)) (by kernel_rfl) rfl rfl rfl rfl rfl (by simp; omega) (fun h S hA => kPg_own  hA) ?_
 refine gn 0 Rg.no [kLp (bitL 6 59), KI.block 0, kCd (bitL 3 7)] [(0, vS (some a_1) xs.length cxs), (3, vS (some (Addr.mk g 0 none)) xs.length xs.length), (4, vI (IntKind.i64.wrap ((↑i : Int) + 1)))] [] ?_
 rw [wrap_succ (by omega), set_fill xs (⟨0, []⟩ : Pg) hlt]
 exact ih (i + 1) hlt (by omega)
theorem toHeap_ok (x : He) (csx : List Value) (w : World) (hx : kHe.rd w.heap x csx) (hz : zHe x ≤ 1048576) :
  Calls Tryz.prog 8 #[.agg csx.toArray] w fun e w' => ∃ (Aopages : Option Addr) (copages : Nat), e = .returned (.agg #[.slice Aopages x.pages.length copages]) ∧ Fresh w w' [rowA 58 kPg x.pages (.slice Aopages x.pages.length copages)] := by
 obtain ⟨Axpages, cxpages, rfl, hrxpages⟩ := kHe_inv hx
 refine enter (args := [.agg [.v (.slice Axpages x.pages.length cxpages)]]) Tryz.func8 (c := bodyOf Tryz.f8) rfl rfl (start_LOK _) (start_old w) ?_
 have hzz : zHe x = zRow zPg x.pages := rfl
 refine gn 3 (Rg.sq (bitL 3 3) 2) [kCd (bitL 3 7)] [(2, vR 1 0), (3, vR 2 0), (5, vS Axpages x.pages.length cxpages)] [LB.mk [cS Axpages x.pages.length cxpages] 24, LB.mk [cS none 0 0] 30, LB.mk [cS none 0 0] 30] ?_
 refine cak 29 [vS Axpages x.pages.length cxpages] (some 6) (Rg.sq (bitL 3 3) 3) (fun L w1 hs => (toPageS_ok (x.pages) (Value.slice Axpages x.pages.length cxpages) w1 (rdRow_ext (hs.old 0 rfl) hrxpages) ‹_›).mono ?_)
 rintro e_ w2_ ⟨Ao_1, co_1, rfl, hf_⟩
 refine ⟨.one (.v (Value.slice Ao_1 x.pages.length co_1)), _, _, rfl, fun _ => hf_.1.block, hs.fresh hf_, ?_⟩
 clear hs hf_
 refine gn 2 Rg.no [kCd (bitL 4 15)] [(2, vR 1 0)] [LB.mk [cS Axpages x.pages.length cxpages] 24, LB.mk [cS Ao_1 x.pages.length co_1] 30] ?_
 refine rtk [SV.agg [cS Ao_1 x.pages.length co_1]] ?_
 intro L w1 hs
 exact ⟨_, _, rfl, hs.out (As := [_])⟩
end Go.Proofs.YtgleoebogikooaaGreat.Dk
