/- Walks of functions of the program: what each call returns and what it leaves in memory. Conditions: those that each theorem names. -/
import Derived.Test.YtjbbakckckihnaaE4
namespace Go.Proofs.Ytjbbakckckihnaa.Dk
set_option linter.unusedVariables false
set_option linter.unusedSimpArgs false
open Go.Proofs.Ytjbbakckckihnaa.Sx Go.Proofs Go.RowKit
set_option maxRecDepth 100000
theorem okD_iff {xs : List (List Int)} {ws : List (Int × List Int)} {f : Int} : okD xs ws f = true ↔ (1 ≤ (xs.length : Int) ∧ (xs.length : Int) ≤ 512 ∧ (ws.length : Int) ≤ 600 ∧ -1 ≤ f) ∧ (∀ x ∈ xs, x.length = 64) ∧ ∀ y ∈ ws, 0 ≤ y.1 ∧ y.1 < (xs.length : Int) ∧ y.2.length = 64 := by
  unfold okD okS okW
  simp only [Bool.and_eq_true, decide_eq_true_eq, List.all_eq_true, beq_iff_eq]
  constructor
  · rintro ⟨⟨⟨⟨⟨h1, h2⟩, h3⟩, h4⟩, h5⟩, h6⟩
    exact ⟨⟨h1, h2, h3, h4⟩, fun x hx => by have := h5 x hx; omega, fun y hy => by have := h6 y hy; omega⟩
  · rintro ⟨⟨h1, h2, h3, h4⟩, h5, h6⟩
    exact ⟨⟨⟨⟨⟨h1, h2⟩, h3⟩, h4⟩, fun x hx => by have := h5 x hx; omega⟩, fun y hy => by have := h6 y hy; omega⟩
theorem specDiskOk_ok (xs : List (List Int)) (ws : List (Int × List Int)) (f : Int) (dn : Bool) (A : Option Addr) (c : Nat) (A1 : Option Addr) (c1 : Nat) (w : World) (h : rdRow kB w.heap xs (.slice A xs.length c)) (h2 : rdRow kW w.heap ws (.slice A1 ws.length c1)) (hl : xs.length ≤ 1048576) (hl3 : ws.length ≤ 1048576) :
    Calls Try.prog 32 #[.agg #[.slice A xs.length c, .slice A1 ws.length c1, .int .i64 f, .bool dn]] w fun e w' => e = .returned (.bool (okD xs ws f)) ∧ Below w.heap.size w w' := by
  refine enter (args := [.agg [.v (.slice A xs.length c), .v (.slice A1 ws.length c1), .v (.int .i64 f), .bo dn]]) Try.func32 (c := bodyOf Try.f32) rfl rfl (start_LOK _) (start_old w) ?_
  refine go mixed 2000 [1, 10] 1 (St.mk (Rg.sq [true, false, false] 5) [KI.code [true, false, true], KI.code [true, true]] [(1, SV.one (SC.ptr 0 0)), (10, SV.one (SC.bo (decide ((↑xs.length : Int) < 1))))] [LB.mk [SC.v (Value.slice A xs.length c), SC.v (Value.slice A1 ws.length c1), SC.v (Value.int IntKind.i64 f), SC.bo dn] 29]) (by kernel_rfl) (by kernel_rfl) (by kernel_rfl) ?_
  refine split_at 10 (b := decide ((↑xs.length : Int) < 1)) (by kernel_rfl) (by kernel_rfl) ?_ ?_
  · intro h1
    have hk : okD xs ws f = false := Bool.eq_false_iff.2 fun hk => by
      obtain ⟨⟨k1, k2, k3, k4⟩, k5, k6⟩ := okD_iff.1 hk
      simp only [decide_eq_true_eq, bne_iff_ne] at h1
      omega
    refine go mixed 2000 [2] 0 (St.mk Rg.no [KI.code [true, false, true, false, true], KI.code [true, true]] [(2, SV.one (SC.v (Value.bool false)))] []) (by kernel_rfl) (by kernel_rfl) (by kernel_rfl) ?_
    refine ret_ok (vs := [SV.one (SC.v (Value.bool false))]) (by kernel_rfl) ?_
    intro L w1 hs
    exact ⟨by rw [hk]; rfl, hs.out0⟩
  intro h1
  simp only [decide_eq_false_iff_not] at h1
  have f1 := h1
  clear h1
  refine go mixed 2000 [1, 16] 1 (St.mk (Rg.sq [true, false, false] 11) [KI.code [true, false, true], KI.code [true, true]] [(1, SV.one (SC.ptr 0 0)), (16, SV.one (SC.bo (decide ((↑xs.length : Int) > 512))))] [LB.mk [SC.v (Value.slice A xs.length c), SC.v (Value.slice A1 ws.length c1), SC.v (Value.int IntKind.i64 f), SC.bo dn] 29]) (by kernel_rfl) (by kernel_rfl) (by kernel_rfl) ?_
  refine split_at 16 (b := decide ((↑xs.length : Int) > 512)) (by kernel_rfl) (by kernel_rfl) ?_ ?_
  · intro h1
    have hk : okD xs ws f = false := Bool.eq_false_iff.2 fun hk => by
      obtain ⟨⟨k1, k2, k3, k4⟩, k5, k6⟩ := okD_iff.1 hk
      simp only [decide_eq_true_eq, bne_iff_ne] at h1
      omega
    refine go mixed 2000 [2] 0 (St.mk Rg.no [KI.code [true, false, true, false, true], KI.code [true, true]] [(2, SV.one (SC.v (Value.bool false)))] []) (by kernel_rfl) (by kernel_rfl) (by kernel_rfl) ?_
    refine ret_ok (vs := [SV.one (SC.v (Value.bool false))]) (by kernel_rfl) ?_
    intro L w1 hs
    exact ⟨by rw [hk]; rfl, hs.out0⟩
  intro h1
  simp only [decide_eq_false_iff_not] at h1
  have f2 := h1
  clear h1
  refine go mixed 2000 [1, 22] 1 (St.mk (Rg.sq [true, false, false] 17) [KI.code [true, false, true], KI.code [true, true]] [(1, SV.one (SC.ptr 0 0)), (22, SV.one (SC.bo (decide ((↑ws.length : Int) > 600))))] [LB.mk [SC.v (Value.slice A xs.length c), SC.v (Value.slice A1 ws.length c1), SC.v (Value.int IntKind.i64 f), SC.bo dn] 29]) (by kernel_rfl) (by kernel_rfl) (by kernel_rfl) ?_
  refine split_at 22 (b := decide ((↑ws.length : Int) > 600)) (by kernel_rfl) (by kernel_rfl) ?_ ?_
  · intro h1
    have hk : okD xs ws f = false := Bool.eq_false_iff.2 fun hk => by
      obtain ⟨⟨k1, k2, k3, k4⟩, k5, k6⟩ := okD_iff.1 hk
      simp only [decide_eq_true_eq, bne_iff_ne] at h1
      omega
    refine go mixed 2000 [2] 0 (St.mk Rg.no [KI.code [true, false, true, false, true], KI.code [true, true]] [(2, SV.one (SC.v (Value.bool false)))] []) (by kernel_rfl) (by kernel_rfl) (by kernel_rfl) ?_
    refine ret_ok (vs := [SV.one (SC.v (Value.bool false))]) (by kernel_rfl) ?_
    intro L w1 hs
    exact ⟨by rw [hk]; rfl, hs.out0⟩
  intro h1
  simp only [decide_eq_false_iff_not] at h1
  have f3 := h1
  clear h1
  refine go mixed 2000 [1, 26] 1 (St.mk Rg.no [KI.code [true, false, true], KI.code [true, true]] [(1, SV.one (SC.ptr 0 0)), (26, SV.one (SC.bo (decide (f < -1))))] [LB.mk [SC.v (Value.slice A xs.length c), SC.v (Value.slice A1 ws.length c1), SC.v (Value.int IntKind.i64 f), SC.bo dn] 29]) (by kernel_rfl) (by kernel_rfl) (by kernel_rfl) ?_
  refine split_at 26 (b := decide (f < -1)) (by kernel_rfl) (by kernel_rfl) ?_ ?_
  · intro h1
    have hk : okD xs ws f = false := Bool.eq_false_iff.2 fun hk => by
      obtain ⟨⟨k1, k2, k3, k4⟩, k5, k6⟩ := okD_iff.1 hk
      simp only [decide_eq_true_eq, bne_iff_ne] at h1
      omega
    refine go mixed 2000 [2] 0 (St.mk Rg.no [KI.code [true, false, true, false, true], KI.code [true, true]] [(2, SV.one (SC.v (Value.bool false)))] []) (by kernel_rfl) (by kernel_rfl) (by kernel_rfl) ?_
    refine ret_ok (vs := [SV.one (SC.v (Value.bool false))]) (by kernel_rfl) ?_
    intro L w1 hs
    exact ⟨by rw [hk]; rfl, hs.out0⟩
  intro h1
  simp only [decide_eq_false_iff_not] at h1
  have f4 := h1
  clear h1
  refine go mixed 2000 [1, 3] 1 (St.mk Rg.no [KI.loop [true, true, false, true, true, true], KI.block 0, KI.code [true, true, true]] [(1, SV.one (SC.ptr 0 0)), (3, SV.one (SC.v (Value.int IntKind.i64 0)))] [LB.mk [SC.v (Value.slice A xs.length c), SC.v (Value.slice A1 ws.length c1), SC.v (Value.int IntKind.i64 f), SC.bo dn] 29]) (by kernel_rfl) (by kernel_rfl) (by kernel_rfl) ?_
  refine loop_at (ι := Nat) (fun i => [(3, .one (.v (.int .i64 i)))]) (fun i => [(0, ⟨[.v (.slice A xs.length c), .v (.slice A1 ws.length c1), .v (.int .i64 f), .bo dn], 29⟩)]) (fun i => [oldA w]) (fun i => i ≤ xs.length ∧ ∀ y ∈ xs.take i, y.length = 64) (fun i => xs.length - i) 0 rfl rfl rfl ⟨Nat.zero_le _, by simp⟩ ?_
  intro i hi ih
  refine go mixed 2000 [1, 3, 31] 1 (St.mk Rg.no [KI.code [true, true, false, true, true, true, false, true], KI.code [true, true, false, true, true, true, true], KI.loop [true, true, false, true, true, true], KI.block 0, KI.code [true, true, true]] [(1, SV.one (SC.ptr 0 0)), (3, SV.one (SC.v (Value.int IntKind.i64 (↑i : Int)))), (31, SV.one (SC.bo (decide ((↑i : Int) < (↑xs.length : Int)))))] [LB.mk [SC.v (Value.slice A xs.length c), SC.v (Value.slice A1 ws.length c1), SC.v (Value.int IntKind.i64 f), SC.bo dn] 29]) (by kernel_rfl) (by kernel_rfl) (by kernel_rfl) ?_
  refine split_at 31 (b := decide ((↑i : Int) < (↑xs.length : Int))) (by kernel_rfl) (by kernel_rfl) ?_ ?_
  · intro h1
    have hlt : i < xs.length := by simpa using h1
    clear h1
    refine go mixed 2000 [1, 3, 35, 36] 1 (St.mk (Rg.sq [true, true, false, true, true, true, true, false, true, false] 3) [KI.code [true, true, false, true, true, true, true, false, true, true], KI.block 1, KI.code [true, true, false, true, true, true, true, true], KI.loop [true, true, false, true, true, true], KI.block 0, KI.code [true, true, true]] [(1, SV.one (SC.ptr 0 0)), (3, SV.one (SC.v (Value.int IntKind.i64 (↑i : Int)))), (35, SV.one (SC.v (Value.slice A xs.length c))), (36, SV.one (SC.v (Value.int IntKind.i64 (↑i : Int))))] [LB.mk [SC.v (Value.slice A xs.length c), SC.v (Value.slice A1 ws.length c1), SC.v (Value.int IntKind.i64 f), SC.bo dn] 29]) (by kernel_rfl) (by kernel_rfl) (by kernel_rfl) ?_
    refine index_at 3 (by kernel_rfl : atP _ _ _ 3 false = some (Op.indexAddr 22 (Operand.tmp 35) (Operand.tmp 36), 0, some 37, Rg.sq [true, true, false, true, true, true, true, false, true, false] 4)) (sz := 1) (by kernel_rfl) rfl rfl rfl hlt (fun L w1 hs => rd_some (rdRow_ext (hs.old 0 rfl) h) hlt) ?_
    intro a_1 ha_; cases ha_
    refine go mixed 2000 [1, 3, 37] 1 (St.mk (Rg.sq [true, true, false, true, true, true, true, false, true, false] 4) [KI.code [true, true, false, true, true, true, true, false, true, true], KI.block 1, KI.code [true, true, false, true, true, true, true, true], KI.loop [true, true, false, true, true, true], KI.block 0, KI.code [true, true, true]] [(1, SV.one (SC.ptr 0 0)), (3, SV.one (SC.v (Value.int IntKind.i64 (↑i : Int)))), (37, SV.one (SC.v (Value.pointer (some (a_1.add (i * 1))))))] [LB.mk [SC.v (Value.slice (some a_1) xs.length c), SC.v (Value.slice A1 ws.length c1), SC.v (Value.int IntKind.i64 f), SC.bo dn] 29]) (by kernel_rfl) (by kernel_rfl) (by kernel_rfl) ?_
    obtain ⟨Ai, ci, hcell, hrow⟩ := rd_row h hlt
    refine load_one 4 (by kernel_rfl : atP _ _ _ 4 true = some (Op.load 36 (Operand.tmp 37), 36, some 38, Rg.sq [true, true, false, true, true, true, true, false, true, false] 5)) (n := 1) (by kernel_rfl) rfl ?_
    intro L w1 hs
    refine ⟨.v (.slice Ai _ ci), cellH_ext (hs.old 0 rfl) hcell, ?_⟩
    clear hs
    refine go mixed 2000 [1, 3, 40] 1 (St.mk Rg.no [KI.code [true, true, false, true, true, true, true, false, true, true], KI.block 1, KI.code [true, true, false, true, true, true, true, true], KI.loop [true, true, false, true, true, true], KI.block 0, KI.code [true, true, true]] [(1, SV.one (SC.ptr 0 0)), (3, SV.one (SC.v (Value.int IntKind.i64 (↑i : Int)))), (40, SV.one (SC.bo ((↑xs[i].length : Int) != 64)))] [LB.mk [SC.v (Value.slice (some a_1) xs.length c), SC.v (Value.slice A1 ws.length c1), SC.v (Value.int IntKind.i64 f), SC.bo dn] 29]) (by kernel_rfl) (by kernel_rfl) (by kernel_rfl) ?_
    refine split_at 40 (b := (↑xs[i].length : Int) != 64) (by kernel_rfl) (by kernel_rfl) ?_ ?_
    · intro h1
      have hk : okD xs ws f = false := Bool.eq_false_iff.2 fun hk => by
        obtain ⟨⟨k1, k2, k3, k4⟩, k5, k6⟩ := okD_iff.1 hk
        simp only [decide_eq_true_eq, bne_iff_ne] at h1
        have := k5 _ (List.getElem_mem hlt); omega
      refine go mixed 2000 [2] 0 (St.mk Rg.no [KI.code [true, true, false, true, true, true, true, false, true, true, false, true], KI.block 1, KI.code [true, true, false, true, true, true, true, true], KI.loop [true, true, false, true, true, true], KI.block 0, KI.code [true, true, true]] [(2, SV.one (SC.v (Value.bool false)))] []) (by kernel_rfl) (by kernel_rfl) (by kernel_rfl) ?_
      refine ret_ok (vs := [SV.one (SC.v (Value.bool false))]) (by kernel_rfl) ?_
      intro L w1 hs
      exact ⟨by rw [hk]; rfl, hs.out0⟩
    intro h1
    simp only [bne_eq_false_iff_eq] at h1
    have g1 := h1
    clear h1
    refine go mixed 2000 [1, 3] 1 (St.mk Rg.no [KI.loop [true, true, false, true, true, true], KI.block 0, KI.code [true, true, true]] [(1, SV.one (SC.ptr 0 0)), (3, SV.one (SC.v (Value.int IntKind.i64 (IntKind.i64.wrap ((↑i : Int) + 1)))))] [LB.mk [SC.v (Value.slice (some a_1) xs.length c), SC.v (Value.slice A1 ws.length c1), SC.v (Value.int IntKind.i64 f), SC.bo dn] 29]) (by kernel_rfl) (by kernel_rfl) (by kernel_rfl) ?_
    rw [wrap_succ (by omega)]
    exact ih (i + 1) ⟨hlt, fun y hy => by
      rw [List.take_succ_eq_append_getElem hlt] at hy
      rcases List.mem_append.1 hy with hy | hy
      · exact hi.2 y hy
      · obtain rfl := List.mem_singleton.1 hy
        omega⟩ (by omega)
  · intro h1
    have hge : ¬ i < xs.length := by simpa using h1
    clear h1
    have ha1 : ∀ x ∈ xs, x.length = 64 := fun x hx => hi.2 x (by rw [List.take_of_length_le (by omega)]; exact hx)
    clear hi ih
    refine go mixed 2000 [1, 4] 1 (St.mk Rg.no [KI.loop [true, true, true, false, true, true, true], KI.block 2, KI.code [true, true, true, true]] [(1, SV.one (SC.ptr 0 0)), (4, SV.one (SC.v (Value.int IntKind.i64 0)))] [LB.mk [SC.v (Value.slice A xs.length c), SC.v (Value.slice A1 ws.length c1), SC.v (Value.int IntKind.i64 f), SC.bo dn] 29]) (by kernel_rfl) (by kernel_rfl) (by kernel_rfl) ?_
    refine loop_at (ι := Nat) (fun i => [(4, .one (.v (.int .i64 i)))]) (fun i => [(0, ⟨[.v (.slice A xs.length c), .v (.slice A1 ws.length c1), .v (.int .i64 f), .bo dn], 29⟩)]) (fun i => [oldA w]) (fun i => i ≤ ws.length ∧ ∀ y ∈ ws.take i, 0 ≤ y.1 ∧ y.1 < (xs.length : Int) ∧ y.2.length = 64) (fun i => ws.length - i) 0 rfl rfl rfl ⟨Nat.zero_le _, by simp⟩ ?_
    intro i hi ih
    refine go mixed 2000 [1, 4, 45] 1 (St.mk Rg.no [KI.code [true, true, true, false, true, true, true, false, true], KI.code [true, true, true, false, true, true, true, true], KI.loop [true, true, true, false, true, true, true], KI.block 2, KI.code [true, true, true, true]] [(1, SV.one (SC.ptr 0 0)), (4, SV.one (SC.v (Value.int IntKind.i64 (↑i : Int)))), (45, SV.one (SC.bo (decide ((↑i : Int) < (↑ws.length : Int)))))] [LB.mk [SC.v (Value.slice A xs.length c), SC.v (Value.slice A1 ws.length c1), SC.v (Value.int IntKind.i64 f), SC.bo dn] 29]) (by kernel_rfl) (by kernel_rfl) (by kernel_rfl) ?_
    refine split_at 45 (b := decide ((↑i : Int) < (↑ws.length : Int))) (by kernel_rfl) (by kernel_rfl) ?_ ?_
    · intro h1
      have hlt : i < ws.length := by simpa using h1
      clear h1
      refine go mixed 2000 [1, 4, 49, 50] 1 (St.mk (Rg.sq [true, true, true, false, true, true, true, true, false, true, false] 3) [KI.code [true, true, true, false, true, true, true, true, false, true, true], KI.block 3, KI.code [true, true, true, false, true, true, true, true, true], KI.loop [true, true, true, false, true, true, true], KI.block 2, KI.code [true, true, true, true]] [(1, SV.one (SC.ptr 0 0)), (4, SV.one (SC.v (Value.int IntKind.i64 (↑i : Int)))), (49, SV.one (SC.v (Value.slice A1 ws.length c1))), (50, SV.one (SC.v (Value.int IntKind.i64 (↑i : Int))))] [LB.mk [SC.v (Value.slice A xs.length c), SC.v (Value.slice A1 ws.length c1), SC.v (Value.int IntKind.i64 f), SC.bo dn] 29]) (by kernel_rfl) (by kernel_rfl) (by kernel_rfl) ?_
      refine index_at 3 (by kernel_rfl : atP _ _ _ 3 false = some (Op.indexAddr 27 (Operand.tmp 49) (Operand.tmp 50), 0, some 51, Rg.sq [true, true, true, false, true, true, true, true, false, true, false] 4)) (sz := 2) (by kernel_rfl) rfl rfl rfl hlt (fun L w1 hs => rd_some (rdRow_ext (hs.old 0 rfl) h2) hlt) ?_
      intro a_2 ha_; cases ha_
      refine go mixed 2000 [1, 4, 51] 1 (St.mk (Rg.sq [true, true, true, false, true, true, true, true, false, true, false] 4) [KI.code [true, true, true, false, true, true, true, true, false, true, true], KI.block 3, KI.code [true, true, true, false, true, true, true, true, true], KI.loop [true, true, true, false, true, true, true], KI.block 2, KI.code [true, true, true, true]] [(1, SV.one (SC.ptr 0 0)), (4, SV.one (SC.v (Value.int IntKind.i64 (↑i : Int)))), (51, SV.one (SC.v (Value.pointer (some (a_2.add (i * 2))))))] [LB.mk [SC.v (Value.slice A xs.length c), SC.v (Value.slice (some a_2) ws.length c1), SC.v (Value.int IntKind.i64 f), SC.bo dn] 29]) (by kernel_rfl) (by kernel_rfl) (by kernel_rfl) ?_
      obtain ⟨Ai, ci, hcell1, hcell2, hrow⟩ := rd_w h2 hlt
      refine load_agg 4 (by kernel_rfl : atP _ _ _ 4 true = some (Op.load 59 (Operand.tmp 51), 59, some 52, Rg.sq [true, true, true, false, true, true, true, true, false, true, false] 5)) (n := 2) (by kernel_rfl) rfl ?_
      intro L w1 hs
      refine ⟨[.v (.int .i64 (ws[i]).1), .v (.slice Ai (ws[i]).2.length ci)], rfl, fun j c hj => ?_, ?_⟩
      · match j, hj with
        | 0, hj => cases hj; exact cellH_ext (hs.old 0 rfl) hcell1
        | 1, hj => cases hj; exact cellH_ext (hs.old 0 rfl) hcell2
      clear hs
      refine go mixed 2000 [1, 4, 5, 56] 2 (St.mk (Rg.sq [true, true, true, false, true, true, true, true, false, true, true, false] 4) [KI.code [true, true, true, false, true, true, true, true, false, true, true, true], KI.block 3, KI.code [true, true, true, false, true, true, true, true, true], KI.loop [true, true, true, false, true, true, true], KI.block 2, KI.code [true, true, true, true]] [(1, SV.one (SC.ptr 0 0)), (4, SV.one (SC.v (Value.int IntKind.i64 (↑i : Int)))), (5, SV.one (SC.ptr 1 0)), (56, SV.one (SC.bo (decide (ws[i].fst < 0))))] [LB.mk [SC.v (Value.slice A xs.length c), SC.v (Value.slice (some a_2) ws.length c1), SC.v (Value.int IntKind.i64 f), SC.bo dn] 29, LB.mk [SC.v (Value.int IntKind.i64 ws[i].fst), SC.v (Value.slice Ai ws[i].snd.length ci)] 59]) (by kernel_rfl) (by kernel_rfl) (by kernel_rfl) ?_
      refine split_at 56 (b := decide (ws[i].fst < 0)) (by kernel_rfl) (by kernel_rfl) ?_ ?_
      · intro h1
        have hk : okD xs ws f = false := Bool.eq_false_iff.2 fun hk => by
          obtain ⟨⟨k1, k2, k3, k4⟩, k5, k6⟩ := okD_iff.1 hk
          simp only [decide_eq_true_eq, bne_iff_ne] at h1
          have := k6 _ (List.getElem_mem hlt); omega
        refine go mixed 2000 [2] 0 (St.mk Rg.no [KI.code [true, true, true, false, true, true, true, true, false, true, true, true, false, true], KI.block 3, KI.code [true, true, true, false, true, true, true, true, true], KI.loop [true, true, true, false, true, true, true], KI.block 2, KI.code [true, true, true, true]] [(2, SV.one (SC.v (Value.bool false)))] []) (by kernel_rfl) (by kernel_rfl) (by kernel_rfl) ?_
        refine ret_ok (vs := [SV.one (SC.v (Value.bool false))]) (by kernel_rfl) ?_
        intro L w1 hs
        exact ⟨by rw [hk]; rfl, hs.out0⟩
      intro h1
      simp only [decide_eq_false_iff_not] at h1
      have g1 := h1
      clear h1
      refine go mixed 2000 [1, 4, 5, 64] 2 (St.mk (Rg.sq [true, true, true, false, true, true, true, true, false, true, true, false] 12) [KI.code [true, true, true, false, true, true, true, true, false, true, true, true], KI.block 3, KI.code [true, true, true, false, true, true, true, true, true], KI.loop [true, true, true, false, true, true, true], KI.block 2, KI.code [true, true, true, true]] [(1, SV.one (SC.ptr 0 0)), (4, SV.one (SC.v (Value.int IntKind.i64 (↑i : Int)))), (5, SV.one (SC.ptr 1 0)), (64, SV.one (SC.bo (decide (ws[i].fst ≥ (↑xs.length : Int)))))] [LB.mk [SC.v (Value.slice A xs.length c), SC.v (Value.slice (some a_2) ws.length c1), SC.v (Value.int IntKind.i64 f), SC.bo dn] 29, LB.mk [SC.v (Value.int IntKind.i64 ws[i].fst), SC.v (Value.slice Ai ws[i].snd.length ci)] 59]) (by kernel_rfl) (by kernel_rfl) (by kernel_rfl) ?_
      refine split_at 64 (b := decide (ws[i].fst ≥ (↑xs.length : Int))) (by kernel_rfl) (by kernel_rfl) ?_ ?_
      · intro h1
        have hk : okD xs ws f = false := Bool.eq_false_iff.2 fun hk => by
          obtain ⟨⟨k1, k2, k3, k4⟩, k5, k6⟩ := okD_iff.1 hk
          simp only [decide_eq_true_eq, bne_iff_ne] at h1
          have := k6 _ (List.getElem_mem hlt); omega
        refine go mixed 2000 [2] 0 (St.mk Rg.no [KI.code [true, true, true, false, true, true, true, true, false, true, true, true, false, true], KI.block 3, KI.code [true, true, true, false, true, true, true, true, true], KI.loop [true, true, true, false, true, true, true], KI.block 2, KI.code [true, true, true, true]] [(2, SV.one (SC.v (Value.bool false)))] []) (by kernel_rfl) (by kernel_rfl) (by kernel_rfl) ?_
        refine ret_ok (vs := [SV.one (SC.v (Value.bool false))]) (by kernel_rfl) ?_
        intro L w1 hs
        exact ⟨by rw [hk]; rfl, hs.out0⟩
      intro h1
      simp only [decide_eq_false_iff_not] at h1
      have g2 := h1
      clear h1
      refine go mixed 2000 [1, 4, 69] 1 (St.mk Rg.no [KI.code [true, true, true, false, true, true, true, true, false, true, true, true], KI.block 3, KI.code [true, true, true, false, true, true, true, true, true], KI.loop [true, true, true, false, true, true, true], KI.block 2, KI.code [true, true, true, true]] [(1, SV.one (SC.ptr 0 0)), (4, SV.one (SC.v (Value.int IntKind.i64 (↑i : Int)))), (69, SV.one (SC.bo ((↑ws[i].snd.length : Int) != 64)))] [LB.mk [SC.v (Value.slice A xs.length c), SC.v (Value.slice (some a_2) ws.length c1), SC.v (Value.int IntKind.i64 f), SC.bo dn] 29]) (by kernel_rfl) (by kernel_rfl) (by kernel_rfl) ?_
      refine split_at 69 (b := (↑ws[i].snd.length : Int) != 64) (by kernel_rfl) (by kernel_rfl) ?_ ?_
      · intro h1
        have hk : okD xs ws f = false := Bool.eq_false_iff.2 fun hk => by
          obtain ⟨⟨k1, k2, k3, k4⟩, k5, k6⟩ := okD_iff.1 hk
          simp only [decide_eq_true_eq, bne_iff_ne] at h1
          have := k6 _ (List.getElem_mem hlt); omega
        refine go mixed 2000 [2] 0 (St.mk Rg.no [KI.code [true, true, true, false, true, true, true, true, false, true, true, true, false, true], KI.block 3, KI.code [true, true, true, false, true, true, true, true, true], KI.loop [true, true, true, false, true, true, true], KI.block 2, KI.code [true, true, true, true]] [(2, SV.one (SC.v (Value.bool false)))] []) (by kernel_rfl) (by kernel_rfl) (by kernel_rfl) ?_
        refine ret_ok (vs := [SV.one (SC.v (Value.bool false))]) (by kernel_rfl) ?_
        intro L w1 hs
        exact ⟨by rw [hk]; rfl, hs.out0⟩
      intro h1
      simp only [bne_eq_false_iff_eq] at h1
      have g3 := h1
      clear h1
      refine go mixed 2000 [1, 4] 1 (St.mk Rg.no [KI.loop [true, true, true, false, true, true, true], KI.block 2, KI.code [true, true, true, true]] [(1, SV.one (SC.ptr 0 0)), (4, SV.one (SC.v (Value.int IntKind.i64 (IntKind.i64.wrap ((↑i : Int) + 1)))))] [LB.mk [SC.v (Value.slice A xs.length c), SC.v (Value.slice (some a_2) ws.length c1), SC.v (Value.int IntKind.i64 f), SC.bo dn] 29]) (by kernel_rfl) (by kernel_rfl) (by kernel_rfl) ?_
      rw [wrap_succ (by omega)]
      exact ih (i + 1) ⟨hlt, fun y hy => by
        rw [List.take_succ_eq_append_getElem hlt] at hy
        rcases List.mem_append.1 hy with hy | hy
        · exact hi.2 y hy
        · obtain rfl := List.mem_singleton.1 hy
          exact ⟨by omega, by omega, by omega⟩⟩ (by omega)
    · intro h1
      have hge : ¬ i < ws.length := by simpa using h1
      clear h1
      have hk : okD xs ws f = true := okD_iff.2 ⟨⟨by omega, by omega, by omega, by omega⟩, fun x hx => ha1 x hx, fun y hy => hi.2 y (by
        rw [List.take_of_length_le (by omega)]
        exact hy)⟩
      refine go mixed 2000 [2] 0 (St.mk Rg.no [KI.code [true, true, true, true, true]] [(2, SV.one (SC.v (Value.bool true)))] []) (by kernel_rfl) (by kernel_rfl) (by kernel_rfl) ?_
      refine ret_ok (vs := [SV.one (SC.v (Value.bool true))]) (by kernel_rfl) ?_
      intro L w1 hs
      exact ⟨by rw [hk]; rfl, hs.out0⟩
end Go.Proofs.Ytjbbakckckihnaa.Dk
