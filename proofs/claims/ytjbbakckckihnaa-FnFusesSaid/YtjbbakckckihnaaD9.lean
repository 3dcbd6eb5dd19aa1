/- Walks of functions of the program: what each call returns and what it leaves in memory. Conditions: those that each theorem names. -/
import Derived.Test.YtjbbakckckihnaaD8
namespace Go.Proofs.Ytjbbakckckihnaa.Dk
set_option linter.unusedVariables false
set_option linter.unusedSimpArgs false
open Go.Proofs.Ytjbbakckckihnaa.Sx Go.Proofs Go.RowKit
set_option maxRecDepth 100000
theorem heldByteSS_ok (ys : List (List Int)) (A : Option Addr) (c : Nat) (k : Int) (w : World) (h : rdRow kB w.heap (mkBB ys k) (.slice A ys.length c)) (hl : ys.length ≤ 1048576) (hl2 : lenSum ys ≤ 1048576) (hk : 0 ≤ k ∧ k ≤ 1073741824) :
    Calls Try.prog 46 #[.slice A ys.length c, .int .i64 k] w fun e w' => e = .returned (.int .i64 (k + lenSum ys)) ∧ Below w.heap.size w w' := by
  refine enter (args := [.one (.v (.slice A ys.length c)), .one (.v (.int .i64 k))]) Try.func46 (c := bodyOf Try.f46) rfl rfl (start_LOK _) (start_old w) ?_
  refine go mixed 2000 [0, 1, 5] 0 (St.mk Rg.no [KI.loop [true, false, true, true, true], KI.block 0, KI.code [true, true]] [(0, SV.one (SC.v (Value.slice A ys.length c))), (1, SV.one (SC.v (Value.int IntKind.i64 k))), (5, SV.one (SC.v (Value.int IntKind.i64 0)))] []) (by kernel_rfl) (by kernel_rfl) (by kernel_rfl) ?_
  refine loop_at (ι := Nat) (fun i => [(1, .one (.v (.int .i64 (k + (lenSum (ys.take i) : Int))))), (5, .one (.v (.int .i64 i)))]) (fun i => []) (fun i => [oldA w]) (fun i => i ≤ ys.length) (fun i => ys.length - i) 0 (by simp [updTm, lk, lenSum]; exact ⟨rfl, rfl⟩) rfl (by simp) (Nat.zero_le _) ?_
  intro i hi ih
  refine go mixed 2000 [0, 1, 5, 9] 0 (St.mk Rg.no [KI.code [true, false, true, true, true, false, true], KI.code [true, false, true, true, true, true], KI.loop [true, false, true, true, true], KI.block 0, KI.code [true, true]] [(0, SV.one (SC.v (Value.slice A ys.length c))), (1, SV.one (SC.v (Value.int IntKind.i64 (k + (↑(lenSum (List.take i ys)) : Int))))), (5, SV.one (SC.v (Value.int IntKind.i64 (↑i : Int)))), (9, SV.one (SC.bo (decide ((↑i : Int) < (↑ys.length : Int)))))] []) (by kernel_rfl) (by kernel_rfl) (by kernel_rfl) ?_
  refine split_at 9 (b := decide ((↑i : Int) < (↑ys.length : Int))) (by kernel_rfl) (by kernel_rfl) ?_ ?_
  · intro h1
    have hlt : i < ys.length := by simpa using h1
    have hle := lenSum_take_le ys i
    have hle2 := lenSum_take hlt
    have hle3 := lenSum_take_le ys (i + 1)
    have hlm : i < (mkBB ys k).length := by rw [mkBB_len]; exact hlt
    refine go mixed 2000 [0, 1, 5, 12, 13] 0 (St.mk (Rg.sq [true, false, true, true, true, true, false, true, false] 2) [KI.code [true, false, true, true, true, true, false, true, true], KI.block 1, KI.code [true, false, true, true, true, true, true], KI.loop [true, false, true, true, true], KI.block 0, KI.code [true, true]] [(0, SV.one (SC.v (Value.slice A ys.length c))), (1, SV.one (SC.v (Value.int IntKind.i64 (k + (↑(lenSum (List.take i ys)) : Int))))), (5, SV.one (SC.v (Value.int IntKind.i64 (↑i : Int)))), (12, SV.one (SC.v (Value.slice A ys.length c))), (13, SV.one (SC.v (Value.int IntKind.i64 (↑i : Int))))] []) (by kernel_rfl) (by kernel_rfl) (by kernel_rfl) ?_
    refine index_at 2 (by kernel_rfl : atP _ _ _ 2 false = some (Op.indexAddr 22 (Operand.tmp 12) (Operand.tmp 13), 0, some 14, Rg.sq [true, false, true, true, true, true, false, true, false] 3)) (sz := 1) (by kernel_rfl) rfl rfl rfl hlt (fun L w1 hs => rd_some (rdRow_ext (hs.old 0 rfl) h) hlt) ?_
    intro a_1 ha_; cases ha_
    refine go mixed 2000 [0, 1, 5, 14] 0 (St.mk (Rg.sq [true, false, true, true, true, true, false, true, false] 3) [KI.code [true, false, true, true, true, true, false, true, true], KI.block 1, KI.code [true, false, true, true, true, true, true], KI.loop [true, false, true, true, true], KI.block 0, KI.code [true, true]] [(0, SV.one (SC.v (Value.slice (some a_1) ys.length c))), (1, SV.one (SC.v (Value.int IntKind.i64 (k + (↑(lenSum (List.take i ys)) : Int))))), (5, SV.one (SC.v (Value.int IntKind.i64 (↑i : Int)))), (14, SV.one (SC.v (Value.pointer (some (a_1.add (i * 1))))))] []) (by kernel_rfl) (by kernel_rfl) (by kernel_rfl) ?_
    obtain ⟨Ai, ci, hcell, hrow⟩ := rd_row h hlm
    rw [mkBB_get hlt hlm, mkB_len] at hcell hrow
    refine load_one 3 (by kernel_rfl : atP _ _ _ 3 true = some (Op.load 36 (Operand.tmp 14), 36, some 15, Rg.sq [true, false, true, true, true, true, false, true, false] 4)) (n := 1) (by kernel_rfl) rfl ?_
    intro L w1 hs
    refine ⟨.v (.slice Ai _ ci), cellH_ext (hs.old 0 rfl) hcell, ?_⟩
    clear hs
    refine go mixed 2000 [0, 5, 15, 16] 0 (St.mk (Rg.sq [true, false, true, true, true, true, false, true, false] 5) [KI.code [true, false, true, true, true, true, false, true, true], KI.block 1, KI.code [true, false, true, true, true, true, true], KI.loop [true, false, true, true, true], KI.block 0, KI.code [true, true]] [(0, SV.one (SC.v (Value.slice (some a_1) ys.length c))), (5, SV.one (SC.v (Value.int IntKind.i64 (↑i : Int)))), (15, SV.one (SC.v (Value.slice Ai ys[i].length ci))), (16, SV.one (SC.v (Value.int IntKind.i64 (k + (↑(lenSum (List.take i ys)) : Int)))))] []) (by kernel_rfl) (by kernel_rfl) (by kernel_rfl) ?_
    refine call_pure true (by kernel_rfl : atC _ _ _ true = some (71, [SV.one (SC.v (Value.slice Ai ys[i].length ci)), SV.one (SC.v (Value.int IntKind.i64 (k + (↑(lenSum (List.take i ys)) : Int))))], some 17, Rg.sq [true, false, true, true, true, true, false, true, false] 6)) (by kernel_rfl) (.one (.v (.int .i64 (k + (lenSum (ys.take i) : Int) + ((ys[i]).length : Int))))) (fun L w1 hs => heldByteS_ok (ys[i]).length Ai ci _ w1 (rdRow_ext (hs.old 0 rfl) hrow) (by omega) (by omega)) ?_
    refine go mixed 2000 [0, 1, 5, 19] 0 (St.mk Rg.no [KI.code [true, false, true, true, true, true, false, true, true, true], KI.block 1, KI.code [true, false, true, true, true, true, true], KI.loop [true, false, true, true, true], KI.block 0, KI.code [true, true]] [(0, SV.one (SC.v (Value.slice (some a_1) ys.length c))), (1, SV.one (SC.v (Value.int IntKind.i64 (k + (↑(lenSum (List.take i ys)) : Int) + (↑ys[i].length : Int))))), (5, SV.one (SC.v (Value.int IntKind.i64 (↑i : Int)))), (19, SV.one (SC.bo (decide (k + (↑(lenSum (List.take i ys)) : Int) + (↑ys[i].length : Int) < 0))))] []) (by kernel_rfl) (by kernel_rfl) (by kernel_rfl) ?_
    refine split_at 19 (b := decide (k + (↑(lenSum (List.take i ys)) : Int) + (↑ys[i].length : Int) < 0)) (by kernel_rfl) (by kernel_rfl) ?_ ?_
    · intro h3
      have := of_decide_eq_true h3
      omega
    intro h3
    refine go mixed 2000 [0, 1, 5] 0 (St.mk Rg.no [KI.loop [true, false, true, true, true], KI.block 0, KI.code [true, true]] [(0, SV.one (SC.v (Value.slice (some a_1) ys.length c))), (1, SV.one (SC.v (Value.int IntKind.i64 (k + (↑(lenSum (List.take i ys)) : Int) + (↑ys[i].length : Int))))), (5, SV.one (SC.v (Value.int IntKind.i64 (IntKind.i64.wrap ((↑i : Int) + 1)))))] []) (by kernel_rfl) (by kernel_rfl) (by kernel_rfl) ?_
    rw [wrap_succ (by omega), show k + (lenSum (ys.take i) : Int) + ((ys[i]).length : Int) = k + (lenSum (ys.take (i + 1)) : Int) by omega]
    exact ih (i + 1) hlt (by omega)
  · intro h1
    refine go mixed 2000 [4] 0 (St.mk Rg.no [KI.code [true, true, true]] [(4, SV.one (SC.v (Value.int IntKind.i64 (k + (↑(lenSum (List.take i ys)) : Int)))))] []) (by kernel_rfl) (by kernel_rfl) (by kernel_rfl) ?_
    refine ret_ok (vs := [SV.one (SC.v (Value.int IntKind.i64 (k + (↑(lenSum (List.take i ys)) : Int))))]) (by kernel_rfl) ?_
    intro L w1 hs
    have hi2 : i = ys.length := by
      have : ¬ i < ys.length := by simpa using h1
      omega
    subst hi2
    simp only [List.take_length]
    exact ⟨rfl, hs.out0⟩
theorem heldWriteS_ok (ys : List (Int × List Int)) (A : Option Addr) (c : Nat) (k : Int) (w : World) (h : rdRow kW w.heap (mkW ys k) (.slice A ys.length c)) (hl : ys.length ≤ 1048576) (hl2 : wN ys ≤ 2097152) (hl3 : ∀ y ∈ ys, y.2.length ≤ 1048576) (hk : 0 ≤ k ∧ k ≤ 1073741824) :
    Calls Try.prog 47 #[.slice A ys.length c, .int .i64 k] w fun e w' => e = .returned (.int .i64 (k + wN ys)) ∧ Below w.heap.size w w' := by
  refine enter (args := [.one (.v (.slice A ys.length c)), .one (.v (.int .i64 k))]) Try.func47 (c := bodyOf Try.f47) rfl rfl (start_LOK _) (start_old w) ?_
  refine go mixed 2000 [0, 1, 5] 0 (St.mk Rg.no [KI.loop [true, false, true, true, true], KI.block 0, KI.code [true, true]] [(0, SV.one (SC.v (Value.slice A ys.length c))), (1, SV.one (SC.v (Value.int IntKind.i64 k))), (5, SV.one (SC.v (Value.int IntKind.i64 0)))] []) (by kernel_rfl) (by kernel_rfl) (by kernel_rfl) ?_
  refine loop_at (ι := Nat) (fun i => [(1, .one (.v (.int .i64 (k + (wN (ys.take i) : Int))))), (5, .one (.v (.int .i64 i)))]) (fun i => []) (fun i => [oldA w]) (fun i => i ≤ ys.length) (fun i => ys.length - i) 0 (by simp [updTm, lk, lenSum, wN, wSum]; exact ⟨rfl, rfl⟩) rfl (by simp) (Nat.zero_le _) ?_
  intro i hi ih
  refine go mixed 2000 [0, 1, 5, 9] 0 (St.mk Rg.no [KI.code [true, false, true, true, true, false, true], KI.code [true, false, true, true, true, true], KI.loop [true, false, true, true, true], KI.block 0, KI.code [true, true]] [(0, SV.one (SC.v (Value.slice A ys.length c))), (1, SV.one (SC.v (Value.int IntKind.i64 (k + (↑(wN (List.take i ys)) : Int))))), (5, SV.one (SC.v (Value.int IntKind.i64 (↑i : Int)))), (9, SV.one (SC.bo (decide ((↑i : Int) < (↑ys.length : Int)))))] []) (by kernel_rfl) (by kernel_rfl) (by kernel_rfl) ?_
  refine split_at 9 (b := decide ((↑i : Int) < (↑ys.length : Int))) (by kernel_rfl) (by kernel_rfl) ?_ ?_
  · intro h1
    have hlt : i < ys.length := by simpa using h1
    have hle := wN_take_le ys i
    have hle2 := wN_take hlt
    have hle3 := wN_take_le ys (i + 1)
    have hlm : i < (mkW ys k).length := by rw [mkW_len]; exact hlt
    refine go mixed 2000 [0, 1, 5, 12, 13] 0 (St.mk (Rg.sq [true, false, true, true, true, true, false, true, false, false] 2) [KI.code [true, false, true, true, true, true, false, true, false, true], KI.code [true, false, true, true, true, true, false, true, true], KI.block 1, KI.code [true, false, true, true, true, true, true], KI.loop [true, false, true, true, true], KI.block 0, KI.code [true, true]] [(0, SV.one (SC.v (Value.slice A ys.length c))), (1, SV.one (SC.v (Value.int IntKind.i64 (k + (↑(wN (List.take i ys)) : Int))))), (5, SV.one (SC.v (Value.int IntKind.i64 (↑i : Int)))), (12, SV.one (SC.v (Value.slice A ys.length c))), (13, SV.one (SC.v (Value.int IntKind.i64 (↑i : Int))))] []) (by kernel_rfl) (by kernel_rfl) (by kernel_rfl) ?_
    refine index_at 2 (by kernel_rfl : atP _ _ _ 2 false = some (Op.indexAddr 27 (Operand.tmp 12) (Operand.tmp 13), 0, some 14, Rg.sq [true, false, true, true, true, true, false, true, false, false] 3)) (sz := 2) (by kernel_rfl) rfl rfl rfl hlt (fun L w1 hs => rd_some (rdRow_ext (hs.old 0 rfl) h) hlt) ?_
    intro a_2 ha_; cases ha_
    refine go mixed 2000 [0, 1, 5, 15] 0 (St.mk (Rg.sq [true, false, true, true, true, true, false, true, false, false] 4) [KI.code [true, false, true, true, true, true, false, true, false, true], KI.code [true, false, true, true, true, true, false, true, true], KI.block 1, KI.code [true, false, true, true, true, true, true], KI.loop [true, false, true, true, true], KI.block 0, KI.code [true, true]] [(0, SV.one (SC.v (Value.slice (some a_2) ys.length c))), (1, SV.one (SC.v (Value.int IntKind.i64 (k + (↑(wN (List.take i ys)) : Int))))), (5, SV.one (SC.v (Value.int IntKind.i64 (↑i : Int)))), (15, SV.one (SC.v (Value.pointer (some ((a_2.add (i * 2)).add 0)))))] []) (by kernel_rfl) (by kernel_rfl) (by kernel_rfl) ?_
    obtain ⟨Ai, ci, hcell1, hcell2, hrow⟩ := rd_w h hlm
    rw [mkW_get hlt hlm] at hcell1 hcell2 hrow
    rw [mkB_len] at hcell2 hrow
    refine load_one 4 (by kernel_rfl : atP _ _ _ 4 true = some (Op.load 3 (Operand.tmp 15), 3, some 16, Rg.sq [true, false, true, true, true, true, false, true, false, false] 5)) (n := 1) (by kernel_rfl) rfl ?_
    intro L w1 hs
    refine ⟨.v (.int .i64 (k + (wN (ys.take i) : Int))), cellH_ext (hs.old 0 rfl) hcell1, ?_⟩
    clear hs
    refine go mixed 2000 [0, 1, 5, 18] 0 (St.mk Rg.no [KI.code [true, false, true, true, true, true, false, true, false, true], KI.code [true, false, true, true, true, true, false, true, true], KI.block 1, KI.code [true, false, true, true, true, true, true], KI.loop [true, false, true, true, true], KI.block 0, KI.code [true, true]] [(0, SV.one (SC.v (Value.slice (some a_2) ys.length c))), (1, SV.one (SC.v (Value.int IntKind.i64 (k + (↑(wN (List.take i ys)) : Int))))), (5, SV.one (SC.v (Value.int IntKind.i64 (↑i : Int)))), (18, SV.one (SC.bo (k + (↑(wN (List.take i ys)) : Int) != k + (↑(wN (List.take i ys)) : Int))))] []) (by kernel_rfl) (by kernel_rfl) (by kernel_rfl) ?_
    refine split_at 18 (b := k + (↑(wN (List.take i ys)) : Int) != k + (↑(wN (List.take i ys)) : Int)) (by kernel_rfl) (by kernel_rfl) ?_ ?_
    · intro h3; simp at h3
    intro h3
    refine go mixed 2000 [0, 1, 5, 21, 22] 0 (St.mk (Rg.sq [true, false, true, true, true, true, false, true, true, true, false] 2) [KI.code [true, false, true, true, true, true, false, true, true, true, true], KI.block 1, KI.code [true, false, true, true, true, true, true], KI.loop [true, false, true, true, true], KI.block 0, KI.code [true, true]] [(0, SV.one (SC.v (Value.slice (some a_2) ys.length c))), (1, SV.one (SC.v (Value.int IntKind.i64 (IntKind.i64.wrap (k + (↑(wN (List.take i ys)) : Int) + 1))))), (5, SV.one (SC.v (Value.int IntKind.i64 (↑i : Int)))), (21, SV.one (SC.v (Value.slice (some a_2) ys.length c))), (22, SV.one (SC.v (Value.int IntKind.i64 (↑i : Int))))] []) (by kernel_rfl) (by kernel_rfl) (by kernel_rfl) ?_
    rw [show IntKind.i64.wrap (k + (wN (ys.take i) : Int) + 1) = k + (wN (ys.take i) : Int) + 1 by rw [IntKind.wrap_i64]; omega]
    refine index_at 2 (by kernel_rfl : atP _ _ _ 2 false = some (Op.indexAddr 27 (Operand.tmp 21) (Operand.tmp 22), 0, some 23, Rg.sq [true, false, true, true, true, true, false, true, true, true, false] 3)) (sz := 2) (by kernel_rfl) rfl rfl rfl hlt (fun L w1 hs => ⟨_, rfl⟩) ?_
    intro a2 ha2; cases ha2
    refine go mixed 2000 [0, 1, 5, 24] 0 (St.mk (Rg.sq [true, false, true, true, true, true, false, true, true, true, false] 4) [KI.code [true, false, true, true, true, true, false, true, true, true, true], KI.block 1, KI.code [true, false, true, true, true, true, true], KI.loop [true, false, true, true, true], KI.block 0, KI.code [true, true]] [(0, SV.one (SC.v (Value.slice (some a_2) ys.length c))), (1, SV.one (SC.v (Value.int IntKind.i64 (k + (↑(wN (List.take i ys)) : Int) + 1)))), (5, SV.one (SC.v (Value.int IntKind.i64 (↑i : Int)))), (24, SV.one (SC.v (Value.pointer (some ((a_2.add (i * 2)).add 1)))))] []) (by kernel_rfl) (by kernel_rfl) (by kernel_rfl) ?_
    refine load_one 4 (by kernel_rfl : atP _ _ _ 4 true = some (Op.load 36 (Operand.tmp 24), 36, some 25, Rg.sq [true, false, true, true, true, true, false, true, true, true, false] 5)) (n := 1) (by kernel_rfl) rfl ?_
    intro L w1 hs
    refine ⟨.v (.slice Ai _ ci), cellH_ext (hs.old 0 rfl) hcell2, ?_⟩
    clear hs
    refine go mixed 2000 [0, 5, 25, 26] 0 (St.mk (Rg.sq [true, false, true, true, true, true, false, true, true, true, false] 6) [KI.code [true, false, true, true, true, true, false, true, true, true, true], KI.block 1, KI.code [true, false, true, true, true, true, true], KI.loop [true, false, true, true, true], KI.block 0, KI.code [true, true]] [(0, SV.one (SC.v (Value.slice (some a_2) ys.length c))), (5, SV.one (SC.v (Value.int IntKind.i64 (↑i : Int)))), (25, SV.one (SC.v (Value.slice Ai ys[i].snd.length ci))), (26, SV.one (SC.v (Value.int IntKind.i64 (k + (↑(wN (List.take i ys)) : Int) + 1))))] []) (by kernel_rfl) (by kernel_rfl) (by kernel_rfl) ?_
    refine call_pure true (by kernel_rfl : atC _ _ _ true = some (71, [SV.one (SC.v (Value.slice Ai ys[i].snd.length ci)), SV.one (SC.v (Value.int IntKind.i64 (k + (↑(wN (List.take i ys)) : Int) + 1)))], some 27, Rg.sq [true, false, true, true, true, true, false, true, true, true, false] 7)) (by kernel_rfl) (.one (.v (.int .i64 (k + (wN (ys.take i) : Int) + 1 + ((ys[i]).2.length : Int))))) (fun L w1 hs => heldByteS_ok (ys[i]).2.length Ai ci _ w1 (rdRow_ext (hs.old 0 rfl) hrow) (hl3 _ (List.getElem_mem hlt)) (by omega)) ?_
    refine go mixed 2000 [0, 1, 5, 29] 0 (St.mk Rg.no [KI.code [true, false, true, true, true, true, false, true, true, true, true, true], KI.block 1, KI.code [true, false, true, true, true, true, true], KI.loop [true, false, true, true, true], KI.block 0, KI.code [true, true]] [(0, SV.one (SC.v (Value.slice (some a_2) ys.length c))), (1, SV.one (SC.v (Value.int IntKind.i64 (k + (↑(wN (List.take i ys)) : Int) + 1 + (↑ys[i].snd.length : Int))))), (5, SV.one (SC.v (Value.int IntKind.i64 (↑i : Int)))), (29, SV.one (SC.bo (decide (k + (↑(wN (List.take i ys)) : Int) + 1 + (↑ys[i].snd.length : Int) < 0))))] []) (by kernel_rfl) (by kernel_rfl) (by kernel_rfl) ?_
    refine split_at 29 (b := decide (k + (↑(wN (List.take i ys)) : Int) + 1 + (↑ys[i].snd.length : Int) < 0)) (by kernel_rfl) (by kernel_rfl) ?_ ?_
    · intro h3
      have := of_decide_eq_true h3
      omega
    intro h3
    refine go mixed 2000 [0, 1, 5] 0 (St.mk Rg.no [KI.loop [true, false, true, true, true], KI.block 0, KI.code [true, true]] [(0, SV.one (SC.v (Value.slice (some a_2) ys.length c))), (1, SV.one (SC.v (Value.int IntKind.i64 (k + (↑(wN (List.take i ys)) : Int) + 1 + (↑ys[i].snd.length : Int))))), (5, SV.one (SC.v (Value.int IntKind.i64 (IntKind.i64.wrap ((↑i : Int) + 1)))))] []) (by kernel_rfl) (by kernel_rfl) (by kernel_rfl) ?_
    rw [wrap_succ (by omega), show k + (wN (ys.take i) : Int) + 1 + ((ys[i]).2.length : Int) = k + (wN (ys.take (i + 1)) : Int) by omega]
    exact ih (i + 1) hlt (by omega)
  · intro h1
    refine go mixed 2000 [4] 0 (St.mk Rg.no [KI.code [true, true, true]] [(4, SV.one (SC.v (Value.int IntKind.i64 (k + (↑(wN (List.take i ys)) : Int)))))] []) (by kernel_rfl) (by kernel_rfl) (by kernel_rfl) ?_
    refine ret_ok (vs := [SV.one (SC.v (Value.int IntKind.i64 (k + (↑(wN (List.take i ys)) : Int))))]) (by kernel_rfl) ?_
    intro L w1 hs
    have hi2 : i = ys.length := by
      have : ¬ i < ys.length := by simpa using h1
      omega
    subst hi2
    simp only [List.take_length]
    exact ⟨rfl, hs.out0⟩
theorem markDisk_ok (xs : List (List Int)) (ws : List (Int × List Int)) (f : Int) (dn : Bool) (A : Option Addr) (c : Nat) (A1 : Option Addr) (c1 : Nat) (k : Int) (w : World) (S : Nat → Prop) (h : sepL [rowA 36 kB xs (.slice A xs.length c), rowA 59 kW ws (.slice A1 ws.length c1)] w.heap S) (hS : ∀ b, S b → b < w.heap.size) (hl : xs.length ≤ 1048576) (hl2 : lenSum xs ≤ 1048576) (hl3 : ws.length ≤ 1048576) (hl4 : wSum ws ≤ 1048576) (hk : 0 ≤ k ∧ k ≤ 1048576) :
    Calls Try.prog 14 #[.agg #[.slice A xs.length c, .slice A1 ws.length c1, .int .i64 f, .bool dn], .int .i64 k] w fun e w' => e = .returned (.int .i64 (k + lenSum xs + wN ws)) ∧ Mut w w' S [rowA 36 kB (mkBB xs k) (.slice A xs.length c), rowA 59 kW (mkW ws (k + lenSum xs)) (.slice A1 ws.length c1)] := by
  have a1 : ∀ y ∈ xs, y.length ≤ 1048576 := fun y hy => Nat.le_trans (len_le_sum hy) hl2
  have a2 : ∀ y ∈ ws, y.2.length ≤ 1048576 := fun y hy => Nat.le_trans (len_le_wsum hy) hl4
  have a3 : wN ws ≤ 2097152 := by unfold wN; omega
  refine enter (args := [.agg [.v (.slice A xs.length c), .v (.slice A1 ws.length c1), .v (.int .i64 f), .bo dn], .one (.v (.int .i64 k))]) Try.func14 (c := bodyOf Try.f14) rfl rfl (start_LOK _) (start_mut h hS) ?_
  refine go mixed 2000 [2, 6, 7] 1 (St.mk (Rg.sq [true, false] 3) [KI.code [true, true]] [(2, SV.one (SC.ptr 0 0)), (6, SV.one (SC.v (Value.slice A xs.length c))), (7, SV.one (SC.v (Value.int IntKind.i64 k)))] [LB.mk [SC.v (Value.slice A xs.length c), SC.v (Value.slice A1 ws.length c1), SC.v (Value.int IntKind.i64 f), SC.bo dn] 29]) (by kernel_rfl) (by kernel_rfl) (by kernel_rfl) ?_
  refine call_mut (A := [rowA 36 kB xs (.slice A xs.length c)]) (by kernel_rfl : atC _ _ _ false = some (44, [SV.one (SC.v (Value.slice A xs.length c)), SV.one (SC.v (Value.int IntKind.i64 k))], some 8, Rg.sq [true, false] 4)) (by kernel_rfl) (fun L w1 S1 hs hA hS1 => (markByteSS_ok xs A c k w1 S1 hA hS1 hl hl2 a1 (by omega)).mono ?_)
  rintro e w2 ⟨rfl, hm⟩
  refine ⟨.one (.v (.int .i64 (k + lenSum xs))), _, rfl, hm, ?_⟩
  clear hm hs hA hS1
  refine h_swap ?_
  refine go mixed 2000 [10, 11] 0 (St.mk (Rg.sq [true, true, false] 3) [KI.code [true, true, true]] [(10, SV.one (SC.v (Value.slice A1 ws.length c1))), (11, SV.one (SC.v (Value.int IntKind.i64 (k + (↑(lenSum xs) : Int)))))] []) (by kernel_rfl) (by kernel_rfl) (by kernel_rfl) ?_
  refine call_mut (A := [rowA 59 kW ws (.slice A1 ws.length c1)]) (by kernel_rfl : atC _ _ _ false = some (45, [SV.one (SC.v (Value.slice A1 ws.length c1)), SV.one (SC.v (Value.int IntKind.i64 (k + (↑(lenSum xs) : Int))))], some 12, Rg.sq [true, true, false] 4)) (by kernel_rfl) (fun L w1 S1 hs hA hS1 => (markWriteS_ok ws A1 c1 (k + lenSum xs) w1 S1 hA hS1 hl3 a3 a2 (by omega)).mono ?_)
  rintro e w2 ⟨rfl, hm⟩
  refine ⟨.one (.v (.int .i64 (k + lenSum xs + wN ws))), _, rfl, hm, ?_⟩
  clear hm hs hA hS1
  refine h_swap ?_
  refine go mixed 2000 [4] 0 (St.mk Rg.no [KI.code [true, true, true, true]] [(4, SV.one (SC.v (Value.int IntKind.i64 (k + (↑(lenSum xs) : Int) + (↑(wN ws) : Int)))))] []) (by kernel_rfl) (by kernel_rfl) (by kernel_rfl) ?_
  refine ret_ok (vs := [SV.one (SC.v (Value.int IntKind.i64 (k + (↑(lenSum xs) : Int) + (↑(wN ws) : Int))))]) (by kernel_rfl) ?_
  intro L w1 hs
  exact ⟨rfl, hs.outm (As := [_, _])⟩
theorem heldDisk_ok (xs : List (List Int)) (ws : List (Int × List Int)) (f : Int) (dn : Bool) (A : Option Addr) (c : Nat) (A1 : Option Addr) (c1 : Nat) (k : Int) (w : World) (h : rdRow kB w.heap (mkBB xs k) (.slice A xs.length c)) (h2 : rdRow kW w.heap (mkW ws (k + lenSum xs)) (.slice A1 ws.length c1)) (hl : xs.length ≤ 1048576) (hl2 : lenSum xs ≤ 1048576) (hl3 : ws.length ≤ 1048576) (hl4 : wSum ws ≤ 1048576) (hk : 0 ≤ k ∧ k ≤ 1048576) :
    Calls Try.prog 15 #[.agg #[.slice A xs.length c, .slice A1 ws.length c1, .int .i64 f, .bool dn], .int .i64 k] w fun e w' => e = .returned (.int .i64 (k + lenSum xs + wN ws)) ∧ Below w.heap.size w w' := by
  have a1 : ∀ y ∈ xs, y.length ≤ 1048576 := fun y hy => Nat.le_trans (len_le_sum hy) hl2
  have a2 : ∀ y ∈ ws, y.2.length ≤ 1048576 := fun y hy => Nat.le_trans (len_le_wsum hy) hl4
  have a3 : wN ws ≤ 2097152 := by unfold wN; omega
  refine enter (args := [.agg [.v (.slice A xs.length c), .v (.slice A1 ws.length c1), .v (.int .i64 f), .bo dn], .one (.v (.int .i64 k))]) Try.func15 (c := bodyOf Try.f15) rfl rfl (start_LOK _) (start_old w) ?_
  refine go mixed 2000 [2, 6, 7] 1 (St.mk (Rg.sq [true, false] 3) [KI.code [true, true]] [(2, SV.one (SC.ptr 0 0)), (6, SV.one (SC.v (Value.slice A xs.length c))), (7, SV.one (SC.v (Value.int IntKind.i64 k)))] [LB.mk [SC.v (Value.slice A xs.length c), SC.v (Value.slice A1 ws.length c1), SC.v (Value.int IntKind.i64 f), SC.bo dn] 29]) (by kernel_rfl) (by kernel_rfl) (by kernel_rfl) ?_
  refine call_pure true (by kernel_rfl : atC _ _ _ true = some (46, [SV.one (SC.v (Value.slice A xs.length c)), SV.one (SC.v (Value.int IntKind.i64 k))], some 8, Rg.sq [true, false] 4)) (by kernel_rfl) (.one (.v (.int .i64 (k + lenSum xs)))) (fun L w1 hs => heldByteSS_ok xs A c k w1 (rdRow_ext (hs.old 0 rfl) h) hl hl2 (by omega)) ?_
  refine go mixed 2000 [1, 2, 10] 1 (St.mk Rg.no [KI.code [true, true, false, true], KI.code [true, true, true]] [(1, SV.one (SC.v (Value.int IntKind.i64 (k + (↑(lenSum xs) : Int))))), (2, SV.one (SC.ptr 0 0)), (10, SV.one (SC.bo (decide (k + (↑(lenSum xs) : Int) < 0))))] [LB.mk [SC.v (Value.slice A xs.length c), SC.v (Value.slice A1 ws.length c1), SC.v (Value.int IntKind.i64 f), SC.bo dn] 29]) (by kernel_rfl) (by kernel_rfl) (by kernel_rfl) ?_
  refine split_at 10 (b := decide (k + (↑(lenSum xs) : Int) < 0)) (by kernel_rfl) (by kernel_rfl) ?_ ?_
  · intro h3
    have := of_decide_eq_true h3
    omega
  intro h3
  refine go mixed 2000 [12, 13] 0 (St.mk (Rg.sq [true, true, true, false] 3) [KI.code [true, true, true, true]] [(12, SV.one (SC.v (Value.slice A1 ws.length c1))), (13, SV.one (SC.v (Value.int IntKind.i64 (k + (↑(lenSum xs) : Int)))))] []) (by kernel_rfl) (by kernel_rfl) (by kernel_rfl) ?_
  refine call_pure true (by kernel_rfl : atC _ _ _ true = some (47, [SV.one (SC.v (Value.slice A1 ws.length c1)), SV.one (SC.v (Value.int IntKind.i64 (k + (↑(lenSum xs) : Int))))], some 14, Rg.sq [true, true, true, false] 4)) (by kernel_rfl) (.one (.v (.int .i64 (k + lenSum xs + wN ws)))) (fun L w1 hs => heldWriteS_ok ws A1 c1 (k + lenSum xs) w1 (rdRow_ext (hs.old 0 rfl) h2) hl3 a3 a2 (by omega)) ?_
  refine go mixed 2000 [1, 16] 0 (St.mk Rg.no [KI.code [true, true, true, true, false, true], KI.code [true, true, true, true, true]] [(1, SV.one (SC.v (Value.int IntKind.i64 (k + (↑(lenSum xs) : Int) + (↑(wN ws) : Int))))), (16, SV.one (SC.bo (decide (k + (↑(lenSum xs) : Int) + (↑(wN ws) : Int) < 0))))] []) (by kernel_rfl) (by kernel_rfl) (by kernel_rfl) ?_
  refine split_at 16 (b := decide (k + (↑(lenSum xs) : Int) + (↑(wN ws) : Int) < 0)) (by kernel_rfl) (by kernel_rfl) ?_ ?_
  · intro h3
    have := of_decide_eq_true h3
    omega
  intro h3
  refine go mixed 2000 [4] 0 (St.mk Rg.no [KI.code [true, true, true, true, true, true]] [(4, SV.one (SC.v (Value.int IntKind.i64 (k + (↑(lenSum xs) : Int) + (↑(wN ws) : Int)))))] []) (by kernel_rfl) (by kernel_rfl) (by kernel_rfl) ?_
  refine ret_ok (vs := [SV.one (SC.v (Value.int IntKind.i64 (k + (↑(lenSum xs) : Int) + (↑(wN ws) : Int))))]) (by kernel_rfl) ?_
  intro L w1 hs
  exact ⟨rfl, hs.out0⟩
end Go.Proofs.Ytjbbakckckihnaa.Dk
