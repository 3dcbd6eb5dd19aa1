/- Walks of functions of the program: what each call returns and what it leaves in memory. Conditions: those that each theorem names. -/
import Derived.Test.YtjbbakckckihnaaD1
namespace Go.Proofs.Ytjbbakckckihnaa.Dk
set_option linter.unusedVariables false
set_option linter.unusedSimpArgs false
open Go.Proofs.Ytjbbakckckihnaa.Sx Go.Proofs Go.RowKit
set_option maxRecDepth 100000
theorem eqByteS_ok (ys : List Int) (A : Option Addr) (c : Nat) (B : Option Addr) (c2 : Nat) (w : World) (h : rdRow kU8 w.heap ys (.slice A ys.length c)) (h2 : rdRow kU8 w.heap ys (.slice B ys.length c2)) (hl : ys.length ≤ 1048576) :
    Calls Try.prog 19 #[.slice A ys.length c, .slice B ys.length c2] w fun e w' => e = .returned (.bool true) ∧ Below w.heap.size w w' := by
  refine enter (args := [.one (.v (.slice A ys.length c)), .one (.v (.slice B ys.length c2))]) Try.func19 (c := bodyOf Try.f19) rfl rfl (start_LOK _) (start_old w) ?_
  refine go mixed 2000 [0, 1, 10] 0 (St.mk Rg.no [KI.code [true, false, true], KI.code [true, true]] [(0, SV.one (SC.v (Value.slice A ys.length c))), (1, SV.one (SC.v (Value.slice B ys.length c2))), (10, SV.one (SC.bo ((↑ys.length : Int) != (↑ys.length : Int))))] []) (by kernel_rfl) (by kernel_rfl) (by kernel_rfl) ?_
  refine split_at 10 (b := (↑ys.length : Int) != (↑ys.length : Int)) (by kernel_rfl) (by kernel_rfl) ?_ ?_
  · intro h1; simp at h1
  intro h1
  refine go mixed 2000 [0, 1, 5] 0 (St.mk Rg.no [KI.loop [true, true, false, true, true, true], KI.block 0, KI.code [true, true, true]] [(0, SV.one (SC.v (Value.slice A ys.length c))), (1, SV.one (SC.v (Value.slice B ys.length c2))), (5, SV.one (SC.v (Value.int IntKind.i64 0)))] []) (by kernel_rfl) (by kernel_rfl) (by kernel_rfl) ?_
  refine loop_at (ι := Nat) (fun i => [(5, .one (.v (.int .i64 i)))]) (fun i => []) (fun i => [oldA w]) (fun i => i ≤ ys.length) (fun i => ys.length - i) 0 rfl rfl (by simp) (Nat.zero_le _) ?_
  intro i hi ih
  refine go mixed 2000 [0, 1, 5, 14] 0 (St.mk Rg.no [KI.code [true, true, false, true, true, true, false, true], KI.code [true, true, false, true, true, true, true], KI.loop [true, true, false, true, true, true], KI.block 0, KI.code [true, true, true]] [(0, SV.one (SC.v (Value.slice A ys.length c))), (1, SV.one (SC.v (Value.slice B ys.length c2))), (5, SV.one (SC.v (Value.int IntKind.i64 (↑i : Int)))), (14, SV.one (SC.bo (decide ((↑i : Int) < (↑ys.length : Int)))))] []) (by kernel_rfl) (by kernel_rfl) (by kernel_rfl) ?_
  refine split_at 14 (b := decide ((↑i : Int) < (↑ys.length : Int))) (by kernel_rfl) (by kernel_rfl) ?_ ?_
  · intro h1
    have hlt : i < ys.length := by simpa using h1
    refine go mixed 2000 [0, 1, 5, 17, 18, 21, 22] 0 (St.mk (Rg.dr [true, true, false, true, true, true, true, false, true, false] [true, true, false, false, true, true, false, false, false] 5 2) [KI.code [true, true, false, true, true, true, true, false, true, true], KI.block 1, KI.code [true, true, false, true, true, true, true, true], KI.loop [true, true, false, true, true, true], KI.block 0, KI.code [true, true, true]] [(0, SV.one (SC.v (Value.slice A ys.length c))), (1, SV.one (SC.v (Value.slice B ys.length c2))), (5, SV.one (SC.v (Value.int IntKind.i64 (↑i : Int)))), (17, SV.one (SC.v (Value.slice A ys.length c))), (18, SV.one (SC.v (Value.int IntKind.i64 (↑i : Int)))), (21, SV.one (SC.v (Value.slice B ys.length c2))), (22, SV.one (SC.v (Value.int IntKind.i64 (↑i : Int))))] []) (by kernel_rfl) (by kernel_rfl) (by kernel_rfl) ?_
    refine index_at 2 (by kernel_rfl : atP _ _ _ 2 false = some (Op.indexAddr 36 (Operand.tmp 17) (Operand.tmp 18), 0, some 19, Rg.dr [true, true, false, true, true, true, true, false, true, false] [true, true, true, false, true, true, false, false, false] 4 2)) (sz := 1) (by kernel_rfl) rfl rfl rfl hlt (fun L w1 hs => rd_some (rdRow_ext (hs.old 0 rfl) h) hlt) ?_
    intro a_1 ha_; cases ha_
    refine go mixed 2000 [0, 1, 5, 19, 21, 22] 0 (St.mk (Rg.dr [true, true, false, true, true, true, true, false, true, false] [true, true, true, false, true, true, false, false, false] 4 2) [KI.code [true, true, false, true, true, true, true, false, true, true], KI.block 1, KI.code [true, true, false, true, true, true, true, true], KI.loop [true, true, false, true, true, true], KI.block 0, KI.code [true, true, true]] [(0, SV.one (SC.v (Value.slice (some a_1) ys.length c))), (1, SV.one (SC.v (Value.slice B ys.length c2))), (5, SV.one (SC.v (Value.int IntKind.i64 (↑i : Int)))), (19, SV.one (SC.v (Value.pointer (some (a_1.add (i * 1)))))), (21, SV.one (SC.v (Value.slice B ys.length c2))), (22, SV.one (SC.v (Value.int IntKind.i64 (↑i : Int))))] []) (by kernel_rfl) (by kernel_rfl) (by kernel_rfl) ?_
    refine load_one 3 (by kernel_rfl : atP _ _ _ 3 true = some (Op.load 5 (Operand.tmp 19), 5, some 20, Rg.dr [true, true, false, true, true, true, true, false, true, false] [true, true, true, true, true, true, false, false, false] 3 2)) (n := 1) (by kernel_rfl) rfl ?_
    intro L w1 hs
    refine ⟨.v (.int .u8 ys[i]), rd_sc (rdRow_ext (hs.old 0 rfl) h) hlt, ?_⟩
    clear hs
    refine go mixed 2000 [0, 1, 5, 20, 21, 22] 0 (St.mk (Rg.dr [true, true, false, true, true, true, true, false, true, false] [true, true, true, true, true, true, false, false, false] 3 2) [KI.code [true, true, false, true, true, true, true, false, true, true], KI.block 1, KI.code [true, true, false, true, true, true, true, true], KI.loop [true, true, false, true, true, true], KI.block 0, KI.code [true, true, true]] [(0, SV.one (SC.v (Value.slice (some a_1) ys.length c))), (1, SV.one (SC.v (Value.slice B ys.length c2))), (5, SV.one (SC.v (Value.int IntKind.i64 (↑i : Int)))), (20, SV.one (SC.v (Value.int IntKind.u8 ys[i]))), (21, SV.one (SC.v (Value.slice B ys.length c2))), (22, SV.one (SC.v (Value.int IntKind.i64 (↑i : Int))))] []) (by kernel_rfl) (by kernel_rfl) (by kernel_rfl) ?_
    refine index_at 6 (by kernel_rfl : atP _ _ _ 6 false = some (Op.indexAddr 36 (Operand.tmp 21) (Operand.tmp 22), 0, some 23, Rg.dr [true, true, false, true, true, true, true, false, true, false] [true, true, true, true, true, true, true, false, false] 2 2)) (sz := 1) (by kernel_rfl) rfl rfl rfl hlt (fun L w1 hs => rd_some (rdRow_ext (hs.old 0 rfl) h2) hlt) ?_
    intro a_2 ha_; cases ha_
    refine go mixed 2000 [0, 1, 5, 20, 23] 0 (St.mk (Rg.dr [true, true, false, true, true, true, true, false, true, false] [true, true, true, true, true, true, true, false, false] 2 2) [KI.code [true, true, false, true, true, true, true, false, true, true], KI.block 1, KI.code [true, true, false, true, true, true, true, true], KI.loop [true, true, false, true, true, true], KI.block 0, KI.code [true, true, true]] [(0, SV.one (SC.v (Value.slice (some a_1) ys.length c))), (1, SV.one (SC.v (Value.slice (some a_2) ys.length c2))), (5, SV.one (SC.v (Value.int IntKind.i64 (↑i : Int)))), (20, SV.one (SC.v (Value.int IntKind.u8 ys[i]))), (23, SV.one (SC.v (Value.pointer (some (a_2.add (i * 1))))))] []) (by kernel_rfl) (by kernel_rfl) (by kernel_rfl) ?_
    refine load_one 7 (by kernel_rfl : atP _ _ _ 7 true = some (Op.load 5 (Operand.tmp 23), 5, some 24, Rg.dr [true, true, false, true, true, true, true, false, true, false] [true, true, true, true, true, true, true, true, false] 1 2)) (n := 1) (by kernel_rfl) rfl ?_
    intro L w1 hs
    refine ⟨.v (.int .u8 ys[i]), rd_sc (rdRow_ext (hs.old 0 rfl) h2) hlt, ?_⟩
    clear hs
    refine go mixed 2000 [0, 1, 5, 25] 0 (St.mk Rg.no [KI.code [true, true, false, true, true, true, true, false, true, true], KI.block 1, KI.code [true, true, false, true, true, true, true, true], KI.loop [true, true, false, true, true, true], KI.block 0, KI.code [true, true, true]] [(0, SV.one (SC.v (Value.slice (some a_1) ys.length c))), (1, SV.one (SC.v (Value.slice (some a_2) ys.length c2))), (5, SV.one (SC.v (Value.int IntKind.i64 (↑i : Int)))), (25, SV.one (SC.bo (ys[i] != ys[i])))] []) (by kernel_rfl) (by kernel_rfl) (by kernel_rfl) ?_
    refine split_at 25 (b := ys[i] != ys[i]) (by kernel_rfl) (by kernel_rfl) ?_ ?_
    · intro h1; simp at h1
    intro h1
    refine go mixed 2000 [0, 1, 5] 0 (St.mk Rg.no [KI.loop [true, true, false, true, true, true], KI.block 0, KI.code [true, true, true]] [(0, SV.one (SC.v (Value.slice (some a_1) ys.length c))), (1, SV.one (SC.v (Value.slice (some a_2) ys.length c2))), (5, SV.one (SC.v (Value.int IntKind.i64 (IntKind.i64.wrap ((↑i : Int) + 1)))))] []) (by kernel_rfl) (by kernel_rfl) (by kernel_rfl) ?_
    rw [wrap_succ (by omega)]
    exact ih (i + 1) hlt (by omega)
  · intro h1
    refine go mixed 2000 [4] 0 (St.mk Rg.no [KI.code [true, true, true, true]] [(4, SV.one (SC.v (Value.bool true)))] []) (by kernel_rfl) (by kernel_rfl) (by kernel_rfl) ?_
    refine ret_ok (vs := [SV.one (SC.v (Value.bool true))]) (by kernel_rfl) ?_
    intro L w1 hs
    exact ⟨rfl, hs.out0⟩
theorem szByteS_ok (ys : List Int) (A : Option Addr) (c : Nat) (left : Int) (hc : ys.length ≤ 9223372036854775807) (h0 : 0 ≤ left) (h1 : left ≤ 1048576) (w : World) :
    Calls Try.prog 66 #[.slice A ys.length c, .int .i64 left] w fun e w' => e = .returned (.int .i64 (if left < ys.length then -1 else left - ys.length)) ∧ Below w.heap.size w w' := by
  refine enter (args := [.one (.v (.slice A ys.length c)), .one (.v (.int .i64 left))]) Try.func66 (c := bodyOf Try.f66) rfl rfl (start_LOK _) (start_old w) ?_
  refine go mixed 2000 [1, 10] 0 (St.mk Rg.no [KI.code [true, true, false, true], KI.code [true, true, true]] [(1, SV.one (SC.v (Value.int IntKind.i64 (IntKind.i64.wrap (left - (↑ys.length : Int)))))), (10, SV.one (SC.bo (decide (IntKind.i64.wrap (left - (↑ys.length : Int)) < 0))))] []) (by kernel_rfl) (by kernel_rfl) (by kernel_rfl) ?_
  rw [show IntKind.i64.wrap (left - (ys.length : Int)) = left - (ys.length : Int) by rw [IntKind.wrap_i64]; omega]
  refine split_at 10 (b := decide (left - (↑ys.length : Int) < 0)) (by kernel_rfl) (by kernel_rfl) ?_ ?_
  · intro h1
    have h2 : left < ys.length := by have := of_decide_eq_true h1; omega
    refine go mixed 2000 [4] 0 (St.mk Rg.no [KI.code [true, true, false, true, false, true], KI.code [true, true, true]] [(4, SV.one (SC.v (Value.int IntKind.i64 (-1))))] []) (by kernel_rfl) (by kernel_rfl) (by kernel_rfl) ?_
    refine ret_ok (vs := [SV.one (SC.v (Value.int IntKind.i64 (-1)))]) (by kernel_rfl) ?_
    intro L w1 hs
    exact ⟨by rw [if_pos h2]; rfl, hs.out0⟩
  · intro h1
    have h2 : ¬ left < ys.length := by have := of_decide_eq_false h1; omega
    refine go mixed 2000 [4] 0 (St.mk Rg.no [KI.code [true, true, true, true]] [(4, SV.one (SC.v (Value.int IntKind.i64 (left - (↑ys.length : Int)))))] []) (by kernel_rfl) (by kernel_rfl) (by kernel_rfl) ?_
    refine ret_ok (vs := [SV.one (SC.v (Value.int IntKind.i64 (left - (↑ys.length : Int))))]) (by kernel_rfl) ?_
    intro L w1 hs
    exact ⟨by rw [if_neg h2]; rfl, hs.out0⟩
end Go.Proofs.Ytjbbakckckihnaa.Dk
