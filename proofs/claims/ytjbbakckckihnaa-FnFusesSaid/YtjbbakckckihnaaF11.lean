/- Walks of functions of the program: what each call returns and what it leaves in memory. Conditions: those that each theorem names. -/
import Derived.Test.YtjbbakckckihnaaProg
import Derived.Test.YtjbbakckckihnaaF10
namespace Go.Proofs.Ytjbbakckckihnaa.Dk
set_option linter.unusedVariables false
set_option linter.unusedSimpArgs false
open Go.Proofs.Ytjbbakckckihnaa.Sx Go.Proofs Go.RowKit
set_option maxRecDepth 100000
theorem toBoolS_ok (ys : List Bool) (A : Option Addr) (c : Nat) (w : World) (h : rdRow kBool w.heap ys (.slice A ys.length c)) (hl : ys.length ≤ 1048576) :
    Calls Try.prog 22 #[.slice A ys.length c] w fun e w' => ∃ A' c', e = .returned (.slice A' ys.length c') ∧ Fresh w w' [rowA 4 kBool ys (.slice A' ys.length c')] := by
  refine enter (args := [.one (.v (.slice A ys.length c))]) Try.func22 (c := bodyOf Try.f22) rfl rfl (start_LOK _) (start_old w) ?_
  refine go mixed 2000 [0, 6] 0 (St.mk (Rg.sq [true, false] 2) [KI.code [true, true]] [(0, SV.one (SC.v (Value.slice A ys.length c))), (6, SV.one (SC.v (Value.int IntKind.i64 (↑ys.length : Int))))] []) (by kernel_rfl) (by kernel_rfl) (by kernel_rfl) ?_
  refine make_at (d := kBool) ys.length false (zc := [.bool false]) (by_ := 1) (e := 4) true (by kernel_rfl : atB _ _ _ true = some (Op.makeSlice 42 (Operand.tmp 6) (Operand.tmp 6), 42, some 7, Rg.sq [true, false] 3)) (by kernel_rfl) (by kernel_rfl) rfl rfl rfl rfl (by omega) (by simp [maxLen]; omega) (fun _ => rfl) ?_
  intro g
  refine go mixed 2000 [0, 3, 4] 0 (St.mk Rg.no [KI.loop [true, true, false, true, true, true], KI.block 0, KI.code [true, true, true]] [(0, SV.one (SC.v (Value.slice A ys.length c))), (3, SV.one (SC.v (Value.slice (some (Addr.mk g 0 none)) ys.length ys.length))), (4, SV.one (SC.v (Value.int IntKind.i64 0)))] []) (by kernel_rfl) (by kernel_rfl) (by kernel_rfl) ?_
  refine loop_at (ι := Nat) (fun i => [(4, .one (.v (.int .i64 i)))]) (fun i => []) (fun i => [rowA 4 kBool (ys.take i ++ List.replicate (ys.length - i) false) (.slice (some ⟨g, 0, none⟩) ys.length ys.length), oldA w]) (fun i => i ≤ ys.length) (fun i => ys.length - i) 0 rfl rfl (by simp) (Nat.zero_le _) ?_
  intro i hi ih
  refine go mixed 2000 [0, 3, 4, 11] 0 (St.mk Rg.no [KI.code [true, true, false, true, true, true, false, true], KI.code [true, true, false, true, true, true, true], KI.loop [true, true, false, true, true, true], KI.block 0, KI.code [true, true, true]] [(0, SV.one (SC.v (Value.slice A ys.length c))), (3, SV.one (SC.v (Value.slice (some (Addr.mk g 0 none)) ys.length ys.length))), (4, SV.one (SC.v (Value.int IntKind.i64 (↑i : Int)))), (11, SV.one (SC.bo (decide ((↑i : Int) < (↑ys.length : Int)))))] []) (by kernel_rfl) (by kernel_rfl) (by kernel_rfl) ?_
  refine split_at 11 (b := decide ((↑i : Int) < (↑ys.length : Int))) (by kernel_rfl) (by kernel_rfl) ?_ ?_
  · intro h1
    have hlt : i < ys.length := by simpa using h1
    refine go mixed 2000 [0, 3, 4, 14, 15, 16, 17] 0 (St.mk (Rg.sq [true, true, false, true, true, true, true, false, true] 4) [KI.block 1, KI.code [true, true, false, true, true, true, true, true], KI.loop [true, true, false, true, true, true], KI.block 0, KI.code [true, true, true]] [(0, SV.one (SC.v (Value.slice A ys.length c))), (3, SV.one (SC.v (Value.slice (some (Addr.mk g 0 none)) ys.length ys.length))), (4, SV.one (SC.v (Value.int IntKind.i64 (↑i : Int)))), (14, SV.one (SC.v (Value.slice (some (Addr.mk g 0 none)) ys.length ys.length))), (15, SV.one (SC.v (Value.int IntKind.i64 (↑i : Int)))), (16, SV.one (SC.v (Value.slice A ys.length c))), (17, SV.one (SC.v (Value.int IntKind.i64 (↑i : Int))))] []) (by kernel_rfl) (by kernel_rfl) (by kernel_rfl) ?_
    refine index_at 4 (by kernel_rfl : atP _ _ _ 4 false = some (Op.indexAddr 42 (Operand.tmp 16) (Operand.tmp 17), 0, some 18, Rg.sq [true, true, false, true, true, true, true, false, true] 5)) (sz := 1) (by kernel_rfl) rfl rfl rfl hlt (fun L w1 hs => rd_some (rdRow_ext (hs.old 1 rfl) h) hlt) ?_
    intro a_1 ha_; cases ha_
    refine go mixed 2000 [0, 3, 4, 14, 15, 18] 0 (St.mk (Rg.sq [true, true, false, true, true, true, true, false, true] 5) [KI.block 1, KI.code [true, true, false, true, true, true, true, true], KI.loop [true, true, false, true, true, true], KI.block 0, KI.code [true, true, true]] [(0, SV.one (SC.v (Value.slice (some a_1) ys.length c))), (3, SV.one (SC.v (Value.slice (some (Addr.mk g 0 none)) ys.length ys.length))), (4, SV.one (SC.v (Value.int IntKind.i64 (↑i : Int)))), (14, SV.one (SC.v (Value.slice (some (Addr.mk g 0 none)) ys.length ys.length))), (15, SV.one (SC.v (Value.int IntKind.i64 (↑i : Int)))), (18, SV.one (SC.v (Value.pointer (some (a_1.add (i * 1))))))] []) (by kernel_rfl) (by kernel_rfl) (by kernel_rfl) ?_
    refine load_one 5 (by kernel_rfl : atP _ _ _ 5 true = some (Op.load 4 (Operand.tmp 18), 4, some 19, Rg.sq [true, true, false, true, true, true, true, false, true] 6)) (n := 1) (by kernel_rfl) rfl ?_
    intro L w1 hs
    refine ⟨.bo ys[i], rd_sc (rdRow_ext (hs.old 1 rfl) h) hlt, ?_⟩
    clear hs
    refine go mixed 2000 [0, 3, 4, 14, 15, 19] 0 (St.mk (Rg.sq [true, true, false, true, true, true, true, false, true] 6) [KI.block 1, KI.code [true, true, false, true, true, true, true, true], KI.loop [true, true, false, true, true, true], KI.block 0, KI.code [true, true, true]] [(0, SV.one (SC.v (Value.slice (some a_1) ys.length c))), (3, SV.one (SC.v (Value.slice (some (Addr.mk g 0 none)) ys.length ys.length))), (4, SV.one (SC.v (Value.int IntKind.i64 (↑i : Int)))), (14, SV.one (SC.v (Value.slice (some (Addr.mk g 0 none)) ys.length ys.length))), (15, SV.one (SC.v (Value.int IntKind.i64 (↑i : Int)))), (19, SV.one (SC.bo ys[i]))] []) (by kernel_rfl) (by kernel_rfl) (by kernel_rfl) ?_
    refine index_at 6 (by kernel_rfl : atP _ _ _ 6 false = some (Op.indexAddr 42 (Operand.tmp 14) (Operand.tmp 15), 0, some 20, Rg.sq [true, true, false, true, true, true, true, false, true] 7)) (sz := 1) (by kernel_rfl) rfl rfl rfl hlt (fun L w1 hs => ⟨_, rfl⟩) ?_
    intro a2 ha2
    cases ha2
    refine go mixed 2000 [0, 3, 4, 19, 20] 0 (St.mk (Rg.sq [true, true, false, true, true, true, true, false, true] 7) [KI.block 1, KI.code [true, true, false, true, true, true, true, true], KI.loop [true, true, false, true, true, true], KI.block 0, KI.code [true, true, true]] [(0, SV.one (SC.v (Value.slice (some a_1) ys.length c))), (3, SV.one (SC.v (Value.slice (some (Addr.mk g 0 none)) ys.length ys.length))), (4, SV.one (SC.v (Value.int IntKind.i64 (↑i : Int)))), (19, SV.one (SC.bo ys[i])), (20, SV.one (SC.v (Value.pointer (some ((Addr.mk g 0 none).add (i * 1))))))] []) (by kernel_rfl) (by kernel_rfl) (by kernel_rfl) ?_
    refine store_el (A := []) (d := kBool) (y := ys[i]) (by kernel_rfl : atB _ _ _ false = some (Op.store 4 (Operand.tmp 20) (Operand.tmp 19), 0, none, Rg.sq [true, true, false, true, true, true, true, false, true] 8)) (by kernel_rfl) rfl rfl rfl rfl rfl (by simp; omega) (fun _ _ _ => rfl) ?_
    refine go mixed 2000 [0, 3, 4] 0 (St.mk Rg.no [KI.loop [true, true, false, true, true, true], KI.block 0, KI.code [true, true, true]] [(0, SV.one (SC.v (Value.slice (some a_1) ys.length c))), (3, SV.one (SC.v (Value.slice (some (Addr.mk g 0 none)) ys.length ys.length))), (4, SV.one (SC.v (Value.int IntKind.i64 (IntKind.i64.wrap ((↑i : Int) + 1)))))] []) (by kernel_rfl) (by kernel_rfl) (by kernel_rfl) ?_
    rw [wrap_succ (by omega), set_fill ys false hlt]
    exact ih (i + 1) hlt (by omega)
  · intro h1
    refine go mixed 2000 [2] 0 (St.mk Rg.no [KI.code [true, true, true, true]] [(2, SV.one (SC.v (Value.slice (some (Addr.mk g 0 none)) ys.length ys.length)))] []) (by kernel_rfl) (by kernel_rfl) (by kernel_rfl) ?_
    refine ret_ok (vs := [SV.one (SC.v (Value.slice (some (Addr.mk g 0 none)) ys.length ys.length))]) (by kernel_rfl) ?_
    intro L w1 hs
    have hi2 : i = ys.length := by
      have : ¬ i < ys.length := by simpa using h1
      omega
    subst hi2
    simp only [List.take_length, Nat.sub_self, List.replicate_zero, List.append_nil] at hs
    exact ⟨_, _, rfl, hs.out (As := [_])⟩
theorem eqBoolS_ok (ys : List Bool) (A : Option Addr) (c : Nat) (B : Option Addr) (c2 : Nat) (w : World) (h : rdRow kBool w.heap ys (.slice A ys.length c)) (h2 : rdRow kBool w.heap ys (.slice B ys.length c2)) (hl : ys.length ≤ 1048576) :
    Calls Try.prog 24 #[.slice A ys.length c, .slice B ys.length c2] w fun e w' => e = .returned (.bool true) ∧ Below w.heap.size w w' := by
  refine enter (args := [.one (.v (.slice A ys.length c)), .one (.v (.slice B ys.length c2))]) Try.func24 (c := bodyOf Try.f24) rfl rfl (start_LOK _) (start_old w) ?_
  refine go mixed 2000 [0, 1, 10] 0 (St.mk Rg.no [KI.code [true, false, true], KI.code [true, true]] [(0, SV.one (SC.v (Value.slice A ys.length c))), (1, SV.one (SC.v (Value.slice B ys.length c2))), (10, SV.one (SC.bo ((↑ys.length : Int) != (↑ys.length : Int))))] []) (by kernel_rfl) (by kernel_rfl) (by kernel_rfl) ?_
  refine split_at 10 (b := (↑ys.length : Int) != (↑ys.length : Int)) (by kernel_rfl) (by kernel_rfl) ?_ ?_
  · intro h1; simp at h1
  intro h1
  refine go mixed 2000 [0, 1, 5] 0 (St.mk Rg.no [KI.loop [true, true, false, true, true, true], KI.block 0, KI.code [true, true, true]] [(0, SV.one (SC.v (Value.slice A ys.length c))), (1, SV.one (SC.v (Value.slice B ys.length c2))), (5, SV.one (SC.v (Value.int IntKind.i64 0)))] []) (by kernel_rfl) (by kernel_rfl) (by kernel_rfl) ?_
  refine loop_at (ι := Nat) (fun i => [(5, .one (.v (.int .i64 i)))]) (fun i => []) (fun i => [oldA w]) (fun i => i ≤ ys.length) (fun i => ys.length - i) 0 rfl rfl (by simp) (Nat.zero_le _) ?_
  intro i hi ih
  refine go mixed 2000 [0, 1, 5, 14] 0 (St.mk Rg.no [KI.code [true, true, false, true, true, true, false, true], KI.code [true, true, false, true, true, true, true], KI.loop [true, true, false, true, true, true], KI.block 0, KI.code [true, true, true]] [(0, SV.one (SC.v (Value.slice A ys.length c))), (1, SV.one (SC.v (Value.slice B ys.length c2))), (5, SV.one (SC.v (Value.int IntKind.i64 (↑i : Int)))), (14, SV.one (SC.bo (decide ((↑i : Int) < (↑ys.length : Int)))))] []) (by kernel_rfl) (by kernel_rfl) (by kernel_rfl) ?_
  refine split_at 14 (b := decide ((↑i : Int) < (↑ys.length : Int))) (by kernel_rfl) (by kernel_rfl) ?_ ?_
  · intro h1
    have hlt : i < ys.length := by simpa using h1
    refine go mixed 2000 [0, 1, 5, 17, 18, 21, 22] 0 (St.mk (Rg.dr [true, true, false, true, true, true, true, false, true, false] [true, true, false, false, true, true, false, false, false] 5 2) [KI.code [true, true, false, true, true, true, true, false, true, true], KI.block 1, KI.code [true, true, false, true, true, true, true, true], KI.loop [true, true, false, true, true, true], KI.block 0, KI.code [true, true, true]] [(0, SV.one (SC.v (Value.slice A ys.length c))), (1, SV.one (SC.v (Value.slice B ys.length c2))), (5, SV.one (SC.v (Value.int IntKind.i64 (↑i : Int)))), (17, SV.one (SC.v (Value.slice A ys.length c))), (18, SV.one (SC.v (Value.int IntKind.i64 (↑i : Int)))), (21, SV.one (SC.v (Value.slice B ys.length c2))), (22, SV.one (SC.v (Value.int IntKind.i64 (↑i : Int))))] []) (by kernel_rfl) (by kernel_rfl) (by kernel_rfl) ?_
    refine index_at 2 (by kernel_rfl : atP _ _ _ 2 false = some (Op.indexAddr 42 (Operand.tmp 17) (Operand.tmp 18), 0, some 19, Rg.dr [true, true, false, true, true, true, true, false, true, false] [true, true, true, false, true, true, false, false, false] 4 2)) (sz := 1) (by kernel_rfl) rfl rfl rfl hlt (fun L w1 hs => rd_some (rdRow_ext (hs.old 0 rfl) h) hlt) ?_
    intro a_2 ha_; cases ha_
    refine go mixed 2000 [0, 1, 5, 19, 21, 22] 0 (St.mk (Rg.dr [true, true, false, true, true, true, true, false, true, false] [true, true, true, false, true, true, false, false, false] 4 2) [KI.code [true, true, false, true, true, true, true, false, true, true], KI.block 1, KI.code [true, true, false, true, true, true, true, true], KI.loop [true, true, false, true, true, true], KI.block 0, KI.code [true, true, true]] [(0, SV.one (SC.v (Value.slice (some a_2) ys.length c))), (1, SV.one (SC.v (Value.slice B ys.length c2))), (5, SV.one (SC.v (Value.int IntKind.i64 (↑i : Int)))), (19, SV.one (SC.v (Value.pointer (some (a_2.add (i * 1)))))), (21, SV.one (SC.v (Value.slice B ys.length c2))), (22, SV.one (SC.v (Value.int IntKind.i64 (↑i : Int))))] []) (by kernel_rfl) (by kernel_rfl) (by kernel_rfl) ?_
    refine load_one 3 (by kernel_rfl : atP _ _ _ 3 true = some (Op.load 4 (Operand.tmp 19), 4, some 20, Rg.dr [true, true, false, true, true, true, true, false, true, false] [true, true, true, true, true, true, false, false, false] 3 2)) (n := 1) (by kernel_rfl) rfl ?_
    intro L w1 hs
    refine ⟨.bo ys[i], rd_sc (rdRow_ext (hs.old 0 rfl) h) hlt, ?_⟩
    clear hs
    refine go mixed 2000 [0, 1, 5, 20, 21, 22] 0 (St.mk (Rg.dr [true, true, false, true, true, true, true, false, true, false] [true, true, true, true, true, true, false, false, false] 3 2) [KI.code [true, true, false, true, true, true, true, false, true, true], KI.block 1, KI.code [true, true, false, true, true, true, true, true], KI.loop [true, true, false, true, true, true], KI.block 0, KI.code [true, true, true]] [(0, SV.one (SC.v (Value.slice (some a_2) ys.length c))), (1, SV.one (SC.v (Value.slice B ys.length c2))), (5, SV.one (SC.v (Value.int IntKind.i64 (↑i : Int)))), (20, SV.one (SC.bo ys[i])), (21, SV.one (SC.v (Value.slice B ys.length c2))), (22, SV.one (SC.v (Value.int IntKind.i64 (↑i : Int))))] []) (by kernel_rfl) (by kernel_rfl) (by kernel_rfl) ?_
    refine index_at 6 (by kernel_rfl : atP _ _ _ 6 false = some (Op.indexAddr 42 (Operand.tmp 21) (Operand.tmp 22), 0, some 23, Rg.dr [true, true, false, true, true, true, true, false, true, false] [true, true, true, true, true, true, true, false, false] 2 2)) (sz := 1) (by kernel_rfl) rfl rfl rfl hlt (fun L w1 hs => rd_some (rdRow_ext (hs.old 0 rfl) h2) hlt) ?_
    intro a_3 ha_; cases ha_
    refine go mixed 2000 [0, 1, 5, 20, 23] 0 (St.mk (Rg.dr [true, true, false, true, true, true, true, false, true, false] [true, true, true, true, true, true, true, false, false] 2 2) [KI.code [true, true, false, true, true, true, true, false, true, true], KI.block 1, KI.code [true, true, false, true, true, true, true, true], KI.loop [true, true, false, true, true, true], KI.block 0, KI.code [true, true, true]] [(0, SV.one (SC.v (Value.slice (some a_2) ys.length c))), (1, SV.one (SC.v (Value.slice (some a_3) ys.length c2))), (5, SV.one (SC.v (Value.int IntKind.i64 (↑i : Int)))), (20, SV.one (SC.bo ys[i])), (23, SV.one (SC.v (Value.pointer (some (a_3.add (i * 1))))))] []) (by kernel_rfl) (by kernel_rfl) (by kernel_rfl) ?_
    refine load_one 7 (by kernel_rfl : atP _ _ _ 7 true = some (Op.load 4 (Operand.tmp 23), 4, some 24, Rg.dr [true, true, false, true, true, true, true, false, true, false] [true, true, true, true, true, true, true, true, false] 1 2)) (n := 1) (by kernel_rfl) rfl ?_
    intro L w1 hs
    refine ⟨.bo ys[i], rd_sc (rdRow_ext (hs.old 0 rfl) h2) hlt, ?_⟩
    clear hs
    refine go mixed 2000 [0, 1, 5, 25] 0 (St.mk Rg.no [KI.code [true, true, false, true, true, true, true, false, true, true], KI.block 1, KI.code [true, true, false, true, true, true, true, true], KI.loop [true, true, false, true, true, true], KI.block 0, KI.code [true, true, true]] [(0, SV.one (SC.v (Value.slice (some a_2) ys.length c))), (1, SV.one (SC.v (Value.slice (some a_3) ys.length c2))), (5, SV.one (SC.v (Value.int IntKind.i64 (↑i : Int)))), (25, SV.one (SC.bo !ys[i] == ys[i]))] []) (by kernel_rfl) (by kernel_rfl) (by kernel_rfl) ?_
    refine split_at 25 (b := !ys[i] == ys[i]) (by kernel_rfl) (by kernel_rfl) ?_ ?_
    · intro h1; simp at h1
    intro h1
    refine go mixed 2000 [0, 1, 5] 0 (St.mk Rg.no [KI.loop [true, true, false, true, true, true], KI.block 0, KI.code [true, true, true]] [(0, SV.one (SC.v (Value.slice (some a_2) ys.length c))), (1, SV.one (SC.v (Value.slice (some a_3) ys.length c2))), (5, SV.one (SC.v (Value.int IntKind.i64 (IntKind.i64.wrap ((↑i : Int) + 1)))))] []) (by kernel_rfl) (by kernel_rfl) (by kernel_rfl) ?_
    rw [wrap_succ (by omega)]
    exact ih (i + 1) hlt (by omega)
  · intro h1
    refine go mixed 2000 [4] 0 (St.mk Rg.no [KI.code [true, true, true, true]] [(4, SV.one (SC.v (Value.bool true)))] []) (by kernel_rfl) (by kernel_rfl) (by kernel_rfl) ?_
    refine ret_ok (vs := [SV.one (SC.v (Value.bool true))]) (by kernel_rfl) ?_
    intro L w1 hs
    exact ⟨rfl, hs.out0⟩
theorem markBoolS_ok (ys : List Bool) (A : Option Addr) (c : Nat) (k : Int) (w : World) (S : Nat → Prop) (h : sepL [rowA 4 kBool ys (.slice A ys.length c)] w.heap S) (hS : ∀ b, S b → b < w.heap.size) (hl : ys.length ≤ 1048576) (hk : 0 ≤ k ∧ k ≤ 1099511627776) :
    Calls Try.prog 25 #[.slice A ys.length c, .int .i64 k] w fun e w' => e = .returned (.int .i64 (k + ys.length)) ∧ ∃ zs, Mut w w' S [rowA 4 kBool zs (.slice A ys.length c)] := by
  refine enter (args := [.one (.v (.slice A ys.length c)), .one (.v (.int .i64 k))]) Try.func25 (c := bodyOf Try.f25) rfl rfl (start_LOK _) (start_mut h hS) ?_
  refine go mixed 2000 [0, 1, 5] 0 (St.mk Rg.no [KI.loop [true, false, true, true, true], KI.block 0, KI.code [true, true]] [(0, SV.one (SC.v (Value.slice A ys.length c))), (1, SV.one (SC.v (Value.int IntKind.i64 k))), (5, SV.one (SC.v (Value.int IntKind.i64 0)))] []) (by kernel_rfl) (by kernel_rfl) (by kernel_rfl) ?_
  refine loop_at (ι := Nat × List Bool) (fun s => [(1, .one (.v (.int .i64 (k + (s.1 : Int))))), (5, .one (.v (.int .i64 s.1)))]) (fun s => []) (fun s => [rowA 4 kBool s.2 (.slice A ys.length c), oldX w S]) (fun s => s.1 ≤ ys.length ∧ s.2.length = ys.length) (fun s => ys.length - s.1) (0, ys) (by simp [updTm, lk]; exact ⟨rfl, rfl⟩) rfl rfl ⟨Nat.zero_le _, rfl⟩ ?_
  intro s hi ih
  refine go mixed 2000 [0, 1, 5, 9] 0 (St.mk Rg.no [KI.code [true, false, true, true, true, false, true], KI.code [true, false, true, true, true, true], KI.loop [true, false, true, true, true], KI.block 0, KI.code [true, true]] [(0, SV.one (SC.v (Value.slice A ys.length c))), (1, SV.one (SC.v (Value.int IntKind.i64 (k + (↑s.fst : Int))))), (5, SV.one (SC.v (Value.int IntKind.i64 (↑s.fst : Int)))), (9, SV.one (SC.bo (decide ((↑s.fst : Int) < (↑ys.length : Int)))))] []) (by kernel_rfl) (by kernel_rfl) (by kernel_rfl) ?_
  obtain ⟨i, zs⟩ := s
  simp only at hi ih ⊢
  refine split_at 9 (b := decide ((↑i : Int) < (↑ys.length : Int))) (by kernel_rfl) (by kernel_rfl) ?_ ?_
  · intro h1
    have hlt : i < ys.length := by simpa using h1
    refine go mixed 2000 [0, 1, 5, 12, 13, 16] 0 (St.mk (Rg.sq [true, false, true, true, true, true, false, true, false] 5) [KI.code [true, false, true, true, true, true, false, true, true], KI.block 1, KI.code [true, false, true, true, true, true, true], KI.loop [true, false, true, true, true], KI.block 0, KI.code [true, true]] [(0, SV.one (SC.v (Value.slice A ys.length c))), (1, SV.one (SC.v (Value.int IntKind.i64 (k + (↑i : Int))))), (5, SV.one (SC.v (Value.int IntKind.i64 (↑i : Int)))), (12, SV.one (SC.v (Value.slice A ys.length c))), (13, SV.one (SC.v (Value.int IntKind.i64 (↑i : Int)))), (16, SV.one (SC.bo ((k + (↑i : Int)).tmod 3 == 0)))] []) (by kernel_rfl) (by kernel_rfl) (by kernel_rfl) ?_
    obtain ⟨g, rfl⟩ := own_g (rowA_holds.1 (sepL_one h)) (by omega)
    refine index_at 5 (by kernel_rfl : atP _ _ _ 5 false = some (Op.indexAddr 42 (Operand.tmp 12) (Operand.tmp 13), 0, some 17, Rg.sq [true, false, true, true, true, true, false, true, false] 6)) (sz := 1) (by kernel_rfl) rfl rfl rfl hlt (fun L w1 hs => ⟨_, rfl⟩) ?_
    intro a2 ha2; cases ha2
    refine go mixed 2000 [0, 1, 5, 16, 17] 0 (St.mk (Rg.sq [true, false, true, true, true, true, false, true, false] 6) [KI.code [true, false, true, true, true, true, false, true, true], KI.block 1, KI.code [true, false, true, true, true, true, true], KI.loop [true, false, true, true, true], KI.block 0, KI.code [true, true]] [(0, SV.one (SC.v (Value.slice (some (Addr.mk g 0 none)) ys.length c))), (1, SV.one (SC.v (Value.int IntKind.i64 (k + (↑i : Int))))), (5, SV.one (SC.v (Value.int IntKind.i64 (↑i : Int)))), (16, SV.one (SC.bo ((k + (↑i : Int)).tmod 3 == 0))), (17, SV.one (SC.v (Value.pointer (some ((Addr.mk g 0 none).add (i * 1))))))] []) (by kernel_rfl) (by kernel_rfl) (by kernel_rfl) ?_
    refine store_el (A := []) (d := kBool) (y := _) (by kernel_rfl : atB _ _ _ false = some (Op.store 4 (Operand.tmp 17) (Operand.tmp 16), 0, none, Rg.sq [true, false, true, true, true, true, false, true, false] 7)) (by kernel_rfl) rfl rfl rfl rfl rfl (by omega) (fun _ _ _ => rfl) ?_
    refine go mixed 2000 [0, 1, 5] 0 (St.mk Rg.no [KI.loop [true, false, true, true, true], KI.block 0, KI.code [true, true]] [(0, SV.one (SC.v (Value.slice (some (Addr.mk g 0 none)) ys.length c))), (1, SV.one (SC.v (Value.int IntKind.i64 (IntKind.i64.wrap (k + (↑i : Int) + 1))))), (5, SV.one (SC.v (Value.int IntKind.i64 (IntKind.i64.wrap ((↑i : Int) + 1)))))] []) (by kernel_rfl) (by kernel_rfl) (by kernel_rfl) ?_
    rw [wrap_succ (by omega), show IntKind.i64.wrap (k + (i : Int) + 1) = k + ((i + 1 : Nat) : Int) by rw [IntKind.wrap_i64]; omega]
    exact ih (i + 1, _) ⟨hlt, by rw [List.length_set]; exact hi.2⟩ (by simp only; omega)
  · intro h1
    refine go mixed 2000 [4] 0 (St.mk Rg.no [KI.code [true, true, true]] [(4, SV.one (SC.v (Value.int IntKind.i64 (k + (↑i : Int)))))] []) (by kernel_rfl) (by kernel_rfl) (by kernel_rfl) ?_
    refine ret_ok (vs := [SV.one (SC.v (Value.int IntKind.i64 (k + (↑i : Int))))]) (by kernel_rfl) ?_
    intro L w1 hs
    have hi2 : i = ys.length := by
      have : ¬ i < ys.length := by simpa using h1
      omega
    subst hi2
    exact ⟨rfl, _, hs.outm (As := [_])⟩
end Go.Proofs.Ytjbbakckckihnaa.Dk
