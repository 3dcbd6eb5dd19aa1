/- Walks of functions of the program: what each call returns and what it leaves in memory. Conditions: those that each theorem names. -/
import Derived.Test.YtjbbakckckihnaaD3
namespace Go.Proofs.Ytjbbakckckihnaa.Dk
set_option linter.unusedVariables false
set_option linter.unusedSimpArgs false
open Go.Proofs.Ytjbbakckckihnaa.Sx Go.Proofs Go.RowKit
set_option maxRecDepth 100000
def mkB (n : Nat) (k : Int) : List Int := (List.range n).map fun (i : Nat) => IntKind.u8.wrap (k + (i : Int))
theorem mkB_len (n : Nat) (k : Int) : (mkB n k).length = n := by simp [mkB]
theorem mk_step (ys : List Int) (k : Int) {i : Nat} (hi : i < ys.length) : (mkB i k ++ ys.drop i).set i (IntKind.u8.wrap (k + (i : Int))) = mkB (i + 1) k ++ ys.drop (i + 1) := by
  have hl : (mkB i k).length = i := mkB_len i k
  rw [List.set_append_right _ _ (by omega), hl, Nat.sub_self, List.drop_eq_getElem_cons hi, List.set_cons_zero]
  simp [mkB, List.range_succ]
theorem markByteS_ok (ys : List Int) (A : Option Addr) (c : Nat) (k : Int) (w : World) (S : Nat → Prop) (h : sepL [rowA 5 kU8 ys (.slice A ys.length c)] w.heap S) (hS : ∀ b, S b → b < w.heap.size) (hl : ys.length ≤ 1048576) (hk : 0 ≤ k ∧ k ≤ 1099511627776) :
    Calls Try.prog 20 #[.slice A ys.length c, .int .i64 k] w fun e w' => e = .returned (.int .i64 (k + ys.length)) ∧ Mut w w' S [rowA 5 kU8 (mkB ys.length k) (.slice A ys.length c)] := by
  refine enter (args := [.one (.v (.slice A ys.length c)), .one (.v (.int .i64 k))]) Try.func20 (c := bodyOf Try.f20) rfl rfl (start_LOK _) (start_mut h hS) ?_
  refine go mixed 2000 [0, 1, 5] 0 (St.mk Rg.no [KI.loop [true, false, true, true, true], KI.block 0, KI.code [true, true]] [(0, SV.one (SC.v (Value.slice A ys.length c))), (1, SV.one (SC.v (Value.int IntKind.i64 k))), (5, SV.one (SC.v (Value.int IntKind.i64 0)))] []) (by kernel_rfl) (by kernel_rfl) (by kernel_rfl) ?_
  refine loop_at (ι := Nat) (fun i => [(1, .one (.v (.int .i64 (k + (i : Int))))), (5, .one (.v (.int .i64 i)))]) (fun i => []) (fun i => [rowA 5 kU8 (mkB i k ++ ys.drop i) (.slice A ys.length c), oldX w S]) (fun i => i ≤ ys.length) (fun i => ys.length - i) 0 (by simp [updTm, lk]; exact ⟨rfl, rfl⟩) rfl (by simp [mkB]) (Nat.zero_le _) ?_
  intro i hi ih
  refine go mixed 2000 [0, 1, 5, 9] 0 (St.mk Rg.no [KI.code [true, false, true, true, true, false, true], KI.code [true, false, true, true, true, true], KI.loop [true, false, true, true, true], KI.block 0, KI.code [true, true]] [(0, SV.one (SC.v (Value.slice A ys.length c))), (1, SV.one (SC.v (Value.int IntKind.i64 (k + (↑i : Int))))), (5, SV.one (SC.v (Value.int IntKind.i64 (↑i : Int)))), (9, SV.one (SC.bo (decide ((↑i : Int) < (↑ys.length : Int)))))] []) (by kernel_rfl) (by kernel_rfl) (by kernel_rfl) ?_
  refine split_at 9 (b := decide ((↑i : Int) < (↑ys.length : Int))) (by kernel_rfl) (by kernel_rfl) ?_ ?_
  · intro h1
    have hlt : i < ys.length := by simpa using h1
    refine go mixed 2000 [0, 1, 5, 12, 13, 15] 0 (St.mk (Rg.sq [true, false, true, true, true, true, false, true, false] 4) [KI.code [true, false, true, true, true, true, false, true, true], KI.block 1, KI.code [true, false, true, true, true, true, true], KI.loop [true, false, true, true, true], KI.block 0, KI.code [true, true]] [(0, SV.one (SC.v (Value.slice A ys.length c))), (1, SV.one (SC.v (Value.int IntKind.i64 (k + (↑i : Int))))), (5, SV.one (SC.v (Value.int IntKind.i64 (↑i : Int)))), (12, SV.one (SC.v (Value.slice A ys.length c))), (13, SV.one (SC.v (Value.int IntKind.i64 (↑i : Int)))), (15, SV.one (SC.v (Value.int IntKind.u8 (IntKind.u8.wrap (k + (↑i : Int))))))] []) (by kernel_rfl) (by kernel_rfl) (by kernel_rfl) ?_
    obtain ⟨g, rfl⟩ := own_g (rowA_holds.1 (sepL_one h)) (by omega)
    refine index_at 4 (by kernel_rfl : atP _ _ _ 4 false = some (Op.indexAddr 36 (Operand.tmp 12) (Operand.tmp 13), 0, some 16, Rg.sq [true, false, true, true, true, true, false, true, false] 5)) (sz := 1) (by kernel_rfl) rfl rfl rfl hlt (fun L w1 hs => ⟨_, rfl⟩) ?_
    intro a2 ha2; cases ha2
    refine go mixed 2000 [0, 1, 5, 15, 16] 0 (St.mk (Rg.sq [true, false, true, true, true, true, false, true, false] 5) [KI.code [true, false, true, true, true, true, false, true, true], KI.block 1, KI.code [true, false, true, true, true, true, true], KI.loop [true, false, true, true, true], KI.block 0, KI.code [true, true]] [(0, SV.one (SC.v (Value.slice (some (Addr.mk g 0 none)) ys.length c))), (1, SV.one (SC.v (Value.int IntKind.i64 (k + (↑i : Int))))), (5, SV.one (SC.v (Value.int IntKind.i64 (↑i : Int)))), (15, SV.one (SC.v (Value.int IntKind.u8 (IntKind.u8.wrap (k + (↑i : Int)))))), (16, SV.one (SC.v (Value.pointer (some ((Addr.mk g 0 none).add (i * 1))))))] []) (by kernel_rfl) (by kernel_rfl) (by kernel_rfl) ?_
    refine store_el (A := []) (d := kU8) (y := IntKind.u8.wrap (k + (i : Int))) (by kernel_rfl : atB _ _ _ false = some (Op.store 5 (Operand.tmp 16) (Operand.tmp 15), 0, none, Rg.sq [true, false, true, true, true, true, false, true, false] 6)) (by kernel_rfl) rfl rfl rfl rfl rfl (by simp [mkB]; omega) (fun _ _ _ => rfl) ?_
    refine go mixed 2000 [0, 1, 5] 0 (St.mk Rg.no [KI.loop [true, false, true, true, true], KI.block 0, KI.code [true, true]] [(0, SV.one (SC.v (Value.slice (some (Addr.mk g 0 none)) ys.length c))), (1, SV.one (SC.v (Value.int IntKind.i64 (IntKind.i64.wrap (k + (↑i : Int) + 1))))), (5, SV.one (SC.v (Value.int IntKind.i64 (IntKind.i64.wrap ((↑i : Int) + 1)))))] []) (by kernel_rfl) (by kernel_rfl) (by kernel_rfl) ?_
    rw [wrap_succ (by omega), mk_step ys k hlt, show IntKind.i64.wrap (k + (i : Int) + 1) = k + ((i + 1 : Nat) : Int) by rw [IntKind.wrap_i64]; omega]
    exact ih (i + 1) hlt (by omega)
  · intro h1
    refine go mixed 2000 [4] 0 (St.mk Rg.no [KI.code [true, true, true]] [(4, SV.one (SC.v (Value.int IntKind.i64 (k + (↑i : Int)))))] []) (by kernel_rfl) (by kernel_rfl) (by kernel_rfl) ?_
    refine ret_ok (vs := [SV.one (SC.v (Value.int IntKind.i64 (k + (↑i : Int))))]) (by kernel_rfl) ?_
    intro L w1 hs
    have hi2 : i = ys.length := by
      have : ¬ i < ys.length := by simpa using h1
      omega
    subst hi2
    simp only [List.drop_length, List.append_nil] at hs
    exact ⟨rfl, hs.outm (As := [_])⟩
end Go.Proofs.Ytjbbakckckihnaa.Dk
