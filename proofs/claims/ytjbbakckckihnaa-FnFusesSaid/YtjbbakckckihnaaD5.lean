/- Walks of functions of the program: what each call returns and what it leaves in memory. Conditions: those that each theorem names. -/
import Derived.Test.YtjbbakckckihnaaD4
namespace Go.Proofs.Ytjbbakckckihnaa.Dk
set_option linter.unusedVariables false
set_option linter.unusedSimpArgs false
open Go.Proofs.Ytjbbakckckihnaa.Sx Go.Proofs Go.RowKit
set_option maxRecDepth 100000
theorem heldByteS_ok (n : Nat) (A : Option Addr) (c : Nat) (k : Int) (w : World) (h : rdRow kU8 w.heap (mkB n k) (.slice A n c)) (hl : n ≤ 1048576) (hk : 0 ≤ k ∧ k ≤ 1099511627776) :
    Calls Try.prog 71 #[.slice A n c, .int .i64 k] w fun e w' => e = .returned (.int .i64 (k + n)) ∧ Below w.heap.size w w' := by
  refine enter (args := [.one (.v (.slice A n c)), .one (.v (.int .i64 k))]) Try.func71 (c := bodyOf Try.f71) rfl rfl (start_LOK _) (start_old w) ?_
  refine go mixed 2000 [0, 1, 5] 0 (St.mk Rg.no [KI.loop [true, false, true, true, true], KI.block 0, KI.code [true, true]] [(0, SV.one (SC.v (Value.slice A n c))), (1, SV.one (SC.v (Value.int IntKind.i64 k))), (5, SV.one (SC.v (Value.int IntKind.i64 0)))] []) (by kernel_rfl) (by kernel_rfl) (by kernel_rfl) ?_
  refine loop_at (ι := Nat) (fun i => [(1, .one (.v (.int .i64 (k + (i : Int))))), (5, .one (.v (.int .i64 i)))]) (fun i => []) (fun i => [oldA w]) (fun i => i ≤ n) (fun i => n - i) 0 (by simp [updTm, lk]; exact ⟨rfl, rfl⟩) rfl (by simp) (Nat.zero_le _) ?_
  intro i hi ih
  refine go mixed 2000 [0, 1, 5, 9] 0 (St.mk Rg.no [KI.code [true, false, true, true, true, false, true], KI.code [true, false, true, true, true, true], KI.loop [true, false, true, true, true], KI.block 0, KI.code [true, true]] [(0, SV.one (SC.v (Value.slice A n c))), (1, SV.one (SC.v (Value.int IntKind.i64 (k + (↑i : Int))))), (5, SV.one (SC.v (Value.int IntKind.i64 (↑i : Int)))), (9, SV.one (SC.bo (decide ((↑i : Int) < (↑n : Int)))))] []) (by kernel_rfl) (by kernel_rfl) (by kernel_rfl) ?_
  refine split_at 9 (b := decide ((↑i : Int) < (↑n : Int))) (by kernel_rfl) (by kernel_rfl) ?_ ?_
  · intro h1
    have hlt : i < n := by simpa using h1
    have hlm : i < (mkB n k).length := by rw [mkB_len]; exact hlt
    refine go mixed 2000 [0, 1, 5, 12, 13] 0 (St.mk (Rg.sq [true, false, true, true, true, true, false, true, false, false] 2) [KI.code [true, false, true, true, true, true, false, true, false, true], KI.code [true, false, true, true, true, true, false, true, true], KI.block 1, KI.code [true, false, true, true, true, true, true], KI.loop [true, false, true, true, true], KI.block 0, KI.code [true, true]] [(0, SV.one (SC.v (Value.slice A n c))), (1, SV.one (SC.v (Value.int IntKind.i64 (k + (↑i : Int))))), (5, SV.one (SC.v (Value.int IntKind.i64 (↑i : Int)))), (12, SV.one (SC.v (Value.slice A n c))), (13, SV.one (SC.v (Value.int IntKind.i64 (↑i : Int))))] []) (by kernel_rfl) (by kernel_rfl) (by kernel_rfl) ?_
    refine index_at 2 (by kernel_rfl : atP _ _ _ 2 false = some (Op.indexAddr 36 (Operand.tmp 12) (Operand.tmp 13), 0, some 14, Rg.sq [true, false, true, true, true, true, false, true, false, false] 3)) (sz := 1) (by kernel_rfl) rfl rfl rfl hlt (fun L w1 hs => rd_some (rdRow_ext (hs.old 0 rfl) h) hlt) ?_
    intro a_1 ha_; cases ha_
    refine go mixed 2000 [0, 1, 5, 14] 0 (St.mk (Rg.sq [true, false, true, true, true, true, false, true, false, false] 3) [KI.code [true, false, true, true, true, true, false, true, false, true], KI.code [true, false, true, true, true, true, false, true, true], KI.block 1, KI.code [true, false, true, true, true, true, true], KI.loop [true, false, true, true, true], KI.block 0, KI.code [true, true]] [(0, SV.one (SC.v (Value.slice (some a_1) n c))), (1, SV.one (SC.v (Value.int IntKind.i64 (k + (↑i : Int))))), (5, SV.one (SC.v (Value.int IntKind.i64 (↑i : Int)))), (14, SV.one (SC.v (Value.pointer (some (a_1.add (i * 1))))))] []) (by kernel_rfl) (by kernel_rfl) (by kernel_rfl) ?_
    refine load_one 3 (by kernel_rfl : atP _ _ _ 3 true = some (Op.load 5 (Operand.tmp 14), 5, some 15, Rg.sq [true, false, true, true, true, true, false, true, false, false] 4)) (n := 1) (by kernel_rfl) rfl ?_
    intro L w1 hs
    refine ⟨.v (.int .u8 (mkB n k)[i]), rd_sc (rdRow_ext (hs.old 0 rfl) h) hlm, ?_⟩
    clear hs
    refine go mixed 2000 [0, 1, 5, 18] 0 (St.mk Rg.no [KI.code [true, false, true, true, true, true, false, true, false, true], KI.code [true, false, true, true, true, true, false, true, true], KI.block 1, KI.code [true, false, true, true, true, true, true], KI.loop [true, false, true, true, true], KI.block 0, KI.code [true, true]] [(0, SV.one (SC.v (Value.slice (some a_1) n c))), (1, SV.one (SC.v (Value.int IntKind.i64 (k + (↑i : Int))))), (5, SV.one (SC.v (Value.int IntKind.i64 (↑i : Int)))), (18, SV.one (SC.bo ((mkB n k)[i] != IntKind.u8.wrap (k + (↑i : Int)))))] []) (by kernel_rfl) (by kernel_rfl) (by kernel_rfl) ?_
    refine split_at 18 (b := (mkB n k)[i] != IntKind.u8.wrap (k + (↑i : Int))) (by kernel_rfl) (by kernel_rfl) ?_ ?_
    · intro h2; simp [mkB] at h2
    intro h2
    refine go mixed 2000 [0, 1, 5] 0 (St.mk Rg.no [KI.loop [true, false, true, true, true], KI.block 0, KI.code [true, true]] [(0, SV.one (SC.v (Value.slice (some a_1) n c))), (1, SV.one (SC.v (Value.int IntKind.i64 (IntKind.i64.wrap (k + (↑i : Int) + 1))))), (5, SV.one (SC.v (Value.int IntKind.i64 (IntKind.i64.wrap ((↑i : Int) + 1)))))] []) (by kernel_rfl) (by kernel_rfl) (by kernel_rfl) ?_
    rw [wrap_succ (by omega), show IntKind.i64.wrap (k + (i : Int) + 1) = k + ((i + 1 : Nat) : Int) by rw [IntKind.wrap_i64]; omega]
    exact ih (i + 1) hlt (by omega)
  · intro h1
    refine go mixed 2000 [4] 0 (St.mk Rg.no [KI.code [true, true, true]] [(4, SV.one (SC.v (Value.int IntKind.i64 (k + (↑i : Int)))))] []) (by kernel_rfl) (by kernel_rfl) (by kernel_rfl) ?_
    refine ret_ok (vs := [SV.one (SC.v (Value.int IntKind.i64 (k + (↑i : Int))))]) (by kernel_rfl) ?_
    intro L w1 hs
    have hi2 : i = n := by
      have : ¬ i < n := by simpa using h1
      omega
    subst hi2
    exact ⟨rfl, hs.out0⟩
def lenSum : List (List Int) → Nat
  | [] => 0
  | y :: r => y.length + lenSum r
def mkBB : List (List Int) → Int → List (List Int)
  | [], _ => []
  | y :: r, k => mkB y.length k :: mkBB r (k + y.length)
theorem mkBB_len : ∀ (ys : List (List Int)) (k : Int), (mkBB ys k).length = ys.length
  | [], _ => rfl
  | y :: r, k => by simp [mkBB, mkBB_len r]
theorem lenSum_app : ∀ (a b : List (List Int)), lenSum (a ++ b) = lenSum a + lenSum b
  | [], b => by simp [lenSum]
  | y :: r, b => by simp [lenSum, lenSum_app r b, Nat.add_assoc]
theorem mkBB_app : ∀ (a b : List (List Int)) (k : Int), mkBB (a ++ b) k = mkBB a k ++ mkBB b (k + lenSum a)
  | [], b, k => by simp [mkBB, lenSum]
  | y :: r, b, k => by
    simp only [List.cons_append, mkBB, mkBB_app r b, lenSum]
    rw [show k + (y.length : Int) + (lenSum r : Int) = k + ((y.length + lenSum r : Nat) : Int) by omega]
theorem lenSum_take {ys : List (List Int)} {i : Nat} (hi : i < ys.length) : lenSum (ys.take (i + 1)) = lenSum (ys.take i) + (ys[i]).length := by
  rw [List.take_succ_eq_append_getElem hi, lenSum_app]
  simp [lenSum]
theorem lenSum_take_le (ys : List (List Int)) (i : Nat) : lenSum (ys.take i) ≤ lenSum ys := by
  conv => rhs; rw [← List.take_append_drop i ys, lenSum_app]
  omega
theorem mkBB_step (ys : List (List Int)) (k : Int) {i : Nat} (hi : i < ys.length) :
    (mkBB (ys.take i) k ++ ys.drop i).set i (mkB (ys[i]).length (k + lenSum (ys.take i))) = mkBB (ys.take (i + 1)) k ++ ys.drop (i + 1) := by
  have hl : (mkBB (ys.take i) k).length = i := by rw [mkBB_len]; simp; omega
  rw [List.set_append_right _ _ (by omega), hl, Nat.sub_self, List.drop_eq_getElem_cons hi, List.set_cons_zero, List.take_succ_eq_append_getElem hi, mkBB_app]
  simp [mkBB]
theorem mid_get {ys : List (List Int)} {k : Int} {i : Nat} (hi : i < ys.length) (h : i < (mkBB (ys.take i) k ++ ys.drop i).length) : (mkBB (ys.take i) k ++ ys.drop i)[i] = ys[i] := by
  have hl : (mkBB (ys.take i) k).length = i := by rw [mkBB_len]; simp; omega
  rw [List.getElem_append_right (by omega)]
  simp [hl]
theorem mkBB_get {ys : List (List Int)} {k : Int} {i : Nat} (hi : i < ys.length) (h : i < (mkBB ys k).length) : (mkBB ys k)[i] = mkB (ys[i]).length (k + lenSum (ys.take i)) := by
  have e : mkBB ys k = mkBB (ys.take i) k ++ mkBB (ys.drop i) (k + lenSum (ys.take i)) := by rw [← mkBB_app, List.take_append_drop]
  have hl : (mkBB (ys.take i) k).length = i := by rw [mkBB_len]; simp; omega
  simp only [e]
  rw [List.getElem_append_right (by omega)]
  simp only [hl, Nat.sub_self, List.drop_eq_getElem_cons hi, mkBB, List.getElem_cons_zero]
theorem markByteSS_ok (ys : List (List Int)) (A : Option Addr) (c : Nat) (k : Int) (w : World) (S : Nat → Prop) (h : sepL [rowA 36 kB ys (.slice A ys.length c)] w.heap S) (hS : ∀ b, S b → b < w.heap.size) (hl : ys.length ≤ 1048576) (hl2 : lenSum ys ≤ 1048576) (hl3 : ∀ y ∈ ys, y.length ≤ 1048576) (hk : 0 ≤ k ∧ k ≤ 1073741824) :
    Calls Try.prog 44 #[.slice A ys.length c, .int .i64 k] w fun e w' => e = .returned (.int .i64 (k + lenSum ys)) ∧ Mut w w' S [rowA 36 kB (mkBB ys k) (.slice A ys.length c)] := by
  refine enter (args := [.one (.v (.slice A ys.length c)), .one (.v (.int .i64 k))]) Try.func44 (c := bodyOf Try.f44) rfl rfl (start_LOK _) (start_mut h hS) ?_
  refine go mixed 2000 [0, 1, 5] 0 (St.mk Rg.no [KI.loop [true, false, true, true, true], KI.block 0, KI.code [true, true]] [(0, SV.one (SC.v (Value.slice A ys.length c))), (1, SV.one (SC.v (Value.int IntKind.i64 k))), (5, SV.one (SC.v (Value.int IntKind.i64 0)))] []) (by kernel_rfl) (by kernel_rfl) (by kernel_rfl) ?_
  refine loop_at (ι := Nat) (fun i => [(1, .one (.v (.int .i64 (k + (lenSum (ys.take i) : Int))))), (5, .one (.v (.int .i64 i)))]) (fun i => []) (fun i => [rowA 36 kB (mkBB (ys.take i) k ++ ys.drop i) (.slice A ys.length c), oldX w S]) (fun i => i ≤ ys.length) (fun i => ys.length - i) 0 (by simp [updTm, lk, lenSum]; exact ⟨rfl, rfl⟩) rfl (by simp [mkBB]) (Nat.zero_le _) ?_
  intro i hi ih
  refine go mixed 2000 [0, 1, 5, 9] 0 (St.mk Rg.no [KI.code [true, false, true, true, true, false, true], KI.code [true, false, true, true, true, true], KI.loop [true, false, true, true, true], KI.block 0, KI.code [true, true]] [(0, SV.one (SC.v (Value.slice A ys.length c))), (1, SV.one (SC.v (Value.int IntKind.i64 (k + (↑(lenSum (List.take i ys)) : Int))))), (5, SV.one (SC.v (Value.int IntKind.i64 (↑i : Int)))), (9, SV.one (SC.bo (decide ((↑i : Int) < (↑ys.length : Int)))))] []) (by kernel_rfl) (by kernel_rfl) (by kernel_rfl) ?_
  refine split_at 9 (b := decide ((↑i : Int) < (↑ys.length : Int))) (by kernel_rfl) (by kernel_rfl) ?_ ?_
  · intro h1
    have hlt : i < ys.length := by simpa using h1
    have hle := lenSum_take_le ys i
    have hle2 := lenSum_take hlt
    have hle3 := lenSum_take_le ys (i + 1)
    have hlm : i < (mkBB (ys.take i) k ++ ys.drop i).length := by simp [mkBB_len]; omega
    refine go mixed 2000 [0, 1, 5, 12, 13] 0 (St.mk (Rg.sq [true, false, true, true, true, true, false, true] 2) [KI.block 1, KI.code [true, false, true, true, true, true, true], KI.loop [true, false, true, true, true], KI.block 0, KI.code [true, true]] [(0, SV.one (SC.v (Value.slice A ys.length c))), (1, SV.one (SC.v (Value.int IntKind.i64 (k + (↑(lenSum (List.take i ys)) : Int))))), (5, SV.one (SC.v (Value.int IntKind.i64 (↑i : Int)))), (12, SV.one (SC.v (Value.slice A ys.length c))), (13, SV.one (SC.v (Value.int IntKind.i64 (↑i : Int))))] []) (by kernel_rfl) (by kernel_rfl) (by kernel_rfl) ?_
    obtain ⟨g, rfl⟩ := own_g (rowA_holds.1 (sepL_one h)) (by omega)
    refine index_at 2 (by kernel_rfl : atP _ _ _ 2 false = some (Op.indexAddr 22 (Operand.tmp 12) (Operand.tmp 13), 0, some 14, Rg.sq [true, false, true, true, true, true, false, true] 3)) (sz := 1) (by kernel_rfl) rfl rfl rfl hlt (fun L w1 hs => ⟨_, rfl⟩) ?_
    intro a2 ha2; cases ha2
    refine go mixed 2000 [0, 1, 5, 14] 0 (St.mk (Rg.sq [true, false, true, true, true, true, false, true] 3) [KI.block 1, KI.code [true, false, true, true, true, true, true], KI.loop [true, false, true, true, true], KI.block 0, KI.code [true, true]] [(0, SV.one (SC.v (Value.slice (some (Addr.mk g 0 none)) ys.length c))), (1, SV.one (SC.v (Value.int IntKind.i64 (k + (↑(lenSum (List.take i ys)) : Int))))), (5, SV.one (SC.v (Value.int IntKind.i64 (↑i : Int)))), (14, SV.one (SC.v (Value.pointer (some ((Addr.mk g 0 none).add (i * 1))))))] []) (by kernel_rfl) (by kernel_rfl) (by kernel_rfl) ?_
    refine h_focus hlm (fun cs => ?_)
    rw [mid_get hlt]
    refine h_el_row ?_
    rintro Ai ci rfl
    refine load_one 3 (by kernel_rfl : atP _ _ _ 3 true = some (Op.load 36 (Operand.tmp 14), 36, some 15, Rg.sq [true, false, true, true, true, true, false, true] 4)) (n := 1) (by kernel_rfl) rfl ?_
    intro L w1 hs
    obtain ⟨S1, hS1, hh⟩ := hs.at_ 1 rfl
    refine ⟨.v (.slice Ai (ys[i]).length ci), (hole_cell hh) 0 _ rfl, ?_⟩
    clear hs hh hS1 S1
    refine go mixed 2000 [0, 5, 15, 16] 0 (St.mk (Rg.sq [true, false, true, true, true, true, false, true] 5) [KI.block 1, KI.code [true, false, true, true, true, true, true], KI.loop [true, false, true, true, true], KI.block 0, KI.code [true, true]] [(0, SV.one (SC.v (Value.slice (some (Addr.mk g 0 none)) ys.length c))), (5, SV.one (SC.v (Value.int IntKind.i64 (↑i : Int)))), (15, SV.one (SC.v (Value.slice Ai ys[i].length ci))), (16, SV.one (SC.v (Value.int IntKind.i64 (k + (↑(lenSum (List.take i ys)) : Int)))))] []) (by kernel_rfl) (by kernel_rfl) (by kernel_rfl) ?_
    refine call_mut (A := [rowA 5 kU8 (ys[i]) (.slice Ai (ys[i]).length ci)]) (by kernel_rfl : atC _ _ _ false = some (20, [SV.one (SC.v (Value.slice Ai ys[i].length ci)), SV.one (SC.v (Value.int IntKind.i64 (k + (↑(lenSum (List.take i ys)) : Int))))], some 17, Rg.sq [true, false, true, true, true, true, false, true] 6)) (by kernel_rfl) (fun L w1 S1 hs hA hS1 => (markByteS_ok (ys[i]) Ai ci _ w1 S1 hA hS1 (hl3 _ (List.getElem_mem hlt)) (by omega)).mono ?_)
    rintro e w2 ⟨rfl, hm⟩
    refine ⟨.one (.v (.int .i64 _)), _, rfl, hm, ?_⟩
    clear hm hs hA hS1
    refine go mixed 2000 [0, 1, 5] 0 (St.mk Rg.no [KI.loop [true, false, true, true, true], KI.block 0, KI.code [true, true]] [(0, SV.one (SC.v (Value.slice (some (Addr.mk g 0 none)) ys.length c))), (1, SV.one (SC.v (Value.int IntKind.i64 (k + (↑(lenSum (List.take i ys)) : Int) + (↑ys[i].length : Int))))), (5, SV.one (SC.v (Value.int IntKind.i64 (IntKind.i64.wrap ((↑i : Int) + 1)))))] []) (by kernel_rfl) (by kernel_rfl) (by kernel_rfl) ?_
    refine h_unfocus (x := mkB (ys[i]).length (k + (lenSum (ys.take i) : Int))) ?_
    rw [wrap_succ (by omega), mkBB_step ys k hlt, show k + (lenSum (ys.take i) : Int) + ((ys[i]).length : Int) = k + (lenSum (ys.take (i + 1)) : Int) by omega]
    exact ih (i + 1) hlt (by omega)
  · intro h1
    refine go mixed 2000 [4] 0 (St.mk Rg.no [KI.code [true, true, true]] [(4, SV.one (SC.v (Value.int IntKind.i64 (k + (↑(lenSum (List.take i ys)) : Int)))))] []) (by kernel_rfl) (by kernel_rfl) (by kernel_rfl) ?_
    refine ret_ok (vs := [SV.one (SC.v (Value.int IntKind.i64 (k + (↑(lenSum (List.take i ys)) : Int))))]) (by kernel_rfl) ?_
    intro L w1 hs
    have hi2 : i = ys.length := by
      have : ¬ i < ys.length := by simpa using h1
      omega
    subst hi2
    simp only [List.drop_length, List.append_nil, List.take_length] at hs ⊢
    exact ⟨rfl, hs.outm (As := [_])⟩
end Go.Proofs.Ytjbbakckckihnaa.Dk
