/- Walks of functions of the program: what each call returns and what it leaves in memory. Conditions: those that each theorem names. -/
import Derived.Test.YtjbbakckckihnaaProg
import Derived.Test.YtjbbakckckihnaaSxOpen
namespace Go.Proofs.Ytjbbakckckihnaa.Dk
set_option linter.unusedVariables false
set_option linter.unusedSimpArgs false
open Go.Proofs.Ytjbbakckckihnaa.Sx Go.Proofs Go.RowKit
theorem mixed : Try.prog.follows .mixedOrders = true := by kernel_rfl
set_option maxRecDepth 100000
def kB : Kn (List Int) := kRow 5 kU8
def kW : Kn (Int × List Int) := kPair kI64 kB
theorem wrap_succ {i : Nat} (h : i < 9223372036854775807) : IntKind.i64.wrap ((i : Int) + 1) = ((i + 1 : Nat) : Int) := by
  rw [IntKind.wrap_i64]; omega
theorem set_fill {α : Type} (ys : List α) (z : α) {i : Nat} (hi : i < ys.length) : (ys.take i ++ List.replicate (ys.length - i) z).set i ys[i] = ys.take (i + 1) ++ List.replicate (ys.length - (i + 1)) z := by
  have hl : (ys.take i).length = i := by simp; omega
  rw [List.set_append_right _ _ (by omega), hl, Nat.sub_self, show ys.length - i = (ys.length - (i + 1)) + 1 by omega, List.replicate_succ, List.set_cons_zero, List.take_succ_eq_append_getElem hi, List.append_assoc]
  rfl
theorem within_ok (n lo hi : Int) (w : World) : Calls Try.prog 60 #[.int .i64 n, .int .i64 lo, .int .i64 hi] w fun e w' => e = .returned (.bool (decide (lo ≤ n) && decide (n ≤ hi))) ∧ Below w.heap.size w w' := by
  refine enter (args := [.one (.v (.int .i64 n)), .one (.v (.int .i64 lo)), .one (.v (.int .i64 hi))]) Try.func60 (c := bodyOf Try.f60) rfl rfl (start_LOK _) (start_old w) ?_
  refine go mixed 2000 [0, 2, 10] 0 (St.mk (Rg.sq [true, false] 4) [KI.code [true, true]] [(0, SV.one (SC.v (Value.int IntKind.i64 n))), (2, SV.one (SC.v (Value.int IntKind.i64 hi))), (10, SV.one (SC.bo (decide (lo ≤ n))))] []) (by kernel_rfl) (by kernel_rfl) (by kernel_rfl) ?_
  refine split_at 10 (b := decide (lo ≤ n)) (by kernel_rfl) (by kernel_rfl) ?_ ?_
  · intro h1
    refine go mixed 2000 [6] 0 (St.mk Rg.no [KI.code [true, true]] [(6, SV.one (SC.bo (decide (n ≤ hi))))] []) (by kernel_rfl) (by kernel_rfl) (by kernel_rfl) ?_
    refine ret_ok (vs := [SV.one (SC.bo (decide (n ≤ hi)))]) (by kernel_rfl) ?_
    intro L w1 hs
    exact ⟨by simp [retV, SV.val, SC.val, h1], hs.out0⟩
  · intro h1
    refine go mixed 2000 [6] 0 (St.mk Rg.no [KI.code [true, true]] [(6, SV.one (SC.v (Value.bool false)))] []) (by kernel_rfl) (by kernel_rfl) (by kernel_rfl) ?_
    refine ret_ok (vs := [SV.one (SC.v (Value.bool false))]) (by kernel_rfl) ?_
    intro L w1 hs
    exact ⟨by simp [retV, SV.val, SC.val, h1], hs.out0⟩
theorem toByteS_ok (ys : List Int) (A : Option Addr) (c : Nat) (w : World) (h : rdRow kU8 w.heap ys (.slice A ys.length c)) (hl : ys.length ≤ 1048576) :
    Calls Try.prog 17 #[.slice A ys.length c] w fun e w' => ∃ A' c', e = .returned (.slice A' ys.length c') ∧ Fresh w w' [rowA 5 kU8 ys (.slice A' ys.length c')] := by
  refine enter (args := [.one (.v (.slice A ys.length c))]) Try.func17 (c := bodyOf Try.f17) rfl rfl (start_LOK _) (start_old w) ?_
  refine go mixed 2000 [0, 6] 0 (St.mk (Rg.sq [true, false] 2) [KI.code [true, true]] [(0, SV.one (SC.v (Value.slice A ys.length c))), (6, SV.one (SC.v (Value.int IntKind.i64 (↑ys.length : Int))))] []) (by kernel_rfl) (by kernel_rfl) (by kernel_rfl) ?_
  refine make_at (d := kU8) ys.length 0 (zc := [.int .u8 0]) (by_ := 1) (e := 5) true (by kernel_rfl : atB _ _ _ true = some (Op.makeSlice 36 (Operand.tmp 6) (Operand.tmp 6), 36, some 7, Rg.sq [true, false] 3)) (by kernel_rfl) (by kernel_rfl) rfl rfl rfl rfl (by omega) (by simp [maxLen]; omega) (fun _ => rfl) ?_
  intro g
  refine go mixed 2000 [0, 3, 4] 0 (St.mk Rg.no [KI.loop [true, true, false, true, true, true], KI.block 0, KI.code [true, true, true]] [(0, SV.one (SC.v (Value.slice A ys.length c))), (3, SV.one (SC.v (Value.slice (some (Addr.mk g 0 none)) ys.length ys.length))), (4, SV.one (SC.v (Value.int IntKind.i64 0)))] []) (by kernel_rfl) (by kernel_rfl) (by kernel_rfl) ?_
  refine loop_at (ι := Nat) (fun i => [(4, .one (.v (.int .i64 i)))]) (fun _ => []) (fun i => [rowA 5 kU8 (ys.take i ++ List.replicate (ys.length - i) 0) (.slice (some ⟨g, 0, none⟩) ys.length ys.length), oldA w]) (fun i => i ≤ ys.length) (fun i => ys.length - i) 0 rfl rfl (by simp) (Nat.zero_le _) ?_
  intro i hi ih
  refine go mixed 2000 [0, 3, 4, 11] 0 (St.mk Rg.no [KI.code [true, true, false, true, true, true, false, true], KI.code [true, true, false, true, true, true, true], KI.loop [true, true, false, true, true, true], KI.block 0, KI.code [true, true, true]] [(0, SV.one (SC.v (Value.slice A ys.length c))), (3, SV.one (SC.v (Value.slice (some (Addr.mk g 0 none)) ys.length ys.length))), (4, SV.one (SC.v (Value.int IntKind.i64 (↑i : Int)))), (11, SV.one (SC.bo (decide ((↑i : Int) < (↑ys.length : Int)))))] []) (by kernel_rfl) (by kernel_rfl) (by kernel_rfl) ?_
  refine split_at 11 (b := decide ((↑i : Int) < (↑ys.length : Int))) (by kernel_rfl) (by kernel_rfl) ?_ ?_
  · intro h1
    have hlt : i < ys.length := by simpa using h1
    refine go mixed 2000 [0, 3, 4, 14, 15, 16, 17] 0 (St.mk (Rg.sq [true, true, false, true, true, true, true, false, true] 4) [KI.block 1, KI.code [true, true, false, true, true, true, true, true], KI.loop [true, true, false, true, true, true], KI.block 0, KI.code [true, true, true]] [(0, SV.one (SC.v (Value.slice A ys.length c))), (3, SV.one (SC.v (Value.slice (some (Addr.mk g 0 none)) ys.length ys.length))), (4, SV.one (SC.v (Value.int IntKind.i64 (↑i : Int)))), (14, SV.one (SC.v (Value.slice (some (Addr.mk g 0 none)) ys.length ys.length))), (15, SV.one (SC.v (Value.int IntKind.i64 (↑i : Int)))), (16, SV.one (SC.v (Value.slice A ys.length c))), (17, SV.one (SC.v (Value.int IntKind.i64 (↑i : Int))))] []) (by kernel_rfl) (by kernel_rfl) (by kernel_rfl) ?_
    refine index_at 4 (by kernel_rfl : atP _ _ _ 4 false = some (Op.indexAddr 36 (Operand.tmp 16) (Operand.tmp 17), 0, some 18, Rg.sq [true, true, false, true, true, true, true, false, true] 5)) (sz := 1) (by kernel_rfl) rfl rfl rfl hlt (fun L w1 hs => rd_some (rdRow_ext (hs.old 1 rfl) h) hlt) ?_
    rintro a rfl
    refine go mixed 2000 [0, 3, 4, 14, 15, 18] 0 (St.mk (Rg.sq [true, true, false, true, true, true, true, false, true] 5) [KI.block 1, KI.code [true, true, false, true, true, true, true, true], KI.loop [true, true, false, true, true, true], KI.block 0, KI.code [true, true, true]] [(0, SV.one (SC.v (Value.slice (some a) ys.length c))), (3, SV.one (SC.v (Value.slice (some (Addr.mk g 0 none)) ys.length ys.length))), (4, SV.one (SC.v (Value.int IntKind.i64 (↑i : Int)))), (14, SV.one (SC.v (Value.slice (some (Addr.mk g 0 none)) ys.length ys.length))), (15, SV.one (SC.v (Value.int IntKind.i64 (↑i : Int)))), (18, SV.one (SC.v (Value.pointer (some (a.add (i * 1))))))] []) (by kernel_rfl) (by kernel_rfl) (by kernel_rfl) ?_
    refine load_one 5 (by kernel_rfl : atP _ _ _ 5 true = some (Op.load 5 (Operand.tmp 18), 5, some 19, Rg.sq [true, true, false, true, true, true, true, false, true] 6)) (n := 1) (by kernel_rfl) rfl ?_
    intro L w1 hs
    refine ⟨.v (.int .u8 ys[i]), rd_sc (rdRow_ext (hs.old 1 rfl) h) hlt, ?_⟩
    clear hs
    refine go mixed 2000 [0, 3, 4, 14, 15, 19] 0 (St.mk (Rg.sq [true, true, false, true, true, true, true, false, true] 6) [KI.block 1, KI.code [true, true, false, true, true, true, true, true], KI.loop [true, true, false, true, true, true], KI.block 0, KI.code [true, true, true]] [(0, SV.one (SC.v (Value.slice (some a) ys.length c))), (3, SV.one (SC.v (Value.slice (some (Addr.mk g 0 none)) ys.length ys.length))), (4, SV.one (SC.v (Value.int IntKind.i64 (↑i : Int)))), (14, SV.one (SC.v (Value.slice (some (Addr.mk g 0 none)) ys.length ys.length))), (15, SV.one (SC.v (Value.int IntKind.i64 (↑i : Int)))), (19, SV.one (SC.v (Value.int IntKind.u8 ys[i])))] []) (by kernel_rfl) (by kernel_rfl) (by kernel_rfl) ?_
    refine index_at 6 (by kernel_rfl : atP _ _ _ 6 false = some (Op.indexAddr 36 (Operand.tmp 14) (Operand.tmp 15), 0, some 20, Rg.sq [true, true, false, true, true, true, true, false, true] 7)) (sz := 1) (by kernel_rfl) rfl rfl rfl hlt (fun L w1 hs => ⟨_, rfl⟩) ?_
    intro a2 ha2
    cases ha2
    refine go mixed 2000 [0, 3, 4, 19, 20] 0 (St.mk (Rg.sq [true, true, false, true, true, true, true, false, true] 7) [KI.block 1, KI.code [true, true, false, true, true, true, true, true], KI.loop [true, true, false, true, true, true], KI.block 0, KI.code [true, true, true]] [(0, SV.one (SC.v (Value.slice (some a) ys.length c))), (3, SV.one (SC.v (Value.slice (some (Addr.mk g 0 none)) ys.length ys.length))), (4, SV.one (SC.v (Value.int IntKind.i64 (↑i : Int)))), (19, SV.one (SC.v (Value.int IntKind.u8 ys[i]))), (20, SV.one (SC.v (Value.pointer (some ((Addr.mk g 0 none).add (i * 1))))))] []) (by kernel_rfl) (by kernel_rfl) (by kernel_rfl) ?_
    refine store_el (A := []) (d := kU8) (y := ys[i]) (by kernel_rfl : atB _ _ _ false = some (Op.store 5 (Operand.tmp 20) (Operand.tmp 19), 0, none, Rg.sq [true, true, false, true, true, true, true, false, true] 8)) (by kernel_rfl) rfl rfl rfl rfl rfl (by simp; omega) (fun _ _ _ => rfl) ?_
    refine go mixed 2000 [0, 3, 4] 0 (St.mk Rg.no [KI.loop [true, true, false, true, true, true], KI.block 0, KI.code [true, true, true]] [(0, SV.one (SC.v (Value.slice (some a) ys.length c))), (3, SV.one (SC.v (Value.slice (some (Addr.mk g 0 none)) ys.length ys.length))), (4, SV.one (SC.v (Value.int IntKind.i64 (IntKind.i64.wrap ((↑i : Int) + 1)))))] []) (by kernel_rfl) (by kernel_rfl) (by kernel_rfl) ?_
    rw [wrap_succ (by omega), set_fill ys 0 hlt]
    exact ih (i + 1) hlt (by omega)
  · intro h1
    refine go mixed 2000 [2] 0 (St.mk Rg.no [KI.code [true, true, true, true]] [(2, SV.one (SC.v (Value.slice (some (Addr.mk g 0 none)) ys.length ys.length)))] []) (by kernel_rfl) (by kernel_rfl) (by kernel_rfl) ?_
    refine ret_ok (vs := [SV.one (SC.v (Value.slice (some (Addr.mk g 0 none)) ys.length ys.length))]) (by kernel_rfl) ?_
    intro L w1 hs
    have hi2 : i = ys.length := by
      have : ¬ i < ys.length := by simpa using h1
      omega
    subst hi2
    simp only [List.take_length, Nat.sub_self, List.replicate_zero, List.append_nil] at hs
    exact ⟨_, _, rfl, hs.out (As := [_])⟩
theorem clone_ok (ys : List Int) (A : Option Addr) (c : Nat) (w : World) (h : rdRow kU8 w.heap ys (.slice A ys.length c)) (hl : ys.length ≤ 1048576) :
    Calls Try.prog 69 #[.slice A ys.length c] w fun e w' => ∃ A' c', e = .returned (.slice A' ys.length c') ∧ Fresh w w' [rowA 5 kU8 ys (.slice A' ys.length c')] := by
  refine enter (args := [.one (.v (.slice A ys.length c))]) Try.func69 (c := bodyOf Try.f69) rfl rfl (start_LOK _) (start_old w) ?_
  cases A with
  | none =>
    have h0 : ys = [] := by
      apply List.eq_nil_of_length_eq_zero
      apply Nat.eq_zero_of_not_pos
      intro hp
      obtain ⟨a, ha⟩ := rd_some h hp
      cases ha
    subst h0
    refine go mixed 2000 [2] 0 (St.mk Rg.no [KI.code [true, false, true, false, true], KI.code [true, true]] [(2, SV.one (SC.v (Value.slice none 0 0)))] []) (by kernel_rfl) (by kernel_rfl) (by kernel_rfl) ?_
    refine ret_ok (vs := [SV.one (SC.v (Value.slice none 0 0))]) (by kernel_rfl) ?_
    intro L w' hs
    exact ⟨none, 0, rfl, hs.out1 rowA_nil⟩
  | some a =>
    refine go mixed 2000 [5, 6] 1 (St.mk (Rg.sq [true, true, false] 2) [KI.code [true, true, true]] [(5, SV.one (SC.sl 0 0 0 0)), (6, SV.one (SC.v (Value.slice (some a) ys.length c)))] [LB.mk [] 5]) (by kernel_rfl) (by kernel_rfl) (by kernel_rfl) ?_
    refine export_row (d := kU8) (A := []) ([] : List Int) [] rfl rfl rfl rfl rfl rfl rfl (Nat.zero_le _) (fun _ _ _ => els_nil) (fun g => ?_)
    refine go mixed 2000 [5, 6] 0 (St.mk (Rg.sq [true, true, false] 2) [KI.code [true, true, true]] [(5, SV.one (SC.v (Value.slice (some (Addr.mk g 0 none)) 0 0))), (6, SV.one (SC.v (Value.slice (some a) ys.length c)))] []) (by kernel_rfl) (by kernel_rfl) (by kernel_rfl) ?_
    refine append_sc (by_ := 1) (e := 5) (by kernel_rfl : atB _ _ _ false = some (Op.call (Call.mk (Callee.builtin Builtin.append) #[Operand.tmp 5, Operand.tmp 6] #[36, 36]), 36, some 7, Rg.sq [true, true, false] 3)) (by kernel_rfl) rfl rfl ?_ ?_ ?_ ?_
    · intro L w1 hs
      exact rdRow_ext (hs.old 1 rfl) h
    · simp [maxLen]; omega
    · simp; omega
    · intro A c1
      refine go mixed 2000 [2] 0 (St.mk Rg.no [KI.code [true, true, true]] [(2, SV.one (SC.v (Value.slice A ([] ++ ys).length c1)))] []) (by kernel_rfl) (by kernel_rfl) (by kernel_rfl) ?_
      refine ret_ok (vs := [SV.one (SC.v (Value.slice A ([] ++ ys).length c1))]) (by kernel_rfl) ?_
      intro L w1 hs
      exact ⟨_, _, rfl, hs.out (As := [_])⟩
end Go.Proofs.Ytjbbakckckihnaa.Dk
