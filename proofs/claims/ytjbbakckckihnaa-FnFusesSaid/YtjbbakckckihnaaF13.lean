/- Walks of functions of the program: what each call returns and what it leaves in memory. Conditions: those that each theorem names. -/
import Derived.Test.YtjbbakckckihnaaProg
import Derived.Test.YtjbbakckckihnaaF12
namespace Go.Proofs.Ytjbbakckckihnaa.Dk
set_option linter.unusedVariables false
set_option linter.unusedSimpArgs false
open Go.Proofs.Ytjbbakckckihnaa.Sx Go.Proofs Go.RowKit
set_option maxRecDepth 100000
theorem big_ok (ys : List Int) (A : Option Addr) (c : Nat) (w : World) : Calls Try.prog 28 #[.slice A ys.length c] w fun e w' => e = .returned (.bool (decide ((ys.length : Int) > 1048576))) ∧ Below w.heap.size w w' := by
  refine enter (args := [.one (.v (.slice A ys.length c))]) Try.func28 (c := bodyOf Try.f28) rfl rfl (start_LOK _) (start_old w) ?_
  refine go mixed 2000 [2] 0 (St.mk Rg.no [KI.code [true, true]] [(2, SV.one (SC.bo (decide ((↑ys.length : Int) > 1048576))))] []) (by kernel_rfl) (by kernel_rfl) (by kernel_rfl) ?_
  refine ret_ok (vs := [SV.one (SC.bo (decide ((↑ys.length : Int) > 1048576)))]) (by kernel_rfl) ?_
  intro L w1 hs
  exact ⟨rfl, hs.out0⟩
theorem at_ok (ys : List Int) (A : Option Addr) (c : Nat) (j : Nat) (w : World) (h : rdRow kU8 w.heap ys (.slice A ys.length c)) (hl : ys.length ≤ 1048576) (hy : ∀ b ∈ ys, 0 ≤ b ∧ b ≤ 255) (hj : j ≤ 1048576) :
    Calls Try.prog 34 #[.slice A ys.length c, .int .i64 (j : Int)] w fun e w' => ∃ r : Int, e = .returned (.int .i64 r) ∧ Below w.heap.size w w' ∧ 0 ≤ r ∧ r ≤ 255 := by
  refine enter (args := [.one (.v (.slice A ys.length c)), .one (.v (.int .i64 (j : Int)))]) Try.func34 (c := bodyOf Try.f34) rfl rfl (start_LOK _) (start_old w) ?_
  refine go mixed 2000 [0, 1, 8] 0 (St.mk Rg.no [KI.code [true, false, true], KI.code [true, true]] [(0, SV.one (SC.v (Value.slice A ys.length c))), (1, SV.one (SC.v (Value.int IntKind.i64 (↑j : Int)))), (8, SV.one (SC.bo (decide ((↑j : Int) < (↑ys.length : Int)))))] []) (by kernel_rfl) (by kernel_rfl) (by kernel_rfl) ?_
  refine split_at 8 (b := decide ((↑j : Int) < (↑ys.length : Int))) (by kernel_rfl) (by kernel_rfl) ?_ ?_
  · intro h1
    have hlt : j < ys.length := by simpa using h1
    refine go mixed 2000 [9, 10] 0 (St.mk (Rg.sq [true, false, true, false, false] 2) [KI.code [true, false, true, false, true], KI.code [true, true]] [(9, SV.one (SC.v (Value.slice A ys.length c))), (10, SV.one (SC.v (Value.int IntKind.i64 (↑j : Int))))] []) (by kernel_rfl) (by kernel_rfl) (by kernel_rfl) ?_
    refine index_at 2 (by kernel_rfl : atP _ _ _ 2 false = some (Op.indexAddr 36 (Operand.tmp 9) (Operand.tmp 10), 0, some 11, Rg.sq [true, false, true, false, false] 3)) (sz := 1) (by kernel_rfl) rfl rfl rfl hlt (fun L w1 hs => rd_some (rdRow_ext (hs.old 0 rfl) h) hlt) ?_
    intro a_1 ha_; cases ha_
    refine go mixed 2000 [11] 0 (St.mk (Rg.sq [true, false, true, false, false] 3) [KI.code [true, false, true, false, true], KI.code [true, true]] [(11, SV.one (SC.v (Value.pointer (some (a_1.add (j * 1))))))] []) (by kernel_rfl) (by kernel_rfl) (by kernel_rfl) ?_
    refine load_one 3 (by kernel_rfl : atP _ _ _ 3 true = some (Op.load 5 (Operand.tmp 11), 5, some 12, Rg.sq [true, false, true, false, false] 4)) (n := 1) (by kernel_rfl) rfl ?_
    intro L w1 hs
    refine ⟨.v (.int .u8 ys[j]), rd_sc (rdRow_ext (hs.old 0 rfl) h) hlt, ?_⟩
    clear hs
    refine go mixed 2000 [4] 0 (St.mk Rg.no [KI.code [true, false, true, false, true], KI.code [true, true]] [(4, SV.one (SC.v (Value.int IntKind.i64 (IntKind.i64.wrap ys[j]))))] []) (by kernel_rfl) (by kernel_rfl) (by kernel_rfl) ?_
    refine ret_ok (vs := [SV.one (SC.v (Value.int IntKind.i64 (IntKind.i64.wrap ys[j])))]) (by kernel_rfl) ?_
    intro L w1 hs
    have := hy _ (List.getElem_mem hlt)
    refine ⟨ys[j], ?_, hs.out0, this.1, this.2⟩
    show Ending.returned (.int .i64 (IntKind.i64.wrap ys[j])) = _
    rw [show IntKind.i64.wrap ys[j] = ys[j] by rw [IntKind.wrap_i64]; omega]
  · intro h1
    have hlt : ¬ j < ys.length := by simpa using h1
    refine go mixed 2000 [4] 0 (St.mk Rg.no [KI.code [true, true, true]] [(4, SV.one (SC.v (Value.int IntKind.i64 ((IntKind.i64.wrap (IntKind.i64.wrap ((↑j : Int) * 7) + (↑ys.length : Int))).tmod 256))))] []) (by kernel_rfl) (by kernel_rfl) (by kernel_rfl) ?_
    refine ret_ok (vs := [SV.one (SC.v (Value.int IntKind.i64 ((IntKind.i64.wrap (IntKind.i64.wrap ((↑j : Int) * 7) + (↑ys.length : Int))).tmod 256)))]) (by kernel_rfl) ?_
    intro L w1 hs
    have e1 : IntKind.i64.wrap (IntKind.i64.wrap ((j : Int) * 7) + (ys.length : Int)) = (j : Int) * 7 + ys.length := by simp only [IntKind.wrap_i64]; omega
    refine ⟨_, rfl, hs.out0, ?_, ?_⟩
    · rw [e1, Int.tmod_eq_emod_of_nonneg (by omega)]
      omega
    · rw [e1, Int.tmod_eq_emod_of_nonneg (by omega)]
      omega
theorem diskNew_ok (n : Nat) (w : World) (h0 : 1 ≤ n) (h1 : n ≤ 512) :
    Calls Try.prog 35 #[.int .i64 (n : Int)] w (DkRes1 ⟨List.replicate n (List.replicate 64 0), [], -1, false⟩ w) := by
  refine enter (args := [.one (.v (.int .i64 (n : Int)))]) Try.func35 (c := bodyOf Try.f35) rfl rfl (start_LOK _) (start_old w) ?_
  refine go mixed 2000 [0, 2, 4] 1 (St.mk (Rg.sq [true, false, false] 1) [KI.code [true, false, true], KI.code [true, true]] [(0, SV.one (SC.v (Value.int IntKind.i64 (↑n : Int)))), (2, SV.one (SC.ptr 0 0)), (4, SV.one (SC.v (Value.int IntKind.i64 (↑n : Int))))] [LB.mk [SC.v (Value.slice none 0 0), SC.v (Value.slice none 0 0), SC.v (Value.int IntKind.i64 0), SC.v (Value.bool false)] 29]) (by kernel_rfl) (by kernel_rfl) (by kernel_rfl) ?_
  refine call_pure true (by kernel_rfl : atC _ _ _ true = some (60, [SV.one (SC.v (Value.int IntKind.i64 (↑n : Int))), SV.one (SC.v (Value.int IntKind.i64 1)), SV.one (SC.v (Value.int IntKind.i64 512))], some 5, Rg.sq [true, false, false] 2)) (by kernel_rfl) (.one (.bo true)) (fun L w1 hs => by
    have := within_ok (n : Int) 1 512 w1
    rw [show (decide ((1 : Int) ≤ (n : Int)) && decide ((n : Int) ≤ 512)) = true by simp; omega] at this
    exact this) ?_
  refine go mixed 2000 [0, 2, 6] 1 (St.mk Rg.no [KI.code [true, false, true], KI.code [true, true]] [(0, SV.one (SC.v (Value.int IntKind.i64 (↑n : Int)))), (2, SV.one (SC.ptr 0 0)), (6, SV.one (SC.bo false))] [LB.mk [SC.v (Value.slice none 0 0), SC.v (Value.slice none 0 0), SC.v (Value.int IntKind.i64 0), SC.v (Value.bool false)] 29]) (by kernel_rfl) (by kernel_rfl) (by kernel_rfl) ?_
  refine lit_at 6 (b := false) (by kernel_rfl) ?_
  refine go mixed 2000 [2, 3, 9, 10] 2 (St.mk Rg.no [KI.loop [true, true, true, false, true, true, true], KI.block 0, KI.code [true, true, true, true]] [(2, SV.one (SC.ptr 0 0)), (3, SV.one (SC.ptr 1 0)), (9, SV.one (SC.v (Value.int IntKind.i64 (↑n : Int)))), (10, SV.one (SC.v (Value.int IntKind.i64 0)))] [LB.mk [SC.v (Value.slice none 0 0), SC.v (Value.slice none 0 0), SC.v (Value.int IntKind.i64 0), SC.v (Value.bool false)] 29, LB.mk [SC.v (Value.slice none 0 0), SC.v (Value.slice none 0 0), SC.v (Value.int IntKind.i64 (-1)), SC.bo false] 29]) (by kernel_rfl) (by kernel_rfl) (by kernel_rfl) ?_
  refine h_nil 36 kB ?_
  refine loop_at (ι := Nat × Option Addr × Nat) (fun s => [(10, .one (.v (.int .i64 s.1)))]) (fun s => [(1, ⟨[.v (.slice s.2.1 s.1 s.2.2), .v (.slice none 0 0), .v (.int .i64 (-1)), .bo false], 29⟩)]) (fun s => [rowA 36 kB (List.replicate s.1 (List.replicate 64 0)) (.slice s.2.1 s.1 s.2.2), oldA w]) (fun s => s.1 ≤ n) (fun s => n - s.1) (0, none, 0) rfl rfl rfl (Nat.zero_le _) ?_
  intro s hi ih
  refine go mixed 2000 [2, 3, 9, 10, 11] 2 (St.mk Rg.no [KI.code [true, true, true, false, true, true, true, true, false], KI.code [true, true, true, false, true, true, true, true, true], KI.loop [true, true, true, false, true, true, true], KI.block 0, KI.code [true, true, true, true]] [(2, SV.one (SC.ptr 0 0)), (3, SV.one (SC.ptr 1 0)), (9, SV.one (SC.v (Value.int IntKind.i64 (↑n : Int)))), (10, SV.one (SC.v (Value.int IntKind.i64 (↑s.fst : Int)))), (11, SV.one (SC.bo (decide ((↑s.fst : Int) < (↑n : Int)))))] [LB.mk [SC.v (Value.slice none 0 0), SC.v (Value.slice none 0 0), SC.v (Value.int IntKind.i64 0), SC.v (Value.bool false)] 29, LB.mk [SC.v (Value.slice s.snd.1 s.fst s.snd.snd), SC.v (Value.slice none 0 0), SC.v (Value.int IntKind.i64 (-1)), SC.bo false] 29]) (by kernel_rfl) (by kernel_rfl) (by kernel_rfl) ?_
  obtain ⟨i, B, d⟩ := s
  simp only at hi ih ⊢
  refine split_at 11 (b := decide ((↑i : Int) < (↑n : Int))) (by kernel_rfl) (by kernel_rfl) ?_ ?_
  · intro h1
    have hlt : i < n := by simpa using h1
    clear h1
    refine go mixed 2000 [2, 3, 9, 10, 13] 2 (St.mk (Rg.dr [true, true, true, false, true, true, true, true, true, false, true] [true, true, false, false, false, false, false] 5 2) [KI.block 1, KI.code [true, true, true, false, true, true, true, true, true, true], KI.loop [true, true, true, false, true, true, true], KI.block 0, KI.code [true, true, true, true]] [(2, SV.one (SC.ptr 0 0)), (3, SV.one (SC.ptr 1 0)), (9, SV.one (SC.v (Value.int IntKind.i64 (↑n : Int)))), (10, SV.one (SC.v (Value.int IntKind.i64 (↑i : Int)))), (13, SV.one (SC.v (Value.slice B i d)))] [LB.mk [SC.v (Value.slice none 0 0), SC.v (Value.slice none 0 0), SC.v (Value.int IntKind.i64 0), SC.v (Value.bool false)] 29, LB.mk [SC.v (Value.slice B i d), SC.v (Value.slice none 0 0), SC.v (Value.int IntKind.i64 (-1)), SC.bo false] 29]) (by kernel_rfl) (by kernel_rfl) (by kernel_rfl) ?_
    refine make_at (d := kU8) 64 0 (zc := [.int .u8 0]) (by_ := 1) (e := 5) true (by kernel_rfl : atB _ _ _ true = some (Op.makeSlice 36 (Operand.const (Value.int IntKind.i64 64)) (Operand.const (Value.int IntKind.i64 64)), 36, some 14, Rg.dr [true, true, true, false, true, true, true, true, true, false, true] [true, true, true, false, false, false, false] 4 1)) (by kernel_rfl) (by kernel_rfl) rfl rfl rfl rfl (by omega) (by simp [maxLen]) (fun _ => rfl) ?_
    intro g
    refine go mixed 2000 [2, 3, 9, 10, 13, 15] 3 (St.mk (Rg.dr [true, true, true, false, true, true, true, true, true, false, true] [true, true, true, true, false, false, false] 3 1) [KI.block 1, KI.code [true, true, true, false, true, true, true, true, true, true], KI.loop [true, true, true, false, true, true, true], KI.block 0, KI.code [true, true, true, true]] [(2, SV.one (SC.ptr 0 0)), (3, SV.one (SC.ptr 1 0)), (9, SV.one (SC.v (Value.int IntKind.i64 (↑n : Int)))), (10, SV.one (SC.v (Value.int IntKind.i64 (↑i : Int)))), (13, SV.one (SC.v (Value.slice B i d))), (15, SV.one (SC.sl 2 0 1 1))] [LB.mk [SC.v (Value.slice none 0 0), SC.v (Value.slice none 0 0), SC.v (Value.int IntKind.i64 0), SC.v (Value.bool false)] 29, LB.mk [SC.v (Value.slice B i d), SC.v (Value.slice none 0 0), SC.v (Value.int IntKind.i64 (-1)), SC.bo false] 29, LB.mk [SC.v (Value.slice (some (Addr.mk g 0 none)) 64 64)] 36]) (by kernel_rfl) (by kernel_rfl) (by kernel_rfl) ?_
    refine h_swap ?_
    refine append_lit (d := kB) (y := List.replicate 64 0) (by_ := 24) (news := [.slice (some ⟨g, 0, none⟩) 64 64]) (by kernel_rfl : atB _ _ _ false = some (Op.call (Call.mk (Callee.builtin Builtin.append) #[Operand.tmp 13, Operand.tmp 15] #[22, 22]), 22, some 16, Rg.dr [true, true, true, false, true, true, true, true, true, false, true] [true, true, true, true, true, false, false] 2 0)) (by kernel_rfl) rfl rfl rfl rfl (by simp [maxLen]; omega) (by simp; omega) ?_
    intro B' d'
    rw [← List.replicate_succ', List.length_replicate]
    refine go mixed 2000 [2, 3, 9, 10] 2 (St.mk Rg.no [KI.loop [true, true, true, false, true, true, true], KI.block 0, KI.code [true, true, true, true]] [(2, SV.one (SC.ptr 0 0)), (3, SV.one (SC.ptr 1 0)), (9, SV.one (SC.v (Value.int IntKind.i64 (↑n : Int)))), (10, SV.one (SC.v (Value.int IntKind.i64 (IntKind.i64.wrap ((↑i : Int) + 1)))))] [LB.mk [SC.v (Value.slice none 0 0), SC.v (Value.slice none 0 0), SC.v (Value.int IntKind.i64 0), SC.v (Value.bool false)] 29, LB.mk [SC.v (Value.slice B' (i + 1) d'), SC.v (Value.slice none 0 0), SC.v (Value.int IntKind.i64 (-1)), SC.bo false] 29]) (by kernel_rfl) (by kernel_rfl) (by kernel_rfl) ?_
    rw [wrap_succ (by omega)]
    exact ih (i + 1, B', d') hlt (by simp only; omega)
  intro h1
  have hi2 : i = n := by
    have : ¬ i < n := by simpa using h1
    omega
  subst hi2
  refine go mixed 2000 [2] 1 (St.mk Rg.no [KI.code [true, true, true, true, true]] [(2, SV.one (SC.ptr 0 0))] [LB.mk [SC.v (Value.slice B i d), SC.v (Value.slice none 0 0), SC.v (Value.int IntKind.i64 (-1)), SC.bo false] 29]) (by kernel_rfl) (by kernel_rfl) (by kernel_rfl) ?_
  refine h_nil 59 kW ?_
  refine ret_ok (vs := [SV.agg [SC.v (Value.slice B i d), SC.v (Value.slice none 0 0), SC.v (Value.int IntKind.i64 (-1)), SC.bo false]]) (by kernel_rfl) ?_
  intro L w1 hs
  have := hs.out (As := [_, _])
  exact ⟨B, d, none, 0, by simp only [List.length_replicate]; rfl, by simp only [List.length_replicate]; exact this⟩
end Go.Proofs.Ytjbbakckckihnaa.Dk
