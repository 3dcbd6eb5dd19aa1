/- Walks of functions of the program: what each call returns and what it leaves in memory. Conditions: those that each theorem names. -/
import Derived.Test.YtjbbakckckihnaaD2
namespace Go.Proofs.Ytjbbakckckihnaa.Dk
set_option linter.unusedVariables false
set_option linter.unusedSimpArgs false
open Go.Proofs.Ytjbbakckckihnaa.Sx Go.Proofs Go.RowKit
set_option maxRecDepth 100000
theorem toByteSS_ok (ys : List (List Int)) (A : Option Addr) (c : Nat) (w : World) (h : rdRow kB w.heap ys (.slice A ys.length c)) (hl : ys.length ≤ 1048576) (hl2 : ∀ y ∈ ys, y.length ≤ 1048576) :
    Calls Try.prog 39 #[.slice A ys.length c] w fun e w' => ∃ A' c', e = .returned (.slice A' ys.length c') ∧ Fresh w w' [rowA 36 kB ys (.slice A' ys.length c')] := by
  refine enter (args := [.one (.v (.slice A ys.length c))]) Try.func39 (c := bodyOf Try.f39) rfl rfl (start_LOK _) (start_old w) ?_
  refine go mixed 2000 [0, 6] 0 (St.mk (Rg.sq [true, false] 2) [KI.code [true, true]] [(0, SV.one (SC.v (Value.slice A ys.length c))), (6, SV.one (SC.v (Value.int IntKind.i64 (↑ys.length : Int))))] []) (by kernel_rfl) (by kernel_rfl) (by kernel_rfl) ?_
  refine make_at (d := kB) ys.length [] (zc := [.slice none 0 0]) (by_ := 24) (e := 36) true (by kernel_rfl : atB _ _ _ true = some (Op.makeSlice 22 (Operand.tmp 6) (Operand.tmp 6), 22, some 7, Rg.sq [true, false] 3)) (by kernel_rfl) (by kernel_rfl) rfl rfl rfl rfl (by omega) (by simp [maxLen]; omega) (fun _ => ⟨_, rfl, owRow_nil⟩) ?_
  intro g
  refine go mixed 2000 [0, 3, 4] 0 (St.mk Rg.no [KI.loop [true, true, false, true, true, true], KI.block 0, KI.code [true, true, true]] [(0, SV.one (SC.v (Value.slice A ys.length c))), (3, SV.one (SC.v (Value.slice (some (Addr.mk g 0 none)) ys.length ys.length))), (4, SV.one (SC.v (Value.int IntKind.i64 0)))] []) (by kernel_rfl) (by kernel_rfl) (by kernel_rfl) ?_
  refine loop_at (ι := Nat) (fun i => [(4, .one (.v (.int .i64 i)))]) (fun i => []) (fun i => [rowA 36 kB (ys.take i ++ List.replicate (ys.length - i) []) (.slice (some ⟨g, 0, none⟩) ys.length ys.length), oldA w]) (fun i => i ≤ ys.length) (fun i => ys.length - i) 0 rfl rfl (by simp) (Nat.zero_le _) ?_
  intro i hi ih
  refine go mixed 2000 [0, 3, 4, 11] 0 (St.mk Rg.no [KI.code [true, true, false, true, true, true, false, true], KI.code [true, true, false, true, true, true, true], KI.loop [true, true, false, true, true, true], KI.block 0, KI.code [true, true, true]] [(0, SV.one (SC.v (Value.slice A ys.length c))), (3, SV.one (SC.v (Value.slice (some (Addr.mk g 0 none)) ys.length ys.length))), (4, SV.one (SC.v (Value.int IntKind.i64 (↑i : Int)))), (11, SV.one (SC.bo (decide ((↑i : Int) < (↑ys.length : Int)))))] []) (by kernel_rfl) (by kernel_rfl) (by kernel_rfl) ?_
  refine split_at 11 (b := decide ((↑i : Int) < (↑ys.length : Int))) (by kernel_rfl) (by kernel_rfl) ?_ ?_
  · intro h1
    have hlt : i < ys.length := by simpa using h1
    refine go mixed 2000 [0, 3, 4, 14, 15, 16, 17] 0 (St.mk (Rg.sq [true, true, false, true, true, true, true, false, true] 4) [KI.block 1, KI.code [true, true, false, true, true, true, true, true], KI.loop [true, true, false, true, true, true], KI.block 0, KI.code [true, true, true]] [(0, SV.one (SC.v (Value.slice A ys.length c))), (3, SV.one (SC.v (Value.slice (some (Addr.mk g 0 none)) ys.length ys.length))), (4, SV.one (SC.v (Value.int IntKind.i64 (↑i : Int)))), (14, SV.one (SC.v (Value.slice (some (Addr.mk g 0 none)) ys.length ys.length))), (15, SV.one (SC.v (Value.int IntKind.i64 (↑i : Int)))), (16, SV.one (SC.v (Value.slice A ys.length c))), (17, SV.one (SC.v (Value.int IntKind.i64 (↑i : Int))))] []) (by kernel_rfl) (by kernel_rfl) (by kernel_rfl) ?_
    refine index_at 4 (by kernel_rfl : atP _ _ _ 4 false = some (Op.indexAddr 22 (Operand.tmp 16) (Operand.tmp 17), 0, some 18, Rg.sq [true, true, false, true, true, true, true, false, true] 5)) (sz := 1) (by kernel_rfl) rfl rfl rfl hlt (fun L w1 hs => rd_some (rdRow_ext (hs.old 1 rfl) h) hlt) ?_
    intro a_1 ha_; cases ha_
    refine go mixed 2000 [0, 3, 4, 14, 15, 18] 0 (St.mk (Rg.sq [true, true, false, true, true, true, true, false, true] 5) [KI.block 1, KI.code [true, true, false, true, true, true, true, true], KI.loop [true, true, false, true, true, true], KI.block 0, KI.code [true, true, true]] [(0, SV.one (SC.v (Value.slice (some a_1) ys.length c))), (3, SV.one (SC.v (Value.slice (some (Addr.mk g 0 none)) ys.length ys.length))), (4, SV.one (SC.v (Value.int IntKind.i64 (↑i : Int)))), (14, SV.one (SC.v (Value.slice (some (Addr.mk g 0 none)) ys.length ys.length))), (15, SV.one (SC.v (Value.int IntKind.i64 (↑i : Int)))), (18, SV.one (SC.v (Value.pointer (some (a_1.add (i * 1))))))] []) (by kernel_rfl) (by kernel_rfl) (by kernel_rfl) ?_
    obtain ⟨Ai, ci, hcell, hrow⟩ := rd_row h hlt
    refine load_one 5 (by kernel_rfl : atP _ _ _ 5 true = some (Op.load 36 (Operand.tmp 18), 36, some 19, Rg.sq [true, true, false, true, true, true, true, false, true] 6)) (n := 1) (by kernel_rfl) rfl ?_
    intro L w1 hs
    refine ⟨.v (.slice Ai _ ci), cellH_ext (hs.old 1 rfl) hcell, ?_⟩
    clear hs
    refine go mixed 2000 [0, 3, 4, 14, 15, 19] 0 (St.mk (Rg.sq [true, true, false, true, true, true, true, false, true] 6) [KI.block 1, KI.code [true, true, false, true, true, true, true, true], KI.loop [true, true, false, true, true, true], KI.block 0, KI.code [true, true, true]] [(0, SV.one (SC.v (Value.slice (some a_1) ys.length c))), (3, SV.one (SC.v (Value.slice (some (Addr.mk g 0 none)) ys.length ys.length))), (4, SV.one (SC.v (Value.int IntKind.i64 (↑i : Int)))), (14, SV.one (SC.v (Value.slice (some (Addr.mk g 0 none)) ys.length ys.length))), (15, SV.one (SC.v (Value.int IntKind.i64 (↑i : Int)))), (19, SV.one (SC.v (Value.slice Ai ys[i].length ci)))] []) (by kernel_rfl) (by kernel_rfl) (by kernel_rfl) ?_
    refine call_fresh true (by kernel_rfl : atC _ _ _ true = some (17, [SV.one (SC.v (Value.slice Ai ys[i].length ci))], some 20, Rg.sq [true, true, false, true, true, true, true, false, true] 7)) (by kernel_rfl) fun L w1 hs => (toByteS_ok ys[i] Ai ci w1 (rdRow_ext (hs.old 1 rfl) hrow) (hl2 _ (List.getElem_mem hlt))).mono ?_
    rintro e w2 ⟨A', c', rfl, hf⟩
    refine ⟨.one (.v (.slice A' ys[i].length c')), [rowA 5 kU8 ys[i] (.slice A' ys[i].length c')], rfl, hf, ?_⟩
    clear hs hf
    refine go mixed 2000 [0, 3, 4, 14, 15, 20] 0 (St.mk (Rg.sq [true, true, false, true, true, true, true, false, true] 7) [KI.block 1, KI.code [true, true, false, true, true, true, true, true], KI.loop [true, true, false, true, true, true], KI.block 0, KI.code [true, true, true]] [(0, SV.one (SC.v (Value.slice (some a_1) ys.length c))), (3, SV.one (SC.v (Value.slice (some (Addr.mk g 0 none)) ys.length ys.length))), (4, SV.one (SC.v (Value.int IntKind.i64 (↑i : Int)))), (14, SV.one (SC.v (Value.slice (some (Addr.mk g 0 none)) ys.length ys.length))), (15, SV.one (SC.v (Value.int IntKind.i64 (↑i : Int)))), (20, SV.one (SC.v (Value.slice A' ys[i].length c')))] []) (by kernel_rfl) (by kernel_rfl) (by kernel_rfl) ?_
    refine h_swap ?_
    refine index_at 7 (by kernel_rfl : atP _ _ _ 7 false = some (Op.indexAddr 22 (Operand.tmp 14) (Operand.tmp 15), 0, some 21, Rg.sq [true, true, false, true, true, true, true, false, true] 8)) (sz := 1) (by kernel_rfl) rfl rfl rfl hlt (fun L w1 hs => ⟨_, rfl⟩) ?_
    intro a2 ha2; cases ha2
    refine go mixed 2000 [0, 3, 4, 20, 21] 0 (St.mk (Rg.sq [true, true, false, true, true, true, true, false, true] 8) [KI.block 1, KI.code [true, true, false, true, true, true, true, true], KI.loop [true, true, false, true, true, true], KI.block 0, KI.code [true, true, true]] [(0, SV.one (SC.v (Value.slice (some a_1) ys.length c))), (3, SV.one (SC.v (Value.slice (some (Addr.mk g 0 none)) ys.length ys.length))), (4, SV.one (SC.v (Value.int IntKind.i64 (↑i : Int)))), (20, SV.one (SC.v (Value.slice A' ys[i].length c'))), (21, SV.one (SC.v (Value.pointer (some ((Addr.mk g 0 none).add (i * 1))))))] []) (by kernel_rfl) (by kernel_rfl) (by kernel_rfl) ?_
    refine store_el (A := [rowA 5 kU8 ys[i] (.slice A' ys[i].length c')]) (d := kB) (y := ys[i]) (by kernel_rfl : atB _ _ _ false = some (Op.store 36 (Operand.tmp 21) (Operand.tmp 20), 0, none, Rg.sq [true, true, false, true, true, true, true, false, true] 9)) (by kernel_rfl) rfl rfl rfl rfl rfl (by simp; omega) (fun _ _ hA => row_el hA) ?_
    refine go mixed 2000 [0, 3, 4] 0 (St.mk Rg.no [KI.loop [true, true, false, true, true, true], KI.block 0, KI.code [true, true, true]] [(0, SV.one (SC.v (Value.slice (some a_1) ys.length c))), (3, SV.one (SC.v (Value.slice (some (Addr.mk g 0 none)) ys.length ys.length))), (4, SV.one (SC.v (Value.int IntKind.i64 (IntKind.i64.wrap ((↑i : Int) + 1)))))] []) (by kernel_rfl) (by kernel_rfl) (by kernel_rfl) ?_
    rw [wrap_succ (by omega), set_fill ys [] hlt]
    exact ih (i + 1) hlt (by omega)
  · intro h1
    refine go mixed 2000 [2] 0 (St.mk Rg.no [KI.code [true, true, true, true]] [(2, SV.one (SC.v (Value.slice (some (Addr.mk g 0 none)) ys.length ys.length)))] []) (by kernel_rfl) (by kernel_rfl) (by kernel_rfl) ?_
    refine ret_ok (vs := [SV.one (SC.v (Value.slice (some (Addr.mk g 0 none)) ys.length ys.length))]) (by kernel_rfl) ?_
    intro L w1 hs
    have hi2 : i = ys.length := by
      have : ¬ i < ys.length := by simpa using h1
      omega
    subst hi2
    simp only [List.take_length, Nat.sub_self, List.replicate_zero, List.append_nil] at hs
    exact ⟨_, _, rfl, hs.out (As := [_])⟩
theorem eqByteSS_ok (ys : List (List Int)) (A : Option Addr) (c : Nat) (B : Option Addr) (c2 : Nat) (w : World) (h : rdRow kB w.heap ys (.slice A ys.length c)) (h2 : rdRow kB w.heap ys (.slice B ys.length c2)) (hl : ys.length ≤ 1048576) (hl2 : ∀ y ∈ ys, y.length ≤ 1048576) :
    Calls Try.prog 42 #[.slice A ys.length c, .slice B ys.length c2] w fun e w' => e = .returned (.bool true) ∧ Below w.heap.size w w' := by
  refine enter (args := [.one (.v (.slice A ys.length c)), .one (.v (.slice B ys.length c2))]) Try.func42 (c := bodyOf Try.f42) rfl rfl (start_LOK _) (start_old w) ?_
  refine go mixed 2000 [0, 1, 10] 0 (St.mk Rg.no [KI.code [true, false, true], KI.code [true, true]] [(0, SV.one (SC.v (Value.slice A ys.length c))), (1, SV.one (SC.v (Value.slice B ys.length c2))), (10, SV.one (SC.bo ((↑ys.length : Int) != (↑ys.length : Int))))] []) (by kernel_rfl) (by kernel_rfl) (by kernel_rfl) ?_
  refine split_at 10 (b := (↑ys.length : Int) != (↑ys.length : Int)) (by kernel_rfl) (by kernel_rfl) ?_ ?_
  · intro h1; simp at h1
  intro h1
  refine go mixed 2000 [0, 1, 5] 0 (St.mk Rg.no [KI.loop [true, true, false, true, true, true], KI.block 0, KI.code [true, true, true]] [(0, SV.one (SC.v (Value.slice A ys.length c))), (1, SV.one (SC.v (Value.slice B ys.length c2))), (5, SV.one (SC.v (Value.int IntKind.i64 0)))] []) (by kernel_rfl) (by kernel_rfl) (by kernel_rfl) ?_
  refine loop_at (ι := Nat) (fun i => [(5, .one (.v (.int .i64 i)))]) (fun i => []) (fun i => [oldA w]) (fun i => i ≤ ys.length) (fun i => ys.length - i) 0 rfl rfl (by simp) (Nat.zero_le _) ?_
  intro i hi ih
  refine go mixed 2000 [0, 1, 5, 14] 0 (St.mk Rg.no [KI.code [true, true, false, true, true, true, false, true], KI.code [true, true, false, true, true, true, true], KI.loop [true, true, false, true, true, true], KI.block 0, KI.code [true, true, true]] [(0, SV.one (SC.v (Value.slice A ys.length c))), (1, SV.one (SC.v (Value.slice B ys.length c2))), (5, SV.one (SC.v (Value.int IntKind.i64 (↑i : Int)))), (14, SV.one (SC.bo (decide ((↑i : Int) < (↑ys.length : Int)))))] []) (by kernel_rfl) (by kernel_rfl) (by kernel_rfl) ?_
  refine split_at 14 (b := decide ((↑i : Int) < (↑ys.length : Int))) (by kernel_rfl) (by kernel_rfl) ?_ ?_
  · intro h1
    have hlt : i < ys.length := by simpa using h1
    refine go mixed 2000 [0, 1, 5, 17, 18, 21, 22] 0 (St.mk (Rg.dr [true, true, false, true, true, true, true, false, true, false] [true, true, false, false, true, true, false, false, false, false] 6 2) [KI.code [true, true, false, true, true, true, true, false, true, true], KI.block 1, KI.code [true, true, false, true, true, true, true, true], KI.loop [true, true, false, true, true, true], KI.block 0, KI.code [true, true, true]] [(0, SV.one (SC.v (Value.slice A ys.length c))), (1, SV.one (SC.v (Value.slice B ys.length c2))), (5, SV.one (SC.v (Value.int IntKind.i64 (↑i : Int)))), (17, SV.one (SC.v (Value.slice A ys.length c))), (18, SV.one (SC.v (Value.int IntKind.i64 (↑i : Int)))), (21, SV.one (SC.v (Value.slice B ys.length c2))), (22, SV.one (SC.v (Value.int IntKind.i64 (↑i : Int))))] []) (by kernel_rfl) (by kernel_rfl) (by kernel_rfl) ?_
    refine index_at 2 (by kernel_rfl : atP _ _ _ 2 false = some (Op.indexAddr 22 (Operand.tmp 17) (Operand.tmp 18), 0, some 19, Rg.dr [true, true, false, true, true, true, true, false, true, false] [true, true, true, false, true, true, false, false, false, false] 5 2)) (sz := 1) (by kernel_rfl) rfl rfl rfl hlt (fun L w1 hs => rd_some (rdRow_ext (hs.old 0 rfl) h) hlt) ?_
    intro a_2 ha_; cases ha_
    refine go mixed 2000 [0, 1, 5, 19, 21, 22] 0 (St.mk (Rg.dr [true, true, false, true, true, true, true, false, true, false] [true, true, true, false, true, true, false, false, false, false] 5 2) [KI.code [true, true, false, true, true, true, true, false, true, true], KI.block 1, KI.code [true, true, false, true, true, true, true, true], KI.loop [true, true, false, true, true, true], KI.block 0, KI.code [true, true, true]] [(0, SV.one (SC.v (Value.slice (some a_2) ys.length c))), (1, SV.one (SC.v (Value.slice B ys.length c2))), (5, SV.one (SC.v (Value.int IntKind.i64 (↑i : Int)))), (19, SV.one (SC.v (Value.pointer (some (a_2.add (i * 1)))))), (21, SV.one (SC.v (Value.slice B ys.length c2))), (22, SV.one (SC.v (Value.int IntKind.i64 (↑i : Int))))] []) (by kernel_rfl) (by kernel_rfl) (by kernel_rfl) ?_
    obtain ⟨Ai, ci, hcell, hrow⟩ := rd_row h hlt
    refine load_one 3 (by kernel_rfl : atP _ _ _ 3 true = some (Op.load 36 (Operand.tmp 19), 36, some 20, Rg.dr [true, true, false, true, true, true, true, false, true, false] [true, true, true, true, true, true, false, false, false, false] 4 2)) (n := 1) (by kernel_rfl) rfl ?_
    intro L w1 hs
    refine ⟨.v (.slice Ai _ ci), cellH_ext (hs.old 0 rfl) hcell, ?_⟩
    clear hs
    refine go mixed 2000 [0, 1, 5, 20, 21, 22] 0 (St.mk (Rg.dr [true, true, false, true, true, true, true, false, true, false] [true, true, true, true, true, true, false, false, false, false] 4 2) [KI.code [true, true, false, true, true, true, true, false, true, true], KI.block 1, KI.code [true, true, false, true, true, true, true, true], KI.loop [true, true, false, true, true, true], KI.block 0, KI.code [true, true, true]] [(0, SV.one (SC.v (Value.slice (some a_2) ys.length c))), (1, SV.one (SC.v (Value.slice B ys.length c2))), (5, SV.one (SC.v (Value.int IntKind.i64 (↑i : Int)))), (20, SV.one (SC.v (Value.slice Ai ys[i].length ci))), (21, SV.one (SC.v (Value.slice B ys.length c2))), (22, SV.one (SC.v (Value.int IntKind.i64 (↑i : Int))))] []) (by kernel_rfl) (by kernel_rfl) (by kernel_rfl) ?_
    refine index_at 6 (by kernel_rfl : atP _ _ _ 6 false = some (Op.indexAddr 22 (Operand.tmp 21) (Operand.tmp 22), 0, some 23, Rg.dr [true, true, false, true, true, true, true, false, true, false] [true, true, true, true, true, true, true, false, false, false] 3 2)) (sz := 1) (by kernel_rfl) rfl rfl rfl hlt (fun L w1 hs => rd_some (rdRow_ext (hs.old 0 rfl) h2) hlt) ?_
    intro a_3 ha_; cases ha_
    refine go mixed 2000 [0, 1, 5, 20, 23] 0 (St.mk (Rg.dr [true, true, false, true, true, true, true, false, true, false] [true, true, true, true, true, true, true, false, false, false] 3 2) [KI.code [true, true, false, true, true, true, true, false, true, true], KI.block 1, KI.code [true, true, false, true, true, true, true, true], KI.loop [true, true, false, true, true, true], KI.block 0, KI.code [true, true, true]] [(0, SV.one (SC.v (Value.slice (some a_2) ys.length c))), (1, SV.one (SC.v (Value.slice (some a_3) ys.length c2))), (5, SV.one (SC.v (Value.int IntKind.i64 (↑i : Int)))), (20, SV.one (SC.v (Value.slice Ai ys[i].length ci))), (23, SV.one (SC.v (Value.pointer (some (a_3.add (i * 1))))))] []) (by kernel_rfl) (by kernel_rfl) (by kernel_rfl) ?_
    obtain ⟨Bi, di, hcell2, hrow2⟩ := rd_row h2 hlt
    refine load_one 7 (by kernel_rfl : atP _ _ _ 7 true = some (Op.load 36 (Operand.tmp 23), 36, some 24, Rg.dr [true, true, false, true, true, true, true, false, true, false] [true, true, true, true, true, true, true, true, false, false] 2 2)) (n := 1) (by kernel_rfl) rfl ?_
    intro L w1 hs
    refine ⟨.v (.slice Bi _ di), cellH_ext (hs.old 0 rfl) hcell2, ?_⟩
    clear hs
    refine go mixed 2000 [0, 1, 5, 20, 24] 0 (St.mk (Rg.dr [true, true, false, true, true, true, true, false, true, false] [true, true, true, true, true, true, true, true, false, false] 2 2) [KI.code [true, true, false, true, true, true, true, false, true, true], KI.block 1, KI.code [true, true, false, true, true, true, true, true], KI.loop [true, true, false, true, true, true], KI.block 0, KI.code [true, true, true]] [(0, SV.one (SC.v (Value.slice (some a_2) ys.length c))), (1, SV.one (SC.v (Value.slice (some a_3) ys.length c2))), (5, SV.one (SC.v (Value.int IntKind.i64 (↑i : Int)))), (20, SV.one (SC.v (Value.slice Ai ys[i].length ci))), (24, SV.one (SC.v (Value.slice Bi ys[i].length di)))] []) (by kernel_rfl) (by kernel_rfl) (by kernel_rfl) ?_
    refine call_pure true (by kernel_rfl : atC _ _ _ true = some (19, [SV.one (SC.v (Value.slice Ai ys[i].length ci)), SV.one (SC.v (Value.slice Bi ys[i].length di))], some 25, Rg.dr [true, true, false, true, true, true, true, false, true, false] [true, true, true, true, true, true, true, true, true, false] 1 1)) (by kernel_rfl) (.one (.v (.bool true))) (fun L w1 hs => eqByteS_ok ys[i] Ai ci Bi di w1 (rdRow_ext (hs.old 0 rfl) hrow) (rdRow_ext (hs.old 0 rfl) hrow2) (hl2 _ (List.getElem_mem hlt))) ?_
    refine go mixed 2000 [0, 1, 5] 0 (St.mk Rg.no [KI.loop [true, true, false, true, true, true], KI.block 0, KI.code [true, true, true]] [(0, SV.one (SC.v (Value.slice (some a_2) ys.length c))), (1, SV.one (SC.v (Value.slice (some a_3) ys.length c2))), (5, SV.one (SC.v (Value.int IntKind.i64 (IntKind.i64.wrap ((↑i : Int) + 1)))))] []) (by kernel_rfl) (by kernel_rfl) (by kernel_rfl) ?_
    rw [wrap_succ (by omega)]
    exact ih (i + 1) hlt (by omega)
  · intro h1
    refine go mixed 2000 [4] 0 (St.mk Rg.no [KI.code [true, true, true, true]] [(4, SV.one (SC.v (Value.bool true)))] []) (by kernel_rfl) (by kernel_rfl) (by kernel_rfl) ?_
    refine ret_ok (vs := [SV.one (SC.v (Value.bool true))]) (by kernel_rfl) ?_
    intro L w1 hs
    exact ⟨rfl, hs.out0⟩
end Go.Proofs.Ytjbbakckckihnaa.Dk
