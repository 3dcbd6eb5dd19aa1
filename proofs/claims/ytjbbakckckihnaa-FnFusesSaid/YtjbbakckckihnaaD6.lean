/- Walks of functions of the program: what each call returns and what it leaves in memory. Conditions: those that each theorem names. -/
import Derived.Test.YtjbbakckckihnaaD5
namespace Go.Proofs.Ytjbbakckckihnaa.Dk
set_option linter.unusedVariables false
set_option linter.unusedSimpArgs false
open Go.Proofs.Ytjbbakckckihnaa.Sx Go.Proofs Go.RowKit
set_option maxRecDepth 100000
theorem rd_w {h : Hp} {xs : List (Int × List Int)} {a : Addr} {n c : Nat} (hr : rdRow kW h xs (.slice (some a) n c)) {i : Nat} (hi : i < xs.length) :
    ∃ A c', cellH h ((a.add (i * 2)).add 0) = some (.int .i64 xs[i].1) ∧ cellH h ((a.add (i * 2)).add 1) = some (.slice A xs[i].2.length c') ∧ rdRow kU8 h xs[i].2 (.slice A xs[i].2.length c') := by
  obtain ⟨cs, ⟨c1, c2, e, h1, v, h2, A, c', hv, hrest⟩, hcell⟩ := rd_at hr (List.getElem?_eq_getElem hi)
  have h1 : c1 = [.int .i64 xs[i].1] := h1
  subst h1 h2 hv e
  exact ⟨A, c', hcell 0 _ rfl, hcell 1 _ rfl, A, c', rfl, hrest⟩
def wSum (ws : List (Int × List Int)) : Nat := lenSum (ws.map (·.2))
theorem wSum_take {ws : List (Int × List Int)} {i : Nat} (hi : i < ws.length) : wSum (ws.take (i + 1)) = wSum (ws.take i) + (ws[i]).2.length := by
  unfold wSum
  rw [List.map_take, List.map_take, lenSum_take (by simpa using hi)]
  simp
theorem wSum_take_le (ws : List (Int × List Int)) (i : Nat) : wSum (ws.take i) ≤ wSum ws := by
  unfold wSum
  rw [List.map_take]
  exact lenSum_take_le _ _
theorem len_le_sum {ys : List (List Int)} {y : List Int} (h : y ∈ ys) : y.length ≤ lenSum ys := by
  induction ys with
  | nil => cases h
  | cons z r ih =>
    simp only [lenSum]
    rcases List.mem_cons.1 h with rfl | h
    · omega
    · have := ih h; omega
theorem len_le_wsum {ws : List (Int × List Int)} {y : Int × List Int} (h : y ∈ ws) : y.2.length ≤ wSum ws := len_le_sum (List.mem_map_of_mem h)
theorem szByteSS_ok (ys : List (List Int)) (A : Option Addr) (c : Nat) (left : Int) (w : World) (h : rdRow kB w.heap ys (.slice A ys.length c)) (hl : ys.length ≤ 9223372036854775807) (hl2 : ∀ y ∈ ys, y.length ≤ 9223372036854775807) (h0 : 0 ≤ left) (hle : left ≤ 1048576) :
    Calls Try.prog 36 #[.slice A ys.length c, .int .i64 left] w fun e w' => ∃ r : Int, e = .returned (.int .i64 r) ∧ Below w.heap.size w w' ∧ (r < 0 → r = -1) ∧ r ≤ left ∧ (0 ≤ r → (ys.length : Int) + lenSum ys + r = left) := by
  refine enter (args := [.one (.v (.slice A ys.length c)), .one (.v (.int .i64 left))]) Try.func36 (c := bodyOf Try.f36) rfl rfl (start_LOK _) (start_old w) ?_
  refine go mixed 2000 [0, 1, 11] 0 (St.mk Rg.no [KI.code [true, true, false, true], KI.code [true, true, true]] [(0, SV.one (SC.v (Value.slice A ys.length c))), (1, SV.one (SC.v (Value.int IntKind.i64 (IntKind.i64.wrap (left - (↑ys.length : Int)))))), (11, SV.one (SC.bo (decide (IntKind.i64.wrap (left - (↑ys.length : Int)) < 0))))] []) (by kernel_rfl) (by kernel_rfl) (by kernel_rfl) ?_
  rw [show IntKind.i64.wrap (left - (ys.length : Int)) = left - (ys.length : Int) by rw [IntKind.wrap_i64]; omega]
  refine split_at 11 (b := decide (left - (↑ys.length : Int) < 0)) (by kernel_rfl) (by kernel_rfl) ?_ ?_
  · intro h1
    have h2 : left < ys.length := by have := of_decide_eq_true h1; omega
    refine go mixed 2000 [4] 0 (St.mk Rg.no [KI.code [true, true, false, true, false, true], KI.code [true, true, true]] [(4, SV.one (SC.v (Value.int IntKind.i64 (-1))))] []) (by kernel_rfl) (by kernel_rfl) (by kernel_rfl) ?_
    refine ret_ok (vs := [SV.one (SC.v (Value.int IntKind.i64 (-1)))]) (by kernel_rfl) ?_
    intro L w1 hs
    exact ⟨-1, rfl, hs.out0, fun _ => rfl, by omega, fun h => by omega⟩
  · intro h1
    have h2 : ¬ left < ys.length := by have := of_decide_eq_false h1; omega
    refine go mixed 2000 [0, 1, 5] 0 (St.mk Rg.no [KI.loop [true, true, true, false, true, true, true], KI.block 0, KI.code [true, true, true, true]] [(0, SV.one (SC.v (Value.slice A ys.length c))), (1, SV.one (SC.v (Value.int IntKind.i64 (left - (↑ys.length : Int))))), (5, SV.one (SC.v (Value.int IntKind.i64 0)))] []) (by kernel_rfl) (by kernel_rfl) (by kernel_rfl) ?_
    refine loop_at (ι := Nat) (fun i => [(1, .one (.v (.int .i64 (left - (ys.length : Int) - (lenSum (ys.take i) : Int))))), (5, .one (.v (.int .i64 i)))]) (fun i => []) (fun i => [oldA w]) (fun i => i ≤ ys.length ∧ (lenSum (ys.take i) : Int) ≤ left - (ys.length : Int)) (fun i => ys.length - i) 0 (by simp [updTm, lk, lenSum, wSum]; exact ⟨rfl, rfl⟩) rfl (by simp) ⟨Nat.zero_le _, by simp [lenSum, wSum]; omega⟩ ?_
    intro i hi ih
    refine go mixed 2000 [0, 1, 5, 15] 0 (St.mk Rg.no [KI.code [true, true, true, false, true, true, true, false, true], KI.code [true, true, true, false, true, true, true, true], KI.loop [true, true, true, false, true, true, true], KI.block 0, KI.code [true, true, true, true]] [(0, SV.one (SC.v (Value.slice A ys.length c))), (1, SV.one (SC.v (Value.int IntKind.i64 (left - (↑ys.length : Int) - (↑(lenSum (List.take i ys)) : Int))))), (5, SV.one (SC.v (Value.int IntKind.i64 (↑i : Int)))), (15, SV.one (SC.bo (decide ((↑i : Int) < (↑ys.length : Int)))))] []) (by kernel_rfl) (by kernel_rfl) (by kernel_rfl) ?_
    refine split_at 15 (b := decide ((↑i : Int) < (↑ys.length : Int))) (by kernel_rfl) (by kernel_rfl) ?_ ?_
    · intro h1
      have hlt : i < ys.length := by simpa using h1
      have htk := lenSum_take hlt
      refine go mixed 2000 [0, 1, 5, 18, 19] 0 (St.mk (Rg.sq [true, true, true, false, true, true, true, true, false, true, false] 2) [KI.code [true, true, true, false, true, true, true, true, false, true, true], KI.block 1, KI.code [true, true, true, false, true, true, true, true, true], KI.loop [true, true, true, false, true, true, true], KI.block 0, KI.code [true, true, true, true]] [(0, SV.one (SC.v (Value.slice A ys.length c))), (1, SV.one (SC.v (Value.int IntKind.i64 (left - (↑ys.length : Int) - (↑(lenSum (List.take i ys)) : Int))))), (5, SV.one (SC.v (Value.int IntKind.i64 (↑i : Int)))), (18, SV.one (SC.v (Value.slice A ys.length c))), (19, SV.one (SC.v (Value.int IntKind.i64 (↑i : Int))))] []) (by kernel_rfl) (by kernel_rfl) (by kernel_rfl) ?_
      refine index_at 2 (by kernel_rfl : atP _ _ _ 2 false = some (Op.indexAddr 22 (Operand.tmp 18) (Operand.tmp 19), 0, some 20, Rg.sq [true, true, true, false, true, true, true, true, false, true, false] 3)) (sz := 1) (by kernel_rfl) rfl rfl rfl hlt (fun L w1 hs => rd_some (rdRow_ext (hs.old 0 rfl) h) hlt) ?_
      intro a_1 ha_; cases ha_
      refine go mixed 2000 [0, 1, 5, 20] 0 (St.mk (Rg.sq [true, true, true, false, true, true, true, true, false, true, false] 3) [KI.code [true, true, true, false, true, true, true, true, false, true, true], KI.block 1, KI.code [true, true, true, false, true, true, true, true, true], KI.loop [true, true, true, false, true, true, true], KI.block 0, KI.code [true, true, true, true]] [(0, SV.one (SC.v (Value.slice (some a_1) ys.length c))), (1, SV.one (SC.v (Value.int IntKind.i64 (left - (↑ys.length : Int) - (↑(lenSum (List.take i ys)) : Int))))), (5, SV.one (SC.v (Value.int IntKind.i64 (↑i : Int)))), (20, SV.one (SC.v (Value.pointer (some (a_1.add (i * 1))))))] []) (by kernel_rfl) (by kernel_rfl) (by kernel_rfl) ?_
      obtain ⟨Ai, ci, hcell, hrow⟩ := rd_row h hlt
      refine load_one 3 (by kernel_rfl : atP _ _ _ 3 true = some (Op.load 36 (Operand.tmp 20), 36, some 21, Rg.sq [true, true, true, false, true, true, true, true, false, true, false] 4)) (n := 1) (by kernel_rfl) rfl ?_
      intro L w1 hs
      refine ⟨.v (.slice Ai _ ci), cellH_ext (hs.old 0 rfl) hcell, ?_⟩
      clear hs
      refine go mixed 2000 [0, 5, 21, 22] 0 (St.mk (Rg.sq [true, true, true, false, true, true, true, true, false, true, false] 5) [KI.code [true, true, true, false, true, true, true, true, false, true, true], KI.block 1, KI.code [true, true, true, false, true, true, true, true, true], KI.loop [true, true, true, false, true, true, true], KI.block 0, KI.code [true, true, true, true]] [(0, SV.one (SC.v (Value.slice (some a_1) ys.length c))), (5, SV.one (SC.v (Value.int IntKind.i64 (↑i : Int)))), (21, SV.one (SC.v (Value.slice Ai ys[i].length ci))), (22, SV.one (SC.v (Value.int IntKind.i64 (left - (↑ys.length : Int) - (↑(lenSum (List.take i ys)) : Int)))))] []) (by kernel_rfl) (by kernel_rfl) (by kernel_rfl) ?_
      have hlen := hl2 _ (List.getElem_mem hlt)

      by_cases hb : left - (ys.length : Int) - (lenSum (ys.take i) : Int) < ((ys[i]).length : Int)
      · refine call_pure true (by kernel_rfl : atC _ _ _ true = some (66, [SV.one (SC.v (Value.slice Ai ys[i].length ci)), SV.one (SC.v (Value.int IntKind.i64 (left - (↑ys.length : Int) - (↑(lenSum (List.take i ys)) : Int))))], some 23, Rg.sq [true, true, true, false, true, true, true, true, false, true, false] 6)) (by kernel_rfl) (.one (.v (.int .i64 (-1)))) (fun L w1 hs => by have := szByteS_ok ys[i] Ai ci (left - (ys.length : Int) - (lenSum (ys.take i) : Int)) hlen (by omega) (by omega) (w := w1); rw [if_pos hb] at this; exact this) ?_
        refine go mixed 2000 [0, 1, 5, 25] 0 (St.mk Rg.no [KI.code [true, true, true, false, true, true, true, true, false, true, true, true], KI.block 1, KI.code [true, true, true, false, true, true, true, true, true], KI.loop [true, true, true, false, true, true, true], KI.block 0, KI.code [true, true, true, true]] [(0, SV.one (SC.v (Value.slice (some a_1) ys.length c))), (1, SV.one (SC.v (Value.int IntKind.i64 (-1)))), (5, SV.one (SC.v (Value.int IntKind.i64 (↑i : Int)))), (25, SV.one (SC.bo true))] []) (by kernel_rfl) (by kernel_rfl) (by kernel_rfl) ?_
        refine lit_at 25 (b := true) (by kernel_rfl) ?_
        refine go mixed 2000 [4] 0 (St.mk Rg.no [KI.code [true, true, true, false, true, true, true, true, false, true, true, true, false, true], KI.block 1, KI.code [true, true, true, false, true, true, true, true, true], KI.loop [true, true, true, false, true, true, true], KI.block 0, KI.code [true, true, true, true]] [(4, SV.one (SC.v (Value.int IntKind.i64 (-1))))] []) (by kernel_rfl) (by kernel_rfl) (by kernel_rfl) ?_
        refine ret_ok (vs := [SV.one (SC.v (Value.int IntKind.i64 (-1)))]) (by kernel_rfl) ?_
        intro L w1 hs
        have hb2 := lenSum_take_le ys (i + 1)
        exact ⟨-1, rfl, hs.out0, fun _ => rfl, by omega, fun h => by omega⟩
      · refine call_pure true (by kernel_rfl : atC _ _ _ true = some (66, [SV.one (SC.v (Value.slice Ai ys[i].length ci)), SV.one (SC.v (Value.int IntKind.i64 (left - (↑ys.length : Int) - (↑(lenSum (List.take i ys)) : Int))))], some 23, Rg.sq [true, true, true, false, true, true, true, true, false, true, false] 6)) (by kernel_rfl) (.one (.v (.int .i64 (left - (ys.length : Int) - (lenSum (ys.take i) : Int) - ((ys[i]).length : Int))))) (fun L w1 hs => by have := szByteS_ok ys[i] Ai ci (left - (ys.length : Int) - (lenSum (ys.take i) : Int)) hlen (by omega) (by omega) (w := w1); rw [if_neg hb] at this; exact this) ?_
        refine go mixed 2000 [0, 1, 5, 25] 0 (St.mk Rg.no [KI.code [true, true, true, false, true, true, true, true, false, true, true, true], KI.block 1, KI.code [true, true, true, false, true, true, true, true, true], KI.loop [true, true, true, false, true, true, true], KI.block 0, KI.code [true, true, true, true]] [(0, SV.one (SC.v (Value.slice (some a_1) ys.length c))), (1, SV.one (SC.v (Value.int IntKind.i64 (left - (↑ys.length : Int) - (↑(lenSum (List.take i ys)) : Int) - (↑ys[i].length : Int))))), (5, SV.one (SC.v (Value.int IntKind.i64 (↑i : Int)))), (25, SV.one (SC.bo (decide (left - (↑ys.length : Int) - (↑(lenSum (List.take i ys)) : Int) - (↑ys[i].length : Int) < 0))))] []) (by kernel_rfl) (by kernel_rfl) (by kernel_rfl) ?_
        refine split_at 25 (b := decide (left - (↑ys.length : Int) - (↑(lenSum (List.take i ys)) : Int) - (↑ys[i].length : Int) < 0)) (by kernel_rfl) (by kernel_rfl) ?_ ?_
        · intro h3
          have := of_decide_eq_true h3
          omega
        intro h3
        refine go mixed 2000 [0, 1, 5] 0 (St.mk Rg.no [KI.loop [true, true, true, false, true, true, true], KI.block 0, KI.code [true, true, true, true]] [(0, SV.one (SC.v (Value.slice (some a_1) ys.length c))), (1, SV.one (SC.v (Value.int IntKind.i64 (left - (↑ys.length : Int) - (↑(lenSum (List.take i ys)) : Int) - (↑ys[i].length : Int))))), (5, SV.one (SC.v (Value.int IntKind.i64 (IntKind.i64.wrap ((↑i : Int) + 1)))))] []) (by kernel_rfl) (by kernel_rfl) (by kernel_rfl) ?_
        rw [wrap_succ (by omega), show left - (ys.length : Int) - (lenSum (ys.take i) : Int) - ((ys[i]).length : Int) = left - (ys.length : Int) - (lenSum (ys.take (i + 1)) : Int) by omega]
        exact ih (i + 1) ⟨hlt, by omega⟩ (by omega)
    · intro h1
      refine go mixed 2000 [4] 0 (St.mk Rg.no [KI.code [true, true, true, true, true]] [(4, SV.one (SC.v (Value.int IntKind.i64 (left - (↑ys.length : Int) - (↑(lenSum (List.take i ys)) : Int)))))] []) (by kernel_rfl) (by kernel_rfl) (by kernel_rfl) ?_
      refine ret_ok (vs := [SV.one (SC.v (Value.int IntKind.i64 (left - (↑ys.length : Int) - (↑(lenSum (List.take i ys)) : Int))))]) (by kernel_rfl) ?_
      intro L w1 hs
      have hi2 : i = ys.length := by
        have : ¬ i < ys.length := by simpa using h1
        omega
      subst hi2
      obtain ⟨_, hi3⟩ := hi
      simp only [List.take_length] at hi3 ⊢
      exact ⟨_, rfl, hs.out0, fun h => by omega, by omega, fun h => by omega⟩
theorem szWrite_ok (x : Int) (ys : List Int) (A : Option Addr) (c : Nat) (left : Int) (hc : ys.length ≤ 9223372036854775807) (h0 : 0 ≤ left) (hle : left ≤ 1048576) (w : World) :
    Calls Try.prog 67 #[.agg #[.int .i64 x, .slice A ys.length c], .int .i64 left] w fun e w' => e = .returned (.int .i64 (if left < ys.length then -1 else left - ys.length)) ∧ Below w.heap.size w w' := by
  refine enter (args := [.agg [.v (.int .i64 x), .v (.slice A ys.length c)], .one (.v (.int .i64 left))]) Try.func67 (c := bodyOf Try.f67) rfl rfl (start_LOK _) (start_old w) ?_
  refine go mixed 2000 [6, 7] 0 (St.mk (Rg.sq [true, false] 3) [KI.code [true, true]] [(6, SV.one (SC.v (Value.slice A ys.length c))), (7, SV.one (SC.v (Value.int IntKind.i64 left)))] []) (by kernel_rfl) (by kernel_rfl) (by kernel_rfl) ?_
  by_cases hb : left < ys.length
  · refine call_pure true (by kernel_rfl : atC _ _ _ true = some (66, [SV.one (SC.v (Value.slice A ys.length c)), SV.one (SC.v (Value.int IntKind.i64 left))], some 8, Rg.sq [true, false] 4)) (by kernel_rfl) (.one (.v (.int .i64 (-1)))) (fun L w1 hs => by have := szByteS_ok ys A c left hc h0 hle w1; rw [if_pos hb] at this; exact this) ?_
    refine go mixed 2000 [1, 10] 0 (St.mk Rg.no [KI.code [true, true, false, true], KI.code [true, true, true]] [(1, SV.one (SC.v (Value.int IntKind.i64 (-1)))), (10, SV.one (SC.bo true))] []) (by kernel_rfl) (by kernel_rfl) (by kernel_rfl) ?_
    refine lit_at 10 (b := true) (by kernel_rfl) ?_
    refine go mixed 2000 [4] 0 (St.mk Rg.no [KI.code [true, true, false, true, false, true], KI.code [true, true, true]] [(4, SV.one (SC.v (Value.int IntKind.i64 (-1))))] []) (by kernel_rfl) (by kernel_rfl) (by kernel_rfl) ?_
    refine ret_ok (vs := [SV.one (SC.v (Value.int IntKind.i64 (-1)))]) (by kernel_rfl) ?_
    intro L w1 hs
    exact ⟨by rw [if_pos hb]; rfl, hs.out0⟩
  · refine call_pure true (by kernel_rfl : atC _ _ _ true = some (66, [SV.one (SC.v (Value.slice A ys.length c)), SV.one (SC.v (Value.int IntKind.i64 left))], some 8, Rg.sq [true, false] 4)) (by kernel_rfl) (.one (.v (.int .i64 (left - ys.length)))) (fun L w1 hs => by have := szByteS_ok ys A c left hc h0 hle w1; rw [if_neg hb] at this; exact this) ?_
    refine go mixed 2000 [1, 10] 0 (St.mk Rg.no [KI.code [true, true, false, true], KI.code [true, true, true]] [(1, SV.one (SC.v (Value.int IntKind.i64 (left - (↑ys.length : Int))))), (10, SV.one (SC.bo (decide (left - (↑ys.length : Int) < 0))))] []) (by kernel_rfl) (by kernel_rfl) (by kernel_rfl) ?_
    refine split_at 10 (b := decide (left - (↑ys.length : Int) < 0)) (by kernel_rfl) (by kernel_rfl) ?_ ?_
    · intro h3
      have := of_decide_eq_true h3
      omega
    intro h3
    refine go mixed 2000 [4] 0 (St.mk Rg.no [KI.code [true, true, true, true]] [(4, SV.one (SC.v (Value.int IntKind.i64 (left - (↑ys.length : Int)))))] []) (by kernel_rfl) (by kernel_rfl) (by kernel_rfl) ?_
    refine ret_ok (vs := [SV.one (SC.v (Value.int IntKind.i64 (left - (↑ys.length : Int))))]) (by kernel_rfl) ?_
    intro L w1 hs
    exact ⟨by rw [if_neg hb]; rfl, hs.out0⟩
theorem szWriteS_ok (ys : List (Int × List Int)) (A : Option Addr) (c : Nat) (left : Int) (w : World) (h : rdRow kW w.heap ys (.slice A ys.length c)) (hl : ys.length ≤ 9223372036854775807) (hl2 : ∀ y ∈ ys, y.2.length ≤ 9223372036854775807) (h0 : 0 ≤ left) (hle : left ≤ 1048576) :
    Calls Try.prog 37 #[.slice A ys.length c, .int .i64 left] w fun e w' => ∃ r : Int, e = .returned (.int .i64 r) ∧ Below w.heap.size w w' ∧ (r < 0 → r = -1) ∧ r ≤ left ∧ (0 ≤ r → (ys.length : Int) + wSum ys + r = left) := by
  refine enter (args := [.one (.v (.slice A ys.length c)), .one (.v (.int .i64 left))]) Try.func37 (c := bodyOf Try.f37) rfl rfl (start_LOK _) (start_old w) ?_
  refine go mixed 2000 [0, 1, 11] 0 (St.mk Rg.no [KI.code [true, true, false, true], KI.code [true, true, true]] [(0, SV.one (SC.v (Value.slice A ys.length c))), (1, SV.one (SC.v (Value.int IntKind.i64 (IntKind.i64.wrap (left - (↑ys.length : Int)))))), (11, SV.one (SC.bo (decide (IntKind.i64.wrap (left - (↑ys.length : Int)) < 0))))] []) (by kernel_rfl) (by kernel_rfl) (by kernel_rfl) ?_
  rw [show IntKind.i64.wrap (left - (ys.length : Int)) = left - (ys.length : Int) by rw [IntKind.wrap_i64]; omega]
  refine split_at 11 (b := decide (left - (↑ys.length : Int) < 0)) (by kernel_rfl) (by kernel_rfl) ?_ ?_
  · intro h1
    have h2 : left < ys.length := by have := of_decide_eq_true h1; omega
    refine go mixed 2000 [4] 0 (St.mk Rg.no [KI.code [true, true, false, true, false, true], KI.code [true, true, true]] [(4, SV.one (SC.v (Value.int IntKind.i64 (-1))))] []) (by kernel_rfl) (by kernel_rfl) (by kernel_rfl) ?_
    refine ret_ok (vs := [SV.one (SC.v (Value.int IntKind.i64 (-1)))]) (by kernel_rfl) ?_
    intro L w1 hs
    exact ⟨-1, rfl, hs.out0, fun _ => rfl, by omega, fun h => by omega⟩
  · intro h1
    have h2 : ¬ left < ys.length := by have := of_decide_eq_false h1; omega
    refine go mixed 2000 [0, 1, 5] 0 (St.mk Rg.no [KI.loop [true, true, true, false, true, true, true], KI.block 0, KI.code [true, true, true, true]] [(0, SV.one (SC.v (Value.slice A ys.length c))), (1, SV.one (SC.v (Value.int IntKind.i64 (left - (↑ys.length : Int))))), (5, SV.one (SC.v (Value.int IntKind.i64 0)))] []) (by kernel_rfl) (by kernel_rfl) (by kernel_rfl) ?_
    refine loop_at (ι := Nat) (fun i => [(1, .one (.v (.int .i64 (left - (ys.length : Int) - (wSum (ys.take i) : Int))))), (5, .one (.v (.int .i64 i)))]) (fun i => []) (fun i => [oldA w]) (fun i => i ≤ ys.length ∧ (wSum (ys.take i) : Int) ≤ left - (ys.length : Int)) (fun i => ys.length - i) 0 (by simp [updTm, lk, lenSum, wSum]; exact ⟨rfl, rfl⟩) rfl (by simp) ⟨Nat.zero_le _, by simp [lenSum, wSum]; omega⟩ ?_
    intro i hi ih
    refine go mixed 2000 [0, 1, 5, 15] 0 (St.mk Rg.no [KI.code [true, true, true, false, true, true, true, false, true], KI.code [true, true, true, false, true, true, true, true], KI.loop [true, true, true, false, true, true, true], KI.block 0, KI.code [true, true, true, true]] [(0, SV.one (SC.v (Value.slice A ys.length c))), (1, SV.one (SC.v (Value.int IntKind.i64 (left - (↑ys.length : Int) - (↑(wSum (List.take i ys)) : Int))))), (5, SV.one (SC.v (Value.int IntKind.i64 (↑i : Int)))), (15, SV.one (SC.bo (decide ((↑i : Int) < (↑ys.length : Int)))))] []) (by kernel_rfl) (by kernel_rfl) (by kernel_rfl) ?_
    refine split_at 15 (b := decide ((↑i : Int) < (↑ys.length : Int))) (by kernel_rfl) (by kernel_rfl) ?_ ?_
    · intro h1
      have hlt : i < ys.length := by simpa using h1
      have htk := wSum_take hlt
      refine go mixed 2000 [0, 1, 5, 18, 19] 0 (St.mk (Rg.sq [true, true, true, false, true, true, true, true, false, true, false] 2) [KI.code [true, true, true, false, true, true, true, true, false, true, true], KI.block 1, KI.code [true, true, true, false, true, true, true, true, true], KI.loop [true, true, true, false, true, true, true], KI.block 0, KI.code [true, true, true, true]] [(0, SV.one (SC.v (Value.slice A ys.length c))), (1, SV.one (SC.v (Value.int IntKind.i64 (left - (↑ys.length : Int) - (↑(wSum (List.take i ys)) : Int))))), (5, SV.one (SC.v (Value.int IntKind.i64 (↑i : Int)))), (18, SV.one (SC.v (Value.slice A ys.length c))), (19, SV.one (SC.v (Value.int IntKind.i64 (↑i : Int))))] []) (by kernel_rfl) (by kernel_rfl) (by kernel_rfl) ?_
      refine index_at 2 (by kernel_rfl : atP _ _ _ 2 false = some (Op.indexAddr 23 (Operand.tmp 18) (Operand.tmp 19), 0, some 20, Rg.sq [true, true, true, false, true, true, true, true, false, true, false] 3)) (sz := 2) (by kernel_rfl) rfl rfl rfl hlt (fun L w1 hs => rd_some (rdRow_ext (hs.old 0 rfl) h) hlt) ?_
      intro a_2 ha_; cases ha_
      refine go mixed 2000 [0, 1, 5, 20] 0 (St.mk (Rg.sq [true, true, true, false, true, true, true, true, false, true, false] 3) [KI.code [true, true, true, false, true, true, true, true, false, true, true], KI.block 1, KI.code [true, true, true, false, true, true, true, true, true], KI.loop [true, true, true, false, true, true, true], KI.block 0, KI.code [true, true, true, true]] [(0, SV.one (SC.v (Value.slice (some a_2) ys.length c))), (1, SV.one (SC.v (Value.int IntKind.i64 (left - (↑ys.length : Int) - (↑(wSum (List.take i ys)) : Int))))), (5, SV.one (SC.v (Value.int IntKind.i64 (↑i : Int)))), (20, SV.one (SC.v (Value.pointer (some (a_2.add (i * 2))))))] []) (by kernel_rfl) (by kernel_rfl) (by kernel_rfl) ?_
      obtain ⟨Ai, ci, hcell1, hcell2, hrow⟩ := rd_w h hlt
      refine load_agg 3 (by kernel_rfl : atP _ _ _ 3 true = some (Op.load 90 (Operand.tmp 20), 90, some 21, Rg.sq [true, true, true, false, true, true, true, true, false, true, false] 4)) (n := 2) (by kernel_rfl) rfl ?_
      intro L w1 hs
      refine ⟨[.v (.int .i64 (ys[i]).1), .v (.slice Ai (ys[i]).2.length ci)], rfl, fun j c hj => ?_, ?_⟩
      · match j, hj with
        | 0, hj => cases hj; exact cellH_ext (hs.old 0 rfl) hcell1
        | 1, hj => cases hj; exact cellH_ext (hs.old 0 rfl) hcell2
      clear hs
      refine go mixed 2000 [0, 5, 21, 22] 0 (St.mk (Rg.sq [true, true, true, false, true, true, true, true, false, true, false] 5) [KI.code [true, true, true, false, true, true, true, true, false, true, true], KI.block 1, KI.code [true, true, true, false, true, true, true, true, true], KI.loop [true, true, true, false, true, true, true], KI.block 0, KI.code [true, true, true, true]] [(0, SV.one (SC.v (Value.slice (some a_2) ys.length c))), (5, SV.one (SC.v (Value.int IntKind.i64 (↑i : Int)))), (21, SV.agg [SC.v (Value.int IntKind.i64 ys[i].fst), SC.v (Value.slice Ai ys[i].snd.length ci)]), (22, SV.one (SC.v (Value.int IntKind.i64 (left - (↑ys.length : Int) - (↑(wSum (List.take i ys)) : Int)))))] []) (by kernel_rfl) (by kernel_rfl) (by kernel_rfl) ?_
      have hlen := hl2 _ (List.getElem_mem hlt)

      by_cases hb : left - (ys.length : Int) - (wSum (ys.take i) : Int) < ((ys[i]).2.length : Int)
      · refine call_pure true (by kernel_rfl : atC _ _ _ true = some (67, [SV.agg [SC.v (Value.int IntKind.i64 ys[i].fst), SC.v (Value.slice Ai ys[i].snd.length ci)], SV.one (SC.v (Value.int IntKind.i64 (left - (↑ys.length : Int) - (↑(wSum (List.take i ys)) : Int))))], some 23, Rg.sq [true, true, true, false, true, true, true, true, false, true, false] 6)) (by kernel_rfl) (.one (.v (.int .i64 (-1)))) (fun L w1 hs => by have := szWrite_ok (ys[i]).1 (ys[i]).2 Ai ci (left - (ys.length : Int) - (wSum (ys.take i) : Int)) hlen (by omega) (by omega) (w := w1); rw [if_pos hb] at this; exact this) ?_
        refine go mixed 2000 [0, 1, 5, 25] 0 (St.mk Rg.no [KI.code [true, true, true, false, true, true, true, true, false, true, true, true], KI.block 1, KI.code [true, true, true, false, true, true, true, true, true], KI.loop [true, true, true, false, true, true, true], KI.block 0, KI.code [true, true, true, true]] [(0, SV.one (SC.v (Value.slice (some a_2) ys.length c))), (1, SV.one (SC.v (Value.int IntKind.i64 (-1)))), (5, SV.one (SC.v (Value.int IntKind.i64 (↑i : Int)))), (25, SV.one (SC.bo true))] []) (by kernel_rfl) (by kernel_rfl) (by kernel_rfl) ?_
        refine lit_at 25 (b := true) (by kernel_rfl) ?_
        refine go mixed 2000 [4] 0 (St.mk Rg.no [KI.code [true, true, true, false, true, true, true, true, false, true, true, true, false, true], KI.block 1, KI.code [true, true, true, false, true, true, true, true, true], KI.loop [true, true, true, false, true, true, true], KI.block 0, KI.code [true, true, true, true]] [(4, SV.one (SC.v (Value.int IntKind.i64 (-1))))] []) (by kernel_rfl) (by kernel_rfl) (by kernel_rfl) ?_
        refine ret_ok (vs := [SV.one (SC.v (Value.int IntKind.i64 (-1)))]) (by kernel_rfl) ?_
        intro L w1 hs
        have hb2 := wSum_take_le ys (i + 1)
        exact ⟨-1, rfl, hs.out0, fun _ => rfl, by omega, fun h => by omega⟩
      · refine call_pure true (by kernel_rfl : atC _ _ _ true = some (67, [SV.agg [SC.v (Value.int IntKind.i64 ys[i].fst), SC.v (Value.slice Ai ys[i].snd.length ci)], SV.one (SC.v (Value.int IntKind.i64 (left - (↑ys.length : Int) - (↑(wSum (List.take i ys)) : Int))))], some 23, Rg.sq [true, true, true, false, true, true, true, true, false, true, false] 6)) (by kernel_rfl) (.one (.v (.int .i64 (left - (ys.length : Int) - (wSum (ys.take i) : Int) - ((ys[i]).2.length : Int))))) (fun L w1 hs => by have := szWrite_ok (ys[i]).1 (ys[i]).2 Ai ci (left - (ys.length : Int) - (wSum (ys.take i) : Int)) hlen (by omega) (by omega) (w := w1); rw [if_neg hb] at this; exact this) ?_
        refine go mixed 2000 [0, 1, 5, 25] 0 (St.mk Rg.no [KI.code [true, true, true, false, true, true, true, true, false, true, true, true], KI.block 1, KI.code [true, true, true, false, true, true, true, true, true], KI.loop [true, true, true, false, true, true, true], KI.block 0, KI.code [true, true, true, true]] [(0, SV.one (SC.v (Value.slice (some a_2) ys.length c))), (1, SV.one (SC.v (Value.int IntKind.i64 (left - (↑ys.length : Int) - (↑(wSum (List.take i ys)) : Int) - (↑ys[i].snd.length : Int))))), (5, SV.one (SC.v (Value.int IntKind.i64 (↑i : Int)))), (25, SV.one (SC.bo (decide (left - (↑ys.length : Int) - (↑(wSum (List.take i ys)) : Int) - (↑ys[i].snd.length : Int) < 0))))] []) (by kernel_rfl) (by kernel_rfl) (by kernel_rfl) ?_
        refine split_at 25 (b := decide (left - (↑ys.length : Int) - (↑(wSum (List.take i ys)) : Int) - (↑ys[i].snd.length : Int) < 0)) (by kernel_rfl) (by kernel_rfl) ?_ ?_
        · intro h3
          have := of_decide_eq_true h3
          omega
        intro h3
        refine go mixed 2000 [0, 1, 5] 0 (St.mk Rg.no [KI.loop [true, true, true, false, true, true, true], KI.block 0, KI.code [true, true, true, true]] [(0, SV.one (SC.v (Value.slice (some a_2) ys.length c))), (1, SV.one (SC.v (Value.int IntKind.i64 (left - (↑ys.length : Int) - (↑(wSum (List.take i ys)) : Int) - (↑ys[i].snd.length : Int))))), (5, SV.one (SC.v (Value.int IntKind.i64 (IntKind.i64.wrap ((↑i : Int) + 1)))))] []) (by kernel_rfl) (by kernel_rfl) (by kernel_rfl) ?_
        rw [wrap_succ (by omega), show left - (ys.length : Int) - (wSum (ys.take i) : Int) - ((ys[i]).2.length : Int) = left - (ys.length : Int) - (wSum (ys.take (i + 1)) : Int) by omega]
        exact ih (i + 1) ⟨hlt, by omega⟩ (by omega)
    · intro h1
      refine go mixed 2000 [4] 0 (St.mk Rg.no [KI.code [true, true, true, true, true]] [(4, SV.one (SC.v (Value.int IntKind.i64 (left - (↑ys.length : Int) - (↑(wSum (List.take i ys)) : Int)))))] []) (by kernel_rfl) (by kernel_rfl) (by kernel_rfl) ?_
      refine ret_ok (vs := [SV.one (SC.v (Value.int IntKind.i64 (left - (↑ys.length : Int) - (↑(wSum (List.take i ys)) : Int))))]) (by kernel_rfl) ?_
      intro L w1 hs
      have hi2 : i = ys.length := by
        have : ¬ i < ys.length := by simpa using h1
        omega
      subst hi2
      obtain ⟨_, hi3⟩ := hi
      simp only [List.take_length] at hi3 ⊢
      exact ⟨_, rfl, hs.out0, fun h => by omega, by omega, fun h => by omega⟩
end Go.Proofs.Ytjbbakckckihnaa.Dk
