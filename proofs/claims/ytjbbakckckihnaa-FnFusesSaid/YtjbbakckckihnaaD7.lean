/- Walks of functions of the program: what each call returns and what it leaves in memory. Conditions: those that each theorem names. -/
import Derived.Test.YtjbbakckckihnaaD6
namespace Go.Proofs.Ytjbbakckckihnaa.Dk
set_option linter.unusedVariables false
set_option linter.unusedSimpArgs false
open Go.Proofs.Ytjbbakckckihnaa.Sx Go.Proofs Go.RowKit
set_option maxRecDepth 100000
theorem szDisk_ok (xs : List (List Int)) (ws : List (Int × List Int)) (f : Int) (dn : Bool) (A : Option Addr) (c : Nat) (A1 : Option Addr) (c1 : Nat) (left : Int) (w : World) (h : rdRow kB w.heap xs (.slice A xs.length c)) (h2 : rdRow kW w.heap ws (.slice A1 ws.length c1)) (hl : xs.length ≤ 9223372036854775807) (hl2 : ∀ y ∈ xs, y.length ≤ 9223372036854775807) (hl3 : ws.length ≤ 9223372036854775807) (hl4 : ∀ y ∈ ws, y.2.length ≤ 9223372036854775807) (h0 : 0 ≤ left) (hle : left ≤ 1048576) :
    Calls Try.prog 9 #[.agg #[.slice A xs.length c, .slice A1 ws.length c1, .int .i64 f, .bool dn], .int .i64 left] w fun e w' => ∃ r : Int, e = .returned (.int .i64 r) ∧ Below w.heap.size w w' ∧ (0 ≤ r → (xs.length : Int) + lenSum xs + ws.length + wSum ws ≤ left) := by
  refine enter (args := [.agg [.v (.slice A xs.length c), .v (.slice A1 ws.length c1), .v (.int .i64 f), .bo dn], .one (.v (.int .i64 left))]) Try.func9 (c := bodyOf Try.f9) rfl rfl (start_LOK _) (start_old w) ?_
  refine go mixed 2000 [2, 6, 7] 1 (St.mk (Rg.sq [true, false] 3) [KI.code [true, true]] [(2, SV.one (SC.ptr 0 0)), (6, SV.one (SC.v (Value.slice A xs.length c))), (7, SV.one (SC.v (Value.int IntKind.i64 left)))] [LB.mk [SC.v (Value.slice A xs.length c), SC.v (Value.slice A1 ws.length c1), SC.v (Value.int IntKind.i64 f), SC.bo dn] 25]) (by kernel_rfl) (by kernel_rfl) (by kernel_rfl) ?_
  refine call_at true (by kernel_rfl : atC _ _ _ true = some (36, [SV.one (SC.v (Value.slice A xs.length c)), SV.one (SC.v (Value.int IntKind.i64 left))], some 8, Rg.sq [true, false] 4)) (by kernel_rfl) (fun L w1 hs => (szByteSS_ok xs A c left w1 (rdRow_ext (hs.old 0 rfl) h) hl hl2 h0 hle).mono ?_)
  rintro e w2 ⟨r, rfl, hb, hr1, hr2, hr3⟩
  refine ⟨.one (.v (.int .i64 r)), _, _, rfl, fun _ => hb.block, hs.below hb, ?_⟩
  clear hs hb
  refine go mixed 2000 [1, 2, 10] 1 (St.mk Rg.no [KI.code [true, true, false, true], KI.code [true, true, true]] [(1, SV.one (SC.v (Value.int IntKind.i64 r))), (2, SV.one (SC.ptr 0 0)), (10, SV.one (SC.bo (decide (r < 0))))] [LB.mk [SC.v (Value.slice A xs.length c), SC.v (Value.slice A1 ws.length c1), SC.v (Value.int IntKind.i64 f), SC.bo dn] 25]) (by kernel_rfl) (by kernel_rfl) (by kernel_rfl) ?_
  refine split_at 10 (b := decide (r < 0)) (by kernel_rfl) (by kernel_rfl) ?_ ?_
  · intro h3
    have h4 := of_decide_eq_true h3
    refine go mixed 2000 [4] 0 (St.mk Rg.no [KI.code [true, true, false, true, false, true], KI.code [true, true, true]] [(4, SV.one (SC.v (Value.int IntKind.i64 (-1))))] []) (by kernel_rfl) (by kernel_rfl) (by kernel_rfl) ?_
    refine ret_ok (vs := [SV.one (SC.v (Value.int IntKind.i64 (-1)))]) (by kernel_rfl) ?_
    intro L w3 hs
    exact ⟨-1, rfl, hs.out0, fun h => by omega⟩
  intro h3
  have h4 := of_decide_eq_false h3
  refine go mixed 2000 [12, 13] 0 (St.mk (Rg.sq [true, true, true, false] 3) [KI.code [true, true, true, true]] [(12, SV.one (SC.v (Value.slice A1 ws.length c1))), (13, SV.one (SC.v (Value.int IntKind.i64 r)))] []) (by kernel_rfl) (by kernel_rfl) (by kernel_rfl) ?_
  refine call_at true (by kernel_rfl : atC _ _ _ true = some (37, [SV.one (SC.v (Value.slice A1 ws.length c1)), SV.one (SC.v (Value.int IntKind.i64 r))], some 14, Rg.sq [true, true, true, false] 4)) (by kernel_rfl) (fun L w1 hs => (szWriteS_ok ws A1 c1 r w1 (rdRow_ext (hs.old 0 rfl) h2) hl3 hl4 (by omega) (by omega)).mono ?_)
  rintro e w2 ⟨r2, rfl, hb, hs1, hs2, hs3⟩
  refine ⟨.one (.v (.int .i64 r2)), _, _, rfl, fun _ => hb.block, hs.below hb, ?_⟩
  clear hs hb
  refine go mixed 2000 [1, 16] 0 (St.mk Rg.no [KI.code [true, true, true, true, false, true], KI.code [true, true, true, true, true]] [(1, SV.one (SC.v (Value.int IntKind.i64 r2))), (16, SV.one (SC.bo (decide (r2 < 0))))] []) (by kernel_rfl) (by kernel_rfl) (by kernel_rfl) ?_
  refine split_at 16 (b := decide (r2 < 0)) (by kernel_rfl) (by kernel_rfl) ?_ ?_
  · intro h5
    have h6 := of_decide_eq_true h5
    refine go mixed 2000 [4] 0 (St.mk Rg.no [KI.code [true, true, true, true, false, true, false, true], KI.code [true, true, true, true, true]] [(4, SV.one (SC.v (Value.int IntKind.i64 (-1))))] []) (by kernel_rfl) (by kernel_rfl) (by kernel_rfl) ?_
    refine ret_ok (vs := [SV.one (SC.v (Value.int IntKind.i64 (-1)))]) (by kernel_rfl) ?_
    intro L w3 hs
    exact ⟨-1, rfl, hs.out0, fun h => by omega⟩
  intro h5
  have h6 := of_decide_eq_false h5
  refine go mixed 2000 [4] 0 (St.mk Rg.no [KI.code [true, true, true, true, true, true]] [(4, SV.one (SC.v (Value.int IntKind.i64 r2)))] []) (by kernel_rfl) (by kernel_rfl) (by kernel_rfl) ?_
  refine ret_ok (vs := [SV.one (SC.v (Value.int IntKind.i64 r2))]) (by kernel_rfl) ?_
  intro L w3 hs
  exact ⟨r2, rfl, hs.out0, fun h => by have := hs3 h; have := hr3 (by omega); omega⟩
theorem toWrite_ok (x : Int) (ys : List Int) (A : Option Addr) (c : Nat) (w : World) (h : rdRow kU8 w.heap ys (.slice A ys.length c)) (hl : ys.length ≤ 1048576) :
    Calls Try.prog 68 #[.agg #[.int .i64 x, .slice A ys.length c]] w fun e w' => ∃ A' c', e = .returned (.agg #[.int .i64 x, .slice A' ys.length c']) ∧ Fresh w w' [rowA 5 kU8 ys (.slice A' ys.length c')] := by
  refine enter (args := [.agg [.v (.int .i64 x), .v (.slice A ys.length c)]]) Try.func68 (c := bodyOf Try.f68) rfl rfl (start_LOK _) (start_old w) ?_
  refine go mixed 2000 [2, 3, 8] 3 (St.mk (Rg.sq [true, true, true, false] 2) [KI.code [true, true, true, true]] [(2, SV.one (SC.ptr 1 0)), (3, SV.one (SC.ptr 2 0)), (8, SV.one (SC.v (Value.slice A ys.length c)))] [LB.mk [SC.v (Value.int IntKind.i64 x), SC.v (Value.slice A ys.length c)] 90, LB.mk [SC.v (Value.int IntKind.i64 0), SC.v (Value.slice none 0 0)] 59, LB.mk [SC.v (Value.int IntKind.i64 x), SC.v (Value.slice none 0 0)] 59]) (by kernel_rfl) (by kernel_rfl) (by kernel_rfl) ?_
  refine call_fresh true (by kernel_rfl : atC _ _ _ true = some (17, [SV.one (SC.v (Value.slice A ys.length c))], some 9, Rg.sq [true, true, true, false] 3)) (by kernel_rfl) fun L w1 hs => (toByteS_ok ys A c w1 (rdRow_ext (hs.old 0 rfl) h) hl).mono ?_
  rintro e w2 ⟨A', c', rfl, hf⟩
  refine ⟨.one (.v (.slice A' ys.length c')), [rowA 5 kU8 ys (.slice A' ys.length c')], rfl, hf, ?_⟩
  clear hs hf
  refine go mixed 2000 [2] 2 (St.mk Rg.no [KI.code [true, true, true, true, true]] [(2, SV.one (SC.ptr 1 0))] [LB.mk [SC.v (Value.int IntKind.i64 x), SC.v (Value.slice A ys.length c)] 90, LB.mk [SC.v (Value.int IntKind.i64 x), SC.v (Value.slice A' ys.length c')] 59]) (by kernel_rfl) (by kernel_rfl) (by kernel_rfl) ?_
  refine ret_ok (vs := [SV.agg [SC.v (Value.int IntKind.i64 x), SC.v (Value.slice A' ys.length c')]]) (by kernel_rfl) ?_
  intro L w1 hs
  exact ⟨A', c', rfl, hs.out (As := [_])⟩
theorem toWriteS_ok (ys : List (Int × List Int)) (A : Option Addr) (c : Nat) (w : World) (h : rdRow kW w.heap ys (.slice A ys.length c)) (hl : ys.length ≤ 1048576) (hl2 : ∀ y ∈ ys, y.2.length ≤ 1048576) :
    Calls Try.prog 40 #[.slice A ys.length c] w fun e w' => ∃ A' c', e = .returned (.slice A' ys.length c') ∧ Fresh w w' [rowA 59 kW ys (.slice A' ys.length c')] := by
  refine enter (args := [.one (.v (.slice A ys.length c))]) Try.func40 (c := bodyOf Try.f40) rfl rfl (start_LOK _) (start_old w) ?_
  refine go mixed 2000 [0, 6] 0 (St.mk (Rg.sq [true, false] 2) [KI.code [true, true]] [(0, SV.one (SC.v (Value.slice A ys.length c))), (6, SV.one (SC.v (Value.int IntKind.i64 (↑ys.length : Int))))] []) (by kernel_rfl) (by kernel_rfl) (by kernel_rfl) ?_
  refine make_at (d := kW) ys.length (0, []) (zc := [.int .i64 0, .slice none 0 0]) (by_ := 32) (e := 59) true (by kernel_rfl : atB _ _ _ true = some (Op.makeSlice 27 (Operand.tmp 6) (Operand.tmp 6), 27, some 7, Rg.sq [true, false] 3)) (by kernel_rfl) (by kernel_rfl) rfl rfl rfl rfl (by omega) (by simp [maxLen]; omega) (fun _ => ⟨[.int .i64 0], [.slice none 0 0], rfl, fun _ => False, fun _ => False, fun _ h => h, fun _ h => h, fun _ h => h.elim, rfl, _, rfl, owRow_nil⟩) ?_
  intro g
  refine go mixed 2000 [0, 3, 4] 0 (St.mk Rg.no [KI.loop [true, true, false, true, true, true], KI.block 0, KI.code [true, true, true]] [(0, SV.one (SC.v (Value.slice A ys.length c))), (3, SV.one (SC.v (Value.slice (some (Addr.mk g 0 none)) ys.length ys.length))), (4, SV.one (SC.v (Value.int IntKind.i64 0)))] []) (by kernel_rfl) (by kernel_rfl) (by kernel_rfl) ?_
  refine loop_at (ι := Nat) (fun i => [(4, .one (.v (.int .i64 i)))]) (fun i => []) (fun i => [rowA 59 kW (ys.take i ++ List.replicate (ys.length - i) (0, [])) (.slice (some ⟨g, 0, none⟩) ys.length ys.length), oldA w]) (fun i => i ≤ ys.length) (fun i => ys.length - i) 0 rfl rfl (by simp) (Nat.zero_le _) ?_
  intro i hi ih
  refine go mixed 2000 [0, 3, 4, 11] 0 (St.mk Rg.no [KI.code [true, true, false, true, true, true, false, true], KI.code [true, true, false, true, true, true, true], KI.loop [true, true, false, true, true, true], KI.block 0, KI.code [true, true, true]] [(0, SV.one (SC.v (Value.slice A ys.length c))), (3, SV.one (SC.v (Value.slice (some (Addr.mk g 0 none)) ys.length ys.length))), (4, SV.one (SC.v (Value.int IntKind.i64 (↑i : Int)))), (11, SV.one (SC.bo (decide ((↑i : Int) < (↑ys.length : Int)))))] []) (by kernel_rfl) (by kernel_rfl) (by kernel_rfl) ?_
  refine split_at 11 (b := decide ((↑i : Int) < (↑ys.length : Int))) (by kernel_rfl) (by kernel_rfl) ?_ ?_
  · intro h1
    have hlt : i < ys.length := by simpa using h1
    refine go mixed 2000 [0, 3, 4, 14, 15, 16, 17] 0 (St.mk (Rg.sq [true, true, false, true, true, true, true, false, true] 4) [KI.block 1, KI.code [true, true, false, true, true, true, true, true], KI.loop [true, true, false, true, true, true], KI.block 0, KI.code [true, true, true]] [(0, SV.one (SC.v (Value.slice A ys.length c))), (3, SV.one (SC.v (Value.slice (some (Addr.mk g 0 none)) ys.length ys.length))), (4, SV.one (SC.v (Value.int IntKind.i64 (↑i : Int)))), (14, SV.one (SC.v (Value.slice (some (Addr.mk g 0 none)) ys.length ys.length))), (15, SV.one (SC.v (Value.int IntKind.i64 (↑i : Int)))), (16, SV.one (SC.v (Value.slice A ys.length c))), (17, SV.one (SC.v (Value.int IntKind.i64 (↑i : Int))))] []) (by kernel_rfl) (by kernel_rfl) (by kernel_rfl) ?_
    refine index_at 4 (by kernel_rfl : atP _ _ _ 4 false = some (Op.indexAddr 23 (Operand.tmp 16) (Operand.tmp 17), 0, some 18, Rg.sq [true, true, false, true, true, true, true, false, true] 5)) (sz := 2) (by kernel_rfl) rfl rfl rfl hlt (fun L w1 hs => rd_some (rdRow_ext (hs.old 1 rfl) h) hlt) ?_
    intro a_1 ha_; cases ha_
    refine go mixed 2000 [0, 3, 4, 14, 15, 18] 0 (St.mk (Rg.sq [true, true, false, true, true, true, true, false, true] 5) [KI.block 1, KI.code [true, true, false, true, true, true, true, true], KI.loop [true, true, false, true, true, true], KI.block 0, KI.code [true, true, true]] [(0, SV.one (SC.v (Value.slice (some a_1) ys.length c))), (3, SV.one (SC.v (Value.slice (some (Addr.mk g 0 none)) ys.length ys.length))), (4, SV.one (SC.v (Value.int IntKind.i64 (↑i : Int)))), (14, SV.one (SC.v (Value.slice (some (Addr.mk g 0 none)) ys.length ys.length))), (15, SV.one (SC.v (Value.int IntKind.i64 (↑i : Int)))), (18, SV.one (SC.v (Value.pointer (some (a_1.add (i * 2))))))] []) (by kernel_rfl) (by kernel_rfl) (by kernel_rfl) ?_
    obtain ⟨Ai, ci, hcell1, hcell2, hrow⟩ := rd_w h hlt
    refine load_agg 5 (by kernel_rfl : atP _ _ _ 5 true = some (Op.load 90 (Operand.tmp 18), 90, some 19, Rg.sq [true, true, false, true, true, true, true, false, true] 6)) (n := 2) (by kernel_rfl) rfl ?_
    intro L w1 hs
    refine ⟨[.v (.int .i64 (ys[i]).1), .v (.slice Ai (ys[i]).2.length ci)], rfl, fun j c hj => ?_, ?_⟩
    · match j, hj with
      | 0, hj => cases hj; exact cellH_ext (hs.old 1 rfl) hcell1
      | 1, hj => cases hj; exact cellH_ext (hs.old 1 rfl) hcell2
    clear hs
    refine go mixed 2000 [0, 3, 4, 14, 15, 19] 0 (St.mk (Rg.sq [true, true, false, true, true, true, true, false, true] 6) [KI.block 1, KI.code [true, true, false, true, true, true, true, true], KI.loop [true, true, false, true, true, true], KI.block 0, KI.code [true, true, true]] [(0, SV.one (SC.v (Value.slice (some a_1) ys.length c))), (3, SV.one (SC.v (Value.slice (some (Addr.mk g 0 none)) ys.length ys.length))), (4, SV.one (SC.v (Value.int IntKind.i64 (↑i : Int)))), (14, SV.one (SC.v (Value.slice (some (Addr.mk g 0 none)) ys.length ys.length))), (15, SV.one (SC.v (Value.int IntKind.i64 (↑i : Int)))), (19, SV.agg [SC.v (Value.int IntKind.i64 ys[i].fst), SC.v (Value.slice Ai ys[i].snd.length ci)])] []) (by kernel_rfl) (by kernel_rfl) (by kernel_rfl) ?_
    refine call_fresh true (by kernel_rfl : atC _ _ _ true = some (68, [SV.agg [SC.v (Value.int IntKind.i64 ys[i].fst), SC.v (Value.slice Ai ys[i].snd.length ci)]], some 20, Rg.sq [true, true, false, true, true, true, true, false, true] 7)) (by kernel_rfl) fun L w1 hs => (toWrite_ok (ys[i]).1 (ys[i]).2 Ai ci w1 (rdRow_ext (hs.old 1 rfl) hrow) (hl2 _ (List.getElem_mem hlt))).mono ?_
    rintro e w2 ⟨A', c', rfl, hf⟩
    refine ⟨.agg [.v (.int .i64 (ys[i]).1), .v (.slice A' (ys[i]).2.length c')], [rowA 5 kU8 (ys[i]).2 (.slice A' (ys[i]).2.length c')], rfl, hf, ?_⟩
    clear hs hf
    refine go mixed 2000 [0, 3, 4, 14, 15, 20] 0 (St.mk (Rg.sq [true, true, false, true, true, true, true, false, true] 7) [KI.block 1, KI.code [true, true, false, true, true, true, true, true], KI.loop [true, true, false, true, true, true], KI.block 0, KI.code [true, true, true]] [(0, SV.one (SC.v (Value.slice (some a_1) ys.length c))), (3, SV.one (SC.v (Value.slice (some (Addr.mk g 0 none)) ys.length ys.length))), (4, SV.one (SC.v (Value.int IntKind.i64 (↑i : Int)))), (14, SV.one (SC.v (Value.slice (some (Addr.mk g 0 none)) ys.length ys.length))), (15, SV.one (SC.v (Value.int IntKind.i64 (↑i : Int)))), (20, SV.agg [SC.v (Value.int IntKind.i64 ys[i].fst), SC.v (Value.slice A' ys[i].snd.length c')])] []) (by kernel_rfl) (by kernel_rfl) (by kernel_rfl) ?_
    refine h_val (f := Value.int .i64) (fun _ => rfl) (ys[i]).1 ?_
    refine h_pair (d := kI64) (d2 := kB) (c2 := [.slice A' (ys[i]).2.length c']) ?_
    refine h_swap ?_
    refine index_at 7 (by kernel_rfl : atP _ _ _ 7 false = some (Op.indexAddr 27 (Operand.tmp 14) (Operand.tmp 15), 0, some 21, Rg.sq [true, true, false, true, true, true, true, false, true] 8)) (sz := 2) (by kernel_rfl) rfl rfl rfl hlt (fun L w1 hs => ⟨_, rfl⟩) ?_
    intro a2 ha2; cases ha2
    refine go mixed 2000 [0, 3, 4, 20, 21] 0 (St.mk (Rg.sq [true, true, false, true, true, true, true, false, true] 8) [KI.block 1, KI.code [true, true, false, true, true, true, true, true], KI.loop [true, true, false, true, true, true], KI.block 0, KI.code [true, true, true]] [(0, SV.one (SC.v (Value.slice (some a_1) ys.length c))), (3, SV.one (SC.v (Value.slice (some (Addr.mk g 0 none)) ys.length ys.length))), (4, SV.one (SC.v (Value.int IntKind.i64 (↑i : Int)))), (20, SV.agg [SC.v (Value.int IntKind.i64 ys[i].fst), SC.v (Value.slice A' ys[i].snd.length c')]), (21, SV.one (SC.v (Value.pointer (some ((Addr.mk g 0 none).add (i * 2))))))] []) (by kernel_rfl) (by kernel_rfl) (by kernel_rfl) ?_
    refine store_el (A := [elA kW ys[i] [.int .i64 (ys[i]).1, .slice A' (ys[i]).2.length c']]) (d := kW) (y := ys[i]) (by kernel_rfl : atB _ _ _ false = some (Op.store 59 (Operand.tmp 21) (Operand.tmp 20), 0, none, Rg.sq [true, true, false, true, true, true, true, false, true] 9)) (by kernel_rfl) rfl rfl rfl rfl rfl (by simp; omega) (fun _ _ hA => sepL_one hA) ?_
    refine go mixed 2000 [0, 3, 4] 0 (St.mk Rg.no [KI.loop [true, true, false, true, true, true], KI.block 0, KI.code [true, true, true]] [(0, SV.one (SC.v (Value.slice (some a_1) ys.length c))), (3, SV.one (SC.v (Value.slice (some (Addr.mk g 0 none)) ys.length ys.length))), (4, SV.one (SC.v (Value.int IntKind.i64 (IntKind.i64.wrap ((↑i : Int) + 1)))))] []) (by kernel_rfl) (by kernel_rfl) (by kernel_rfl) ?_
    rw [wrap_succ (by omega), set_fill ys _ hlt]
    exact ih (i + 1) hlt (by omega)
  · intro h1
    refine go mixed 2000 [2] 0 (St.mk Rg.no [KI.code [true, true, true, true]] [(2, SV.one (SC.v (Value.slice (some (Addr.mk g 0 none)) ys.length ys.length)))] []) (by kernel_rfl) (by kernel_rfl) (by kernel_rfl) ?_
    refine ret_ok (vs := [SV.one (SC.v (Value.slice (some (Addr.mk g 0 none)) ys.length ys.length))]) (by kernel_rfl) ?_
    intro L w1 hs
    have hi2 : i = ys.length := by
      have : ¬ i < ys.length := by simpa using h1
      omega
    subst hi2
    simp only [List.take_length, Nat.sub_self, List.replicate_zero, List.append_nil] at hs
    exact ⟨_, _, rfl, hs.out (As := [_])⟩
theorem toDisk_ok (xs : List (List Int)) (ws : List (Int × List Int)) (f : Int) (dn : Bool) (A : Option Addr) (c : Nat) (A1 : Option Addr) (c1 : Nat) (w : World) (h : rdRow kB w.heap xs (.slice A xs.length c)) (h2 : rdRow kW w.heap ws (.slice A1 ws.length c1)) (hl : xs.length ≤ 1048576) (hl2 : ∀ y ∈ xs, y.length ≤ 1048576) (hl3 : ws.length ≤ 1048576) (hl4 : ∀ y ∈ ws, y.2.length ≤ 1048576) :
    Calls Try.prog 11 #[.agg #[.slice A xs.length c, .slice A1 ws.length c1, .int .i64 f, .bool dn]] w fun e w' => ∃ A' c' A1' c1', e = .returned (.agg #[.slice A' xs.length c', .slice A1' ws.length c1', .int .i64 f, .bool dn]) ∧ Fresh w w' [rowA 36 kB xs (.slice A' xs.length c'), rowA 59 kW ws (.slice A1' ws.length c1')] := by
  refine enter (args := [.agg [.v (.slice A xs.length c), .v (.slice A1 ws.length c1), .v (.int .i64 f), .bo dn]]) Try.func11 (c := bodyOf Try.f11) rfl rfl (start_LOK _) (start_old w) ?_
  refine go mixed 2000 [1, 2, 3, 5] 3 (St.mk (Rg.sq [true, true, false] 2) [KI.code [true, true, true]] [(1, SV.one (SC.ptr 0 0)), (2, SV.one (SC.ptr 1 0)), (3, SV.one (SC.ptr 2 0)), (5, SV.one (SC.v (Value.slice A xs.length c)))] [LB.mk [SC.v (Value.slice A xs.length c), SC.v (Value.slice A1 ws.length c1), SC.v (Value.int IntKind.i64 f), SC.bo dn] 25, LB.mk [SC.v (Value.slice none 0 0), SC.v (Value.slice none 0 0), SC.v (Value.int IntKind.i64 0), SC.v (Value.bool false)] 29, LB.mk [SC.v (Value.slice none 0 0), SC.v (Value.slice none 0 0), SC.v (Value.int IntKind.i64 0), SC.v (Value.bool false)] 29]) (by kernel_rfl) (by kernel_rfl) (by kernel_rfl) ?_
  refine call_fresh true (by kernel_rfl : atC _ _ _ true = some (39, [SV.one (SC.v (Value.slice A xs.length c))], some 6, Rg.sq [true, true, false] 3)) (by kernel_rfl) fun L w1 hs => (toByteSS_ok xs A c w1 (rdRow_ext (hs.old 0 rfl) h) hl hl2).mono ?_
  rintro e w2 ⟨A', c', rfl, hf⟩
  refine ⟨.one (.v (.slice A' xs.length c')), [rowA 36 kB xs (.slice A' xs.length c')], rfl, hf, ?_⟩
  clear hs hf
  refine go mixed 2000 [1, 2, 3, 9] 3 (St.mk (Rg.sq [true, true, true, false] 2) [KI.code [true, true, true, true]] [(1, SV.one (SC.ptr 0 0)), (2, SV.one (SC.ptr 1 0)), (3, SV.one (SC.ptr 2 0)), (9, SV.one (SC.v (Value.slice A1 ws.length c1)))] [LB.mk [SC.v (Value.slice A xs.length c), SC.v (Value.slice A1 ws.length c1), SC.v (Value.int IntKind.i64 f), SC.bo dn] 25, LB.mk [SC.v (Value.slice none 0 0), SC.v (Value.slice none 0 0), SC.v (Value.int IntKind.i64 0), SC.v (Value.bool false)] 29, LB.mk [SC.v (Value.slice A' xs.length c'), SC.v (Value.slice none 0 0), SC.v (Value.int IntKind.i64 0), SC.v (Value.bool false)] 29]) (by kernel_rfl) (by kernel_rfl) (by kernel_rfl) ?_
  refine call_fresh true (by kernel_rfl : atC _ _ _ true = some (40, [SV.one (SC.v (Value.slice A1 ws.length c1))], some 10, Rg.sq [true, true, true, false] 3)) (by kernel_rfl) fun L w1 hs => (toWriteS_ok ws A1 c1 w1 (rdRow_ext (hs.old 1 rfl) h2) hl3 hl4).mono ?_
  rintro e w2 ⟨A1', c1', rfl, hf⟩
  refine ⟨.one (.v (.slice A1' ws.length c1')), [rowA 59 kW ws (.slice A1' ws.length c1')], rfl, hf, ?_⟩
  clear hs hf
  refine h_swap ?_
  refine go mixed 2000 [2] 2 (St.mk Rg.no [KI.code [true, true, true, true, true, true, true]] [(2, SV.one (SC.ptr 1 0))] [LB.mk [SC.v (Value.slice A xs.length c), SC.v (Value.slice A1 ws.length c1), SC.v (Value.int IntKind.i64 f), SC.bo dn] 25, LB.mk [SC.v (Value.slice A' xs.length c'), SC.v (Value.slice A1' ws.length c1'), SC.v (Value.int IntKind.i64 f), SC.bo dn] 29]) (by kernel_rfl) (by kernel_rfl) (by kernel_rfl) ?_
  refine ret_ok (vs := [SV.agg [SC.v (Value.slice A' xs.length c'), SC.v (Value.slice A1' ws.length c1'), SC.v (Value.int IntKind.i64 f), SC.bo dn]]) (by kernel_rfl) ?_
  intro L w1 hs
  exact ⟨A', c', A1', c1', rfl, hs.out (As := [_, _])⟩
theorem eqWrite_ok (x : Int) (ys : List Int) (A : Option Addr) (c : Nat) (B : Option Addr) (c2 : Nat) (w : World) (h : rdRow kU8 w.heap ys (.slice A ys.length c)) (h2 : rdRow kU8 w.heap ys (.slice B ys.length c2)) (hl : ys.length ≤ 1048576) :
    Calls Try.prog 70 #[.agg #[.int .i64 x, .slice A ys.length c], .agg #[.int .i64 x, .slice B ys.length c2]] w fun e w' => e = .returned (.bool true) ∧ Below w.heap.size w w' := by
  refine enter (args := [.agg [.v (.int .i64 x), .v (.slice A ys.length c)], .agg [.v (.int .i64 x), .v (.slice B ys.length c2)]]) Try.func70 (c := bodyOf Try.f70) rfl rfl (start_LOK _) (start_old w) ?_
  refine go mixed 2000 [2, 3, 9] 2 (St.mk Rg.no [KI.code [true, false, true], KI.code [true, true]] [(2, SV.one (SC.ptr 0 0)), (3, SV.one (SC.ptr 1 0)), (9, SV.one (SC.bo (x != x)))] [LB.mk [SC.v (Value.int IntKind.i64 x), SC.v (Value.slice A ys.length c)] 59, LB.mk [SC.v (Value.int IntKind.i64 x), SC.v (Value.slice B ys.length c2)] 59]) (by kernel_rfl) (by kernel_rfl) (by kernel_rfl) ?_
  refine split_at 9 (b := x != x) (by kernel_rfl) (by kernel_rfl) ?_ ?_
  · intro h3; simp at h3
  intro h3
  refine go mixed 2000 [11, 13] 0 (St.mk (Rg.sq [true, true, false, false] 4) [KI.code [true, true, false, true], KI.code [true, true, true]] [(11, SV.one (SC.v (Value.slice A ys.length c))), (13, SV.one (SC.v (Value.slice B ys.length c2)))] []) (by kernel_rfl) (by kernel_rfl) (by kernel_rfl) ?_
  refine call_pure true (by kernel_rfl : atC _ _ _ true = some (19, [SV.one (SC.v (Value.slice A ys.length c)), SV.one (SC.v (Value.slice B ys.length c2))], some 14, Rg.sq [true, true, false, false] 5)) (by kernel_rfl) (.one (.v (.bool true))) (fun L w1 hs => eqByteS_ok ys A c B c2 w1 (rdRow_ext (hs.old 0 rfl) h) (rdRow_ext (hs.old 0 rfl) h2) hl) ?_
  refine go mixed 2000 [4] 0 (St.mk Rg.no [KI.code [true, true, true, true]] [(4, SV.one (SC.v (Value.bool true)))] []) (by kernel_rfl) (by kernel_rfl) (by kernel_rfl) ?_
  refine ret_ok (vs := [SV.one (SC.v (Value.bool true))]) (by kernel_rfl) ?_
  intro L w1 hs
  exact ⟨rfl, hs.out0⟩
theorem eqWriteS_ok (ys : List (Int × List Int)) (A : Option Addr) (c : Nat) (B : Option Addr) (c2 : Nat) (w : World) (h : rdRow kW w.heap ys (.slice A ys.length c)) (h2 : rdRow kW w.heap ys (.slice B ys.length c2)) (hl : ys.length ≤ 1048576) (hl2 : ∀ y ∈ ys, y.2.length ≤ 1048576) :
    Calls Try.prog 43 #[.slice A ys.length c, .slice B ys.length c2] w fun e w' => e = .returned (.bool true) ∧ Below w.heap.size w w' := by
  refine enter (args := [.one (.v (.slice A ys.length c)), .one (.v (.slice B ys.length c2))]) Try.func43 (c := bodyOf Try.f43) rfl rfl (start_LOK _) (start_old w) ?_
  refine go mixed 2000 [0, 1, 10] 0 (St.mk Rg.no [KI.code [true, false, true], KI.code [true, true]] [(0, SV.one (SC.v (Value.slice A ys.length c))), (1, SV.one (SC.v (Value.slice B ys.length c2))), (10, SV.one (SC.bo ((↑ys.length : Int) != (↑ys.length : Int))))] []) (by kernel_rfl) (by kernel_rfl) (by kernel_rfl) ?_
  refine split_at 10 (b := (↑ys.length : Int) != (↑ys.length : Int)) (by kernel_rfl) (by kernel_rfl) ?_ ?_
  · intro h1; simp at h1
  intro h1
  refine go mixed 2000 [0, 1, 5] 0 (St.mk Rg.no [KI.loop [true, true, false, true, true, true], KI.block 0, KI.code [true, true, true]] [(0, SV.one (SC.v (Value.slice A ys.length c))), (1, SV.one (SC.v (Value.slice B ys.length c2))), (5, SV.one (SC.v (Value.int IntKind.i64 0)))] []) (by kernel_rfl) (by kernel_rfl) (by kernel_rfl) ?_
  refine loop_at (ι := Nat) (fun i => [(5, .one (.v (.int .i64 i)))]) (fun i => []) (fun i => [oldA w]) (fun i => i ≤ ys.length) (fun i => ys.length - i) 0 rfl rfl (by simp) (Nat.zero_le _) ?_
  intro i hi ih
  refine go mixed 2000 [0, 1, 5, 14] 0 (St.mk Rg.no [KI.code [true, true, false, true, true, true, false, true], KI.code [true, true, false, true, true, true, true], KI.loop [true, true, false, true, true, true], KI.block 0, KI.code [true, true, true]] [(0, SV.one (SC.v (Value.slice A ys.length c))), (1, SV.one (SC.v (Value.slice B ys.length c2))), (5, SV.one (SC.v (Value.int IntKind.i64 (↑i : Int)))), (14, SV.one (SC.bo (decide ((↑i : Int) < (↑ys.length : Int)))))] []) (by kernel_rfl) (by kernel_rfl) (by kernel_rfl) ?_
  refine split_at 14 (b := decide ((↑i : Int) < (↑ys.length : Int))) (by kernel_rfl) (by kernel_rfl) ?_ ?_
  · intro h1
    have hlt : i < ys.length := by simpa using h1
    refine go mixed 2000 [0, 1, 5, 17, 18, 21, 22] 0 (St.mk (Rg.dr [true, true, false, true, true, true, true, false, true, false] [true, true, false, false, true, true, false, false, false, false] 6 2) [KI.code [true, true, false, true, true, true, true, false, true, true], KI.block 1, KI.code [true, true, false, true, true, true, true, true], KI.loop [true, true, false, true, true, true], KI.block 0, KI.code [true, true, true]] [(0, SV.one (SC.v (Value.slice A ys.length c))), (1, SV.one (SC.v (Value.slice B ys.length c2))), (5, SV.one (SC.v (Value.int IntKind.i64 (↑i : Int)))), (17, SV.one (SC.v (Value.slice A ys.length c))), (18, SV.one (SC.v (Value.int IntKind.i64 (↑i : Int)))), (21, SV.one (SC.v (Value.slice B ys.length c2))), (22, SV.one (SC.v (Value.int IntKind.i64 (↑i : Int))))] []) (by kernel_rfl) (by kernel_rfl) (by kernel_rfl) ?_
    refine index_at 2 (by kernel_rfl : atP _ _ _ 2 false = some (Op.indexAddr 27 (Operand.tmp 17) (Operand.tmp 18), 0, some 19, Rg.dr [true, true, false, true, true, true, true, false, true, false] [true, true, true, false, true, true, false, false, false, false] 5 2)) (sz := 2) (by kernel_rfl) rfl rfl rfl hlt (fun L w1 hs => rd_some (rdRow_ext (hs.old 0 rfl) h) hlt) ?_
    intro a_2 ha_; cases ha_
    refine go mixed 2000 [0, 1, 5, 19, 21, 22] 0 (St.mk (Rg.dr [true, true, false, true, true, true, true, false, true, false] [true, true, true, false, true, true, false, false, false, false] 5 2) [KI.code [true, true, false, true, true, true, true, false, true, true], KI.block 1, KI.code [true, true, false, true, true, true, true, true], KI.loop [true, true, false, true, true, true], KI.block 0, KI.code [true, true, true]] [(0, SV.one (SC.v (Value.slice (some a_2) ys.length c))), (1, SV.one (SC.v (Value.slice B ys.length c2))), (5, SV.one (SC.v (Value.int IntKind.i64 (↑i : Int)))), (19, SV.one (SC.v (Value.pointer (some (a_2.add (i * 2)))))), (21, SV.one (SC.v (Value.slice B ys.length c2))), (22, SV.one (SC.v (Value.int IntKind.i64 (↑i : Int))))] []) (by kernel_rfl) (by kernel_rfl) (by kernel_rfl) ?_
    obtain ⟨Ai, ci, hcell1, hcell2, hrow⟩ := rd_w h hlt
    refine load_agg 3 (by kernel_rfl : atP _ _ _ 3 true = some (Op.load 59 (Operand.tmp 19), 59, some 20, Rg.dr [true, true, false, true, true, true, true, false, true, false] [true, true, true, true, true, true, false, false, false, false] 4 2)) (n := 2) (by kernel_rfl) rfl ?_
    intro L w1 hs
    refine ⟨[.v (.int .i64 (ys[i]).1), .v (.slice Ai (ys[i]).2.length ci)], rfl, fun j c hj => ?_, ?_⟩
    · match j, hj with
      | 0, hj => cases hj; exact cellH_ext (hs.old 0 rfl) hcell1
      | 1, hj => cases hj; exact cellH_ext (hs.old 0 rfl) hcell2
    clear hs
    refine go mixed 2000 [0, 1, 5, 20, 21, 22] 0 (St.mk (Rg.dr [true, true, false, true, true, true, true, false, true, false] [true, true, true, true, true, true, false, false, false, false] 4 2) [KI.code [true, true, false, true, true, true, true, false, true, true], KI.block 1, KI.code [true, true, false, true, true, true, true, true], KI.loop [true, true, false, true, true, true], KI.block 0, KI.code [true, true, true]] [(0, SV.one (SC.v (Value.slice (some a_2) ys.length c))), (1, SV.one (SC.v (Value.slice B ys.length c2))), (5, SV.one (SC.v (Value.int IntKind.i64 (↑i : Int)))), (20, SV.agg [SC.v (Value.int IntKind.i64 ys[i].fst), SC.v (Value.slice Ai ys[i].snd.length ci)]), (21, SV.one (SC.v (Value.slice B ys.length c2))), (22, SV.one (SC.v (Value.int IntKind.i64 (↑i : Int))))] []) (by kernel_rfl) (by kernel_rfl) (by kernel_rfl) ?_
    refine index_at 6 (by kernel_rfl : atP _ _ _ 6 false = some (Op.indexAddr 27 (Operand.tmp 21) (Operand.tmp 22), 0, some 23, Rg.dr [true, true, false, true, true, true, true, false, true, false] [true, true, true, true, true, true, true, false, false, false] 3 2)) (sz := 2) (by kernel_rfl) rfl rfl rfl hlt (fun L w1 hs => rd_some (rdRow_ext (hs.old 0 rfl) h2) hlt) ?_
    intro a_3 ha_; cases ha_
    refine go mixed 2000 [0, 1, 5, 20, 23] 0 (St.mk (Rg.dr [true, true, false, true, true, true, true, false, true, false] [true, true, true, true, true, true, true, false, false, false] 3 2) [KI.code [true, true, false, true, true, true, true, false, true, true], KI.block 1, KI.code [true, true, false, true, true, true, true, true], KI.loop [true, true, false, true, true, true], KI.block 0, KI.code [true, true, true]] [(0, SV.one (SC.v (Value.slice (some a_2) ys.length c))), (1, SV.one (SC.v (Value.slice (some a_3) ys.length c2))), (5, SV.one (SC.v (Value.int IntKind.i64 (↑i : Int)))), (20, SV.agg [SC.v (Value.int IntKind.i64 ys[i].fst), SC.v (Value.slice Ai ys[i].snd.length ci)]), (23, SV.one (SC.v (Value.pointer (some (a_3.add (i * 2))))))] []) (by kernel_rfl) (by kernel_rfl) (by kernel_rfl) ?_
    obtain ⟨Bi, di, kcell1, kcell2, krow⟩ := rd_w h2 hlt
    refine load_agg 7 (by kernel_rfl : atP _ _ _ 7 true = some (Op.load 59 (Operand.tmp 23), 59, some 24, Rg.dr [true, true, false, true, true, true, true, false, true, false] [true, true, true, true, true, true, true, true, false, false] 2 2)) (n := 2) (by kernel_rfl) rfl ?_
    intro L w1 hs
    refine ⟨[.v (.int .i64 (ys[i]).1), .v (.slice Bi (ys[i]).2.length di)], rfl, fun j c hj => ?_, ?_⟩
    · match j, hj with
      | 0, hj => cases hj; exact cellH_ext (hs.old 0 rfl) kcell1
      | 1, hj => cases hj; exact cellH_ext (hs.old 0 rfl) kcell2
    clear hs
    refine go mixed 2000 [0, 1, 5, 20, 24] 0 (St.mk (Rg.dr [true, true, false, true, true, true, true, false, true, false] [true, true, true, true, true, true, true, true, false, false] 2 2) [KI.code [true, true, false, true, true, true, true, false, true, true], KI.block 1, KI.code [true, true, false, true, true, true, true, true], KI.loop [true, true, false, true, true, true], KI.block 0, KI.code [true, true, true]] [(0, SV.one (SC.v (Value.slice (some a_2) ys.length c))), (1, SV.one (SC.v (Value.slice (some a_3) ys.length c2))), (5, SV.one (SC.v (Value.int IntKind.i64 (↑i : Int)))), (20, SV.agg [SC.v (Value.int IntKind.i64 ys[i].fst), SC.v (Value.slice Ai ys[i].snd.length ci)]), (24, SV.agg [SC.v (Value.int IntKind.i64 ys[i].fst), SC.v (Value.slice Bi ys[i].snd.length di)])] []) (by kernel_rfl) (by kernel_rfl) (by kernel_rfl) ?_
    refine call_pure true (by kernel_rfl : atC _ _ _ true = some (70, [SV.agg [SC.v (Value.int IntKind.i64 ys[i].fst), SC.v (Value.slice Ai ys[i].snd.length ci)], SV.agg [SC.v (Value.int IntKind.i64 ys[i].fst), SC.v (Value.slice Bi ys[i].snd.length di)]], some 25, Rg.dr [true, true, false, true, true, true, true, false, true, false] [true, true, true, true, true, true, true, true, true, false] 1 1)) (by kernel_rfl) (.one (.v (.bool true))) (fun L w1 hs => eqWrite_ok (ys[i]).1 (ys[i]).2 Ai ci Bi di w1 (rdRow_ext (hs.old 0 rfl) hrow) (rdRow_ext (hs.old 0 rfl) krow) (hl2 _ (List.getElem_mem hlt))) ?_
    refine go mixed 2000 [0, 1, 5] 0 (St.mk Rg.no [KI.loop [true, true, false, true, true, true], KI.block 0, KI.code [true, true, true]] [(0, SV.one (SC.v (Value.slice (some a_2) ys.length c))), (1, SV.one (SC.v (Value.slice (some a_3) ys.length c2))), (5, SV.one (SC.v (Value.int IntKind.i64 (IntKind.i64.wrap ((↑i : Int) + 1)))))] []) (by kernel_rfl) (by kernel_rfl) (by kernel_rfl) ?_
    rw [wrap_succ (by omega)]
    exact ih (i + 1) hlt (by omega)
  · intro h1
    refine go mixed 2000 [4] 0 (St.mk Rg.no [KI.code [true, true, true, true]] [(4, SV.one (SC.v (Value.bool true)))] []) (by kernel_rfl) (by kernel_rfl) (by kernel_rfl) ?_
    refine ret_ok (vs := [SV.one (SC.v (Value.bool true))]) (by kernel_rfl) ?_
    intro L w1 hs
    exact ⟨rfl, hs.out0⟩
theorem eqDisk_ok (xs : List (List Int)) (ws : List (Int × List Int)) (f : Int) (dn : Bool) (A : Option Addr) (c : Nat) (A1 : Option Addr) (c1 : Nat) (B : Option Addr) (d : Nat) (B1 : Option Addr) (d1 : Nat) (w : World) (h : rdRow kB w.heap xs (.slice A xs.length c)) (h2 : rdRow kW w.heap ws (.slice A1 ws.length c1)) (k : rdRow kB w.heap xs (.slice B xs.length d)) (k2 : rdRow kW w.heap ws (.slice B1 ws.length d1)) (hl : xs.length ≤ 1048576) (hl2 : ∀ y ∈ xs, y.length ≤ 1048576) (hl3 : ws.length ≤ 1048576) (hl4 : ∀ y ∈ ws, y.2.length ≤ 1048576) :
    Calls Try.prog 13 #[.agg #[.slice A xs.length c, .slice A1 ws.length c1, .int .i64 f, .bool dn], .agg #[.slice B xs.length d, .slice B1 ws.length d1, .int .i64 f, .bool dn]] w fun e w' => e = .returned (.bool true) ∧ Below w.heap.size w w' := by
  refine enter (args := [.agg [.v (.slice A xs.length c), .v (.slice A1 ws.length c1), .v (.int .i64 f), .bo dn], .agg [.v (.slice B xs.length d), .v (.slice B1 ws.length d1), .v (.int .i64 f), .bo dn]]) Try.func13 (c := bodyOf Try.f13) rfl rfl (start_LOK _) (start_old w) ?_
  refine go mixed 2000 [2, 3, 6, 8] 2 (St.mk (Rg.sq [true, false, false] 4) [KI.code [true, false, true], KI.code [true, true]] [(2, SV.one (SC.ptr 0 0)), (3, SV.one (SC.ptr 1 0)), (6, SV.one (SC.v (Value.slice A xs.length c))), (8, SV.one (SC.v (Value.slice B xs.length d)))] [LB.mk [SC.v (Value.slice A xs.length c), SC.v (Value.slice A1 ws.length c1), SC.v (Value.int IntKind.i64 f), SC.bo dn] 29, LB.mk [SC.v (Value.slice B xs.length d), SC.v (Value.slice B1 ws.length d1), SC.v (Value.int IntKind.i64 f), SC.bo dn] 29]) (by kernel_rfl) (by kernel_rfl) (by kernel_rfl) ?_
  refine call_pure true (by kernel_rfl : atC _ _ _ true = some (42, [SV.one (SC.v (Value.slice A xs.length c)), SV.one (SC.v (Value.slice B xs.length d))], some 9, Rg.sq [true, false, false] 5)) (by kernel_rfl) (.one (.v (.bool true))) (fun L w1 hs => eqByteSS_ok xs A c B d w1 (rdRow_ext (hs.old 0 rfl) h) (rdRow_ext (hs.old 0 rfl) k) hl hl2) ?_
  refine go mixed 2000 [2, 3, 12, 14] 2 (St.mk (Rg.sq [true, true, false, false] 4) [KI.code [true, true, false, true], KI.code [true, true, true]] [(2, SV.one (SC.ptr 0 0)), (3, SV.one (SC.ptr 1 0)), (12, SV.one (SC.v (Value.slice A1 ws.length c1))), (14, SV.one (SC.v (Value.slice B1 ws.length d1)))] [LB.mk [SC.v (Value.slice A xs.length c), SC.v (Value.slice A1 ws.length c1), SC.v (Value.int IntKind.i64 f), SC.bo dn] 29, LB.mk [SC.v (Value.slice B xs.length d), SC.v (Value.slice B1 ws.length d1), SC.v (Value.int IntKind.i64 f), SC.bo dn] 29]) (by kernel_rfl) (by kernel_rfl) (by kernel_rfl) ?_
  refine call_pure true (by kernel_rfl : atC _ _ _ true = some (43, [SV.one (SC.v (Value.slice A1 ws.length c1)), SV.one (SC.v (Value.slice B1 ws.length d1))], some 15, Rg.sq [true, true, false, false] 5)) (by kernel_rfl) (.one (.v (.bool true))) (fun L w1 hs => eqWriteS_ok ws A1 c1 B1 d1 w1 (rdRow_ext (hs.old 0 rfl) h2) (rdRow_ext (hs.old 0 rfl) k2) hl3 hl4) ?_
  refine go mixed 2000 [2, 3, 21] 2 (St.mk Rg.no [KI.code [true, true, true, false, true], KI.code [true, true, true, true]] [(2, SV.one (SC.ptr 0 0)), (3, SV.one (SC.ptr 1 0)), (21, SV.one (SC.bo (f != f)))] [LB.mk [SC.v (Value.slice A xs.length c), SC.v (Value.slice A1 ws.length c1), SC.v (Value.int IntKind.i64 f), SC.bo dn] 29, LB.mk [SC.v (Value.slice B xs.length d), SC.v (Value.slice B1 ws.length d1), SC.v (Value.int IntKind.i64 f), SC.bo dn] 29]) (by kernel_rfl) (by kernel_rfl) (by kernel_rfl) ?_
  refine split_at 21 (b := f != f) (by kernel_rfl) (by kernel_rfl) ?_ ?_
  · intro h3; simp at h3
  intro h3
  refine go mixed 2000 [26] 0 (St.mk Rg.no [KI.code [true, true, true, true, false, true], KI.code [true, true, true, true, true]] [(26, SV.one (SC.bo !dn == dn))] []) (by kernel_rfl) (by kernel_rfl) (by kernel_rfl) ?_
  refine split_at 26 (b := !dn == dn) (by kernel_rfl) (by kernel_rfl) ?_ ?_
  · intro h4; simp at h4
  intro h4
  refine go mixed 2000 [4] 0 (St.mk Rg.no [KI.code [true, true, true, true, true, true]] [(4, SV.one (SC.v (Value.bool true)))] []) (by kernel_rfl) (by kernel_rfl) (by kernel_rfl) ?_
  refine ret_ok (vs := [SV.one (SC.v (Value.bool true))]) (by kernel_rfl) ?_
  intro L w1 hs
  exact ⟨rfl, hs.out0⟩
end Go.Proofs.Ytjbbakckckihnaa.Dk
