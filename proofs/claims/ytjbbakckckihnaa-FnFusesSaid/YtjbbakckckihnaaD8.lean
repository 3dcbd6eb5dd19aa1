/- Walks of functions of the program: what each call returns and what it leaves in memory. Conditions: those that each theorem names. -/
import Derived.Test.YtjbbakckckihnaaD7
namespace Go.Proofs.Ytjbbakckckihnaa.Dk
set_option linter.unusedVariables false
set_option linter.unusedSimpArgs false
open Go.Proofs.Ytjbbakckckihnaa.Sx Go.Proofs Go.RowKit
set_option maxRecDepth 100000
def mkW : List (Int × List Int) → Int → List (Int × List Int)
  | [], _ => []
  | y :: r, k => (k, mkB y.2.length (k + 1)) :: mkW r (k + 1 + y.2.length)
def wN (ws : List (Int × List Int)) : Nat := ws.length + wSum ws
theorem mkW_len : ∀ (ys : List (Int × List Int)) (k : Int), (mkW ys k).length = ys.length
  | [], _ => rfl
  | y :: r, k => by simp [mkW, mkW_len r]
theorem wSum_app (a b : List (Int × List Int)) : wSum (a ++ b) = wSum a + wSum b := by simp [wSum, lenSum_app]
theorem wN_app (a b : List (Int × List Int)) : wN (a ++ b) = wN a + wN b := by simp [wN, wSum_app]; omega
theorem mkW_app : ∀ (a b : List (Int × List Int)) (k : Int), mkW (a ++ b) k = mkW a k ++ mkW b (k + wN a)
  | [], b, k => by simp [mkW, wN, wSum, lenSum]
  | y :: r, b, k => by
    simp only [List.cons_append, mkW, mkW_app r b]
    rw [show k + 1 + (y.2.length : Int) + (wN r : Int) = k + (wN (y :: r) : Int) by simp [wN, wSum, lenSum]; omega]
theorem wN_take {ys : List (Int × List Int)} {i : Nat} (hi : i < ys.length) : wN (ys.take (i + 1)) = wN (ys.take i) + 1 + (ys[i]).2.length := by
  rw [List.take_succ_eq_append_getElem hi, wN_app]
  simp [wN, wSum, lenSum]; omega
theorem wN_take_le (ys : List (Int × List Int)) (i : Nat) : wN (ys.take i) ≤ wN ys := by
  conv => rhs; rw [← List.take_append_drop i ys, wN_app]
  omega
theorem mkW_step (ys : List (Int × List Int)) (k : Int) {i : Nat} (hi : i < ys.length) :
    (mkW (ys.take i) k ++ ys.drop i).set i (k + wN (ys.take i), mkB (ys[i]).2.length (k + wN (ys.take i) + 1)) = mkW (ys.take (i + 1)) k ++ ys.drop (i + 1) := by
  have hl : (mkW (ys.take i) k).length = i := by rw [mkW_len]; simp; omega
  rw [List.set_append_right _ _ (by omega), hl, Nat.sub_self, List.drop_eq_getElem_cons hi, List.set_cons_zero, List.take_succ_eq_append_getElem hi, mkW_app]
  simp [mkW]
theorem midW_get {ys : List (Int × List Int)} {k : Int} {i : Nat} (hi : i < ys.length) (h : i < (mkW (ys.take i) k ++ ys.drop i).length) : (mkW (ys.take i) k ++ ys.drop i)[i] = ys[i] := by
  have hl : (mkW (ys.take i) k).length = i := by rw [mkW_len]; simp; omega
  rw [List.getElem_append_right (by omega)]
  simp [hl]
theorem mkW_get {ys : List (Int × List Int)} {k : Int} {i : Nat} (hi : i < ys.length) (h : i < (mkW ys k).length) : (mkW ys k)[i] = (k + wN (ys.take i), mkB (ys[i]).2.length (k + wN (ys.take i) + 1)) := by
  have e : mkW ys k = mkW (ys.take i) k ++ mkW (ys.drop i) (k + wN (ys.take i)) := by rw [← mkW_app, List.take_append_drop]
  have hl : (mkW (ys.take i) k).length = i := by rw [mkW_len]; simp; omega
  simp only [e]
  rw [List.getElem_append_right (by omega)]
  simp only [hl, Nat.sub_self, List.drop_eq_getElem_cons hi, mkW, List.getElem_cons_zero]
theorem kW_put {h : Hp} {S : Nat → Prop} {x : Int × List Int} {cs : List Value} {k : Int} (ho : kW.ow h S x cs) : kW.ow h S (k, x.2) (splice cs 0 [.int .i64 k]) := by
  obtain ⟨c1, c2, rfl, S1, S2, h1, h2, hd, ha, hb⟩ := ho
  have ha : c1 = [.int .i64 x.1] := ha
  subst ha
  exact ⟨[.int .i64 k], c2, rfl, S1, S2, h1, h2, hd, rfl, hb⟩
theorem markWriteS_ok (ys : List (Int × List Int)) (A : Option Addr) (c : Nat) (k : Int) (w : World) (S : Nat → Prop) (h : sepL [rowA 59 kW ys (.slice A ys.length c)] w.heap S) (hS : ∀ b, S b → b < w.heap.size) (hl : ys.length ≤ 1048576) (hl2 : wN ys ≤ 2097152) (hl3 : ∀ y ∈ ys, y.2.length ≤ 1048576) (hk : 0 ≤ k ∧ k ≤ 1073741824) :
    Calls Try.prog 45 #[.slice A ys.length c, .int .i64 k] w fun e w' => e = .returned (.int .i64 (k + wN ys)) ∧ Mut w w' S [rowA 59 kW (mkW ys k) (.slice A ys.length c)] := by
  refine enter (args := [.one (.v (.slice A ys.length c)), .one (.v (.int .i64 k))]) Try.func45 (c := bodyOf Try.f45) rfl rfl (start_LOK _) (start_mut h hS) ?_
  refine go mixed 2000 [0, 1, 5] 0 (St.mk Rg.no [KI.loop [true, false, true, true, true], KI.block 0, KI.code [true, true]] [(0, SV.one (SC.v (Value.slice A ys.length c))), (1, SV.one (SC.v (Value.int IntKind.i64 k))), (5, SV.one (SC.v (Value.int IntKind.i64 0)))] []) (by kernel_rfl) (by kernel_rfl) (by kernel_rfl) ?_
  refine loop_at (ι := Nat) (fun i => [(1, .one (.v (.int .i64 (k + (wN (ys.take i) : Int))))), (5, .one (.v (.int .i64 i)))]) (fun i => []) (fun i => [rowA 59 kW (mkW (ys.take i) k ++ ys.drop i) (.slice A ys.length c), oldX w S]) (fun i => i ≤ ys.length) (fun i => ys.length - i) 0 (by simp [updTm, lk, lenSum, wN, wSum]; exact ⟨rfl, rfl⟩) rfl (by simp [mkW]) (Nat.zero_le _) ?_
  intro i hi ih
  refine go mixed 2000 [0, 1, 5, 9] 0 (St.mk Rg.no [KI.code [true, false, true, true, true, false, true], KI.code [true, false, true, true, true, true], KI.loop [true, false, true, true, true], KI.block 0, KI.code [true, true]] [(0, SV.one (SC.v (Value.slice A ys.length c))), (1, SV.one (SC.v (Value.int IntKind.i64 (k + (↑(wN (List.take i ys)) : Int))))), (5, SV.one (SC.v (Value.int IntKind.i64 (↑i : Int)))), (9, SV.one (SC.bo (decide ((↑i : Int) < (↑ys.length : Int)))))] []) (by kernel_rfl) (by kernel_rfl) (by kernel_rfl) ?_
  refine split_at 9 (b := decide ((↑i : Int) < (↑ys.length : Int))) (by kernel_rfl) (by kernel_rfl) ?_ ?_
  · intro h1
    have hlt : i < ys.length := by simpa using h1
    have hle := wN_take_le ys i
    have hle2 := wN_take hlt
    have hle3 := wN_take_le ys (i + 1)
    have hlm : i < (mkW (ys.take i) k ++ ys.drop i).length := by simp [mkW_len]; omega
    refine go mixed 2000 [0, 1, 5, 12, 13, 14] 0 (St.mk (Rg.sq [true, false, true, true, true, true, false, true, false] 3) [KI.code [true, false, true, true, true, true, false, true, true], KI.block 1, KI.code [true, false, true, true, true, true, true], KI.loop [true, false, true, true, true], KI.block 0, KI.code [true, true]] [(0, SV.one (SC.v (Value.slice A ys.length c))), (1, SV.one (SC.v (Value.int IntKind.i64 (k + (↑(wN (List.take i ys)) : Int))))), (5, SV.one (SC.v (Value.int IntKind.i64 (↑i : Int)))), (12, SV.one (SC.v (Value.slice A ys.length c))), (13, SV.one (SC.v (Value.int IntKind.i64 (↑i : Int)))), (14, SV.one (SC.v (Value.int IntKind.i64 (k + (↑(wN (List.take i ys)) : Int)))))] []) (by kernel_rfl) (by kernel_rfl) (by kernel_rfl) ?_
    obtain ⟨g, rfl⟩ := own_g (rowA_holds.1 (sepL_one h)) (by omega)
    refine index_at 3 (by kernel_rfl : atP _ _ _ 3 false = some (Op.indexAddr 27 (Operand.tmp 12) (Operand.tmp 13), 0, some 15, Rg.sq [true, false, true, true, true, true, false, true, false] 4)) (sz := 2) (by kernel_rfl) rfl rfl rfl hlt (fun L w1 hs => ⟨_, rfl⟩) ?_
    intro a2 ha2; cases ha2
    refine go mixed 2000 [0, 1, 5, 14, 16] 0 (St.mk (Rg.sq [true, false, true, true, true, true, false, true, false] 5) [KI.code [true, false, true, true, true, true, false, true, true], KI.block 1, KI.code [true, false, true, true, true, true, true], KI.loop [true, false, true, true, true], KI.block 0, KI.code [true, true]] [(0, SV.one (SC.v (Value.slice (some (Addr.mk g 0 none)) ys.length c))), (1, SV.one (SC.v (Value.int IntKind.i64 (k + (↑(wN (List.take i ys)) : Int))))), (5, SV.one (SC.v (Value.int IntKind.i64 (↑i : Int)))), (14, SV.one (SC.v (Value.int IntKind.i64 (k + (↑(wN (List.take i ys)) : Int))))), (16, SV.one (SC.v (Value.pointer (some (((Addr.mk g 0 none).add (i * 2)).add 0)))))] []) (by kernel_rfl) (by kernel_rfl) (by kernel_rfl) ?_
    refine store_part (A := []) (d := kW) (o := 0) (i := i) (y := (k + (wN (ys.take i) : Int), (ys[i]).2)) (by kernel_rfl : atB _ _ _ false = some (Op.store 3 (Operand.tmp 16) (Operand.tmp 14), 0, none, Rg.sq [true, false, true, true, true, true, false, true, false] 6)) (by kernel_rfl) rfl rfl rfl rfl rfl (by simp [Value.oneCell']) hlm (by show 0 + 1 ≤ 2; omega) (fun h S1 S2 cs ho _ _ => by rw [midW_get hlt] at ho; exact kW.mono (fun b hb => .inl hb) (kW_put ho)) ?_
    refine go mixed 2000 [0, 1, 5, 19, 20] 0 (St.mk (Rg.sq [true, false, true, true, true, true, false, true, true, true] 2) [KI.block 1, KI.code [true, false, true, true, true, true, true], KI.loop [true, false, true, true, true], KI.block 0, KI.code [true, true]] [(0, SV.one (SC.v (Value.slice (some (Addr.mk g 0 none)) ys.length c))), (1, SV.one (SC.v (Value.int IntKind.i64 (IntKind.i64.wrap (k + (↑(wN (List.take i ys)) : Int) + 1))))), (5, SV.one (SC.v (Value.int IntKind.i64 (↑i : Int)))), (19, SV.one (SC.v (Value.slice (some (Addr.mk g 0 none)) ys.length c))), (20, SV.one (SC.v (Value.int IntKind.i64 (↑i : Int))))] []) (by kernel_rfl) (by kernel_rfl) (by kernel_rfl) ?_
    have hlm2 : i < ((mkW (ys.take i) k ++ ys.drop i).set i (k + (wN (ys.take i) : Int), (ys[i]).2)).length := by rw [List.length_set]; exact hlm
    refine index_at 2 (by kernel_rfl : atP _ _ _ 2 false = some (Op.indexAddr 27 (Operand.tmp 19) (Operand.tmp 20), 0, some 21, Rg.sq [true, false, true, true, true, true, false, true, true, true] 3)) (sz := 2) (by kernel_rfl) rfl rfl rfl hlt (fun L w1 hs => ⟨_, rfl⟩) ?_
    intro a2 ha2; cases ha2
    refine go mixed 2000 [0, 1, 5, 22] 0 (St.mk (Rg.sq [true, false, true, true, true, true, false, true, true, true] 4) [KI.block 1, KI.code [true, false, true, true, true, true, true], KI.loop [true, false, true, true, true], KI.block 0, KI.code [true, true]] [(0, SV.one (SC.v (Value.slice (some (Addr.mk g 0 none)) ys.length c))), (1, SV.one (SC.v (Value.int IntKind.i64 (IntKind.i64.wrap (k + (↑(wN (List.take i ys)) : Int) + 1))))), (5, SV.one (SC.v (Value.int IntKind.i64 (↑i : Int)))), (22, SV.one (SC.v (Value.pointer (some (((Addr.mk g 0 none).add (i * 2)).add 1)))))] []) (by kernel_rfl) (by kernel_rfl) (by kernel_rfl) ?_
    refine h_focus hlm2 (fun cs => ?_)
    rw [List.getElem_set_self]
    refine h_el_pair (fun c1 c2 hcs => ?_)
    subst hcs
    refine h_el_val (f := Value.int .i64) (fun hc1 => ?_)
    subst hc1
    refine h_el_row ?_
    rintro Ai ci rfl
    refine load_one 4 (by kernel_rfl : atP _ _ _ 4 true = some (Op.load 36 (Operand.tmp 22), 36, some 23, Rg.sq [true, false, true, true, true, true, false, true, true, true] 5)) (n := 1) (by kernel_rfl) rfl ?_
    intro L w1 hs
    obtain ⟨S1, hS1, hh⟩ := hs.at_ 1 rfl
    refine ⟨.v (.slice Ai (ys[i]).2.length ci), (hole_cell hh) 1 _ rfl, ?_⟩
    clear hs hh hS1 S1
    refine go mixed 2000 [0, 5, 23, 24] 0 (St.mk (Rg.sq [true, false, true, true, true, true, false, true, true, true] 6) [KI.block 1, KI.code [true, false, true, true, true, true, true], KI.loop [true, false, true, true, true], KI.block 0, KI.code [true, true]] [(0, SV.one (SC.v (Value.slice (some (Addr.mk g 0 none)) ys.length c))), (5, SV.one (SC.v (Value.int IntKind.i64 (↑i : Int)))), (23, SV.one (SC.v (Value.slice Ai ys[i].snd.length ci))), (24, SV.one (SC.v (Value.int IntKind.i64 (IntKind.i64.wrap (k + (↑(wN (List.take i ys)) : Int) + 1)))))] []) (by kernel_rfl) (by kernel_rfl) (by kernel_rfl) ?_
    rw [show IntKind.i64.wrap (k + (wN (ys.take i) : Int) + 1) = k + (wN (ys.take i) : Int) + 1 by rw [IntKind.wrap_i64]; omega]
    refine call_mut (A := [rowA 5 kU8 (ys[i]).2 (.slice Ai (ys[i]).2.length ci)]) (by kernel_rfl : atC _ _ _ false = some (20, [SV.one (SC.v (Value.slice Ai ys[i].snd.length ci)), SV.one (SC.v (Value.int IntKind.i64 (k + (↑(wN (List.take i ys)) : Int) + 1)))], some 25, Rg.sq [true, false, true, true, true, true, false, true, true, true] 7)) (by kernel_rfl) (fun L w1 S1 hs hA hS1 => (markByteS_ok (ys[i]).2 Ai ci _ w1 S1 hA hS1 (hl3 _ (List.getElem_mem hlt)) (by omega)).mono ?_)
    rintro e w2 ⟨rfl, hm⟩
    refine ⟨.one (.v (.int .i64 _)), _, rfl, hm, ?_⟩
    clear hm hs hA hS1
    refine go mixed 2000 [0, 1, 5] 0 (St.mk Rg.no [KI.loop [true, false, true, true, true], KI.block 0, KI.code [true, true]] [(0, SV.one (SC.v (Value.slice (some (Addr.mk g 0 none)) ys.length c))), (1, SV.one (SC.v (Value.int IntKind.i64 (k + (↑(wN (List.take i ys)) : Int) + 1 + (↑ys[i].snd.length : Int))))), (5, SV.one (SC.v (Value.int IntKind.i64 (IntKind.i64.wrap ((↑i : Int) + 1)))))] []) (by kernel_rfl) (by kernel_rfl) (by kernel_rfl) ?_
    refine h_val (f := Value.int .i64) (fun _ => rfl) (k + (wN (ys.take i) : Int)) ?_
    refine h_pair (d := kI64) (d2 := kB) (c2 := [.slice Ai (ys[i]).2.length ci]) ?_
    refine h_unfocus (d := kW) (x := (k + (wN (ys.take i) : Int), mkB (ys[i]).2.length (k + (wN (ys.take i) : Int) + 1))) ?_
    rw [List.set_set, wrap_succ (by omega), mkW_step ys k hlt, show k + (wN (ys.take i) : Int) + 1 + ((ys[i]).2.length : Int) = k + (wN (ys.take (i + 1)) : Int) by omega]
    exact ih (i + 1) hlt (by omega)
  · intro h1
    refine go mixed 2000 [4] 0 (St.mk Rg.no [KI.code [true, true, true]] [(4, SV.one (SC.v (Value.int IntKind.i64 (k + (↑(wN (List.take i ys)) : Int)))))] []) (by kernel_rfl) (by kernel_rfl) (by kernel_rfl) ?_
    refine ret_ok (vs := [SV.one (SC.v (Value.int IntKind.i64 (k + (↑(wN (List.take i ys)) : Int))))]) (by kernel_rfl) ?_
    intro L w1 hs
    have hi2 : i = ys.length := by
      have : ¬ i < ys.length := by simpa using h1
      omega
    subst hi2
    simp only [List.drop_length, List.append_nil, List.take_length] at hs ⊢
    exact ⟨rfl, hs.outm (As := [_])⟩
end Go.Proofs.Ytjbbakckckihnaa.Dk
