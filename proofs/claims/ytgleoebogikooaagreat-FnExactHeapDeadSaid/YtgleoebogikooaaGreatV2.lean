/- Walks of functions of the program: what each call returns and what it leaves in memory. Conditions: those that each theorem names. -/
import Derived.Test.YtgleoebogikooaaGreatV1
import Derived.Test.YtgleoebogikooaaGreatSxC
namespace Go.Proofs.YtgleoebogikooaaGreat.Dk
set_option linter.unusedVariables false
set_option linter.unusedSimpArgs false
open Go.Proofs.YtgleoebogikooaaGreat.Sx Go.Proofs Go.RowKit
set_option maxRecDepth 100000
set_option maxHeartbeats 1000000
theorem growNil_ok (n : Nat) (w : World) (hn : n ≤ 1048576) :
  Calls Tryz.prog 130 #[.slice none 0 0, .int .i64 n] w fun e w' => ∃ (B : Option Addr) (d : Nat), e = .returned (.slice B 0 d) ∧ Fresh w w' [rowA 5 kU8 [] (.slice B 0 d)] := by
 refine enter (args := [.one (.v (.slice none 0 0)), .one (.v (.int .i64 n))]) Tryz.func130 (c := bodyOf Tryz.f130) rfl rfl (start_LOK _) (start_old w) ?_
 have nf_1 : IntKind.i64.wrap ((n : Int) - IntKind.i64.wrap (((0 : Nat) : Int) - ((0 : Nat) : Int))) = (n : Int) := by rw [show IntKind.i64.wrap (((0 : Nat) : Int) - ((0 : Nat) : Int)) = 0 by decide, IntKind.wrap_i64]; omega
 have nf_2 : IntKind.i64.wrap ((n : Int) - 0) = (n : Int) := by rw [IntKind.wrap_i64]; omega
 refine gn 0 Rg.no [kCd (bitL 3 5), KI.code [true, true]] [(0, vS none 0 0), (1, vI (↑n : Int)), (6, vB (decide ((↑n : Int) < 0)))] [] ?_
 refine spl 6 (decide ((↑n : Int) < 0)) ?_ ?_
 ·intro hb1
  replace hb1 := of_decide_eq_true hb1
  (exfalso; omega)
 intro hb1
 replace hb1 := of_decide_eq_false hb1
 refine gn 0 Rg.no [kCd (bitL 5 27), kCd (bitL 3 7)] [(0, vS none 0 0), (1, vI (IntKind.i64.wrap ((↑n : Int) - IntKind.i64.wrap (((0 : Nat) : Int) - ((0 : Nat) : Int))))), (16, vB (decide (IntKind.i64.wrap ((↑n : Int) - IntKind.i64.wrap (((0 : Nat) : Int) - ((0 : Nat) : Int))) > 0)))] [] ?_
 try simp only [flx, nf_1, nf_2]
 refine spl 16 (decide ((↑n : Int) > 0)) ?_ ?_
 rotate_left
 ·intro hb2
  replace hb2 := of_decide_eq_false hb2
  refine gn 0 Rg.no [kCd (bitL 4 15)] [(4, vS none 0 0)] [] ?_
  refine rtk [vS none 0 0] ?_
  intro L w1 hs
  exact ⟨none, 0, rfl, hs.out1 rowA_nil⟩
 intro hb2
 replace hb2 := of_decide_eq_true hb2
 refine gn 0 (Rg.sq (bitL 6 27) 3) [kCd (bitL 3 7)] [(0, vS none 0 0), (1, vI (↑n : Int)), (17, vS none 0 0), (19, vI 0)] [] ?_
 have h0 : 0 < n := by omega
 refine slice_at 3 (l := 0) (h := 0) (m := 0) (sz := 1) (by kernel_rfl : atP _ _ _ 3 false = some (Op.slice 44 (tmpO 17) none (some (tmpO 19)) none, 44, some 20, Rg.sq (bitL 6 27) 4)) (by kernel_rfl) rfl rfl ⟨_, rfl⟩ rfl (by decide) (Nat.le_refl _) (Nat.le_refl _) (Nat.le_refl _) ?_
 refine gn 0 (Rg.sq (bitL 6 27) 5) [kCd (bitL 3 7)] [(0, vS none 0 0), (20, vS none 0 0), (21, vI (↑n : Int))] [] ?_
 refine grow0_at (d := kU8) (by_ := 1) (e := 5) (n := n) (by kernel_rfl : atB _ _ _ false = some (Op.call (Call.mk (Callee.builtin Builtin.append) #[tmpO 20, tmpO 21] #[44, 3]), 44, some 22, Rg.sq (bitL 6 27) 6)) (by kernel_rfl) rfl rfl rfl rfl h0 (by simp [maxLen]; omega) (by omega) ?_
 intro g c hc
 refine gn 0 (Rg.sq (bitL 6 27) 8) [kCd (bitL 3 7)] [(22, vS (some (Addr.mk g 0 none)) n c), (24, vI 0)] [] ?_
 refine slice_at 8 (l := 0) (h := 0) (m := c) (sz := 1) (by kernel_rfl : atP _ _ _ 8 false = some (Op.slice 44 (tmpO 22) none (some (tmpO 24)) none, 44, some 25, Rg.sq (bitL 6 27) 9)) (by kernel_rfl) rfl rfl ⟨_, rfl⟩ rfl (by decide) (Nat.le_refl _) (by omega) (Nat.le_refl _) ?_
 refine gn 0 Rg.no [kCd (bitL 4 15)] [(4, vS (Decidable.rec (fun h => (fun x => Option.map (fun x => x.add (0 * 1)) (some (Addr.mk g 0 none))) h) (fun h => (fun x => some (Addr.mk g 0 none)) h) (instDecidableEqNat c 0)) 0 (c - 0))] [] ?_
 refine rtk [vS (Decidable.rec (fun h => (fun x => Option.map (fun x => x.add (0 * 1)) (some (Addr.mk g 0 none))) h) (fun h => (fun x => some (Addr.mk g 0 none)) h) (instDecidableEqNat c 0)) 0 (c - 0)] ?_
 intro L w1 hs
 refine ⟨some ⟨g, 0, none⟩, c, ?_, hs.out (As := [_])⟩
 cases instDecidableEqNat c 0 with
 | isFalse _ => rfl
 | isTrue h => omega
def flat (l : List (List Int)) : List Int := l.flatten
theorem flat_take {l : List (List Int)} {i : Nat} (h : i < l.length) : flat (l.take i) ++ l[i] = flat (l.take (i + 1)) := by
 unfold flat
 rw [List.take_succ_eq_append_getElem h, List.flatten_append]
 simp
theorem flat_len_take (l : List (List Int)) (i : Nat) : (flat (l.take i)).length ≤ (flat l).length := by
 have h : flat l = flat (l.take i) ++ flat (l.drop i) := by unfold flat; rw [← List.flatten_append, List.take_append_drop]
 rw [h, List.length_append]
 omega
theorem concat_ok (xs : List (List Int)) (vxs : Value) (w : World) (hxs : rdRow (kRow 5 kU8) w.heap xs vxs) (hl : xs.length ≤ 1048576) (hf : (flat xs).length ≤ 1048576) :
  Calls Tryz.prog 122 #[vxs] w fun e w' => ∃ (B : Option Addr) (d : Nat), e = .returned (.slice B (flat xs).length d) ∧ Fresh w w' [rowA 5 kU8 (flat xs) (.slice B (flat xs).length d)] := by
 obtain ⟨A, c, rfl⟩ := rdRow_form hxs
 refine enter (args := [.one (.v (.slice A xs.length c))]) Tryz.func122 (c := bodyOf Tryz.f122) rfl rfl (start_LOK _) (start_old w) ?_
 refine gn 0 Rg.no [kLp (bitL 6 59), KI.block 0, kCd (bitL 3 7)] [(0, vS A xs.length c), (3, vI 0), (9, vS A xs.length c), (10, vI (↑xs.length : Int)), (11, vI 0)] [] ?_
 refine loop_at (ι := Nat) (fun i => [(3, .one (.v (.int .i64 ((flat (xs.take i)).length : Int)))), (11, .one (.v (.int .i64 i)))]) (fun _ => []) (fun _ => [oldA w]) (fun i => i ≤ xs.length) (fun i => xs.length - i) 0 rfl rfl rfl (Nat.zero_le _) ?_
 intro i hi ih
 rcases Nat.lt_or_ge i xs.length with hlt | hge
 ·have hs1 := flat_take hlt
  have hs2 := flat_len_take xs (i + 1)
  have hs3 : (flat (xs.take i)).length + xs[i].length = (flat (xs.take (i + 1))).length := by rw [← hs1, List.length_append]
  have nf_1 : IntKind.i64.wrap (((flat (xs.take i)).length : Int) + (xs[i].length : Int)) = ((flat (xs.take (i + 1))).length : Int) := by rw [IntKind.wrap_i64]; omega
  refine gn 0 Rg.no [kCd (bitL 8 123), kCd (bitL 8 251), kLp (bitL 6 59), KI.block 0, kCd (bitL 3 7)] [(0, vS A xs.length c), (3, vI (↑(flat (List.take i xs)).length : Int)), (9, vS A xs.length c), (10, vI (↑xs.length : Int)), (11, vI (↑i : Int)), (12, vB (decide ((↑i : Int) < (↑xs.length : Int))))] [] ?_
  refine spl 12 (decide ((↑i : Int) < (↑xs.length : Int))) ?_ ?_
  rotate_left
  ·intro hb1
   replace hb1 := of_decide_eq_false hb1
   (exfalso; omega)
  intro hb1
  replace hb1 := of_decide_eq_true hb1
  refine gn 0 (Rg.sq (bitL 11 763) 0) [kCd (bitL 11 1787), KI.block 1, kCd (bitL 9 507), kLp (bitL 6 59), KI.block 0, kCd (bitL 3 7)] [(0, vS A xs.length c), (3, vI (↑(flat (List.take i xs)).length : Int)), (9, vS A xs.length c), (10, vI (↑xs.length : Int)), (11, vI (↑i : Int))] [] ?_
  refine index_at 0 (by kernel_rfl : atP _ _ _ 0 false = some (Op.indexAddr 56 (tmpO 9) (tmpO 11), 0, some 13, Rg.sq (bitL 11 763) 1)) (ni := i) (sz := 1) (by kernel_rfl) rfl rfl rfl ‹_› (fun L w1 hs => rd_some (i := i) (rdRow_ext (hs.old 0 rfl) hxs) ‹_›) ?_
  intro a_1 ha_1
  cases ha_1
  refine gn 0 (Rg.sq (bitL 11 763) 1) [kCd (bitL 11 1787), KI.block 1, kCd (bitL 9 507), kLp (bitL 6 59), KI.block 0, kCd (bitL 3 7)] [(0, vS (some a_1) xs.length c), (3, vI (↑(flat (List.take i xs)).length : Int)), (9, vS (some a_1) xs.length c), (10, vI (↑xs.length : Int)), (11, vI (↑i : Int)), (13, vP (a_1.add (i * 1)))] [] ?_
  obtain ⟨Ai, ci, hcell, hrow⟩ := rd_row hxs hlt
  refine load_one 1 (by kernel_rfl : atP _ _ _ 1 true = some (Op.load 44 (tmpO 13), 44, some 14, Rg.sq (bitL 11 763) 2)) (n := 1) (by kernel_rfl) rfl ?_
  intro L w1 hs
  refine ⟨.v (.slice Ai xs[i].length ci), cellH_ext (hs.old 0 rfl) hcell, ?_⟩
  clear hs
  refine gn 0 Rg.no [kCd (bitL 13 7931), KI.block 1, kCd (bitL 9 507), kLp (bitL 6 59), KI.block 0, kCd (bitL 3 7)] [(0, vS (some a_1) xs.length c), (3, vI (IntKind.i64.wrap ((↑(flat (List.take i xs)).length : Int) + (↑xs[i].length : Int)))), (9, vS (some a_1) xs.length c), (10, vI (↑xs.length : Int)), (11, vI (↑i : Int)), (20, vB (decide (IntKind.i64.wrap ((↑(flat (List.take i xs)).length : Int) + (↑xs[i].length : Int)) < 0)))] [] ?_
  try simp only [flx, nf_1]
  refine spl 20 (decide ((↑(flat (List.take (i + 1) xs)).length : Int) < 0)) ?_ ?_
  ·intro hb2
   replace hb2 := of_decide_eq_true hb2
   (exfalso; omega)
  ·intro hb2
   replace hb2 := of_decide_eq_false hb2
   refine gn 0 Rg.no [kLp (bitL 6 59), KI.block 0, kCd (bitL 3 7)] [(0, vS (some a_1) xs.length c), (3, vI (↑(flat (List.take (i + 1) xs)).length : Int)), (9, vS (some a_1) xs.length c), (10, vI (↑xs.length : Int)), (11, vI (IntKind.i64.wrap ((↑i : Int) + 1)))] [] ?_
   rw [wrap_succ (by omega)]; exact ih (i + 1) hlt (by omega)
 obtain rfl : i = xs.length := by omega
 rw [List.take_length]
 refine gn 0 Rg.no [kCd (bitL 8 123), kCd (bitL 8 251), kLp (bitL 6 59), KI.block 0, kCd (bitL 3 7)] [(0, vS A xs.length c), (3, vI (↑(flat xs).length : Int)), (9, vS A xs.length c), (10, vI (↑xs.length : Int)), (11, vI (↑xs.length : Int)), (12, vB (decide ((↑xs.length : Int) < (↑xs.length : Int))))] [] ?_
 refine spl 12 (decide ((↑xs.length : Int) < (↑xs.length : Int))) ?_ ?_
 ·intro hb1
  replace hb1 := of_decide_eq_true hb1
  (exfalso; omega)
 intro hb1
 replace hb1 := of_decide_eq_false hb1
 refine gn 0 (Rg.sq (bitL 4 7) 1) [kCd (bitL 4 15)] [(0, vS A xs.length c), (23, vI (↑(flat xs).length : Int))] [] ?_
 refine cak 130 [vS none 0 0, vI (↑(flat xs).length : Int)] (some 24) (Rg.sq (bitL 4 7) 2) (fun L w1 hs => (growNil_ok ((flat xs).length) w1 ‹_›).mono ?_)
 rintro e_ w2_ ⟨B_1, d_1, rfl, hf_⟩
 refine ⟨.one (.v (Value.slice B_1 0 d_1)), _, _, rfl, fun _ => hf_.1.block, hs.fresh hf_, ?_⟩
 clear hs hf_
 refine gn 0 Rg.no [kLp (bitL 8 239), KI.block 2, kCd (bitL 5 31)] [(6, vS B_1 0 d_1), (25, vS A xs.length c), (26, vI (↑xs.length : Int)), (27, vI 0)] [] ?_
 clear ih
 refine loop_at (ι := Nat × Option Addr × Nat) (fun q => [(27, .one (.v (.int .i64 q.1))), (6, .one (.v (.slice q.2.1 (flat (xs.take q.1)).length q.2.2)))]) (fun _ => []) (fun q => [rowA 5 kU8 (flat (xs.take q.1)) (.slice q.2.1 (flat (xs.take q.1)).length q.2.2), oldA w]) (fun q => q.1 ≤ xs.length) (fun q => xs.length - q.1) (0, B_1, d_1) rfl rfl rfl (Nat.zero_le _) ?_
 rintro ⟨i, B, d⟩ hi ih
 simp only at hi ih ⊢
 rcases Nat.lt_or_ge i xs.length with hlt | hge
 ·have hs1 := flat_take hlt
  have hs2 := flat_len_take xs (i + 1)
  have hs3 : (flat (xs.take i)).length + xs[i].length = (flat (xs.take (i + 1))).length := by rw [← hs1, List.length_append]
  refine gn 0 Rg.no [kCd (bitL 10 495), kCd (bitL 10 1007), kLp (bitL 8 239), KI.block 2, kCd (bitL 5 31)] [(6, vS B (flat (List.take i xs)).length d), (25, vS A xs.length c), (26, vI (↑xs.length : Int)), (27, vI (↑i : Int)), (28, vB (decide ((↑i : Int) < (↑xs.length : Int))))] [] ?_
  refine spl 28 (decide ((↑i : Int) < (↑xs.length : Int))) ?_ ?_
  rotate_left
  ·intro hb2
   replace hb2 := of_decide_eq_false hb2
   (exfalso; omega)
  intro hb2
  replace hb2 := of_decide_eq_true hb2
  refine gn 0 (Rg.sq (bitL 13 3055) 0) [kCd (bitL 13 7151), KI.block 3, kCd (bitL 11 2031), kLp (bitL 8 239), KI.block 2, kCd (bitL 5 31)] [(6, vS B (flat (List.take i xs)).length d), (25, vS A xs.length c), (26, vI (↑xs.length : Int)), (27, vI (↑i : Int))] [] ?_
  refine index_at 0 (by kernel_rfl : atP _ _ _ 0 false = some (Op.indexAddr 56 (tmpO 25) (tmpO 27), 0, some 29, Rg.sq (bitL 13 3055) 1)) (ni := i) (sz := 1) (by kernel_rfl) rfl rfl rfl ‹_› (fun L w1 hs => rd_some (i := i) (rdRow_ext (hs.old 1 rfl) hxs) ‹_›) ?_
  intro a_1 ha_1
  cases ha_1
  refine gn 0 (Rg.sq (bitL 13 3055) 1) [kCd (bitL 13 7151), KI.block 3, kCd (bitL 11 2031), kLp (bitL 8 239), KI.block 2, kCd (bitL 5 31)] [(6, vS B (flat (List.take i xs)).length d), (25, vS (some a_1) xs.length c), (26, vI (↑xs.length : Int)), (27, vI (↑i : Int)), (29, vP (a_1.add (i * 1)))] [] ?_
  obtain ⟨Ai, ci, hcell, hrow⟩ := rd_row hxs hlt
  refine load_one 1 (by kernel_rfl : atP _ _ _ 1 true = some (Op.load 44 (tmpO 29), 44, some 30, Rg.sq (bitL 13 3055) 2)) (n := 1) (by kernel_rfl) rfl ?_
  intro L w1 hs
  refine ⟨.v (.slice Ai xs[i].length ci), cellH_ext (hs.old 1 rfl) hcell, ?_⟩
  clear hs
  refine gn 0 (Rg.sq (bitL 13 7151) 2) [KI.block 3, kCd (bitL 11 2031), kLp (bitL 8 239), KI.block 2, kCd (bitL 5 31)] [(25, vS (some a_1) xs.length c), (26, vI (↑xs.length : Int)), (27, vI (↑i : Int)), (31, vS B (flat (List.take i xs)).length d), (32, vS Ai xs[i].length ci)] [] ?_
  refine append_sc (by_ := 1) (e := 5) (by kernel_rfl : atB _ _ _ false = some (Op.call (Call.mk (Callee.builtin Builtin.append) #[tmpO 31, tmpO 32] #[44, 44]), 44, some 33, Rg.sq (bitL 13 7151) 3)) (by kernel_rfl) rfl rfl (fun L w1 hs => rdRow_ext (hs.old 1 rfl) hrow) (by simp only [maxLen]; omega) (by omega) ?_
  intro B' d'
  rw [hs1]
  refine gn 0 Rg.no [kLp (bitL 8 239), KI.block 2, kCd (bitL 5 31)] [(6, vS B' (flat (List.take (i + 1) xs)).length d'), (25, vS (some a_1) xs.length c), (26, vI (↑xs.length : Int)), (27, vI (IntKind.i64.wrap ((↑i : Int) + 1)))] [] ?_
  rw [wrap_succ (by omega)]
  exact ih (i + 1, B', d') hlt (by simp only; omega)
 obtain rfl : i = xs.length := by omega
 rw [List.take_length]
 refine gn 0 Rg.no [kCd (bitL 10 495), kCd (bitL 10 1007), kLp (bitL 8 239), KI.block 2, kCd (bitL 5 31)] [(6, vS B (flat xs).length d), (25, vS A xs.length c), (26, vI (↑xs.length : Int)), (27, vI (↑xs.length : Int)), (28, vB (decide ((↑xs.length : Int) < (↑xs.length : Int))))] [] ?_
 refine spl 28 (decide ((↑xs.length : Int) < (↑xs.length : Int))) ?_ ?_
 ·intro hb2
  replace hb2 := of_decide_eq_true hb2
  (exfalso; omega)
 ·intro hb2
  replace hb2 := of_decide_eq_false hb2
  refine gn 0 Rg.no [kCd (bitL 6 63)] [(2, vS B (flat xs).length d)] [] ?_
  refine rtk [vS B (flat xs).length d] ?_
  intro L w1 hs
  exact ⟨_, _, rfl, hs.out (As := [_])⟩
end Go.Proofs.YtgleoebogikooaaGreat.Dk
