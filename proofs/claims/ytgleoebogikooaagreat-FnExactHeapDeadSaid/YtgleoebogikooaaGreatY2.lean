/- Walks of functions of the program: what each call returns and what it leaves in memory. Conditions: those that each theorem names. -/
import Derived.Test.YtgleoebogikooaaGreatY1
namespace Go.Proofs.YtgleoebogikooaaGreat.Dk
set_option linter.unusedVariables false
set_option linter.unusedSimpArgs false
open Go.Proofs.YtgleoebogikooaaGreat.Sx Go.Proofs Go.RowKit
set_option maxRecDepth 100000
set_option maxHeartbeats 1000000
def lenSum : List (List Int) → Nat
 | [] => 0
 | y :: r => y.length + lenSum r
def mkBB : List (List Int) → Int → List (List Int)
 | [], _ => []
 | y :: r, k => mkB y.length k :: mkBB r (k + y.length)
theorem mkBB_len : ∀ (ys : List (List Int)) (k : Int), (mkBB ys k).length = ys.length
 | [], _ => rfl
 | y :: r, k => by simp [mkBB, mkBB_len r]
theorem lenSum_app : ∀ (a b : List (List Int)), lenSum (a ++ b) = lenSum a + lenSum b
 | [], b => by simp [lenSum]
 | y :: r, b => by simp [lenSum, lenSum_app r b, Nat.add_assoc]
theorem mkBB_app : ∀ (a b : List (List Int)) (k : Int), mkBB (a ++ b) k = mkBB a k ++ mkBB b (k + lenSum a)
 | [], b, k => by simp [mkBB, lenSum]
 | y :: r, b, k => by
  simp only [List.cons_append, mkBB, mkBB_app r b, lenSum]
  rw [show k + (y.length : Int) + (lenSum r : Int) = k + ((y.length + lenSum r : Nat) : Int) by omega]
theorem lenSum_take {ys : List (List Int)} {i : Nat} (hi : i < ys.length) : lenSum (ys.take (i + 1)) = lenSum (ys.take i) + (ys[i]).length := by
 rw [List.take_succ_eq_append_getElem hi, lenSum_app]
 simp [lenSum]
theorem lenSum_take_le (ys : List (List Int)) (i : Nat) : lenSum (ys.take i) ≤ lenSum ys := by
 conv => rhs; rw [← List.take_append_drop i ys, lenSum_app]
 omega
theorem mkBB_step (ys : List (List Int)) (k : Int) {i : Nat} (hi : i < ys.length) :
  (mkBB (ys.take i) k ++ ys.drop i).set i (mkB (ys[i]).length (k + lenSum (ys.take i))) = mkBB (ys.take (i + 1)) k ++ ys.drop (i + 1) := by
 have hl : (mkBB (ys.take i) k).length = i := by rw [mkBB_len]; simp; omega
 rw [List.set_append_right _ _ (by omega), hl, Nat.sub_self, List.drop_eq_getElem_cons hi, List.set_cons_zero, List.take_succ_eq_append_getElem hi, mkBB_app]
 simp [mkBB]
theorem mid_get2 {ys : List (List Int)} {k : Int} {i : Nat} (hi : i < ys.length) (h : i < (mkBB (ys.take i) k ++ ys.drop i).length) : (mkBB (ys.take i) k ++ ys.drop i)[i] = ys[i] := by
 have hl : (mkBB (ys.take i) k).length = i := by rw [mkBB_len]; simp; omega
 rw [List.getElem_append_right (by omega)]
 simp [hl]
theorem lenSum_eq : ∀ (l : List (List Int)), lenSum l = (l.map (fun l => l.length)).sum
 | [] => rfl
 | y :: r => by simp [lenSum, lenSum_eq r]
def nPs : List Pg → Nat
 | [] => 0
 | x :: r => 1 + lenSum x.slots + nPs r
def mkPg (x : Pg) (k : Int) : Pg := ⟨k, mkBB x.slots (k + 1)⟩
def mkPs : List Pg → Int → List Pg
 | [], _ => []
 | x :: r, k => mkPg x k :: mkPs r (k + (1 + lenSum x.slots : Nat))
theorem mkPs_len : ∀ (xs : List Pg) (k : Int), (mkPs xs k).length = xs.length
 | [], _ => rfl
 | x :: r, k => by simp [mkPs, mkPs_len r]
theorem nPs_app : ∀ (a b : List Pg), nPs (a ++ b) = nPs a + nPs b
 | [], b => by simp [nPs]
 | x :: r, b => by simp only [List.cons_append, nPs, nPs_app r b]; omega
theorem mkPs_app : ∀ (a b : List Pg) (k : Int), mkPs (a ++ b) k = mkPs a k ++ mkPs b (k + nPs a)
 | [], b, k => by simp [mkPs, nPs]
 | x :: r, b, k => by
  simp only [List.cons_append, mkPs, mkPs_app r b]
  rw [show k + ((1 + lenSum x.slots : Nat) : Int) + (nPs r : Int) = k + (nPs (x :: r) : Int) by simp only [nPs]; omega]
theorem nPs_take {xs : List Pg} {i : Nat} (hi : i < xs.length) : nPs (xs.take (i + 1)) = nPs (xs.take i) + (1 + lenSum xs[i].slots) := by
 rw [List.take_succ_eq_append_getElem hi, nPs_app]
 simp [nPs]
theorem nPs_take_le (xs : List Pg) (i : Nat) : nPs (xs.take i) ≤ nPs xs := by
 conv => rhs; rw [← List.take_append_drop i xs, nPs_app]
 omega
theorem nPs_z : ∀ (xs : List Pg), nPs xs ≤ xs.length + (xs.map zPg).sum
 | [] => Nat.le_refl _
 | x :: r => by
  have h1 := nPs_z r
  have h2 := lenSum_eq x.slots
  have h3 : zPg x = x.slots.length + (x.slots.map (fun l => l.length)).sum := rfl
  simp only [nPs, List.length_cons, List.map_cons, List.sum_cons]
  omega
theorem midP_get {xs : List Pg} {k : Int} {i : Nat} (hi : i < xs.length) (h : i < (mkPs (xs.take i) k ++ xs.drop i).length) : (mkPs (xs.take i) k ++ xs.drop i)[i] = xs[i] := by
 have hl : (mkPs (xs.take i) k).length = i := by rw [mkPs_len]; simp; omega
 rw [List.getElem_append_right (by omega)]
 simp [hl]
theorem mkPs_step (xs : List Pg) (k : Int) {i : Nat} (hi : i < xs.length) : (mkPs (xs.take i) k ++ xs.drop i).set i (mkPg xs[i] (k + nPs (xs.take i))) = mkPs (xs.take (i + 1)) k ++ xs.drop (i + 1) := by
 have hl : (mkPs (xs.take i) k).length = i := by rw [mkPs_len]; simp; omega
 rw [List.set_append_right _ _ (by omega), hl, Nat.sub_self, List.drop_eq_getElem_cons hi, List.set_cons_zero, List.take_succ_eq_append_getElem hi, mkPs_app]
 simp [mkPs]
theorem kPg_shape {h : Hp} {S : Nat → Prop} {x : Pg} {cs : List Value} (ho : kPg.ow h S x cs) : ∃ A c, cs = [.int .i64 x.lsn, .slice A x.slots.length c] ∧ sepL [rowA 44 (kRow 5 kU8) x.slots (.slice A x.slots.length c)] h S := by
 obtain ⟨c1, c2, rfl, S1, S2, s1, s2, _, ra, v, rv, hrow⟩ := ho
 have ra : c1 = [.int .i64 x.lsn] := ra
 obtain ⟨A, c, hv, hrest⟩ := id hrow
 subst ra rv hv
 exact ⟨A, c, rfl, S, fun _ => False, fun _ h => h, fun _ h => h.elim, fun _ _ h => h, (rowA 44 (kRow 5 kU8) x.slots _).mono (fun b hb => s2 b hb) (rowA_holds.2 hrow), trivial⟩
theorem h_el_Pg {C : Cx} {F : List HA} {st : St} {x : Pg} {cs : List Value} (h : ∀ A c, cs = [.int .i64 x.lsn, .slice A x.slots.length c] → Holds C (rowA 44 (kRow 5 kU8) x.slots (.slice A x.slots.length c) :: F) st) : Holds C (elA kPg x cs :: F) st := by
 intro L w1 w a hs ht hr
 obtain ⟨henv, hl, S, hS, S1, S2, h1, h2, hd, hel, hF⟩ := hs
 obtain ⟨A, c, e1, hrow⟩ := kPg_shape hel
 exact h A c e1 L w1 w a ⟨henv, hl, S, hS, S1, S2, h1, h2, hd, sepL_one hrow, hF⟩ ht hr
theorem kPg_put0 {h : Hp} {S : Nat → Prop} {x : Pg} {cs : List Value} {k : Int} (ho : kPg.ow h S x cs) : kPg.ow h S ⟨k, x.slots⟩ (splice cs 0 [.int .i64 k]) := by
 obtain ⟨A, c, rfl, h3⟩ := kPg_shape ho
 exact kPg_own (x := ⟨k, x.slots⟩) h3
theorem markByteSS_ok (ys : List (List Int)) (A : Option Addr) (c : Nat) (k : Int) (w : World) (S : Nat → Prop) (h : sepL [rowA 44 (kRow 5 kU8) ys (.slice A ys.length c)] w.heap S) (hS : ∀ b, S b → b < w.heap.size) (hl : ys.length ≤ 1048576) (hl2 : lenSum ys ≤ 1048576) (hl3 : ∀ y ∈ ys, y.length ≤ 1048576) (hk : 0 ≤ k ∧ k ≤ 1073741824) :
  Calls Tryz.prog 62 #[.slice A ys.length c, .int .i64 k] w fun e w' => e = .returned (.int .i64 (k + lenSum ys)) ∧ Mut w w' S [rowA 44 (kRow 5 kU8) (mkBB ys k) (.slice A ys.length c)] := by
 refine enter (args := [.one (.v (.slice A ys.length c)), .one (.v (.int .i64 k))]) Tryz.func62 (c := bodyOf Tryz.f62) rfl rfl (start_LOK _) (start_mut h hS) ?_
 refine gn 0 Rg.no [kLp (bitL 5 29), KI.block 0, KI.code [true, true]] [(0, vS A ys.length c), (1, vI k), (5, vI 0)] [] ?_
 refine loop_at (ι := Nat) (fun i => [(1, .one (.v (.int .i64 (k + (lenSum (ys.take i) : Int))))), (5, .one (.v (.int .i64 i)))]) (fun _ => []) (fun i => [rowA 44 (kRow 5 kU8) (mkBB (ys.take i) k ++ ys.drop i) (.slice A ys.length c), oldX w S]) (fun i => i ≤ ys.length) (fun i => ys.length - i) 0 (by simp [updTm, lk, lenSum]; exact ⟨rfl, rfl⟩) rfl (by simp [mkBB]) (Nat.zero_le _) ?_
 intro i hi ih
 refine gn 0 Rg.no [kCd (bitL 7 93), kCd (bitL 6 61), kLp (bitL 5 29), KI.block 0, KI.code [true, true]] [(0, vS A ys.length c), (1, vI (k + (↑(lenSum (List.take i ys)) : Int))), (5, vI (↑i : Int)), (9, vB (decide ((↑i : Int) < (↑ys.length : Int))))] [] ?_
 refine spl 9 (decide ((↑i : Int) < (↑ys.length : Int))) ?_ ?_
 ·intro h1
  have hlt : i < ys.length := by simpa using h1
  have hle := lenSum_take_le ys i
  have hle2 := lenSum_take hlt
  have hle3 := lenSum_take_le ys (i + 1)
  have hlm : i < (mkBB (ys.take i) k ++ ys.drop i).length := by simp [mkBB_len]; omega
  refine gn 0 (Rg.sq (bitL 8 189) 2) [KI.block 1, kCd (bitL 7 125), kLp (bitL 5 29), KI.block 0, KI.code [true, true]] [(0, vS A ys.length c), (1, vI (k + (↑(lenSum (List.take i ys)) : Int))), (5, vI (↑i : Int)), (12, vS A ys.length c), (13, vI (↑i : Int))] [] ?_
  obtain ⟨g, rfl⟩ := own_g (rowA_holds.1 (sepL_one h)) (by omega)
  refine index_at 2 (by kernel_rfl : atP _ _ _ 2 false = some (Op.indexAddr 56 (tmpO 12) (tmpO 13), 0, some 14, Rg.sq (bitL 8 189) 3)) (sz := 1) (by kernel_rfl) rfl rfl rfl hlt (fun L w1 hs => ⟨_, rfl⟩) ?_
  intro a2 ha2; cases ha2
  refine gn 0 (Rg.sq (bitL 8 189) 3) [KI.block 1, kCd (bitL 7 125), kLp (bitL 5 29), KI.block 0, KI.code [true, true]] [(0, vS (some (Addr.mk g 0 none)) ys.length c), (1, vI (k + (↑(lenSum (List.take i ys)) : Int))), (5, vI (↑i : Int)), (14, vP ((Addr.mk g 0 none).add (i * 1)))] [] ?_
  refine h_focus hlm (fun cs => ?_)
  rw [mid_get2 hlt]
  refine h_el_row ?_
  rintro Ai ci rfl
  refine load_one 3 (by kernel_rfl : atP _ _ _ 3 true = some (Op.load 44 (tmpO 14), 44, some 15, Rg.sq (bitL 8 189) 4)) (n := 1) (by kernel_rfl) rfl ?_
  intro L w1 hs
  obtain ⟨S1, hS1, hh⟩ := hs.at_ 1 rfl
  refine ⟨.v (.slice Ai (ys[i]).length ci), (hole_cell hh) 0 _ rfl, ?_⟩
  clear hs hh hS1 S1
  refine gn 0 (Rg.sq (bitL 8 189) 5) [KI.block 1, kCd (bitL 7 125), kLp (bitL 5 29), KI.block 0, KI.code [true, true]] [(0, vS (some (Addr.mk g 0 none)) ys.length c), (5, vI (↑i : Int)), (15, vS Ai ys[i].length ci), (16, vI (k + (↑(lenSum (List.take i ys)) : Int)))] [] ?_
  refine call_mut (A := [rowA 5 kU8 (ys[i]) (.slice Ai (ys[i]).length ci)]) (by kernel_rfl : atC _ _ _ false = some (35, [vS Ai ys[i].length ci, vI (k + (↑(lenSum (List.take i ys)) : Int))], some 17, Rg.sq (bitL 8 189) 6)) (by kernel_rfl) (fun L w1 S1 hs hA hS1 => (markByteS_ok (ys[i]) Ai ci _ w1 S1 hA hS1 (hl3 _ (List.getElem_mem hlt)) (by omega)).mono ?_)
  rintro e w2 ⟨rfl, hm⟩
  refine ⟨.one (.v (.int .i64 _)), _, rfl, hm, ?_⟩
  clear hm hs hA hS1
  refine gn 0 Rg.no [kLp (bitL 5 29), KI.block 0, KI.code [true, true]] [(0, vS (some (Addr.mk g 0 none)) ys.length c), (1, vI (k + (↑(lenSum (List.take i ys)) : Int) + (↑ys[i].length : Int))), (5, vI (IntKind.i64.wrap ((↑i : Int) + 1)))] [] ?_
  refine h_turn (A := [_]) (B := [elA (kRow 5 kU8) (mkB (ys[i]).length (k + (lenSum (ys.take i) : Int))) [.slice Ai (ys[i]).length ci]]) (fun h S ho => one_el (row_el ho)) ?_
  refine h_unfocus (x := mkB (ys[i]).length (k + (lenSum (ys.take i) : Int))) ?_
  rw [wrap_succ (by omega), mkBB_step ys k hlt, show k + (lenSum (ys.take i) : Int) + ((ys[i]).length : Int) = k + (lenSum (ys.take (i + 1)) : Int) by omega]
  exact ih (i + 1) hlt (by omega)
 ·intro h1
  refine gn 0 Rg.no [kCd (bitL 3 7)] [(4, vI (k + (↑(lenSum (List.take i ys)) : Int)))] [] ?_
  refine rtk [vI (k + (↑(lenSum (List.take i ys)) : Int))] ?_
  intro L w1 hs
  have hi2 : i = ys.length := by
   have : ¬ i < ys.length := by simpa using h1
   omega
  subst hi2
  simp only [List.drop_length, List.append_nil, List.take_length] at hs ⊢
  exact ⟨rfl, hs.outm (As := [_])⟩
theorem markPageS_ok (xs : List Pg) (A : Option Addr) (c : Nat) (k : Int) (w : World) (S : Nat → Prop) (h : sepL [rowA 58 kPg xs (.slice A xs.length c)] w.heap S) (hS : ∀ b, S b → b < w.heap.size) (hl : xs.length ≤ 1048576) (hn : nPs xs ≤ 16777216) (hsl : ∀ p ∈ xs, p.slots.length ≤ 1048576 ∧ lenSum p.slots ≤ 1048576 ∧ ∀ y ∈ p.slots, y.length ≤ 1048576) (hk : 0 ≤ k ∧ k ≤ 1048576) :
  Calls Tryz.prog 34 #[.slice A xs.length c, .int .i64 k] w fun e w' => e = .returned (.int .i64 (k + nPs xs)) ∧ Mut w w' S [rowA 58 kPg (mkPs xs k) (.slice A xs.length c)] := by
 have hown := rowA_holds.1 (sepL_one h)
 refine enter (args := [.one (.v (.slice A xs.length c)), .one (.v (.int .i64 k))]) Tryz.func34 (c := bodyOf Tryz.f34) rfl rfl (start_LOK _) (start_mut h hS) ?_
 refine gn 0 Rg.no [kLp (bitL 5 29), KI.block 0, KI.code [true, true]] [(0, vS A xs.length c), (1, vI k), (5, vI 0)] [] ?_
 refine loop_at (ι := Nat) (fun i => [(1, .one (.v (.int .i64 (k + (nPs (xs.take i) : Int))))), (5, .one (.v (.int .i64 i)))]) (fun _ => []) (fun i => [rowA 58 kPg (mkPs (xs.take i) k ++ xs.drop i) (.slice A xs.length c), oldX w S]) (fun i => i ≤ xs.length) (fun i => xs.length - i) 0 (by simp [updTm, lk, nPs]; exact ⟨rfl, rfl⟩) rfl (by simp [mkPs]) (Nat.zero_le _) ?_
 intro i hi ih
 refine gn 0 Rg.no [kCd (bitL 7 93), kCd (bitL 6 61), kLp (bitL 5 29), KI.block 0, KI.code [true, true]] [(0, vS A xs.length c), (1, vI (k + (↑(nPs (List.take i xs)) : Int))), (5, vI (↑i : Int)), (9, vB (decide ((↑i : Int) < (↑xs.length : Int))))] [] ?_
 refine spl 9 (decide ((↑i : Int) < (↑xs.length : Int))) ?_ ?_
 ·intro h1
  have hlt : i < xs.length := by simpa using h1
  have hle := nPs_take_le xs i
  have hle2 := nPs_take hlt
  have hle3 := nPs_take_le xs (i + 1)
  have hlm : i < (mkPs (xs.take i) k ++ xs.drop i).length := by simp [mkPs_len]; omega
  obtain ⟨hs1, hs2, hs3⟩ := hsl _ (List.getElem_mem hlt)
  obtain ⟨K, hK⟩ : ∃ K : Int, K = k + (nPs (xs.take i) : Int) := ⟨_, rfl⟩
  rw [← hK]
  have w1_ : IntKind.i64.wrap (K + 1) = K + 1 := by rw [IntKind.wrap_i64]; omega
  obtain ⟨g, rfl⟩ := own_g hown (by omega)
  refine gn 0 (Rg.sq (bitL 9 189) 3) [kCd (bitL 9 445), KI.block 1, kCd (bitL 7 125), kLp (bitL 5 29), KI.block 0, KI.code [true, true]] [(0, vS (some (Addr.mk g 0 none)) xs.length c), (1, vI K), (5, vI (↑i : Int)), (12, vS (some (Addr.mk g 0 none)) xs.length c), (13, vI (↑i : Int)), (14, vI K)] [] ?_
  refine index_at 3 (by kernel_rfl : atP _ _ _ 3 false = some (Op.indexAddr 28 (tmpO 12) (tmpO 13), 0, some 15, Rg.sq (bitL 9 189) 4)) (sz := 2) (by kernel_rfl) rfl rfl rfl hlt (fun L w1 hs => ⟨_, rfl⟩) ?_
  intro a2 ha2; cases ha2
  refine gn 0 (Rg.sq (bitL 9 189) 5) [kCd (bitL 9 445), KI.block 1, kCd (bitL 7 125), kLp (bitL 5 29), KI.block 0, KI.code [true, true]] [(0, vS (some (Addr.mk g 0 none)) xs.length c), (1, vI K), (5, vI (↑i : Int)), (14, vI K), (16, vP (((Addr.mk g 0 none).add (i * 2)).add 0))] [] ?_
  refine store_part (A := []) (d := kPg) (o := 0) (i := i) (y := ⟨K, xs[i].slots⟩) (by kernel_rfl : atB _ _ _ false = some (Op.store 3 (tmpO 16) (tmpO 14), 0, none, Rg.sq (bitL 9 189) 6)) (by kernel_rfl) rfl rfl (by simp only [add_at, Nat.add_zero]; rfl) rfl rfl (by simp [Value.oneCell']) hlm (Nat.le_of_ble_eq_true rfl) (fun h S1 S2 cs ho _ _ => by rw [midP_get hlt] at ho; exact kPg.mono (fun b hb => .inl hb) (kPg_put0 ho)) ?_
  refine gn 0 (Rg.sq (bitL 10 957) 2) [KI.block 1, kCd (bitL 7 125), kLp (bitL 5 29), KI.block 0, KI.code [true, true]] [(0, vS (some (Addr.mk g 0 none)) xs.length c), (1, vI (IntKind.i64.wrap (K + 1))), (5, vI (↑i : Int)), (19, vS (some (Addr.mk g 0 none)) xs.length c), (20, vI (↑i : Int))] [] ?_
  rw [w1_]
  refine index_at 2 (by kernel_rfl : atP _ _ _ 2 false = some (Op.indexAddr 28 (tmpO 19) (tmpO 20), 0, some 21, Rg.sq (bitL 10 957) 3)) (sz := 2) (by kernel_rfl) rfl rfl rfl hlt (fun L w1 hs => ⟨_, rfl⟩) ?_
  intro a2 ha2; cases ha2
  refine gn 0 (Rg.sq (bitL 10 957) 4) [KI.block 1, kCd (bitL 7 125), kLp (bitL 5 29), KI.block 0, KI.code [true, true]] [(0, vS (some (Addr.mk g 0 none)) xs.length c), (1, vI (K + 1)), (5, vI (↑i : Int)), (22, vP (((Addr.mk g 0 none).add (i * 2)).add 1))] [] ?_
  refine h_focus (by rw [List.length_set]; exact hlm) (fun cs => ?_)
  rw [List.getElem_set_self]
  refine h_el_Pg ?_
  rintro A1 c1 rfl
  refine load_one 4 (by kernel_rfl : atP _ _ _ 4 true = some (Op.load 56 (tmpO 22), 56, some 23, Rg.sq (bitL 10 957) 5)) (n := 1) (by kernel_rfl) rfl ?_
  intro L w1 hs
  obtain ⟨S1, hS1, hh⟩ := hs.at_ 1 rfl
  refine ⟨.v (.slice A1 xs[i].slots.length c1), by have h9 := hole_cell hh 1 _ rfl; simp only [add_at, Nat.add_zero] at h9 ⊢; exact h9, ?_⟩
  clear hs hh hS1 S1
  refine gn 0 (Rg.sq (bitL 10 957) 6) [KI.block 1, kCd (bitL 7 125), kLp (bitL 5 29), KI.block 0, KI.code [true, true]] [(0, vS (some (Addr.mk g 0 none)) xs.length c), (5, vI (↑i : Int)), (23, vS A1 xs[i].slots.length c1), (24, vI (K + 1))] [] ?_
  refine call_mut (A := [rowA 44 (kRow 5 kU8) xs[i].slots (.slice A1 xs[i].slots.length c1)]) (by kernel_rfl : atC _ _ _ false = some (62, [vS A1 xs[i].slots.length c1, vI (K + 1)], some 25, Rg.sq (bitL 10 957) 7)) (by kernel_rfl) (fun L w1 S1 hs hA hS1 => (markByteSS_ok xs[i].slots A1 c1 _ w1 S1 hA hS1 hs1 hs2 hs3 (by omega)).mono ?_)
  rintro e w2 ⟨rfl, hm⟩
  refine ⟨.one (.v (.int .i64 _)), _, rfl, hm, ?_⟩
  clear hm hs hA hS1
  refine gn 0 Rg.no [kLp (bitL 5 29), KI.block 0, KI.code [true, true]] [(0, vS (some (Addr.mk g 0 none)) xs.length c), (1, vI (K + 1 + (↑(lenSum xs[i].slots) : Int))), (5, vI (IntKind.i64.wrap ((↑i : Int) + 1)))] [] ?_
  refine h_turn (A := [_]) (B := [elA kPg (mkPg xs[i] K) [.int .i64 K, .slice A1 xs[i].slots.length c1]]) (fun h S ho => one_el (by have h9 := kPg_own (h := h) (S := S) (Aslots := A1) (cslots := c1) (x := mkPg xs[i] K) (by simp only [mkPg, mkBB_len]; exact ho); simp only [mkPg, mkBB_len] at h9 ⊢; exact h9)) ?_
  refine h_unfocus (d := kPg) ?_
  rw [List.set_set, hK, mkPs_step xs k hlt, wrap_succ (by omega), show k + (nPs (xs.take i) : Int) + 1 + (lenSum xs[i].slots : Int) = k + (nPs (xs.take (i + 1)) : Int) by omega]
  exact ih (i + 1) hlt (by omega)
 ·intro h1
  refine gn 0 Rg.no [kCd (bitL 3 7)] [(4, vI (k + (↑(nPs (List.take i xs)) : Int)))] [] ?_
  refine rtk [vI (k + (↑(nPs (List.take i xs)) : Int))] ?_
  intro L w1 hs
  have hi2 : i = xs.length := by
   have : ¬ i < xs.length := by simpa using h1
   omega
  subst hi2
  simp only [List.drop_length, List.append_nil, List.take_length] at hs ⊢
  exact ⟨rfl, hs.outm (As := [_])⟩
theorem markHeap_ok (x : He) (A : Option Addr) (c : Nat) (k : Int) (w : World) (S : Nat → Prop) (h : sepL [rowA 58 kPg x.pages (.slice A x.pages.length c)] w.heap S) (hS : ∀ b, S b → b < w.heap.size) (hl : x.pages.length ≤ 1048576) (hn : nPs x.pages ≤ 16777216) (hsl : ∀ p ∈ x.pages, p.slots.length ≤ 1048576 ∧ lenSum p.slots ≤ 1048576 ∧ ∀ y ∈ p.slots, y.length ≤ 1048576) (hk : 0 ≤ k ∧ k ≤ 1048576) :
  Calls Tryz.prog 12 #[.agg #[.slice A x.pages.length c], .int .i64 k] w fun e w' => e = .returned (.int .i64 (k + nPs x.pages)) ∧ Mut w w' S [rowA 58 kPg (mkPs x.pages k) (.slice A x.pages.length c)] := by
 refine enter (args := [.agg [.v (.slice A x.pages.length c)], .one (.v (.int .i64 k))]) Tryz.func12 (c := bodyOf Tryz.f12) rfl rfl (start_LOK _) (start_mut h hS) ?_
 refine gn 0 (Rg.sq [true, false] 3) [KI.code [true, true]] [(6, vS A x.pages.length c), (7, vI k)] [] ?_
 refine call_mut (A := [rowA 58 kPg x.pages (.slice A x.pages.length c)]) (by kernel_rfl : atC _ _ _ false = some (34, [vS A x.pages.length c, vI k], some 8, Rg.sq [true, false] 4)) (by kernel_rfl) (fun L w1 S1 hs hA hS1 => (markPageS_ok x.pages A c _ w1 S1 hA hS1 hl hn hsl hk).mono ?_)
 rintro e w2 ⟨rfl, hm⟩
 refine ⟨.one (.v (.int .i64 _)), _, rfl, hm, ?_⟩
 clear hm hs hA hS1
 refine gn 0 Rg.no [kCd (bitL 3 7)] [(4, vI (k + (↑(nPs x.pages) : Int)))] [] ?_
 refine rtk [vI (k + (↑(nPs x.pages) : Int))] ?_
 intro L w1 hs
 exact ⟨rfl, SOK.outm (As := [_]) hs⟩
end Go.Proofs.YtgleoebogikooaaGreat.Dk
