/- Walks of functions of the program: what each call returns and what it leaves in memory. Conditions: those that each theorem names. -/
import Derived.Test.YtgleoebogikooaaM2
namespace Go.Proofs.Ytgleoebogikooaa.Dk
set_option linter.unusedVariables false
set_option linter.unusedSimpArgs false
open Go.Proofs.Ytgleoebogikooaa.Sx Go.Proofs Go.RowKit
set_option maxRecDepth 100000
set_option maxHeartbeats 1000000
theorem fI_le (n : Int) (h : 0 ≤ n) : FloatKind.f64.nearest n ≤ 9218868437227405312 := by
  have hn : decide (n < 0) = false := decide_eq_false (by omega)
  have hw : ∀ r, Ieee.Format.word FloatKind.f64.format false r = r := fun r => rfl
  have hi : Ieee.Format.infRung FloatKind.f64.format = 9218868437227405312 := by decide
  show FloatKind.f64.format.nearest (decide (n < 0)) n.natAbs 0 ≤ _
  rw [hn]
  unfold Ieee.Format.nearest
  dsimp only
  split
  · rw [hw]; omega
  · rw [hw]
    have := Nat.min_le_right
    exact Nat.le_trans (Nat.min_le_right ..) (Nat.le_of_eq hi)
def fI (n : Int) : Nat := FloatKind.f64.nearest n
theorem fI_lt {n : Int} (h : 0 ≤ n) : fI n < 18446744073709551616 := by have := fI_le n h; unfold fI; omega
theorem fI_nan {n : Int} (h : 0 ≤ n) : isNaN (fI n) = false := by
  have := fI_le n h
  unfold isNaN fI
  exact decide_eq_false (by omega)
theorem fI_canon {n : Int} (h : 0 ≤ n) : canonF (fI n) = fI n := by
  rcases canon_cases (fI_lt h) with ⟨h1, _⟩ | ⟨_, h2, _⟩
  · rw [fI_nan h] at h1; cases h1
  · exact h2
theorem fI_of {b : Nat} {n : Int} (h : 0 ≤ n) (hb : b < 18446744073709551616) (hc : canonF b = fI n) : b = fI n := by
  rcases canon_cases hb with ⟨_, h2, _⟩ | ⟨_, h2, _⟩
  · have h3 := fI_le n h
    rw [h2] at hc
    unfold fI at hc
    omega
  · rw [← hc, h2]
def mkB (n : Nat) (k : Int) : List Int := (List.range n).map fun (i : Nat) => IntKind.u8.wrap (k + (i : Int))
theorem mkB_len (n : Nat) (k : Int) : (mkB n k).length = n := by simp [mkB]
theorem mkB_get {n : Nat} {k : Int} {i : Nat} (h : i < (mkB n k).length) : (mkB n k)[i] = IntKind.u8.wrap (k + (i : Int)) := by simp [mkB]
theorem mkB_by (n : Nat) (k : Int) : byOk (mkB n k) := fun b hb => by
  obtain ⟨i, _, rfl⟩ := List.mem_map.1 hb
  have e1 : IntKind.u8.wrap (k + (i : Int)) = (k + (i : Int)) % 256 := rfl
  rw [e1]
  omega
theorem mk_step (ys : List Int) (k : Int) {i : Nat} (hi : i < ys.length) : (mkB i k ++ ys.drop i).set i (IntKind.u8.wrap (k + (i : Int))) = mkB (i + 1) k ++ ys.drop (i + 1) := by
  have hl : (mkB i k).length = i := mkB_len i k
  rw [List.set_append_right _ _ (by omega), hl, Nat.sub_self, List.drop_eq_getElem_cons hi, List.set_cons_zero]
  simp [mkB, List.range_succ]
def mkN (n : Nat) (k : Int) : List Int := (List.range n).map fun (i : Nat) => k + (i : Int)
theorem mkN_len (n : Nat) (k : Int) : (mkN n k).length = n := by simp [mkN]
theorem mkN_get {n : Nat} {k : Int} {i : Nat} (h : i < (mkN n k).length) : (mkN n k)[i] = k + (i : Int) := by simp [mkN]
theorem mkN_step (ys : List Int) (k : Int) {i : Nat} (hi : i < ys.length) : (mkN i k ++ ys.drop i).set i (k + (i : Int)) = mkN (i + 1) k ++ ys.drop (i + 1) := by
  have hl : (mkN i k).length = i := mkN_len i k
  rw [List.set_append_right _ _ (by omega), hl, Nat.sub_self, List.drop_eq_getElem_cons hi, List.set_cons_zero]
  simp [mkN, List.range_succ]
theorem kEn_shape {h : Hp} {S : Nat → Prop} {x : En} {cs : List Value} (ho : kEn.ow h S x cs) : ∃ b A c, cs = [.int .i64 x.key.kind, .int .i64 x.key.n, .float .f64 b, .slice A x.key.t.length c, .int .i64 x.id] ∧ b < 18446744073709551616 ∧ canonF b = x.key.f ∧ sepL [rowA 5 kU8 x.key.t (.slice A x.key.t.length c)] h S := by
  obtain ⟨c1, c2, rfl, S1, S2, s1, s2, _, ⟨a1, a2, rfl, T1, T2, t1, t2, _, ra, a3, a4, rfl, U1, U2, u1, u2, _, rb, a5, a6, rfl, V1, V2, v1, v2, _, ⟨b, rb1, rb2, rb3⟩, v, rv, hrow⟩, rd⟩ := ho
  have ra : a1 = [.int .i64 x.key.kind] := ra
  have rb : a3 = [.int .i64 x.key.n] := rb
  have rd : c2 = [.int .i64 x.id] := rd
  obtain ⟨A, c, hv, hrest⟩ := id hrow
  subst ra rb rd rb1 rv hv
  exact ⟨b, A, c, rfl, rb2, rb3, S, fun _ => False, fun _ h => h, fun _ h => h.elim, fun _ _ h => h, (rowA 5 kU8 x.key.t _).mono (fun b hb => s1 b (t2 b (u2 b (v2 b hb)))) (rowA_holds.2 hrow), trivial⟩
theorem h_el_En {C : Cx} {F : List HA} {st : St} {x : En} {cs : List Value} (h : ∀ b A c, cs = [.int .i64 x.key.kind, .int .i64 x.key.n, .float .f64 b, .slice A x.key.t.length c, .int .i64 x.id] → b < 18446744073709551616 → canonF b = x.key.f → Holds C (rowA 5 kU8 x.key.t (.slice A x.key.t.length c) :: F) st) : Holds C (elA kEn x cs :: F) st := by
  intro L w1 w a hs ht hr
  obtain ⟨henv, hl, S, hS, S1, S2, h1, h2, hd, hel, hF⟩ := hs
  obtain ⟨b, A, c, e1, e2, e3, hrow⟩ := kEn_shape hel
  exact h b A c e1 e2 e3 L w1 w a ⟨henv, hl, S, hS, S1, S2, h1, h2, hd, sepL_one hrow, hF⟩ ht hr
theorem kEn_put0 {h : Hp} {S : Nat → Prop} {x : En} {cs : List Value} {k : Int} (ho : kEn.ow h S x cs) : kEn.ow h S ⟨⟨k, x.key.n, x.key.f, x.key.t⟩, x.id⟩ (splice cs 0 [.int .i64 k]) := by
  obtain ⟨b, A, c, rfl, h1, h2, h3⟩ := kEn_shape ho
  exact kEn_own (x := ⟨⟨k, x.key.n, x.key.f, x.key.t⟩, x.id⟩) h1 h2 h3
theorem kEn_put1 {h : Hp} {S : Nat → Prop} {x : En} {cs : List Value} {k : Int} (ho : kEn.ow h S x cs) : kEn.ow h S ⟨⟨x.key.kind, k, x.key.f, x.key.t⟩, x.id⟩ (splice cs 1 [.int .i64 k]) := by
  obtain ⟨b, A, c, rfl, h1, h2, h3⟩ := kEn_shape ho
  exact kEn_own (x := ⟨⟨x.key.kind, k, x.key.f, x.key.t⟩, x.id⟩) h1 h2 h3
theorem kEn_put2 {h : Hp} {S : Nat → Prop} {x : En} {cs : List Value} {b : Nat} (hb : b < 18446744073709551616) (ho : kEn.ow h S x cs) : kEn.ow h S ⟨⟨x.key.kind, x.key.n, canonF b, x.key.t⟩, x.id⟩ (splice cs 2 [.float .f64 b]) := by
  obtain ⟨_, A, c, rfl, h1, h2, h3⟩ := kEn_shape ho
  exact kEn_own (x := ⟨⟨x.key.kind, x.key.n, canonF b, x.key.t⟩, x.id⟩) hb rfl h3
theorem kEn_put4 {h : Hp} {S : Nat → Prop} {x : En} {cs : List Value} {k : Int} (ho : kEn.ow h S x cs) : kEn.ow h S ⟨x.key, k⟩ (splice cs 4 [.int .i64 k]) := by
  obtain ⟨b, A, c, rfl, h1, h2, h3⟩ := kEn_shape ho
  exact kEn_own (x := ⟨x.key, k⟩) h1 h2 h3
def nEs : List En → Nat
  | [] => 0
  | x :: r => 4 + x.key.t.length + nEs r
def mkEn (x : En) (k : Int) : En := ⟨⟨k, k + 1, fI (k + 2), mkB x.key.t.length (k + 3)⟩, k + 3 + x.key.t.length⟩
def mkEs : List En → Int → List En
  | [], _ => []
  | x :: r, k => mkEn x k :: mkEs r (k + (4 + x.key.t.length : Nat))
theorem mkEs_len : ∀ (xs : List En) (k : Int), (mkEs xs k).length = xs.length
  | [], _ => rfl
  | x :: r, k => by simp [mkEs, mkEs_len r]
theorem nEs_app : ∀ (a b : List En), nEs (a ++ b) = nEs a + nEs b
  | [], b => by simp [nEs]
  | x :: r, b => by simp only [List.cons_append, nEs, nEs_app r b]; omega
theorem mkEs_app : ∀ (a b : List En) (k : Int), mkEs (a ++ b) k = mkEs a k ++ mkEs b (k + nEs a)
  | [], b, k => by simp [mkEs, nEs]
  | x :: r, b, k => by
    simp only [List.cons_append, mkEs, mkEs_app r b]
    rw [show k + ((4 + x.key.t.length : Nat) : Int) + (nEs r : Int) = k + (nEs (x :: r) : Int) by simp only [nEs]; omega]
theorem nEs_take {xs : List En} {i : Nat} (hi : i < xs.length) : nEs (xs.take (i + 1)) = nEs (xs.take i) + (4 + xs[i].key.t.length) := by
  rw [List.take_succ_eq_append_getElem hi, nEs_app]
  simp [nEs]
theorem nEs_take_le (xs : List En) (i : Nat) : nEs (xs.take i) ≤ nEs xs := by
  conv => rhs; rw [← List.take_append_drop i xs, nEs_app]
  omega
theorem nEs_z (xs : List En) : nEs xs = 4 * xs.length + (xs.map zEn).sum := by
  induction xs with
  | nil => rfl
  | cons x r ih =>
    have : zEn x = x.key.t.length := rfl
    simp only [nEs, ih, List.length_cons, List.map_cons, List.sum_cons, this]
    omega
theorem mid_get {xs : List En} {k : Int} {i : Nat} (hi : i < xs.length) (h : i < (mkEs (xs.take i) k ++ xs.drop i).length) : (mkEs (xs.take i) k ++ xs.drop i)[i] = xs[i] := by
  have hl : (mkEs (xs.take i) k).length = i := by rw [mkEs_len]; simp; omega
  rw [List.getElem_append_right (by omega)]
  simp [hl]
theorem mkEs_step (xs : List En) (k : Int) {i : Nat} (hi : i < xs.length) : (mkEs (xs.take i) k ++ xs.drop i).set i (mkEn xs[i] (k + nEs (xs.take i))) = mkEs (xs.take (i + 1)) k ++ xs.drop (i + 1) := by
  have hl : (mkEs (xs.take i) k).length = i := by rw [mkEs_len]; simp; omega
  rw [List.set_append_right _ _ (by omega), hl, Nat.sub_self, List.drop_eq_getElem_cons hi, List.set_cons_zero, List.take_succ_eq_append_getElem hi, mkEs_app]
  simp [mkEs]
theorem mkEs_get {xs : List En} {k : Int} {i : Nat} (hi : i < xs.length) (h : i < (mkEs xs k).length) : (mkEs xs k)[i] = mkEn xs[i] (k + nEs (xs.take i)) := by
  have e : mkEs xs k = mkEs (xs.take i) k ++ mkEs (xs.drop i) (k + nEs (xs.take i)) := by rw [← mkEs_app, List.take_append_drop]
  have hl : (mkEs (xs.take i) k).length = i := by rw [mkEs_len]; simp; omega
  simp only [e]
  rw [List.getElem_append_right (by omega)]
  simp only [hl, Nat.sub_self, List.drop_eq_getElem_cons hi, mkEs, List.getElem_cons_zero]
theorem markByteS_ok (ys : List Int) (A : Option Addr) (c : Nat) (k : Int) (w : World) (S : Nat → Prop) (h : sepL [rowA 5 kU8 ys (.slice A ys.length c)] w.heap S) (hS : ∀ b, S b → b < w.heap.size) (hl : ys.length ≤ 1048576) (hk : 0 ≤ k ∧ k ≤ 1099511627776) :
    Calls Try.prog 62 #[.slice A ys.length c, .int .i64 k] w fun e w' => e = .returned (.int .i64 (k + ys.length)) ∧ Mut w w' S [rowA 5 kU8 (mkB ys.length k) (.slice A ys.length c)] := by
  have hown := rowA_holds.1 (sepL_one h)
  refine enter (args := [.one (.v (.slice A ys.length c)), .one (.v (.int .i64 k))]) Try.func62 (c := bodyOf Try.f62) rfl rfl (start_LOK _) (start_mut h hS) ?_
  refine go mixed 2000 [0, 1, 5] 0 (St.mk Rg.no [kLp (bitL 5 29), KI.block 0, KI.code [true, true]] [(0, vS A ys.length c), (1, vI k), (5, vI 0)] []) (by kernel_rfl) (by kernel_rfl) (by kernel_rfl) ?_
  refine loop_at (ι := Nat) (fun i => [(1, .one (.v (.int .i64 (k + (i : Int))))), (5, .one (.v (.int .i64 i)))]) (fun _ => []) (fun i => [rowA 5 kU8 (mkB i k ++ ys.drop i) (.slice A ys.length c), oldX w S]) (fun i => i ≤ ys.length) (fun i => ys.length - i) 0 (by simp [updTm, lk]; exact ⟨rfl, rfl⟩) rfl (by simp [mkB]) (Nat.zero_le _) ?_
  intro i hi ih
  refine go mixed 2000 [0, 1, 5, 9] 0 (St.mk Rg.no [kCd (bitL 7 93), kCd (bitL 6 61), kLp (bitL 5 29), KI.block 0, KI.code [true, true]] [(0, vS A ys.length c), (1, vI (k + (↑i : Int))), (5, vI (↑i : Int)), (9, vB (decide ((↑i : Int) < (↑ys.length : Int))))] []) (by kernel_rfl) (by kernel_rfl) (by kernel_rfl) ?_
  refine split_at 9 (b := decide ((↑i : Int) < (↑ys.length : Int))) (by kernel_rfl) (by kernel_rfl) ?_ ?_
  · intro h1
    have hlt : i < ys.length := by simpa using h1
    refine go mixed 2000 [0, 1, 5, 12, 13, 15] 0 (St.mk (Rg.sq (bitL 9 189) 4) [kCd (bitL 9 445), KI.block 1, kCd (bitL 7 125), kLp (bitL 5 29), KI.block 0, KI.code [true, true]] [(0, vS A ys.length c), (1, vI (k + (↑i : Int))), (5, vI (↑i : Int)), (12, vS A ys.length c), (13, vI (↑i : Int)), (15, SV.one (SC.v (Value.int IntKind.u8 (IntKind.u8.wrap (k + (↑i : Int))))))] []) (by kernel_rfl) (by kernel_rfl) (by kernel_rfl) ?_
    obtain ⟨g, rfl⟩ := own_g hown (by omega)
    refine index_at 4 (by kernel_rfl : atP _ _ _ 4 false = some (Op.indexAddr 40 (tmpO 12) (tmpO 13), 0, some 16, Rg.sq (bitL 9 189) 5)) (sz := 1) (by kernel_rfl) rfl rfl rfl hlt (fun L w1 hs => ⟨_, rfl⟩) ?_
    intro a2 ha2; cases ha2
    refine go mixed 2000 [0, 1, 5, 15, 16] 0 (St.mk (Rg.sq (bitL 9 189) 5) [kCd (bitL 9 445), KI.block 1, kCd (bitL 7 125), kLp (bitL 5 29), KI.block 0, KI.code [true, true]] [(0, vS (some (Addr.mk g 0 none)) ys.length c), (1, vI (k + (↑i : Int))), (5, vI (↑i : Int)), (15, SV.one (SC.v (Value.int IntKind.u8 (IntKind.u8.wrap (k + (↑i : Int)))))), (16, vP ((Addr.mk g 0 none).add (i * 1)))] []) (by kernel_rfl) (by kernel_rfl) (by kernel_rfl) ?_
    refine store_el (A := []) (d := kU8) (y := IntKind.u8.wrap (k + (i : Int))) (by kernel_rfl : atB _ _ _ false = some (Op.store 5 (tmpO 16) (tmpO 15), 0, none, Rg.sq (bitL 9 189) 6)) (by kernel_rfl) rfl rfl rfl rfl rfl (by simp [mkB]; omega) (fun _ _ _ => rfl) ?_
    refine go mixed 2000 [0, 1, 5] 0 (St.mk Rg.no [kLp (bitL 5 29), KI.block 0, KI.code [true, true]] [(0, vS (some (Addr.mk g 0 none)) ys.length c), (1, vI (IntKind.i64.wrap (k + (↑i : Int) + 1))), (5, vI (IntKind.i64.wrap ((↑i : Int) + 1)))] []) (by kernel_rfl) (by kernel_rfl) (by kernel_rfl) ?_
    rw [wrap_succ (by omega), mk_step ys k hlt, show IntKind.i64.wrap (k + (i : Int) + 1) = k + ((i + 1 : Nat) : Int) by rw [IntKind.wrap_i64]; omega]
    exact ih (i + 1) hlt (by omega)
  · intro h1
    refine go mixed 2000 [4] 0 (St.mk Rg.no [kCd (bitL 3 7)] [(4, vI (k + (↑i : Int)))] []) (by kernel_rfl) (by kernel_rfl) (by kernel_rfl) ?_
    refine ret_ok (vs := [vI (k + (↑i : Int))]) (by kernel_rfl) ?_
    intro L w1 hs
    have hi2 : i = ys.length := by
      have : ¬ i < ys.length := by simpa using h1
      omega
    subst hi2
    simp only [List.drop_length, List.append_nil] at hs
    exact ⟨rfl, hs.outm (As := [_])⟩

theorem markIntS_ok (ys : List Int) (A : Option Addr) (c : Nat) (k : Int) (w : World) (S : Nat → Prop) (h : sepL [rowA 3 kI64 ys (.slice A ys.length c)] w.heap S) (hS : ∀ b, S b → b < w.heap.size) (hl : ys.length ≤ 1048576) (hk : 0 ≤ k ∧ k ≤ 1099511627776) :
    Calls Try.prog 32 #[.slice A ys.length c, .int .i64 k] w fun e w' => e = .returned (.int .i64 (k + ys.length)) ∧ Mut w w' S [rowA 3 kI64 (mkN ys.length k) (.slice A ys.length c)] := by
  have hown := rowA_holds.1 (sepL_one h)
  refine enter (args := [.one (.v (.slice A ys.length c)), .one (.v (.int .i64 k))]) Try.func32 (c := bodyOf Try.f32) rfl rfl (start_LOK _) (start_mut h hS) ?_
  refine go mixed 2000 [0, 1, 5] 0 (St.mk Rg.no [kLp (bitL 5 29), KI.block 0, KI.code [true, true]] [(0, vS A ys.length c), (1, vI k), (5, vI 0)] []) (by kernel_rfl) (by kernel_rfl) (by kernel_rfl) ?_
  refine loop_at (ι := Nat) (fun i => [(1, .one (.v (.int .i64 (k + (i : Int))))), (5, .one (.v (.int .i64 i)))]) (fun _ => []) (fun i => [rowA 3 kI64 (mkN i k ++ ys.drop i) (.slice A ys.length c), oldX w S]) (fun i => i ≤ ys.length) (fun i => ys.length - i) 0 (by simp [updTm, lk]; exact ⟨rfl, rfl⟩) rfl (by simp [mkN]) (Nat.zero_le _) ?_
  intro i hi ih
  refine go mixed 2000 [0, 1, 5, 9] 0 (St.mk Rg.no [kCd (bitL 7 93), kCd (bitL 6 61), kLp (bitL 5 29), KI.block 0, KI.code [true, true]] [(0, vS A ys.length c), (1, vI (k + (↑i : Int))), (5, vI (↑i : Int)), (9, vB (decide ((↑i : Int) < (↑ys.length : Int))))] []) (by kernel_rfl) (by kernel_rfl) (by kernel_rfl) ?_
  refine split_at 9 (b := decide ((↑i : Int) < (↑ys.length : Int))) (by kernel_rfl) (by kernel_rfl) ?_ ?_
  · intro h1
    have hlt : i < ys.length := by simpa using h1
    refine go mixed 2000 [0, 1, 5, 12, 13, 14] 0 (St.mk (Rg.sq (bitL 9 189) 3) [kCd (bitL 9 445), KI.block 1, kCd (bitL 7 125), kLp (bitL 5 29), KI.block 0, KI.code [true, true]] [(0, vS A ys.length c), (1, vI (k + (↑i : Int))), (5, vI (↑i : Int)), (12, vS A ys.length c), (13, vI (↑i : Int)), (14, vI (k + (↑i : Int)))] []) (by kernel_rfl) (by kernel_rfl) (by kernel_rfl) ?_
    obtain ⟨g, rfl⟩ := own_g hown (by omega)
    refine index_at 3 (by kernel_rfl : atP _ _ _ 3 false = some (Op.indexAddr 44 (tmpO 12) (tmpO 13), 0, some 15, Rg.sq (bitL 9 189) 4)) (sz := 1) (by kernel_rfl) rfl rfl rfl hlt (fun L w1 hs => ⟨_, rfl⟩) ?_
    intro a2 ha2; cases ha2
    refine go mixed 2000 [0, 1, 5, 14, 15] 0 (St.mk (Rg.sq (bitL 9 189) 4) [kCd (bitL 9 445), KI.block 1, kCd (bitL 7 125), kLp (bitL 5 29), KI.block 0, KI.code [true, true]] [(0, vS (some (Addr.mk g 0 none)) ys.length c), (1, vI (k + (↑i : Int))), (5, vI (↑i : Int)), (14, vI (k + (↑i : Int))), (15, vP ((Addr.mk g 0 none).add (i * 1)))] []) (by kernel_rfl) (by kernel_rfl) (by kernel_rfl) ?_
    refine store_el (A := []) (d := kI64) (y := k + (i : Int)) (by kernel_rfl : atB _ _ _ false = some (Op.store 3 (tmpO 15) (tmpO 14), 0, none, Rg.sq (bitL 9 189) 5)) (by kernel_rfl) rfl rfl rfl rfl rfl (by simp [mkN]; omega) (fun _ _ _ => rfl) ?_
    refine go mixed 2000 [0, 1, 5] 0 (St.mk Rg.no [kLp (bitL 5 29), KI.block 0, KI.code [true, true]] [(0, vS (some (Addr.mk g 0 none)) ys.length c), (1, vI (IntKind.i64.wrap (k + (↑i : Int) + 1))), (5, vI (IntKind.i64.wrap ((↑i : Int) + 1)))] []) (by kernel_rfl) (by kernel_rfl) (by kernel_rfl) ?_
    rw [wrap_succ (by omega), mkN_step ys k hlt, show IntKind.i64.wrap (k + (i : Int) + 1) = k + ((i + 1 : Nat) : Int) by rw [IntKind.wrap_i64]; omega]
    exact ih (i + 1) hlt (by omega)
  · intro h1
    refine go mixed 2000 [4] 0 (St.mk Rg.no [kCd (bitL 3 7)] [(4, vI (k + (↑i : Int)))] []) (by kernel_rfl) (by kernel_rfl) (by kernel_rfl) ?_
    refine ret_ok (vs := [vI (k + (↑i : Int))]) (by kernel_rfl) ?_
    intro L w1 hs
    have hi2 : i = ys.length := by
      have : ¬ i < ys.length := by simpa using h1
      omega
    subst hi2
    simp only [List.drop_length, List.append_nil] at hs
    exact ⟨rfl, hs.outm (As := [_])⟩

theorem heldByteS_ok (xs : List Int) (vxs : Value) (k : Int) (w : World) (hxs : rdRow kU8 w.heap xs vxs) (hx : xs = mkB xs.length k) (hl : xs.length ≤ 1048576) (hk : 0 ≤ k ∧ k ≤ 1099511627776) :
    Calls Try.prog 63 #[vxs, .int .i64 k] w fun e w' => e = .returned (.int .i64 (k + xs.length)) ∧ Below w.heap.size w w' := by
  obtain ⟨Axs, cxs, rfl⟩ := rdRow_form hxs
  refine enter (args := [.one (.v (.slice Axs xs.length cxs)), .one (.v (.int .i64 k))]) Try.func63 (c := bodyOf Try.f63) rfl rfl (start_LOK _) (start_old w) ?_
  have hnk : ∀ i : Nat, i < xs.length → IntKind.i64.wrap (k + (i : Int) + 1) = k + ((i + 1 : Nat) : Int) := fun i hi => by rw [IntKind.wrap_i64]; omega
  refine go mixed 2000 [0, 1, 5] 0 (St.mk Rg.no [kLp (bitL 5 29), KI.block 0, KI.code [true, true]] [(0, vS Axs xs.length cxs), (1, vI k), (5, vI 0)] []) (by kernel_rfl) (by kernel_rfl) (by kernel_rfl) ?_
  refine loop_at (ι := Nat) (fun i => [(1, .one (.v (.int .i64 (k + (i : Int))))), (5, .one (.v (.int .i64 i)))]) (fun _ => []) (fun i => [oldA w]) (fun i => i ≤ xs.length) (fun i => xs.length - i) 0 (by simp [updTm, lk]; exact ⟨rfl, rfl⟩) rfl rfl (Nat.zero_le _) ?_
  intro i hi ih
  rcases Nat.lt_or_ge i xs.length with hlt | hge
  · have nf_1 := hnk i hlt
    have hm : xs[i] = IntKind.u8.wrap (k + (i : Int)) := (List.getElem_of_eq hx hlt).trans (mkB_get _)
    refine go mixed 2000 [0, 1, 5, 9] 0 (St.mk Rg.no [kCd (bitL 7 93), kCd (bitL 6 61), kLp (bitL 5 29), KI.block 0, KI.code [true, true]] [(0, vS Axs xs.length cxs), (1, vI (k + (↑i : Int))), (5, vI (↑i : Int)), (9, vB (decide ((↑i : Int) < (↑xs.length : Int))))] []) (by kernel_rfl) (by kernel_rfl) (by kernel_rfl) ?_
    refine split_at 9 (b := decide ((↑i : Int) < (↑xs.length : Int))) (by kernel_rfl) (by kernel_rfl) ?_ ?_
    · intro hb1
      replace hb1 := of_decide_eq_true hb1
      refine go mixed 2000 [0, 1, 5, 12, 13] 0 (St.mk (Rg.sq (bitL 10 189) 2) [kCd (bitL 10 701), kCd (bitL 9 445), KI.block 1, kCd (bitL 7 125), kLp (bitL 5 29), KI.block 0, KI.code [true, true]] [(0, vS Axs xs.length cxs), (1, vI (k + (↑i : Int))), (5, vI (↑i : Int)), (12, vS Axs xs.length cxs), (13, vI (↑i : Int))] []) (by kernel_rfl) (by kernel_rfl) (by kernel_rfl) ?_
      refine index_at 2 (by kernel_rfl : atP _ _ _ 2 false = some (Op.indexAddr 40 (tmpO 12) (tmpO 13), 0, some 14, Rg.sq (bitL 10 189) 3)) (ni := i) (sz := 1) (by kernel_rfl) rfl rfl rfl (by assumption) (fun L w1 hs => rd_some (i := i) (rdRow_ext (hs.old 0 rfl) hxs) (by assumption)) ?_
      intro a_1 ha_1
      cases ha_1
      refine go mixed 2000 [0, 1, 5, 14] 0 (St.mk (Rg.sq (bitL 10 189) 3) [kCd (bitL 10 701), kCd (bitL 9 445), KI.block 1, kCd (bitL 7 125), kLp (bitL 5 29), KI.block 0, KI.code [true, true]] [(0, vS (some a_1) xs.length cxs), (1, vI (k + (↑i : Int))), (5, vI (↑i : Int)), (14, vP (a_1.add (i * 1)))] []) (by kernel_rfl) (by kernel_rfl) (by kernel_rfl) ?_
      refine load_one 3 (by kernel_rfl : atP _ _ _ 3 true = some (Op.load 5 (tmpO 14), 5, some 15, Rg.sq (bitL 10 189) 4)) (n := 1) (by kernel_rfl) rfl ?_
      intro L w1 hs
      refine ⟨.v (Value.int IntKind.u8 ((xs)[i]'(by assumption))), rd_sc (rdRow_ext (hs.old 0 rfl) hxs) (by assumption), ?_⟩
      clear hs
      refine go mixed 2000 [0, 1, 5, 18] 0 (St.mk Rg.no [kCd (bitL 10 701), kCd (bitL 9 445), KI.block 1, kCd (bitL 7 125), kLp (bitL 5 29), KI.block 0, KI.code [true, true]] [(0, vS (some a_1) xs.length cxs), (1, vI (k + (↑i : Int))), (5, vI (↑i : Int)), (18, vB (xs[i] != IntKind.u8.wrap (k + (↑i : Int))))] []) (by kernel_rfl) (by kernel_rfl) (by kernel_rfl) ?_
      refine split_at 18 (b := xs[i] != IntKind.u8.wrap (k + (↑i : Int))) (by kernel_rfl) (by kernel_rfl) ?_ ?_
      · intro hb2
        replace hb2 := bne_iff_ne.1 hb2
        (exfalso; omega)
      · intro hb2
        replace hb2 := bne_eq_false_iff_eq.1 hb2
        refine go mixed 2000 [0, 1, 5] 0 (St.mk Rg.no [kLp (bitL 5 29), KI.block 0, KI.code [true, true]] [(0, vS (some a_1) xs.length cxs), (1, vI (IntKind.i64.wrap (k + (↑i : Int) + 1))), (5, vI (IntKind.i64.wrap ((↑i : Int) + 1)))] []) (by kernel_rfl) (by kernel_rfl) (by kernel_rfl) ?_
        simp only [fl_ne_self, fl_eq_self, fl_eq0, fl_ne0, fl_gt0, fl_lt0, nf_1]
        rw [wrap_succ (by omega)]; exact ih (i + 1) hlt (by omega)
    · intro hb1
      replace hb1 := of_decide_eq_false hb1
      (exfalso; omega)
  · obtain rfl : i = xs.length := by omega
    refine go mixed 2000 [0, 1, 5, 9] 0 (St.mk Rg.no [kCd (bitL 7 93), kCd (bitL 6 61), kLp (bitL 5 29), KI.block 0, KI.code [true, true]] [(0, vS Axs xs.length cxs), (1, vI (k + (↑xs.length : Int))), (5, vI (↑xs.length : Int)), (9, vB (decide ((↑xs.length : Int) < (↑xs.length : Int))))] []) (by kernel_rfl) (by kernel_rfl) (by kernel_rfl) ?_
    refine split_at 9 (b := decide ((↑xs.length : Int) < (↑xs.length : Int))) (by kernel_rfl) (by kernel_rfl) ?_ ?_
    · intro hb1
      replace hb1 := of_decide_eq_true hb1
      (exfalso; omega)
    · intro hb1
      replace hb1 := of_decide_eq_false hb1
      refine go mixed 2000 [4] 0 (St.mk Rg.no [kCd (bitL 3 7)] [(4, vI (k + (↑xs.length : Int)))] []) (by kernel_rfl) (by kernel_rfl) (by kernel_rfl) ?_
      refine ret_ok (vs := [vI (k + (↑xs.length : Int))]) (by kernel_rfl) ?_
      intro L w1 hs
      exact ⟨rfl, hs.out0⟩

end Go.Proofs.Ytgleoebogikooaa.Dk
