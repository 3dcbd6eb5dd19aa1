/- Walks of functions of the program: what each call returns and what it leaves in memory. Conditions: those that each theorem names. -/
import Derived.Test.YtgleoebogikooaaM3
namespace Go.Proofs.Ytgleoebogikooaa.Dk
set_option linter.unusedVariables false
set_option linter.unusedSimpArgs false
open Go.Proofs.Ytgleoebogikooaa.Sx Go.Proofs Go.RowKit
set_option maxRecDepth 100000
set_option maxHeartbeats 1000000
theorem markEntryS_ok (xs : List En) (A : Option Addr) (c : Nat) (k : Int) (w : World) (S : Nat → Prop) (h : sepL [rowA 101 kEn xs (.slice A xs.length c)] w.heap S) (hS : ∀ b, S b → b < w.heap.size) (hl : xs.length ≤ 1048576) (hn : nEs xs ≤ 68719476736) (hkl : ∀ x ∈ xs, x.key.t.length ≤ 1048576) (hk : 0 ≤ k ∧ k ≤ 1073741824) :
    Calls Try.prog 23 #[.slice A xs.length c, .int .i64 k] w fun e w' => e = .returned (.int .i64 (k + nEs xs)) ∧ Mut w w' S [rowA 101 kEn (mkEs xs k) (.slice A xs.length c)] := by
  have hown := rowA_holds.1 (sepL_one h)
  refine enter (args := [.one (.v (.slice A xs.length c)), .one (.v (.int .i64 k))]) Try.func23 (c := bodyOf Try.f23) rfl rfl (start_LOK _) (start_mut h hS) ?_
  refine go mixed 2000 [0, 1, 5] 0 (St.mk Rg.no [kLp (bitL 5 29), KI.block 0, KI.code [true, true]] [(0, vS A xs.length c), (1, vI k), (5, vI 0)] []) (by kernel_rfl) (by kernel_rfl) (by kernel_rfl) ?_
  refine loop_at (ι := Nat) (fun i => [(1, .one (.v (.int .i64 (k + (nEs (xs.take i) : Int))))), (5, .one (.v (.int .i64 i)))]) (fun _ => []) (fun i => [rowA 101 kEn (mkEs (xs.take i) k ++ xs.drop i) (.slice A xs.length c), oldX w S]) (fun i => i ≤ xs.length) (fun i => xs.length - i) 0 (by simp [updTm, lk, nEs]; exact ⟨rfl, rfl⟩) rfl (by simp [mkEs]) (Nat.zero_le _) ?_
  intro i hi ih
  refine go mixed 2000 [0, 1, 5, 9] 0 (St.mk Rg.no [kCd (bitL 7 93), kCd (bitL 6 61), kLp (bitL 5 29), KI.block 0, KI.code [true, true]] [(0, vS A xs.length c), (1, vI (k + (↑(nEs (List.take i xs)) : Int))), (5, vI (↑i : Int)), (9, vB (decide ((↑i : Int) < (↑xs.length : Int))))] []) (by kernel_rfl) (by kernel_rfl) (by kernel_rfl) ?_
  refine split_at 9 (b := decide ((↑i : Int) < (↑xs.length : Int))) (by kernel_rfl) (by kernel_rfl) ?_ ?_
  · intro h1
    have hlt : i < xs.length := by simpa using h1
    have hle := nEs_take_le xs i
    have hle2 := nEs_take hlt
    have hle3 := nEs_take_le xs (i + 1)
    have hlm : i < (mkEs (xs.take i) k ++ xs.drop i).length := by simp [mkEs_len]; omega
    have htl := hkl _ (List.getElem_mem hlt)
    obtain ⟨K, hK⟩ : ∃ K : Int, K = k + (nEs (xs.take i) : Int) := ⟨_, rfl⟩
    rw [← hK]
    have w1_ : IntKind.i64.wrap (K + 1) = K + 1 := by rw [IntKind.wrap_i64]; omega
    have w2_ : IntKind.i64.wrap (K + 1 + 1) = K + 1 + 1 := by rw [IntKind.wrap_i64]; omega
    have w3_ : IntKind.i64.wrap (K + 1 + 1 + 1) = K + 1 + 1 + 1 := by rw [IntKind.wrap_i64]; omega
    obtain ⟨g, rfl⟩ := own_g hown (by omega)
    refine go mixed 2000 [0, 1, 5, 12, 13, 14] 0 (St.mk (Rg.sq (bitL 9 189) 3) [kCd (bitL 9 445), KI.block 1, kCd (bitL 7 125), kLp (bitL 5 29), KI.block 0, KI.code [true, true]] [(0, vS (some (Addr.mk g 0 none)) xs.length c), (1, vI K), (5, vI (↑i : Int)), (12, vS (some (Addr.mk g 0 none)) xs.length c), (13, vI (↑i : Int)), (14, vI K)] []) (by kernel_rfl) (by kernel_rfl) (by kernel_rfl) ?_
    refine index_at 3 (by kernel_rfl : atP _ _ _ 3 false = some (Op.indexAddr 34 (tmpO 12) (tmpO 13), 0, some 15, Rg.sq (bitL 9 189) 4)) (sz := 5) (by kernel_rfl) rfl rfl rfl hlt (fun L w1 hs => ⟨_, rfl⟩) ?_
    intro a2 ha2; cases ha2
    refine go mixed 2000 [0, 1, 5, 14, 17] 0 (St.mk (Rg.sq (bitL 9 189) 6) [kCd (bitL 9 445), KI.block 1, kCd (bitL 7 125), kLp (bitL 5 29), KI.block 0, KI.code [true, true]] [(0, vS (some (Addr.mk g 0 none)) xs.length c), (1, vI K), (5, vI (↑i : Int)), (14, vI K), (17, vP ((((Addr.mk g 0 none).add (i * 5)).add 0).add 0))] []) (by kernel_rfl) (by kernel_rfl) (by kernel_rfl) ?_
    refine store_part (A := []) (d := kEn) (o := 0) (i := i) (y := ⟨⟨K, xs[i].key.n, xs[i].key.f, xs[i].key.t⟩, xs[i].id⟩) (by kernel_rfl : atB _ _ _ false = some (Op.store 3 (tmpO 17) (tmpO 14), 0, none, Rg.sq (bitL 9 189) 7)) (by kernel_rfl) rfl rfl (by simp only [add_at, Nat.add_zero]; rfl) rfl rfl (by simp [Value.oneCell']) (by exact hlm) (Nat.le_of_ble_eq_true rfl) (fun h S1 S2 cs ho _ _ => by rw [mid_get hlt] at ho; exact kEn.mono (fun b hb => .inl hb) (kEn_put0 ho)) ?_
    refine go mixed 2000 [0, 1, 5, 20, 21, 22] 0 (St.mk (Rg.sq (bitL 11 957) 3) [kCd (bitL 11 1981), KI.block 1, kCd (bitL 7 125), kLp (bitL 5 29), KI.block 0, KI.code [true, true]] [(0, vS (some (Addr.mk g 0 none)) xs.length c), (1, vI (IntKind.i64.wrap (K + 1))), (5, vI (↑i : Int)), (20, vS (some (Addr.mk g 0 none)) xs.length c), (21, vI (↑i : Int)), (22, vI (IntKind.i64.wrap (K + 1)))] []) (by kernel_rfl) (by kernel_rfl) (by kernel_rfl) ?_
    rw [w1_]
    refine index_at 3 (by kernel_rfl : atP _ _ _ 3 false = some (Op.indexAddr 34 (tmpO 20) (tmpO 21), 0, some 23, Rg.sq (bitL 11 957) 4)) (sz := 5) (by kernel_rfl) rfl rfl rfl hlt (fun L w1 hs => ⟨_, rfl⟩) ?_
    intro a2 ha2; cases ha2
    refine go mixed 2000 [0, 1, 5, 22, 25] 0 (St.mk (Rg.sq (bitL 11 957) 6) [kCd (bitL 11 1981), KI.block 1, kCd (bitL 7 125), kLp (bitL 5 29), KI.block 0, KI.code [true, true]] [(0, vS (some (Addr.mk g 0 none)) xs.length c), (1, vI (K + 1)), (5, vI (↑i : Int)), (22, vI (K + 1)), (25, vP ((((Addr.mk g 0 none).add (i * 5)).add 0).add 1))] []) (by kernel_rfl) (by kernel_rfl) (by kernel_rfl) ?_
    refine store_part (A := []) (d := kEn) (o := 1) (i := i) (y := ⟨⟨K, K + 1, xs[i].key.f, xs[i].key.t⟩, xs[i].id⟩) (by kernel_rfl : atB _ _ _ false = some (Op.store 3 (tmpO 25) (tmpO 22), 0, none, Rg.sq (bitL 11 957) 7)) (by kernel_rfl) rfl rfl (by simp only [add_at, Nat.add_zero]; rfl) rfl rfl (by simp [Value.oneCell']) (by rw [List.length_set]; exact hlm) (Nat.le_of_ble_eq_true rfl) (fun h S1 S2 cs ho _ _ => by rw [List.getElem_set_self] at ho; exact kEn.mono (fun b hb => .inl hb) (kEn_put1 ho)) ?_
    rw [List.set_set]
    refine go mixed 2000 [0, 1, 5, 28, 29, 31] 0 (St.mk (Rg.sq (bitL 13 4029) 4) [kCd (bitL 13 8125), KI.block 1, kCd (bitL 7 125), kLp (bitL 5 29), KI.block 0, KI.code [true, true]] [(0, vS (some (Addr.mk g 0 none)) xs.length c), (1, vI (IntKind.i64.wrap (K + 1 + 1))), (5, vI (↑i : Int)), (28, vS (some (Addr.mk g 0 none)) xs.length c), (29, vI (↑i : Int)), (31, SV.one (cF (FloatKind.f64.nearest (IntKind.i64.wrap (K + 1 + 1)))))] []) (by kernel_rfl) (by kernel_rfl) (by kernel_rfl) ?_
    rw [w2_]
    refine index_at 4 (by kernel_rfl : atP _ _ _ 4 false = some (Op.indexAddr 34 (tmpO 28) (tmpO 29), 0, some 32, Rg.sq (bitL 13 4029) 5)) (sz := 5) (by kernel_rfl) rfl rfl rfl hlt (fun L w1 hs => ⟨_, rfl⟩) ?_
    intro a2 ha2; cases ha2
    refine go mixed 2000 [0, 1, 5, 31, 34] 0 (St.mk (Rg.sq (bitL 13 4029) 7) [kCd (bitL 13 8125), KI.block 1, kCd (bitL 7 125), kLp (bitL 5 29), KI.block 0, KI.code [true, true]] [(0, vS (some (Addr.mk g 0 none)) xs.length c), (1, vI (K + 1 + 1)), (5, vI (↑i : Int)), (31, SV.one (cF (FloatKind.f64.nearest (K + 1 + 1)))), (34, vP ((((Addr.mk g 0 none).add (i * 5)).add 0).add 2))] []) (by kernel_rfl) (by kernel_rfl) (by kernel_rfl) ?_
    refine store_part (A := []) (d := kEn) (o := 2) (i := i) (y := ⟨⟨K, K + 1, canonF (fI (K + 1 + 1)), xs[i].key.t⟩, xs[i].id⟩) (by kernel_rfl : atB _ _ _ false = some (Op.store 39 (tmpO 34) (tmpO 31), 0, none, Rg.sq (bitL 13 4029) 8)) (by kernel_rfl) rfl rfl (by simp only [add_at, Nat.add_zero]; rfl) rfl rfl (by simp [Value.oneCell']) (by rw [List.length_set]; exact hlm) (Nat.le_of_ble_eq_true rfl) (fun h S1 S2 cs ho _ _ => by rw [List.getElem_set_self] at ho; exact kEn.mono (fun b hb => .inl hb) (kEn_put2 (fI_lt (by omega)) ho)) ?_
    rw [List.set_set]
    refine go mixed 2000 [0, 1, 5, 37, 38] 0 (St.mk (Rg.sq (bitL 15 16317) 2) [kCd (bitL 15 32701), KI.block 1, kCd (bitL 7 125), kLp (bitL 5 29), KI.block 0, KI.code [true, true]] [(0, vS (some (Addr.mk g 0 none)) xs.length c), (1, vI (IntKind.i64.wrap (K + 1 + 1 + 1))), (5, vI (↑i : Int)), (37, vS (some (Addr.mk g 0 none)) xs.length c), (38, vI (↑i : Int))] []) (by kernel_rfl) (by kernel_rfl) (by kernel_rfl) ?_
    rw [w3_]
    refine index_at 2 (by kernel_rfl : atP _ _ _ 2 false = some (Op.indexAddr 34 (tmpO 37) (tmpO 38), 0, some 39, Rg.sq (bitL 15 16317) 3)) (sz := 5) (by kernel_rfl) rfl rfl rfl hlt (fun L w1 hs => ⟨_, rfl⟩) ?_
    intro a2 ha2; cases ha2
    refine go mixed 2000 [0, 1, 5, 41] 0 (St.mk (Rg.sq (bitL 15 16317) 5) [kCd (bitL 15 32701), KI.block 1, kCd (bitL 7 125), kLp (bitL 5 29), KI.block 0, KI.code [true, true]] [(0, vS (some (Addr.mk g 0 none)) xs.length c), (1, vI (K + 1 + 1 + 1)), (5, vI (↑i : Int)), (41, vP ((((Addr.mk g 0 none).add (i * 5)).add 0).add 3))] []) (by kernel_rfl) (by kernel_rfl) (by kernel_rfl) ?_
    refine h_focus (by rw [List.length_set]; exact hlm) (fun cs => ?_)
    rw [List.getElem_set_self]
    refine h_el_En ?_
    rintro b A1 c1 rfl hb hc
    simp only at hc
    refine load_one 5 (by kernel_rfl : atP _ _ _ 5 true = some (Op.load 40 (tmpO 41), 40, some 42, Rg.sq (bitL 15 16317) 6)) (n := 1) (by kernel_rfl) rfl ?_
    intro L w1 hs
    obtain ⟨S1, hS1, hh⟩ := hs.at_ 1 rfl
    refine ⟨.v (.slice A1 xs[i].key.t.length c1), by have h9 := hole_cell hh 3 _ rfl; simp only [add_at, Nat.add_zero] at h9 ⊢; exact h9, ?_⟩
    clear hs hh hS1 S1
    refine go mixed 2000 [0, 5, 42, 43] 0 (St.mk (Rg.sq (bitL 15 16317) 7) [kCd (bitL 15 32701), KI.block 1, kCd (bitL 7 125), kLp (bitL 5 29), KI.block 0, KI.code [true, true]] [(0, vS (some (Addr.mk g 0 none)) xs.length c), (5, vI (↑i : Int)), (42, vS A1 xs[i].key.t.length c1), (43, vI (K + 1 + 1 + 1))] []) (by kernel_rfl) (by kernel_rfl) (by kernel_rfl) ?_
    refine call_mut (A := [rowA 5 kU8 xs[i].key.t (.slice A1 xs[i].key.t.length c1)]) (by kernel_rfl : atC _ _ _ false = some (62, [vS A1 xs[i].key.t.length c1, vI (K + 1 + 1 + 1)], some 44, Rg.sq (bitL 15 16317) 8)) (by kernel_rfl) (fun L w1 S1 hs hA hS1 => (markByteS_ok xs[i].key.t A1 c1 _ w1 S1 hA hS1 htl (by omega)).mono ?_)
    rintro e w2 ⟨rfl, hm⟩
    refine ⟨.one (.v (.int .i64 _)), _, rfl, hm, ?_⟩
    clear hm hs hA hS1
    refine go mixed 2000 [0, 1, 5, 45, 46, 47] 0 (St.mk (Rg.sq (bitL 16 32701) 3) [kCd (bitL 16 65469), KI.block 1, kCd (bitL 7 125), kLp (bitL 5 29), KI.block 0, KI.code [true, true]] [(0, vS (some (Addr.mk g 0 none)) xs.length c), (1, vI (K + 1 + 1 + 1 + (↑xs[i].key.t.length : Int))), (5, vI (↑i : Int)), (45, vS (some (Addr.mk g 0 none)) xs.length c), (46, vI (↑i : Int)), (47, vI (K + 1 + 1 + 1 + (↑xs[i].key.t.length : Int)))] []) (by kernel_rfl) (by kernel_rfl) (by kernel_rfl) ?_
    refine h_turn (A := [_]) (B := [elA kEn (⟨⟨K, K + 1, canonF (fI (K + 1 + 1)), mkB xs[i].key.t.length (K + 1 + 1 + 1)⟩, xs[i].id⟩ : En) [.int .i64 K, .int .i64 (K + 1), .float .f64 b, .slice A1 xs[i].key.t.length c1, .int .i64 xs[i].id]]) (fun h S ho => one_el (by have h9 := kEn_own (h := h) (S := S) (Akey_t := A1) (ckey_t := c1) (x := ⟨⟨K, K + 1, canonF (fI (K + 1 + 1)), mkB xs[i].key.t.length (K + 1 + 1 + 1)⟩, xs[i].id⟩) hb hc (by simp only [mkB_len]; exact ho); simp only [mkB_len] at h9; exact h9)) ?_
    refine h_unfocus (d := kEn) ?_
    rw [List.set_set]
    refine index_at 3 (by kernel_rfl : atP _ _ _ 3 false = some (Op.indexAddr 34 (tmpO 45) (tmpO 46), 0, some 48, Rg.sq (bitL 16 32701) 4)) (sz := 5) (by kernel_rfl) rfl rfl rfl hlt (fun L w1 hs => ⟨_, rfl⟩) ?_
    intro a2 ha2; cases ha2
    refine go mixed 2000 [0, 1, 5, 47, 49] 0 (St.mk (Rg.sq (bitL 16 32701) 5) [kCd (bitL 16 65469), KI.block 1, kCd (bitL 7 125), kLp (bitL 5 29), KI.block 0, KI.code [true, true]] [(0, vS (some (Addr.mk g 0 none)) xs.length c), (1, vI (K + 1 + 1 + 1 + (↑xs[i].key.t.length : Int))), (5, vI (↑i : Int)), (47, vI (K + 1 + 1 + 1 + (↑xs[i].key.t.length : Int))), (49, vP (((Addr.mk g 0 none).add (i * 5)).add 4))] []) (by kernel_rfl) (by kernel_rfl) (by kernel_rfl) ?_
    refine store_part (A := []) (d := kEn) (o := 4) (i := i) (y := mkEn xs[i] K) (by kernel_rfl : atB _ _ _ false = some (Op.store 3 (tmpO 49) (tmpO 47), 0, none, Rg.sq (bitL 16 32701) 6)) (by kernel_rfl) rfl rfl (by simp only [add_at, Nat.add_zero]; rfl) rfl rfl (by simp [Value.oneCell']) (by rw [List.length_set]; exact hlm) (Nat.le_of_ble_eq_true rfl) (fun h S1 S2 cs ho _ _ => by rw [List.getElem_set_self] at ho; exact kEn.mono (fun b hb => .inl hb) ((show kEn.ow h S1 (mkEn xs[i] K) _ from by rw [show mkEn xs[i] K = ⟨⟨K, K + 1, canonF (fI (K + 1 + 1)), mkB xs[i].key.t.length (K + 1 + 1 + 1)⟩, K + 1 + 1 + 1 + xs[i].key.t.length⟩ from by unfold mkEn; rw [fI_canon (by omega), show K + 1 + 1 = K + 2 by omega, show K + 2 + 1 = K + 3 by omega]]; exact kEn_put4 ho))) ?_
    rw [List.set_set]
    refine go mixed 2000 [0, 1, 5] 0 (St.mk Rg.no [kLp (bitL 5 29), KI.block 0, KI.code [true, true]] [(0, vS (some (Addr.mk g 0 none)) xs.length c), (1, vI (IntKind.i64.wrap (K + 1 + 1 + 1 + (↑xs[i].key.t.length : Int) + 1))), (5, vI (IntKind.i64.wrap ((↑i : Int) + 1)))] []) (by kernel_rfl) (by kernel_rfl) (by kernel_rfl) ?_
    rw [hK, mkEs_step xs k hlt, wrap_succ (by omega)]
    rw [show IntKind.i64.wrap (k + (nEs (xs.take i) : Int) + 1 + 1 + 1 + (xs[i].key.t.length : Int) + 1) = k + (nEs (xs.take (i + 1)) : Int) by rw [IntKind.wrap_i64]; omega]
    exact ih (i + 1) hlt (by omega)
  · intro h1
    refine go mixed 2000 [4] 0 (St.mk Rg.no [kCd (bitL 3 7)] [(4, vI (k + (↑(nEs (List.take i xs)) : Int)))] []) (by kernel_rfl) (by kernel_rfl) (by kernel_rfl) ?_
    refine ret_ok (vs := [vI (k + (↑(nEs (List.take i xs)) : Int))]) (by kernel_rfl) ?_
    intro L w1 hs
    have hi2 : i = xs.length := by
      have : ¬ i < xs.length := by simpa using h1
      omega
    subst hi2
    simp only [List.drop_length, List.append_nil, List.take_length] at hs ⊢
    exact ⟨rfl, hs.outm (As := [_])⟩

end Go.Proofs.Ytgleoebogikooaa.Dk
