/- Walks of functions of the program: what each call returns and what it leaves in memory. Conditions: those that each theorem names. -/
import Derived.Test.YtgleoebogikooaaGreatT6
namespace Go.Proofs.YtgleoebogikooaaGreat.Dk
set_option linter.unusedVariables false
set_option linter.unusedSimpArgs false
open Go.Proofs.YtgleoebogikooaaGreat.Sx Go.Proofs Go.RowKit
set_option maxRecDepth 100000
set_option maxHeartbeats 1000000
theorem markRowS_ok (xs : List Rw) (A : Option Addr) (c : Nat) (k : Int) (w : World) (S : Nat → Prop) (h : sepL [rowA 64 kRw xs (.slice A xs.length c)] w.heap S) (hS : ∀ b, S b → b < w.heap.size) (hl : xs.length ≤ 1048576) (hn : nRs xs ≤ 268435456) (hkl : ∀ x ∈ xs, x.tuple.key.t.length ≤ 40 ∧ x.tuple.value.t.length ≤ 40) (hk : 0 ≤ k ∧ k ≤ 1048576) :
  Calls Tryz.prog 13 #[.slice A xs.length c, .int .i64 k] w fun e w' => e = .returned (.int .i64 (k + nRs xs)) ∧ Mut w w' S [rowA 64 kRw (mkRs xs k) (.slice A xs.length c)] := by
 have hown := rowA_holds.1 (sepL_one h)
 refine enter (args := [.one (.v (.slice A xs.length c)), .one (.v (.int .i64 k))]) Tryz.func13 (c := bodyOf Tryz.f13) rfl rfl (start_LOK _) (start_mut h hS) ?_
 refine gn 0 Rg.no [kLp (bitL 5 29), KI.block 0, KI.code [true, true]] [(0, vS A xs.length c), (1, vI k), (5, vI 0)] [] ?_
 refine loop_at (ι := Nat) (fun i => [(1, .one (.v (.int .i64 (k + (nRs (xs.take i) : Int))))), (5, .one (.v (.int .i64 i)))]) (fun _ => []) (fun i => [rowA 64 kRw (mkRs (xs.take i) k ++ xs.drop i) (.slice A xs.length c), oldX w S]) (fun i => i ≤ xs.length) (fun i => xs.length - i) 0 (by simp [updTm, lk, nRs]; exact ⟨rfl, rfl⟩) rfl (by simp [mkRs]) (Nat.zero_le _) ?_
 intro i hi ih
 refine gn 0 Rg.no [kCd (bitL 7 93), kCd (bitL 6 61), kLp (bitL 5 29), KI.block 0, KI.code [true, true]] [(0, vS A xs.length c), (1, vI (k + (↑(nRs (List.take i xs)) : Int))), (5, vI (↑i : Int)), (9, vB (decide ((↑i : Int) < (↑xs.length : Int))))] [] ?_
 refine spl 9 (decide ((↑i : Int) < (↑xs.length : Int))) ?_ ?_
 ·intro h1
  have hlt : i < xs.length := by simpa using h1
  have hle := nRs_take_le xs i
  have hle2 := nRs_take hlt
  have hle3 := nRs_take_le xs (i + 1)
  have hlm : i < (mkRs (xs.take i) k ++ xs.drop i).length := by simp [mkRs_len]; omega
  have hmid := midR_get (k := k) hlt hlm
  obtain ⟨hk1, hk2⟩ := hkl _ (List.getElem_mem hlt)
  obtain ⟨r, hr⟩ : ∃ r, xs[i] = r := ⟨_, rfl⟩
  rw [hr] at hle2 hmid hk1 hk2
  have hnr : nRw r = 10 + r.tuple.key.t.length + r.tuple.value.t.length := rfl
  obtain ⟨g, rfl⟩ := own_g hown (by omega)
  obtain ⟨K0, hK0⟩ : ∃ K : Int, K = k + (nRs (xs.take i) : Int) := ⟨_, rfl⟩
  rw [← hK0]
  obtain ⟨K1, hK1⟩ : ∃ K : Int, K = K0 + 1 := ⟨_, rfl⟩
  have w1_ : IntKind.i64.wrap (K0 + 1) = K1 := by rw [IntKind.wrap_i64]; omega
  obtain ⟨K2, hK2⟩ : ∃ K : Int, K = K1 + 1 := ⟨_, rfl⟩
  have w2_ : IntKind.i64.wrap (K1 + 1) = K2 := by rw [IntKind.wrap_i64]; omega
  obtain ⟨K3, hK3⟩ : ∃ K : Int, K = K2 + 1 := ⟨_, rfl⟩
  have w3_ : IntKind.i64.wrap (K2 + 1) = K3 := by rw [IntKind.wrap_i64]; omega
  obtain ⟨K4, hK4⟩ : ∃ K : Int, K = K3 + 1 := ⟨_, rfl⟩
  have w4_ : IntKind.i64.wrap (K3 + 1) = K4 := by rw [IntKind.wrap_i64]; omega
  obtain ⟨K5, hK5⟩ : ∃ K : Int, K = K4 + 1 := ⟨_, rfl⟩
  have w5_ : IntKind.i64.wrap (K4 + 1) = K5 := by rw [IntKind.wrap_i64]; omega
  obtain ⟨K6, hK6⟩ : ∃ K : Int, K = K5 + 1 := ⟨_, rfl⟩
  have w6_ : IntKind.i64.wrap (K5 + 1) = K6 := by rw [IntKind.wrap_i64]; omega
  obtain ⟨K7, hK7⟩ : ∃ K : Int, K = K6 + 1 := ⟨_, rfl⟩
  have w7_ : IntKind.i64.wrap (K6 + 1) = K7 := by rw [IntKind.wrap_i64]; omega
  obtain ⟨K8, hK8⟩ : ∃ K : Int, K = K7 + (r.tuple.key.t.length : Int) := ⟨_, rfl⟩
  obtain ⟨K9, hK9⟩ : ∃ K : Int, K = K8 + 1 := ⟨_, rfl⟩
  have w9_ : IntKind.i64.wrap (K8 + 1) = K9 := by rw [IntKind.wrap_i64]; omega
  obtain ⟨K10, hK10⟩ : ∃ K : Int, K = K9 + 1 := ⟨_, rfl⟩
  have w10_ : IntKind.i64.wrap (K9 + 1) = K10 := by rw [IntKind.wrap_i64]; omega
  obtain ⟨K11, hK11⟩ : ∃ K : Int, K = K10 + 1 := ⟨_, rfl⟩
  have w11_ : IntKind.i64.wrap (K10 + 1) = K11 := by rw [IntKind.wrap_i64]; omega
  refine gn 0 (Rg.sq (bitL 9 189) 3) [kCd (bitL 9 445), KI.block 1, kCd (bitL 7 125), kLp (bitL 5 29), KI.block 0, KI.code [true, true]] [(0, vS (some (Addr.mk g 0 none)) xs.length c), (1, vI K0), (5, vI (↑i : Int)), (12, vS (some (Addr.mk g 0 none)) xs.length c), (13, vI (↑i : Int)), (14, vI K0)] [] ?_
  refine index_at 3 (by kernel_rfl : atP _ _ _ 3 false = some (Op.indexAddr 26 (tmpO 12) (tmpO 13), 0, some 15, Rg.sq (bitL 9 189) 4)) (sz := 12) (by kernel_rfl) rfl rfl rfl hlt (fun L w1 hs => ⟨_, rfl⟩) ?_
  intro a2 ha2; cases ha2
  refine gn 0 (Rg.sq (bitL 9 189) 5) [kCd (bitL 9 445), KI.block 1, kCd (bitL 7 125), kLp (bitL 5 29), KI.block 0, KI.code [true, true]] [(0, vS (some (Addr.mk g 0 none)) xs.length c), (1, vI K0), (5, vI (↑i : Int)), (14, vI K0), (16, vP (((Addr.mk g 0 none).add (i * 12)).add 0))] [] ?_
  refine store_part (A := []) (d := kRw) (o := 0) (i := i) (y := ⟨K0, r.slot, ⟨r.tuple.xmin, r.tuple.xmax, ⟨r.tuple.key.kind, r.tuple.key.n, r.tuple.key.f, r.tuple.key.t⟩, ⟨r.tuple.value.kind, r.tuple.value.n, r.tuple.value.f, r.tuple.value.t⟩⟩⟩) (by kernel_rfl : atB _ _ _ false = some (Op.store 3 (tmpO 16) (tmpO 14), 0, none, Rg.sq (bitL 9 189) 6)) (by kernel_rfl) rfl rfl (by simp only [add_at, Nat.add_zero]; rfl) rfl rfl (by simp [Value.oneCell']) (by exact hlm) (Nat.le_of_ble_eq_true rfl) (fun h S1 S2 cs ho _ _ => by rw [hmid] at ho; exact kRw.mono (fun b hb => .inl hb) (kRw_put0 ho)) ?_
  refine gn 0 (Rg.sq (bitL 11 957) 3) [kCd (bitL 11 1981), KI.block 1, kCd (bitL 7 125), kLp (bitL 5 29), KI.block 0, KI.code [true, true]] [(0, vS (some (Addr.mk g 0 none)) xs.length c), (1, vI (IntKind.i64.wrap (K0 + 1))), (5, vI (↑i : Int)), (19, vS (some (Addr.mk g 0 none)) xs.length c), (20, vI (↑i : Int)), (21, vI (IntKind.i64.wrap (K0 + 1)))] [] ?_
  rw [w1_]
  refine index_at 3 (by kernel_rfl : atP _ _ _ 3 false = some (Op.indexAddr 26 (tmpO 19) (tmpO 20), 0, some 22, Rg.sq (bitL 11 957) 4)) (sz := 12) (by kernel_rfl) rfl rfl rfl hlt (fun L w1 hs => ⟨_, rfl⟩) ?_
  intro a2 ha2; cases ha2
  refine gn 0 (Rg.sq (bitL 11 957) 5) [kCd (bitL 11 1981), KI.block 1, kCd (bitL 7 125), kLp (bitL 5 29), KI.block 0, KI.code [true, true]] [(0, vS (some (Addr.mk g 0 none)) xs.length c), (1, vI K1), (5, vI (↑i : Int)), (21, vI K1), (23, vP (((Addr.mk g 0 none).add (i * 12)).add 1))] [] ?_
  refine store_part (A := []) (d := kRw) (o := 1) (i := i) (y := ⟨K0, K1, ⟨r.tuple.xmin, r.tuple.xmax, ⟨r.tuple.key.kind, r.tuple.key.n, r.tuple.key.f, r.tuple.key.t⟩, ⟨r.tuple.value.kind, r.tuple.value.n, r.tuple.value.f, r.tuple.value.t⟩⟩⟩) (by kernel_rfl : atB _ _ _ false = some (Op.store 3 (tmpO 23) (tmpO 21), 0, none, Rg.sq (bitL 11 957) 6)) (by kernel_rfl) rfl rfl (by simp only [add_at, Nat.add_zero]; rfl) rfl rfl (by simp [Value.oneCell']) (by rw [List.length_set]; exact hlm) (Nat.le_of_ble_eq_true rfl) (fun h S1 S2 cs ho _ _ => by rw [List.getElem_set_self] at ho; exact kRw.mono (fun b hb => .inl hb) (kRw_put1 ho)) ?_
  rw [List.set_set]
  refine gn 0 (Rg.sq (bitL 13 4029) 3) [kCd (bitL 13 8125), KI.block 1, kCd (bitL 7 125), kLp (bitL 5 29), KI.block 0, KI.code [true, true]] [(0, vS (some (Addr.mk g 0 none)) xs.length c), (1, vI (IntKind.i64.wrap (K1 + 1))), (5, vI (↑i : Int)), (26, vS (some (Addr.mk g 0 none)) xs.length c), (27, vI (↑i : Int)), (28, vI (IntKind.i64.wrap (K1 + 1)))] [] ?_
  rw [w2_]
  refine index_at 3 (by kernel_rfl : atP _ _ _ 3 false = some (Op.indexAddr 26 (tmpO 26) (tmpO 27), 0, some 29, Rg.sq (bitL 13 4029) 4)) (sz := 12) (by kernel_rfl) rfl rfl rfl hlt (fun L w1 hs => ⟨_, rfl⟩) ?_
  intro a2 ha2; cases ha2
  refine gn 0 (Rg.sq (bitL 13 4029) 6) [kCd (bitL 13 8125), KI.block 1, kCd (bitL 7 125), kLp (bitL 5 29), KI.block 0, KI.code [true, true]] [(0, vS (some (Addr.mk g 0 none)) xs.length c), (1, vI K2), (5, vI (↑i : Int)), (28, vI K2), (31, vP ((((Addr.mk g 0 none).add (i * 12)).add 2).add 0))] [] ?_
  refine store_part (A := []) (d := kRw) (o := 2) (i := i) (y := ⟨K0, K1, ⟨K2, r.tuple.xmax, ⟨r.tuple.key.kind, r.tuple.key.n, r.tuple.key.f, r.tuple.key.t⟩, ⟨r.tuple.value.kind, r.tuple.value.n, r.tuple.value.f, r.tuple.value.t⟩⟩⟩) (by kernel_rfl : atB _ _ _ false = some (Op.store 3 (tmpO 31) (tmpO 28), 0, none, Rg.sq (bitL 13 4029) 7)) (by kernel_rfl) rfl rfl (by simp only [add_at, Nat.add_zero]; rfl) rfl rfl (by simp [Value.oneCell']) (by rw [List.length_set]; exact hlm) (Nat.le_of_ble_eq_true rfl) (fun h S1 S2 cs ho _ _ => by rw [List.getElem_set_self] at ho; exact kRw.mono (fun b hb => .inl hb) (kRw_put2 ho)) ?_
  rw [List.set_set]
  refine gn 0 (Rg.sq (bitL 15 16317) 3) [kCd (bitL 15 32701), KI.block 1, kCd (bitL 7 125), kLp (bitL 5 29), KI.block 0, KI.code [true, true]] [(0, vS (some (Addr.mk g 0 none)) xs.length c), (1, vI (IntKind.i64.wrap (K2 + 1))), (5, vI (↑i : Int)), (34, vS (some (Addr.mk g 0 none)) xs.length c), (35, vI (↑i : Int)), (36, vI (IntKind.i64.wrap (K2 + 1)))] [] ?_
  rw [w3_]
  refine index_at 3 (by kernel_rfl : atP _ _ _ 3 false = some (Op.indexAddr 26 (tmpO 34) (tmpO 35), 0, some 37, Rg.sq (bitL 15 16317) 4)) (sz := 12) (by kernel_rfl) rfl rfl rfl hlt (fun L w1 hs => ⟨_, rfl⟩) ?_
  intro a2 ha2; cases ha2
  refine gn 0 (Rg.sq (bitL 15 16317) 6) [kCd (bitL 15 32701), KI.block 1, kCd (bitL 7 125), kLp (bitL 5 29), KI.block 0, KI.code [true, true]] [(0, vS (some (Addr.mk g 0 none)) xs.length c), (1, vI K3), (5, vI (↑i : Int)), (36, vI K3), (39, vP ((((Addr.mk g 0 none).add (i * 12)).add 2).add 1))] [] ?_
  refine store_part (A := []) (d := kRw) (o := 3) (i := i) (y := ⟨K0, K1, ⟨K2, K3, ⟨r.tuple.key.kind, r.tuple.key.n, r.tuple.key.f, r.tuple.key.t⟩, ⟨r.tuple.value.kind, r.tuple.value.n, r.tuple.value.f, r.tuple.value.t⟩⟩⟩) (by kernel_rfl : atB _ _ _ false = some (Op.store 3 (tmpO 39) (tmpO 36), 0, none, Rg.sq (bitL 15 16317) 7)) (by kernel_rfl) rfl rfl (by simp only [add_at, Nat.add_zero]; rfl) rfl rfl (by simp [Value.oneCell']) (by rw [List.length_set]; exact hlm) (Nat.le_of_ble_eq_true rfl) (fun h S1 S2 cs ho _ _ => by rw [List.getElem_set_self] at ho; exact kRw.mono (fun b hb => .inl hb) (kRw_put3 ho)) ?_
  rw [List.set_set]
  refine gn 0 (Rg.sq (bitL 17 65469) 3) [kCd (bitL 17 131005), KI.block 1, kCd (bitL 7 125), kLp (bitL 5 29), KI.block 0, KI.code [true, true]] [(0, vS (some (Addr.mk g 0 none)) xs.length c), (1, vI (IntKind.i64.wrap (K3 + 1))), (5, vI (↑i : Int)), (42, vS (some (Addr.mk g 0 none)) xs.length c), (43, vI (↑i : Int)), (44, vI (IntKind.i64.wrap (K3 + 1)))] [] ?_
  rw [w4_]
  refine index_at 3 (by kernel_rfl : atP _ _ _ 3 false = some (Op.indexAddr 26 (tmpO 42) (tmpO 43), 0, some 45, Rg.sq (bitL 17 65469) 4)) (sz := 12) (by kernel_rfl) rfl rfl rfl hlt (fun L w1 hs => ⟨_, rfl⟩) ?_
  intro a2 ha2; cases ha2
  refine gn 0 (Rg.sq (bitL 17 65469) 7) [kCd (bitL 17 131005), KI.block 1, kCd (bitL 7 125), kLp (bitL 5 29), KI.block 0, KI.code [true, true]] [(0, vS (some (Addr.mk g 0 none)) xs.length c), (1, vI K4), (5, vI (↑i : Int)), (44, vI K4), (48, vP (((((Addr.mk g 0 none).add (i * 12)).add 2).add 2).add 0))] [] ?_
  refine store_part (A := []) (d := kRw) (o := 4) (i := i) (y := ⟨K0, K1, ⟨K2, K3, ⟨K4, r.tuple.key.n, r.tuple.key.f, r.tuple.key.t⟩, ⟨r.tuple.value.kind, r.tuple.value.n, r.tuple.value.f, r.tuple.value.t⟩⟩⟩) (by kernel_rfl : atB _ _ _ false = some (Op.store 3 (tmpO 48) (tmpO 44), 0, none, Rg.sq (bitL 17 65469) 8)) (by kernel_rfl) rfl rfl (by simp only [add_at, Nat.add_zero]; rfl) rfl rfl (by simp [Value.oneCell']) (by rw [List.length_set]; exact hlm) (Nat.le_of_ble_eq_true rfl) (fun h S1 S2 cs ho _ _ => by rw [List.getElem_set_self] at ho; exact kRw.mono (fun b hb => .inl hb) (kRw_put4 ho)) ?_
  rw [List.set_set]
  refine gn 0 (Rg.sq (bitL 19 262077) 3) [kCd (bitL 19 524221), KI.block 1, kCd (bitL 7 125), kLp (bitL 5 29), KI.block 0, KI.code [true, true]] [(0, vS (some (Addr.mk g 0 none)) xs.length c), (1, vI (IntKind.i64.wrap (K4 + 1))), (5, vI (↑i : Int)), (51, vS (some (Addr.mk g 0 none)) xs.length c), (52, vI (↑i : Int)), (53, vI (IntKind.i64.wrap (K4 + 1)))] [] ?_
  rw [w5_]
  refine index_at 3 (by kernel_rfl : atP _ _ _ 3 false = some (Op.indexAddr 26 (tmpO 51) (tmpO 52), 0, some 54, Rg.sq (bitL 19 262077) 4)) (sz := 12) (by kernel_rfl) rfl rfl rfl hlt (fun L w1 hs => ⟨_, rfl⟩) ?_
  intro a2 ha2; cases ha2
  refine gn 0 (Rg.sq (bitL 19 262077) 7) [kCd (bitL 19 524221), KI.block 1, kCd (bitL 7 125), kLp (bitL 5 29), KI.block 0, KI.code [true, true]] [(0, vS (some (Addr.mk g 0 none)) xs.length c), (1, vI K5), (5, vI (↑i : Int)), (53, vI K5), (57, vP (((((Addr.mk g 0 none).add (i * 12)).add 2).add 2).add 1))] [] ?_
  refine store_part (A := []) (d := kRw) (o := 5) (i := i) (y := ⟨K0, K1, ⟨K2, K3, ⟨K4, K5, r.tuple.key.f, r.tuple.key.t⟩, ⟨r.tuple.value.kind, r.tuple.value.n, r.tuple.value.f, r.tuple.value.t⟩⟩⟩) (by kernel_rfl : atB _ _ _ false = some (Op.store 3 (tmpO 57) (tmpO 53), 0, none, Rg.sq (bitL 19 262077) 8)) (by kernel_rfl) rfl rfl (by simp only [add_at, Nat.add_zero]; rfl) rfl rfl (by simp [Value.oneCell']) (by rw [List.length_set]; exact hlm) (Nat.le_of_ble_eq_true rfl) (fun h S1 S2 cs ho _ _ => by rw [List.getElem_set_self] at ho; exact kRw.mono (fun b hb => .inl hb) (kRw_put5 ho)) ?_
  rw [List.set_set]
  refine gn 0 (Rg.sq (bitL 21 1048509) 4) [kCd (bitL 21 2097085), KI.block 1, kCd (bitL 7 125), kLp (bitL 5 29), KI.block 0, KI.code [true, true]] [(0, vS (some (Addr.mk g 0 none)) xs.length c), (1, vI (IntKind.i64.wrap (K5 + 1))), (5, vI (↑i : Int)), (60, vS (some (Addr.mk g 0 none)) xs.length c), (61, vI (↑i : Int)), (63, SV.one (cF (FloatKind.f64.nearest (IntKind.i64.wrap (K5 + 1)))))] [] ?_
  rw [w6_]
  refine index_at 4 (by kernel_rfl : atP _ _ _ 4 false = some (Op.indexAddr 26 (tmpO 60) (tmpO 61), 0, some 64, Rg.sq (bitL 21 1048509) 5)) (sz := 12) (by kernel_rfl) rfl rfl rfl hlt (fun L w1 hs => ⟨_, rfl⟩) ?_
  intro a2 ha2; cases ha2
  refine gn 0 (Rg.sq (bitL 21 1048509) 8) [kCd (bitL 21 2097085), KI.block 1, kCd (bitL 7 125), kLp (bitL 5 29), KI.block 0, KI.code [true, true]] [(0, vS (some (Addr.mk g 0 none)) xs.length c), (1, vI K6), (5, vI (↑i : Int)), (63, SV.one (cF (FloatKind.f64.nearest K6))), (67, vP (((((Addr.mk g 0 none).add (i * 12)).add 2).add 2).add 2))] [] ?_
  refine store_part (A := []) (d := kRw) (o := 6) (i := i) (y := ⟨K0, K1, ⟨K2, K3, ⟨K4, K5, canonF (fI K6), r.tuple.key.t⟩, ⟨r.tuple.value.kind, r.tuple.value.n, r.tuple.value.f, r.tuple.value.t⟩⟩⟩) (by kernel_rfl : atB _ _ _ false = some (Op.store 43 (tmpO 67) (tmpO 63), 0, none, Rg.sq (bitL 21 1048509) 9)) (by kernel_rfl) rfl rfl (by simp only [add_at, Nat.add_zero]; rfl) rfl rfl (by simp [Value.oneCell']) (by rw [List.length_set]; exact hlm) (Nat.le_of_ble_eq_true rfl) (fun h S1 S2 cs ho _ _ => by rw [List.getElem_set_self] at ho; exact kRw.mono (fun b hb => .inl hb) (kRw_put6 (fI_lt (by omega)) ho)) ?_
  rw [List.set_set]
  refine gn 0 (Rg.sq (bitL 23 4194237) 2) [kCd (bitL 23 8388541), KI.block 1, kCd (bitL 7 125), kLp (bitL 5 29), KI.block 0, KI.code [true, true]] [(0, vS (some (Addr.mk g 0 none)) xs.length c), (1, vI (IntKind.i64.wrap (K6 + 1))), (5, vI (↑i : Int)), (70, vS (some (Addr.mk g 0 none)) xs.length c), (71, vI (↑i : Int))] [] ?_
  rw [w7_]
  refine index_at 2 (by kernel_rfl : atP _ _ _ 2 false = some (Op.indexAddr 26 (tmpO 70) (tmpO 71), 0, some 72, Rg.sq (bitL 23 4194237) 3)) (sz := 12) (by kernel_rfl) rfl rfl rfl hlt (fun L w1 hs => ⟨_, rfl⟩) ?_
  intro a2 ha2; cases ha2
  refine gn 0 (Rg.sq (bitL 23 4194237) 6) [kCd (bitL 23 8388541), KI.block 1, kCd (bitL 7 125), kLp (bitL 5 29), KI.block 0, KI.code [true, true]] [(0, vS (some (Addr.mk g 0 none)) xs.length c), (1, vI K7), (5, vI (↑i : Int)), (75, vP (((((Addr.mk g 0 none).add (i * 12)).add 2).add 2).add 3))] [] ?_
  refine h_focus (by rw [List.length_set]; exact hlm) (fun cs => ?_)
  rw [List.getElem_set_self]
  refine h_el_Rw ?_
  rintro b1 A1 c1 b2 A2 c2 rfl hb1 hf1 hb2 hf2
  simp only [mkB_len] at hf1 hf2 ⊢
  refine load_one 6 (by kernel_rfl : atP _ _ _ 6 true = some (Op.load 44 (tmpO 75), 44, some 76, Rg.sq (bitL 23 4194237) 7)) (n := 1) (by kernel_rfl) rfl ?_
  intro L w1 hs
  obtain ⟨S1, hS1, hh⟩ := hs.at_ 2 rfl
  refine ⟨.v (.slice A1 r.tuple.key.t.length c1), by have h9 := hole_cell hh 7 _ rfl; simp only [add_at, Nat.add_zero] at h9 ⊢; exact h9, ?_⟩
  clear hs hh hS1 S1
  refine gn 0 (Rg.sq (bitL 23 4194237) 8) [kCd (bitL 23 8388541), KI.block 1, kCd (bitL 7 125), kLp (bitL 5 29), KI.block 0, KI.code [true, true]] [(0, vS (some (Addr.mk g 0 none)) xs.length c), (5, vI (↑i : Int)), (76, vS A1 r.tuple.key.t.length c1), (77, vI K7)] [] ?_
  refine h_swap ?_
  refine call_mut (A := [rowA 5 kU8 r.tuple.key.t (.slice A1 r.tuple.key.t.length c1)]) (by kernel_rfl : atC _ _ _ false = some (35, [vS A1 r.tuple.key.t.length c1, vI K7], some 78, Rg.sq (bitL 23 4194237) 9)) (by kernel_rfl) (fun L w1 S1 hs hA hS1 => (markByteS_ok r.tuple.key.t A1 c1 _ w1 S1 hA hS1 (by omega) (by omega)).mono ?_)
  rintro e w2 ⟨rfl, hm⟩
  refine ⟨.one (.v (.int .i64 _)), _, rfl, hm, ?_⟩
  clear hm hs hA hS1
  refine gn 0 (Rg.sq (bitL 24 8388541) 3) [kCd (bitL 24 16777149), KI.block 1, kCd (bitL 7 125), kLp (bitL 5 29), KI.block 0, KI.code [true, true]] [(0, vS (some (Addr.mk g 0 none)) xs.length c), (1, vI (K7 + (↑r.tuple.key.t.length : Int))), (5, vI (↑i : Int)), (79, vS (some (Addr.mk g 0 none)) xs.length c), (80, vI (↑i : Int)), (81, vI (K7 + (↑r.tuple.key.t.length : Int)))] [] ?_
  refine h_swap ?_
  refine h_turn (A := [_, _]) (B := [elA kRw (⟨K0, K1, ⟨K2, K3, ⟨K4, K5, canonF (fI K6), mkB r.tuple.key.t.length K7⟩, ⟨r.tuple.value.kind, r.tuple.value.n, r.tuple.value.f, r.tuple.value.t⟩⟩⟩ : Rw) [.int .i64 K0, .int .i64 K1, .int .i64 K2, .int .i64 K3, .int .i64 K4, .int .i64 K5, .float .f64 b1, .slice A1 r.tuple.key.t.length c1, .int .i64 r.tuple.value.kind, .int .i64 r.tuple.value.n, .float .f64 b2, .slice A2 r.tuple.value.t.length c2]]) (fun h S ho => one_el (by have h9 := kRw_own (h := h) (S := S) (Atuple_key_t := A1) (ctuple_key_t := c1) (Atuple_value_t := A2) (ctuple_value_t := c2) (x := ⟨K0, K1, ⟨K2, K3, ⟨K4, K5, canonF (fI K6), mkB r.tuple.key.t.length K7⟩, ⟨r.tuple.value.kind, r.tuple.value.n, r.tuple.value.f, r.tuple.value.t⟩⟩⟩) hb1 hf1 hb2 hf2 (by simp only [mkB_len]; exact ho); simp only [mkB_len] at h9; exact h9)) ?_
  refine h_unfocus (d := kRw) ?_
  rw [List.set_set]
  rw [← hK8]
  refine index_at 3 (by kernel_rfl : atP _ _ _ 3 false = some (Op.indexAddr 26 (tmpO 79) (tmpO 80), 0, some 82, Rg.sq (bitL 24 8388541) 4)) (sz := 12) (by kernel_rfl) rfl rfl rfl hlt (fun L w1 hs => ⟨_, rfl⟩) ?_
  intro a2 ha2; cases ha2
  refine gn 0 (Rg.sq (bitL 24 8388541) 7) [kCd (bitL 24 16777149), KI.block 1, kCd (bitL 7 125), kLp (bitL 5 29), KI.block 0, KI.code [true, true]] [(0, vS (some (Addr.mk g 0 none)) xs.length c), (1, vI K8), (5, vI (↑i : Int)), (81, vI K8), (85, vP (((((Addr.mk g 0 none).add (i * 12)).add 2).add 6).add 0))] [] ?_
  refine store_part (A := []) (d := kRw) (o := 8) (i := i) (y := ⟨K0, K1, ⟨K2, K3, ⟨K4, K5, canonF (fI K6), mkB r.tuple.key.t.length K7⟩, ⟨K8, r.tuple.value.n, r.tuple.value.f, r.tuple.value.t⟩⟩⟩) (by kernel_rfl : atB _ _ _ false = some (Op.store 3 (tmpO 85) (tmpO 81), 0, none, Rg.sq (bitL 24 8388541) 8)) (by kernel_rfl) rfl rfl (by simp only [add_at, Nat.add_zero]; rfl) rfl rfl (by simp [Value.oneCell']) (by rw [List.length_set]; exact hlm) (Nat.le_of_ble_eq_true rfl) (fun h S1 S2 cs ho _ _ => by rw [List.getElem_set_self] at ho; exact kRw.mono (fun b hb => .inl hb) (kRw_put8 ho)) ?_
  rw [List.set_set]
  refine gn 0 (Rg.sq (bitL 26 33554365) 3) [kCd (bitL 26 67108797), KI.block 1, kCd (bitL 7 125), kLp (bitL 5 29), KI.block 0, KI.code [true, true]] [(0, vS (some (Addr.mk g 0 none)) xs.length c), (1, vI (IntKind.i64.wrap (K8 + 1))), (5, vI (↑i : Int)), (88, vS (some (Addr.mk g 0 none)) xs.length c), (89, vI (↑i : Int)), (90, vI (IntKind.i64.wrap (K8 + 1)))] [] ?_
  rw [w9_]
  refine index_at 3 (by kernel_rfl : atP _ _ _ 3 false = some (Op.indexAddr 26 (tmpO 88) (tmpO 89), 0, some 91, Rg.sq (bitL 26 33554365) 4)) (sz := 12) (by kernel_rfl) rfl rfl rfl hlt (fun L w1 hs => ⟨_, rfl⟩) ?_
  intro a2 ha2; cases ha2
  refine gn 0 (Rg.sq (bitL 26 33554365) 7) [kCd (bitL 26 67108797), KI.block 1, kCd (bitL 7 125), kLp (bitL 5 29), KI.block 0, KI.code [true, true]] [(0, vS (some (Addr.mk g 0 none)) xs.length c), (1, vI K9), (5, vI (↑i : Int)), (90, vI K9), (94, vP (((((Addr.mk g 0 none).add (i * 12)).add 2).add 6).add 1))] [] ?_
  refine store_part (A := []) (d := kRw) (o := 9) (i := i) (y := ⟨K0, K1, ⟨K2, K3, ⟨K4, K5, canonF (fI K6), mkB r.tuple.key.t.length K7⟩, ⟨K8, K9, r.tuple.value.f, r.tuple.value.t⟩⟩⟩) (by kernel_rfl : atB _ _ _ false = some (Op.store 3 (tmpO 94) (tmpO 90), 0, none, Rg.sq (bitL 26 33554365) 8)) (by kernel_rfl) rfl rfl (by simp only [add_at, Nat.add_zero]; rfl) rfl rfl (by simp [Value.oneCell']) (by rw [List.length_set]; exact hlm) (Nat.le_of_ble_eq_true rfl) (fun h S1 S2 cs ho _ _ => by rw [List.getElem_set_self] at ho; exact kRw.mono (fun b hb => .inl hb) (kRw_put9 ho)) ?_
  rw [List.set_set]
  refine gn 0 (Rg.sq (bitL 28 134217661) 4) [kCd (bitL 28 268435389), KI.block 1, kCd (bitL 7 125), kLp (bitL 5 29), KI.block 0, KI.code [true, true]] [(0, vS (some (Addr.mk g 0 none)) xs.length c), (1, vI (IntKind.i64.wrap (K9 + 1))), (5, vI (↑i : Int)), (97, vS (some (Addr.mk g 0 none)) xs.length c), (98, vI (↑i : Int)), (100, SV.one (cF (FloatKind.f64.nearest (IntKind.i64.wrap (K9 + 1)))))] [] ?_
  rw [w10_]
  refine index_at 4 (by kernel_rfl : atP _ _ _ 4 false = some (Op.indexAddr 26 (tmpO 97) (tmpO 98), 0, some 101, Rg.sq (bitL 28 134217661) 5)) (sz := 12) (by kernel_rfl) rfl rfl rfl hlt (fun L w1 hs => ⟨_, rfl⟩) ?_
  intro a2 ha2; cases ha2
  refine gn 0 (Rg.sq (bitL 28 134217661) 8) [kCd (bitL 28 268435389), KI.block 1, kCd (bitL 7 125), kLp (bitL 5 29), KI.block 0, KI.code [true, true]] [(0, vS (some (Addr.mk g 0 none)) xs.length c), (1, vI K10), (5, vI (↑i : Int)), (100, SV.one (cF (FloatKind.f64.nearest K10))), (104, vP (((((Addr.mk g 0 none).add (i * 12)).add 2).add 6).add 2))] [] ?_
  refine store_part (A := []) (d := kRw) (o := 10) (i := i) (y := ⟨K0, K1, ⟨K2, K3, ⟨K4, K5, canonF (fI K6), mkB r.tuple.key.t.length K7⟩, ⟨K8, K9, canonF (fI K10), r.tuple.value.t⟩⟩⟩) (by kernel_rfl : atB _ _ _ false = some (Op.store 43 (tmpO 104) (tmpO 100), 0, none, Rg.sq (bitL 28 134217661) 9)) (by kernel_rfl) rfl rfl (by simp only [add_at, Nat.add_zero]; rfl) rfl rfl (by simp [Value.oneCell']) (by rw [List.length_set]; exact hlm) (Nat.le_of_ble_eq_true rfl) (fun h S1 S2 cs ho _ _ => by rw [List.getElem_set_self] at ho; exact kRw.mono (fun b hb => .inl hb) (kRw_put10 (fI_lt (by omega)) ho)) ?_
  rw [List.set_set]
  refine gn 0 (Rg.sq (bitL 29 536870845) 2) [KI.block 1, kCd (bitL 7 125), kLp (bitL 5 29), KI.block 0, KI.code [true, true]] [(0, vS (some (Addr.mk g 0 none)) xs.length c), (1, vI (IntKind.i64.wrap (K10 + 1))), (5, vI (↑i : Int)), (107, vS (some (Addr.mk g 0 none)) xs.length c), (108, vI (↑i : Int))] [] ?_
  rw [w11_]
  refine index_at 2 (by kernel_rfl : atP _ _ _ 2 false = some (Op.indexAddr 26 (tmpO 107) (tmpO 108), 0, some 109, Rg.sq (bitL 29 536870845) 3)) (sz := 12) (by kernel_rfl) rfl rfl rfl hlt (fun L w1 hs => ⟨_, rfl⟩) ?_
  intro a2 ha2; cases ha2
  refine gn 0 (Rg.sq (bitL 29 536870845) 6) [KI.block 1, kCd (bitL 7 125), kLp (bitL 5 29), KI.block 0, KI.code [true, true]] [(0, vS (some (Addr.mk g 0 none)) xs.length c), (1, vI K11), (5, vI (↑i : Int)), (112, vP (((((Addr.mk g 0 none).add (i * 12)).add 2).add 6).add 3))] [] ?_
  refine h_focus (by rw [List.length_set]; exact hlm) (fun cs => ?_)
  rw [List.getElem_set_self]
  refine h_el_Rw ?_
  rintro b1 A1 c1 b2 A2 c2 rfl hb1 hf1 hb2 hf2
  simp only [mkB_len] at hf1 hf2 ⊢
  refine load_one 6 (by kernel_rfl : atP _ _ _ 6 true = some (Op.load 44 (tmpO 112), 44, some 113, Rg.sq (bitL 29 536870845) 7)) (n := 1) (by kernel_rfl) rfl ?_
  intro L w1 hs
  obtain ⟨S1, hS1, hh⟩ := hs.at_ 2 rfl
  refine ⟨.v (.slice A2 r.tuple.value.t.length c2), by have h9 := hole_cell hh 11 _ rfl; simp only [add_at, Nat.add_zero] at h9 ⊢; exact h9, ?_⟩
  clear hs hh hS1 S1
  refine gn 0 (Rg.sq (bitL 29 536870845) 8) [KI.block 1, kCd (bitL 7 125), kLp (bitL 5 29), KI.block 0, KI.code [true, true]] [(0, vS (some (Addr.mk g 0 none)) xs.length c), (5, vI (↑i : Int)), (113, vS A2 r.tuple.value.t.length c2), (114, vI K11)] [] ?_
  refine call_mut (A := [rowA 5 kU8 r.tuple.value.t (.slice A2 r.tuple.value.t.length c2)]) (by kernel_rfl : atC _ _ _ false = some (35, [vS A2 r.tuple.value.t.length c2, vI K11], some 115, Rg.sq (bitL 29 536870845) 9)) (by kernel_rfl) (fun L w1 S1 hs hA hS1 => (markByteS_ok r.tuple.value.t A2 c2 _ w1 S1 hA hS1 (by omega) (by omega)).mono ?_)
  rintro e w2 ⟨rfl, hm⟩
  refine ⟨.one (.v (.int .i64 _)), _, rfl, hm, ?_⟩
  clear hm hs hA hS1
  refine gn 0 Rg.no [kLp (bitL 5 29), KI.block 0, KI.code [true, true]] [(0, vS (some (Addr.mk g 0 none)) xs.length c), (1, vI (K11 + (↑r.tuple.value.t.length : Int))), (5, vI (IntKind.i64.wrap ((↑i : Int) + 1)))] [] ?_
  refine h_turn (A := [_, _]) (B := [elA kRw (⟨K0, K1, ⟨K2, K3, ⟨K4, K5, canonF (fI K6), mkB r.tuple.key.t.length K7⟩, ⟨K8, K9, canonF (fI K10), mkB r.tuple.value.t.length K11⟩⟩⟩ : Rw) [.int .i64 K0, .int .i64 K1, .int .i64 K2, .int .i64 K3, .int .i64 K4, .int .i64 K5, .float .f64 b1, .slice A1 r.tuple.key.t.length c1, .int .i64 K8, .int .i64 K9, .float .f64 b2, .slice A2 r.tuple.value.t.length c2]]) (fun h S ho => one_el (by have h9 := kRw_own (h := h) (S := S) (Atuple_key_t := A1) (ctuple_key_t := c1) (Atuple_value_t := A2) (ctuple_value_t := c2) (x := ⟨K0, K1, ⟨K2, K3, ⟨K4, K5, canonF (fI K6), mkB r.tuple.key.t.length K7⟩, ⟨K8, K9, canonF (fI K10), mkB r.tuple.value.t.length K11⟩⟩⟩) hb1 hf1 hb2 hf2 (by simp only [mkB_len]; exact ho); simp only [mkB_len] at h9; exact h9)) ?_
  refine h_unfocus (d := kRw) ?_
  rw [List.set_set]
  have hmk : mkRw r K0 = ⟨K0, K1, ⟨K2, K3, ⟨K4, K5, canonF (fI K6), mkB r.tuple.key.t.length K7⟩, ⟨K8, K9, canonF (fI K10), mkB r.tuple.value.t.length K11⟩⟩⟩ := by
   unfold mkRw
   rw [fI_canon (by omega), fI_canon (by omega)]
   simp only [show K0 + 1 = K1 by omega, show K0 + 2 = K2 by omega, show K0 + 3 = K3 by omega, show K0 + 4 = K4 by omega, show K0 + 5 = K5 by omega, show K0 + 6 = K6 by omega, show K0 + 7 = K7 by omega, show K7 + (r.tuple.key.t.length : Int) = K8 by omega, show K0 + 8 + (r.tuple.key.t.length : Int) = K9 by omega, show K0 + 9 + (r.tuple.key.t.length : Int) = K10 by omega, show K0 + 10 + (r.tuple.key.t.length : Int) = K11 by omega]
  rw [← hmk, hK0, ← hr, mkRs_step xs k hlt, wrap_succ (by omega), hr]
  rw [show K11 + (r.tuple.value.t.length : Int) = k + (nRs (xs.take (i + 1)) : Int) by omega]
  exact ih (i + 1) hlt (by omega)
 ·intro h1
  refine gn 0 Rg.no [kCd (bitL 3 7)] [(4, vI (k + (↑(nRs (List.take i xs)) : Int)))] [] ?_
  refine rtk [vI (k + (↑(nRs (List.take i xs)) : Int))] ?_
  intro L w1 hs
  have hi2 : i = xs.length := by
   have : ¬ i < xs.length := by simpa using h1
   omega
  subst hi2
  simp only [List.drop_length, List.append_nil, List.take_length] at hs ⊢
  exact ⟨rfl, hs.outm (As := [_])⟩
end Go.Proofs.YtgleoebogikooaaGreat.Dk
