/- Walks of functions of the program: what each call returns and what it leaves in memory. Conditions: those that each theorem names. -/
import Derived.Test.YtgleoebogikooaaGreatV4
namespace Go.Proofs.YtgleoebogikooaaGreat.Dk
set_option linter.unusedVariables false
set_option linter.unusedSimpArgs false
open Go.Proofs.YtgleoebogikooaaGreat.Sx Go.Proofs Go.RowKit
set_option maxRecDepth 100000
set_option maxHeartbeats 1000000
theorem sTupB_ok (t : Tu) (cst : List Value) (w : World) (ht : kTu.rd w.heap t cst) (hk : okN t.key) (hv : okN t.value) (lk_ : t.key.t.length ≤ 1048576) (lv_ : t.value.t.length ≤ 1048576) :
  Calls Tryz.prog 54 #[.agg cst.toArray] w fun e w' => ∃ (B : Option Addr) (d : Nat), e = .returned (.slice B (tupB t).length d) ∧ Fresh w w' [rowA 5 kU8 (tupB t) (.slice B (tupB t).length d)] := by
 obtain ⟨btkey_f, Atkey_t, ctkey_t, btvalue_f, Atvalue_t, ctvalue_t, rfl, hbtkey_f, hftkey_f, hrtkey_t, hbtvalue_f, hftvalue_f, hrtvalue_t⟩ := kTu_inv ht
 refine enter (args := [.agg [.v (.int .i64 t.xmin), .v (.int .i64 t.xmax), .v (.int .i64 t.key.kind), .v (.int .i64 t.key.n), .v (.float .f64 btkey_f), .v (.slice Atkey_t t.key.t.length ctkey_t), .v (.int .i64 t.value.kind), .v (.int .i64 t.value.n), .v (.float .f64 btvalue_f), .v (.slice Atvalue_t t.value.t.length ctvalue_t)]]) Tryz.func54 (c := bodyOf Tryz.f54) rfl rfl (start_LOK _) (start_old w) ?_
 have l1 := keyB_len t.key
 have l2 := valB_len t.value
 by_cases hok : ¬ tupOk t = true
 ·have hit : tupB t = [] := by unfold tupB; rw [if_neg hok]
  rw [hit]
  have nf_9 : (!tupOk t) = true := by rw [Bool.not_eq_true] at hok; rw [hok]; rfl
  refine gn 1 (Rg.sq (bitL 3 1) 1) [kCd (bitL 3 5), KI.code [true, true]] [(1, vR 0 0), (6, SV.agg [cI t.xmin, cI t.xmax, cI t.key.kind, cI t.key.n, cF btkey_f, cS Atkey_t t.key.t.length ctkey_t, cI t.value.kind, cI t.value.n, cF btvalue_f, cS Atvalue_t t.value.t.length ctvalue_t])] [LB.mk [cI t.xmin, cI t.xmax, cI t.key.kind, cI t.key.n, cF btkey_f, cS Atkey_t t.key.t.length ctkey_t, cI t.value.kind, cI t.value.n, cF btvalue_f, cS Atvalue_t t.value.t.length ctvalue_t] 60] ?_
  refine cpk 82 [SV.agg [cI t.xmin, cI t.xmax, cI t.key.kind, cI t.key.n, cF btkey_f, cS Atkey_t t.key.t.length ctkey_t, cI t.value.kind, cI t.value.n, cF btvalue_f, cS Atvalue_t t.value.t.length ctvalue_t]] (some 7) (Rg.sq (bitL 3 1) 2) (.one (.bo (tupOk t))) (fun L w1 hs => (sTupOk_ok (t) ([Value.int IntKind.i64 t.xmin, Value.int IntKind.i64 t.xmax, Value.int IntKind.i64 t.key.kind, Value.int IntKind.i64 t.key.n, Value.float FloatKind.f64 btkey_f, Value.slice Atkey_t t.key.t.length ctkey_t, Value.int IntKind.i64 t.value.kind, Value.int IntKind.i64 t.value.n, Value.float FloatKind.f64 btvalue_f, Value.slice Atvalue_t t.value.t.length ctvalue_t]) w1 (kTu_mk ‹_› hftkey_f (rdRow_ext (hs.old 0 rfl) hrtkey_t) ‹_› hftvalue_f (rdRow_ext (hs.old 0 rfl) hrtvalue_t)))) ?_
  refine gn 1 Rg.no [kCd (bitL 3 5), KI.code [true, true]] [(1, vR 0 0), (8, vB !tupOk t)] [LB.mk [cI t.xmin, cI t.xmax, cI t.key.kind, cI t.key.n, cF btkey_f, cS Atkey_t t.key.t.length ctkey_t, cI t.value.kind, cI t.value.n, cF btvalue_f, cS Atvalue_t t.value.t.length ctvalue_t] 60] ?_
  try simp only [flx, hbtkey_f, hftkey_f, hbtvalue_f, hftvalue_f, nf_9]
  refine gn 1 Rg.no [kCd (bitL 3 5), KI.code [true, true]] [(1, vR 0 0), (8, vB true)] [LB.mk [cI t.xmin, cI t.xmax, cI t.key.kind, cI t.key.n, cF btkey_f, cS Atkey_t t.key.t.length ctkey_t, cI t.value.kind, cI t.value.n, cF btvalue_f, cS Atvalue_t t.value.t.length ctvalue_t] 60] ?_
  refine ltk 8 true ?_
  refine gn 0 Rg.no [kCd (bitL 5 21), KI.code [true, true]] [(2, vS none 0 0)] [] ?_
  refine rtk [vS none 0 0] ?_
  intro L w1 hs
  exact ⟨none, 0, rfl, hs.out1 rowA_nil⟩
 replace hok : tupOk t = true := Classical.not_not.1 hok
 have hit : tupB t = flat (tupL t) := by unfold tupB; rw [if_pos hok]
 obtain ⟨k1, k2, k3, k4, k5, k6⟩ := tupOk_parts hok
 have nf_9 : (!tupOk t) = false := by rw [hok]; rfl
 have nf_8 : IntKind.u8.wrap ((keyB t.key).length : Int) = (keyB t.key).length := by rw [IntKind.wrap_u8]; omega
 have nf_7 : IntKind.u8.wrap ((valB t.value).length : Int) = (valB t.value).length := by rw [IntKind.wrap_u8]; omega
 have hp4 : pw 4 = 4294967296 := rfl
 have hx1 : t.xmin < pw 4 := by omega
 have hx2 : t.xmax < pw 4 := by omega
 rw [hit]
 refine gn 1 (Rg.sq (bitL 3 1) 1) [kCd (bitL 3 5), KI.code [true, true]] [(1, vR 0 0), (6, SV.agg [cI t.xmin, cI t.xmax, cI t.key.kind, cI t.key.n, cF btkey_f, cS Atkey_t t.key.t.length ctkey_t, cI t.value.kind, cI t.value.n, cF btvalue_f, cS Atvalue_t t.value.t.length ctvalue_t])] [LB.mk [cI t.xmin, cI t.xmax, cI t.key.kind, cI t.key.n, cF btkey_f, cS Atkey_t t.key.t.length ctkey_t, cI t.value.kind, cI t.value.n, cF btvalue_f, cS Atvalue_t t.value.t.length ctvalue_t] 60] ?_
 refine cpk 82 [SV.agg [cI t.xmin, cI t.xmax, cI t.key.kind, cI t.key.n, cF btkey_f, cS Atkey_t t.key.t.length ctkey_t, cI t.value.kind, cI t.value.n, cF btvalue_f, cS Atvalue_t t.value.t.length ctvalue_t]] (some 7) (Rg.sq (bitL 3 1) 2) (.one (.bo (tupOk t))) (fun L w1 hs => (sTupOk_ok (t) ([Value.int IntKind.i64 t.xmin, Value.int IntKind.i64 t.xmax, Value.int IntKind.i64 t.key.kind, Value.int IntKind.i64 t.key.n, Value.float FloatKind.f64 btkey_f, Value.slice Atkey_t t.key.t.length ctkey_t, Value.int IntKind.i64 t.value.kind, Value.int IntKind.i64 t.value.n, Value.float FloatKind.f64 btvalue_f, Value.slice Atvalue_t t.value.t.length ctvalue_t]) w1 (kTu_mk ‹_› hftkey_f (rdRow_ext (hs.old 0 rfl) hrtkey_t) ‹_› hftvalue_f (rdRow_ext (hs.old 0 rfl) hrtvalue_t)))) ?_
 refine gn 1 Rg.no [kCd (bitL 3 5), KI.code [true, true]] [(1, vR 0 0), (8, vB !tupOk t)] [LB.mk [cI t.xmin, cI t.xmax, cI t.key.kind, cI t.key.n, cF btkey_f, cS Atkey_t t.key.t.length ctkey_t, cI t.value.kind, cI t.value.n, cF btvalue_f, cS Atvalue_t t.value.t.length ctvalue_t] 60] ?_
 try simp only [flx, hbtkey_f, hftkey_f, hbtvalue_f, hftvalue_f, nf_9, nf_8, nf_7]
 refine gn 1 Rg.no [kCd (bitL 3 5), KI.code [true, true]] [(1, vR 0 0), (8, vB false)] [LB.mk [cI t.xmin, cI t.xmax, cI t.key.kind, cI t.key.n, cF btkey_f, cS Atkey_t t.key.t.length ctkey_t, cI t.value.kind, cI t.value.n, cF btvalue_f, cS Atvalue_t t.value.t.length ctvalue_t] 60] ?_
 refine ltk 8 false ?_
 refine gn 1 (Rg.sq (bitL 3 3) 2) [kCd (bitL 3 7)] [(1, vR 0 0), (10, SV.agg [cI t.key.kind, cI t.key.n, cF btkey_f, cS Atkey_t t.key.t.length ctkey_t])] [LB.mk [cI t.xmin, cI t.xmax, cI t.key.kind, cI t.key.n, cF btkey_f, cS Atkey_t t.key.t.length ctkey_t, cI t.value.kind, cI t.value.n, cF btvalue_f, cS Atvalue_t t.value.t.length ctvalue_t] 60] ?_
 refine cak 79 [SV.agg [cI t.key.kind, cI t.key.n, cF btkey_f, cS Atkey_t t.key.t.length ctkey_t]] (some 11) (Rg.sq (bitL 3 3) 3) (fun L w1 hs => (sKeyB_ok (t.key) ([Value.int IntKind.i64 t.key.kind, Value.int IntKind.i64 t.key.n, Value.float FloatKind.f64 btkey_f, Value.slice Atkey_t t.key.t.length ctkey_t]) w1 (kIt_mk ‹_› hftkey_f (rdRow_ext (hs.old 0 rfl) hrtkey_t)) ‹_› ‹_›).mono ?_)
 rintro e_ w2_ ⟨B_1, d_1, rfl, hf_⟩
 refine ⟨.one (.v (Value.slice B_1 (keyB t.key).length d_1)), _, _, rfl, fun _ => hf_.1.block, hs.fresh hf_, ?_⟩
 clear hs hf_
 refine gn 1 (Rg.sq (bitL 4 7) 2) [kCd (bitL 4 15)] [(1, vR 0 0), (3, vS B_1 (keyB t.key).length d_1), (13, SV.agg [cI t.value.kind, cI t.value.n, cF btvalue_f, cS Atvalue_t t.value.t.length ctvalue_t])] [LB.mk [cI t.xmin, cI t.xmax, cI t.key.kind, cI t.key.n, cF btkey_f, cS Atkey_t t.key.t.length ctkey_t, cI t.value.kind, cI t.value.n, cF btvalue_f, cS Atvalue_t t.value.t.length ctvalue_t] 60] ?_
 refine cak 81 [SV.agg [cI t.value.kind, cI t.value.n, cF btvalue_f, cS Atvalue_t t.value.t.length ctvalue_t]] (some 14) (Rg.sq (bitL 4 7) 3) (fun L w1 hs => (sValB_ok (t.value) ([Value.int IntKind.i64 t.value.kind, Value.int IntKind.i64 t.value.n, Value.float FloatKind.f64 btvalue_f, Value.slice Atvalue_t t.value.t.length ctvalue_t]) w1 (kIt_mk ‹_› hftvalue_f (rdRow_ext (hs.old 1 rfl) hrtvalue_t)) ‹_› ‹_›).mono ?_)
 rintro e_ w2_ ⟨B_2, d_2, rfl, hf_⟩
 refine ⟨.one (.v (Value.slice B_2 (valB t.value).length d_2)), _, _, rfl, fun _ => hf_.1.block, hs.fresh hf_, ?_⟩
 clear hs hf_
 refine gn 1 (Rg.sq (bitL 5 15) 2) [kCd (bitL 5 31)] [(1, vR 0 0), (3, vS B_1 (keyB t.key).length d_1), (4, vS B_2 (valB t.value).length d_2), (16, vI t.xmin)] [LB.mk [cI t.xmin, cI t.xmax, cI t.key.kind, cI t.key.n, cF btkey_f, cS Atkey_t t.key.t.length ctkey_t, cI t.value.kind, cI t.value.n, cF btvalue_f, cS Atvalue_t t.value.t.length ctvalue_t] 60] ?_
 refine cak 83 [vI t.xmin, vI 4] (some 17) (Rg.sq (bitL 5 15) 3) (fun L w1 hs => (sPutNum_ok (t.xmin) (4) w1 (by omega) (by omega) (by decide) ‹_›).mono ?_)
 rintro e_ w2_ ⟨B_3, d_3, rfl, hf_⟩
 refine ⟨.one (.v (Value.slice B_3 (leI 4 t.xmin).length d_3)), _, _, rfl, fun _ => hf_.1.block, hs.fresh hf_, ?_⟩
 clear hs hf_
 refine gn 0 (Rg.sq (bitL 6 31) 3) [kCd (bitL 6 63)] [(3, vS B_1 (keyB t.key).length d_1), (4, vS B_2 (valB t.value).length d_2), (18, vS B_3 4 d_3), (20, vI t.xmax)] [] ?_
 refine cak 83 [vI t.xmax, vI 4] (some 21) (Rg.sq (bitL 6 31) 4) (fun L w1 hs => (sPutNum_ok (t.xmax) (4) w1 ‹_› (by omega) (by decide) ‹_›).mono ?_)
 rintro e_ w2_ ⟨B_4, d_4, rfl, hf_⟩
 refine ⟨.one (.v (Value.slice B_4 (leI 4 t.xmax).length d_4)), _, _, rfl, fun _ => hf_.1.block, hs.fresh hf_, ?_⟩
 clear hs hf_
 refine gn 0 (Rg.sq (bitL 6 31) 4) [kCd (bitL 6 63)] [(3, vS B_1 (keyB t.key).length d_1), (4, vS B_2 (valB t.value).length d_2), (18, vS B_3 4 d_3), (21, vS B_4 4 d_4)] [] ?_
 refine h_bring 1 rfl ?_
 refine append_sc (by_ := 1) (e := 5) (by kernel_rfl : atB _ _ _ false = some (Op.call (Call.mk (Callee.builtin Builtin.append) #[tmpO 18, tmpO 21] #[44, 44]), 44, some 22, Rg.sq (bitL 6 31) 5)) (by kernel_rfl) rfl rfl (fun L w1 hs => hs.rd 1 rfl) (by simp [maxLen, leI_len] <;> omega) (by simp [leI_len] <;> omega) ?_
 intro B' d'
 refine h_erase 1 _ rfl ?_
 refine gn 1 (Rg.sq (bitL 7 63) 5) [kCd (bitL 7 127)] [(3, vS B_1 (keyB t.key).length d_1), (4, vS B_2 (valB t.value).length d_2), (23, vS B' 8 d'), (27, SV.one (SC.sl 0 0 1 1))] [LB.mk [SC.v (Value.int IntKind.u8 (IntKind.u8.wrap (↑(keyB t.key).length : Int)))] 5] ?_
 try simp only [flx, hbtkey_f, hftkey_f, hbtvalue_f, hftvalue_f, nf_9, nf_8, nf_7]
 refine append_scl [((keyB t.key).length : Int)] (by_ := 1) (e := 5) (by kernel_rfl : atB _ _ _ false = some (Op.call (Call.mk (Callee.builtin Builtin.append) #[tmpO 23, tmpO 27] #[44, 44]), 44, some 28, Rg.sq (bitL 7 63) 6)) (by kernel_rfl) rfl rfl rfl rfl rfl (by simp [maxLen, leI_len] <;> omega) (by simp [leI_len] <;> omega) ?_
 intro B' d'
 refine gn 0 (Rg.sq (bitL 8 127) 2) [kCd (bitL 8 255)] [(4, vS B_2 (valB t.value).length d_2), (29, vS B' 9 d'), (30, vS B_1 (keyB t.key).length d_1)] [] ?_
 try simp only [flx, hbtkey_f, hftkey_f, hbtvalue_f, hftvalue_f, nf_9, nf_8, nf_7]
 refine append_sc (by_ := 1) (e := 5) (by kernel_rfl : atB _ _ _ false = some (Op.call (Call.mk (Callee.builtin Builtin.append) #[tmpO 29, tmpO 30] #[44, 44]), 44, some 31, Rg.sq (bitL 8 127) 3)) (by kernel_rfl) rfl rfl (fun L w1 hs => hs.rd 2 rfl) (by simp [maxLen, leI_len] <;> omega) (by simp [leI_len] <;> omega) ?_
 intro B' d'
 refine gn 1 (Rg.sq (bitL 9 255) 5) [kCd (bitL 9 511)] [(4, vS B_2 (valB t.value).length d_2), (32, vS B' (leI 4 t.xmin ++ leI 4 t.xmax ++ [(↑(keyB t.key).length : Int)] ++ keyB t.key).length d'), (36, SV.one (SC.sl 0 0 1 1))] [LB.mk [SC.v (Value.int IntKind.u8 (IntKind.u8.wrap (↑(valB t.value).length : Int)))] 5] ?_
 try simp only [flx, hbtkey_f, hftkey_f, hbtvalue_f, hftvalue_f, nf_9, nf_8, nf_7]
 refine append_scl [((valB t.value).length : Int)] (by_ := 1) (e := 5) (by kernel_rfl : atB _ _ _ false = some (Op.call (Call.mk (Callee.builtin Builtin.append) #[tmpO 32, tmpO 36] #[44, 44]), 44, some 37, Rg.sq (bitL 9 255) 6)) (by kernel_rfl) rfl rfl rfl rfl rfl (by simp [maxLen, leI_len] <;> omega) (by simp [leI_len] <;> omega) ?_
 intro B' d'
 refine gn 0 (Rg.sq (bitL 10 511) 2) [kCd (bitL 10 1023)] [(38, vS B' (leI 4 t.xmin ++ leI 4 t.xmax ++ [(↑(keyB t.key).length : Int)] ++ keyB t.key ++ [(↑(valB t.value).length : Int)]).length d'), (39, vS B_2 (valB t.value).length d_2)] [] ?_
 refine append_sc (by_ := 1) (e := 5) (by kernel_rfl : atB _ _ _ false = some (Op.call (Call.mk (Callee.builtin Builtin.append) #[tmpO 38, tmpO 39] #[44, 44]), 44, some 40, Rg.sq (bitL 10 511) 3)) (by kernel_rfl) rfl rfl (fun L w1 hs => hs.rd 1 rfl) (by simp [maxLen, leI_len] <;> omega) (by simp [leI_len] <;> omega) ?_
 intro B' d'
 have hfl : (((((leI 4 t.xmin ++ leI 4 t.xmax) ++ [((keyB t.key).length : Int)]) ++ keyB t.key) ++ [((valB t.value).length : Int)]) ++ valB t.value) = flat (tupL t) := by simp [flat, tupL]
 rw [hfl]
 refine gn 0 Rg.no [kCd (bitL 10 1023)] [(2, vS B' (flat (tupL t)).length d')] [] ?_
 refine rtk [vS B' (flat (tupL t)).length d'] ?_
 intro L w1 hs
 exact ⟨_, _, rfl, (hs.erases [1, 1]).out (As := [_])⟩
end Go.Proofs.YtgleoebogikooaaGreat.Dk
