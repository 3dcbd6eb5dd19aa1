/- Walks of functions of the program: what each call returns and what it leaves in memory. Conditions: those that each theorem names. -/
import Derived.Test.YtgleoebogikooaaGreatV3
import Derived.Test.YtgleoebogikooaaGreatSxC
namespace Go.Proofs.YtgleoebogikooaaGreat.Dk
set_option linter.unusedVariables false
set_option linter.unusedSimpArgs false
open Go.Proofs.YtgleoebogikooaaGreat.Sx Go.Proofs Go.RowKit
set_option maxRecDepth 100000
set_option maxHeartbeats 1000000
theorem tupL_len (t : Tu) : (flat (tupL t)).length ≤ 92 := by
 have h1 := keyB_len t.key
 have h2 := valB_len t.value
 simp only [flat, tupL, List.flatten_cons, List.flatten_nil, List.length_append, List.length_cons, List.length_nil, leI_len]
 omega
theorem tupB_len (t : Tu) : (tupB t).length ≤ 92 := by
 unfold tupB
 split
 ·exact tupL_len t
 ·simp
theorem tupB_by {t : Tu} (h1 : byOk t.key.t) (h2 : byOk t.value.t) : byOk (tupB t) := by
 unfold tupB
 split
 ·have l1 := keyB_len t.key
  have l2 := valB_len t.value
  simp only [flat, tupL, List.flatten_cons, List.flatten_nil, List.append_nil]
  exact byOk_app (leI_by _ _) (byOk_app (leI_by _ _) (byOk_app (byOk_cons (by omega) (fun x hx => by simp at hx)) (byOk_app (keyB_by h1) (byOk_app (byOk_cons (by omega) (fun x hx => by simp at hx)) (valB_by h2)))))
 ·exact fun x hx => by simp at hx
theorem iTupB_ok (t : Tu) (cst : List Value) (w : World) (ht : kTu.rd w.heap t cst) (hk : okN t.key) (hv : okN t.value) (lk_ : t.key.t.length ≤ 1048576) (lv_ : t.value.t.length ≤ 1048576) :
  Calls Tryz.prog 110 #[.agg cst.toArray] w fun e w' => ∃ (B : Option Addr) (d : Nat), e = .returned (.slice B (tupB t).length d) ∧ Fresh w w' [rowA 5 kU8 (tupB t) (.slice B (tupB t).length d)] := by
 obtain ⟨btkey_f, Atkey_t, ctkey_t, btvalue_f, Atvalue_t, ctvalue_t, rfl, hbtkey_f, hftkey_f, hrtkey_t, hbtvalue_f, hftvalue_f, hrtvalue_t⟩ := kTu_inv ht
 refine enter (args := [.agg [.v (.int .i64 t.xmin), .v (.int .i64 t.xmax), .v (.int .i64 t.key.kind), .v (.int .i64 t.key.n), .v (.float .f64 btkey_f), .v (.slice Atkey_t t.key.t.length ctkey_t), .v (.int .i64 t.value.kind), .v (.int .i64 t.value.n), .v (.float .f64 btvalue_f), .v (.slice Atvalue_t t.value.t.length ctvalue_t)]]) Tryz.func110 (c := bodyOf Tryz.f110) rfl rfl (start_LOK _) (start_old w) ?_
 have l1 := keyB_len t.key
 have l2 := valB_len t.value
 by_cases hok : ¬ tupOk t = true
 ·have hit : tupB t = [] := by unfold tupB; rw [if_neg hok]
  rw [hit]
  have nf_9 : (!tupOk t) = true := by rw [Bool.not_eq_true] at hok; rw [hok]; rfl
  refine gn 1 (Rg.sq (bitL 3 1) 1) [kCd (bitL 3 5), KI.code [true, true]] [(1, vR 0 0), (5, SV.agg [cI t.xmin, cI t.xmax, cI t.key.kind, cI t.key.n, cF btkey_f, cS Atkey_t t.key.t.length ctkey_t, cI t.value.kind, cI t.value.n, cF btvalue_f, cS Atvalue_t t.value.t.length ctvalue_t])] [LB.mk [cI t.xmin, cI t.xmax, cI t.key.kind, cI t.key.n, cF btkey_f, cS Atkey_t t.key.t.length ctkey_t, cI t.value.kind, cI t.value.n, cF btvalue_f, cS Atvalue_t t.value.t.length ctvalue_t] 60] ?_
  refine cpk 108 [SV.agg [cI t.xmin, cI t.xmax, cI t.key.kind, cI t.key.n, cF btkey_f, cS Atkey_t t.key.t.length ctkey_t, cI t.value.kind, cI t.value.n, cF btvalue_f, cS Atvalue_t t.value.t.length ctvalue_t]] (some 6) (Rg.sq (bitL 3 1) 2) (.one (.bo (tupOk t))) (fun L w1 hs => (iTupOk_ok (t) ([Value.int IntKind.i64 t.xmin, Value.int IntKind.i64 t.xmax, Value.int IntKind.i64 t.key.kind, Value.int IntKind.i64 t.key.n, Value.float FloatKind.f64 btkey_f, Value.slice Atkey_t t.key.t.length ctkey_t, Value.int IntKind.i64 t.value.kind, Value.int IntKind.i64 t.value.n, Value.float FloatKind.f64 btvalue_f, Value.slice Atvalue_t t.value.t.length ctvalue_t]) w1 (kTu_mk ‹_› hftkey_f (rdRow_ext (hs.old 0 rfl) hrtkey_t) ‹_› hftvalue_f (rdRow_ext (hs.old 0 rfl) hrtvalue_t)))) ?_
  refine gn 1 Rg.no [kCd (bitL 3 5), KI.code [true, true]] [(1, vR 0 0), (7, vB !tupOk t)] [LB.mk [cI t.xmin, cI t.xmax, cI t.key.kind, cI t.key.n, cF btkey_f, cS Atkey_t t.key.t.length ctkey_t, cI t.value.kind, cI t.value.n, cF btvalue_f, cS Atvalue_t t.value.t.length ctvalue_t] 60] ?_
  try simp only [flx, hbtkey_f, hftkey_f, hbtvalue_f, hftvalue_f, nf_9]
  refine gn 1 Rg.no [kCd (bitL 3 5), KI.code [true, true]] [(1, vR 0 0), (7, vB true)] [LB.mk [cI t.xmin, cI t.xmax, cI t.key.kind, cI t.key.n, cF btkey_f, cS Atkey_t t.key.t.length ctkey_t, cI t.value.kind, cI t.value.n, cF btvalue_f, cS Atvalue_t t.value.t.length ctvalue_t] 60] ?_
  refine ltk 7 true ?_
  refine gn 0 Rg.no [kCd (bitL 5 21), KI.code [true, true]] [(2, vS none 0 0)] [] ?_
  refine rtk [vS none 0 0] ?_
  intro L w1 hs
  exact ⟨none, 0, rfl, hs.out1 rowA_nil⟩
 replace hok : tupOk t = true := Classical.not_not.1 hok
 have hit : tupB t = flat (tupL t) := by unfold tupB; rw [if_pos hok]
 obtain ⟨k1, k2, k3, k4, k5, k6⟩ := tupOk_parts hok
 have nf_9 : (!tupOk t) = false := by rw [hok]; rfl
 have nf_8 : IntKind.u8.wrap ((keyB t.key).length : Int) = (keyB t.key).length := by rw [IntKind.wrap_u8]; omega
 have nf_7 : IntKind.u8.wrap ((valB t.value).length : Int) = (valB t.value).length := by rw [IntKind.wrap_u8]; omega
 have hp4 : pw 4 = 4294967296 := rfl
 have hx1 : t.xmin < pw 4 := by omega
 have hx2 : t.xmax < pw 4 := by omega
 rw [hit]
 refine gn 1 (Rg.sq (bitL 3 1) 1) [kCd (bitL 3 5), KI.code [true, true]] [(1, vR 0 0), (5, SV.agg [cI t.xmin, cI t.xmax, cI t.key.kind, cI t.key.n, cF btkey_f, cS Atkey_t t.key.t.length ctkey_t, cI t.value.kind, cI t.value.n, cF btvalue_f, cS Atvalue_t t.value.t.length ctvalue_t])] [LB.mk [cI t.xmin, cI t.xmax, cI t.key.kind, cI t.key.n, cF btkey_f, cS Atkey_t t.key.t.length ctkey_t, cI t.value.kind, cI t.value.n, cF btvalue_f, cS Atvalue_t t.value.t.length ctvalue_t] 60] ?_
 refine cpk 108 [SV.agg [cI t.xmin, cI t.xmax, cI t.key.kind, cI t.key.n, cF btkey_f, cS Atkey_t t.key.t.length ctkey_t, cI t.value.kind, cI t.value.n, cF btvalue_f, cS Atvalue_t t.value.t.length ctvalue_t]] (some 6) (Rg.sq (bitL 3 1) 2) (.one (.bo (tupOk t))) (fun L w1 hs => (iTupOk_ok (t) ([Value.int IntKind.i64 t.xmin, Value.int IntKind.i64 t.xmax, Value.int IntKind.i64 t.key.kind, Value.int IntKind.i64 t.key.n, Value.float FloatKind.f64 btkey_f, Value.slice Atkey_t t.key.t.length ctkey_t, Value.int IntKind.i64 t.value.kind, Value.int IntKind.i64 t.value.n, Value.float FloatKind.f64 btvalue_f, Value.slice Atvalue_t t.value.t.length ctvalue_t]) w1 (kTu_mk ‹_› hftkey_f (rdRow_ext (hs.old 0 rfl) hrtkey_t) ‹_› hftvalue_f (rdRow_ext (hs.old 0 rfl) hrtvalue_t)))) ?_
 refine gn 1 Rg.no [kCd (bitL 3 5), KI.code [true, true]] [(1, vR 0 0), (7, vB !tupOk t)] [LB.mk [cI t.xmin, cI t.xmax, cI t.key.kind, cI t.key.n, cF btkey_f, cS Atkey_t t.key.t.length ctkey_t, cI t.value.kind, cI t.value.n, cF btvalue_f, cS Atvalue_t t.value.t.length ctvalue_t] 60] ?_
 try simp only [flx, hbtkey_f, hftkey_f, hbtvalue_f, hftvalue_f, nf_9, nf_8, nf_7]
 refine gn 1 Rg.no [kCd (bitL 3 5), KI.code [true, true]] [(1, vR 0 0), (7, vB false)] [LB.mk [cI t.xmin, cI t.xmax, cI t.key.kind, cI t.key.n, cF btkey_f, cS Atkey_t t.key.t.length ctkey_t, cI t.value.kind, cI t.value.n, cF btvalue_f, cS Atvalue_t t.value.t.length ctvalue_t] 60] ?_
 refine ltk 7 false ?_
 refine gn 1 (Rg.dr (bitL 3 3) (bitL 8 27) 4 2) [kCd (bitL 3 7)] [(1, vR 0 0), (9, SV.agg [cI t.key.kind, cI t.key.n, cF btkey_f, cS Atkey_t t.key.t.length ctkey_t]), (12, SV.agg [cI t.value.kind, cI t.value.n, cF btvalue_f, cS Atvalue_t t.value.t.length ctvalue_t])] [LB.mk [cI t.xmin, cI t.xmax, cI t.key.kind, cI t.key.n, cF btkey_f, cS Atkey_t t.key.t.length ctkey_t, cI t.value.kind, cI t.value.n, cF btvalue_f, cS Atvalue_t t.value.t.length ctvalue_t] 60] ?_
 refine cak 119 [SV.agg [cI t.key.kind, cI t.key.n, cF btkey_f, cS Atkey_t t.key.t.length ctkey_t]] (some 10) (Rg.dr (bitL 3 3) (bitL 8 31) 3 11) (fun L w1 hs => (iKeyB_ok (t.key) ([Value.int IntKind.i64 t.key.kind, Value.int IntKind.i64 t.key.n, Value.float FloatKind.f64 btkey_f, Value.slice Atkey_t t.key.t.length ctkey_t]) w1 (kIt_mk ‹_› hftkey_f (rdRow_ext (hs.old 0 rfl) hrtkey_t)) ‹_› ‹_›).mono ?_)
 rintro e_ w2_ ⟨B_1, d_1, rfl, hf_⟩
 refine ⟨.one (.v (Value.slice B_1 (keyB t.key).length d_1)), _, _, rfl, fun _ => hf_.1.block, hs.fresh hf_, ?_⟩
 clear hs hf_
 refine gn 1 (Rg.dr (bitL 3 3) (bitL 8 31) 3 11) [kCd (bitL 3 7)] [(1, vR 0 0), (10, vS B_1 (keyB t.key).length d_1), (12, SV.agg [cI t.value.kind, cI t.value.n, cF btvalue_f, cS Atvalue_t t.value.t.length ctvalue_t])] [LB.mk [cI t.xmin, cI t.xmax, cI t.key.kind, cI t.key.n, cF btkey_f, cS Atkey_t t.key.t.length ctkey_t, cI t.value.kind, cI t.value.n, cF btvalue_f, cS Atvalue_t t.value.t.length ctvalue_t] 60] ?_
 refine cak 121 [SV.agg [cI t.value.kind, cI t.value.n, cF btvalue_f, cS Atvalue_t t.value.t.length ctvalue_t]] (some 13) (Rg.dr (bitL 3 3) (bitL 8 63) 2 11) (fun L w1 hs => (iValB_ok (t.value) ([Value.int IntKind.i64 t.value.kind, Value.int IntKind.i64 t.value.n, Value.float FloatKind.f64 btvalue_f, Value.slice Atvalue_t t.value.t.length ctvalue_t]) w1 (kIt_mk ‹_› hftvalue_f (rdRow_ext (hs.old 1 rfl) hrtvalue_t)) ‹_› ‹_›).mono ?_)
 rintro e_ w2_ ⟨B_2, d_2, rfl, hf_⟩
 refine ⟨.one (.v (Value.slice B_2 (valB t.value).length d_2)), _, _, rfl, fun _ => hf_.1.block, hs.fresh hf_, ?_⟩
 clear hs hf_
 refine gn 0 (Rg.dr (bitL 4 7) (bitL 19 48603) 7 2) [kCd (bitL 4 15)] [(15, vI t.xmin), (18, vI t.xmax), (22, SV.one (SC.v (Value.int IntKind.u8 (IntKind.u8.wrap (↑(keyB t.key).length : Int))))), (24, vS B_1 (keyB t.key).length d_1), (27, SV.one (SC.v (Value.int IntKind.u8 (IntKind.u8.wrap (↑(valB t.value).length : Int))))), (29, vS B_2 (valB t.value).length d_2)] [] ?_
 try simp only [flx, hbtkey_f, hftkey_f, hbtvalue_f, hftvalue_f, nf_9, nf_8, nf_7]
 refine three_at 2 9 14 (by kernel_rfl) ?_ ?_ ?_ <;> simp only [fxOf]
 ·refine gn 0 (Rg.fx (bitL 4 7) (bitL 19 48603) 6 2 2) [kCd (bitL 4 15)] [(15, vI t.xmin), (18, vI t.xmax), (22, SV.one (SC.v (Value.int IntKind.u8 (↑(keyB t.key).length : Int)))), (24, vS B_1 (keyB t.key).length d_1), (27, SV.one (SC.v (Value.int IntKind.u8 (↑(valB t.value).length : Int)))), (29, vS B_2 (valB t.value).length d_2)] [] ?_
  refine cak 123 [vI t.xmin, vI 4] (some 16) (Rg.dr (bitL 4 7) (bitL 19 48607) 6 10) (fun L w1 hs => (iPutNum_ok (t.xmin) (4) w1 (by omega) (by omega) (by decide) ‹_›).mono ?_)
  rintro e_ w2_ ⟨B_3, d_3, rfl, hf_⟩
  refine ⟨.one (.v (Value.slice B_3 (leI 4 t.xmin).length d_3)), _, _, rfl, fun _ => hf_.1.block, hs.fresh hf_, ?_⟩
  clear hs hf_
  refine gn 0 (Rg.dr (bitL 4 7) (bitL 19 48607) 6 10) [kCd (bitL 4 15)] [(16, vS B_3 4 d_3), (18, vI t.xmax), (22, SV.one (SC.v (Value.int IntKind.u8 (↑(keyB t.key).length : Int)))), (24, vS B_1 (keyB t.key).length d_1), (27, SV.one (SC.v (Value.int IntKind.u8 (↑(valB t.value).length : Int)))), (29, vS B_2 (valB t.value).length d_2)] [] ?_
  refine three_at 5 9 14 (by kernel_rfl) ?_ ?_ ?_ <;> simp only [fxOf]
  ·refine gn 0 (Rg.fx (bitL 4 7) (bitL 19 48607) 5 10 5) [kCd (bitL 4 15)] [(16, vS B_3 4 d_3), (18, vI t.xmax), (22, SV.one (SC.v (Value.int IntKind.u8 (↑(keyB t.key).length : Int)))), (24, vS B_1 (keyB t.key).length d_1), (27, SV.one (SC.v (Value.int IntKind.u8 (↑(valB t.value).length : Int)))), (29, vS B_2 (valB t.value).length d_2)] [] ?_
   refine cak 123 [vI t.xmax, vI 4] (some 19) (Rg.dr (bitL 4 7) (bitL 19 48639) 5 10) (fun L w1 hs => (iPutNum_ok (t.xmax) (4) w1 ‹_› (by omega) (by decide) ‹_›).mono ?_)
   rintro e_ w2_ ⟨B_4, d_4, rfl, hf_⟩
   refine ⟨.one (.v (Value.slice B_4 (leI 4 t.xmax).length d_4)), _, _, rfl, fun _ => hf_.1.block, hs.fresh hf_, ?_⟩
   clear hs hf_
   refine gn 0 (Rg.dr (bitL 4 7) (bitL 19 48639) 5 10) [kCd (bitL 4 15)] [(16, vS B_3 4 d_3), (19, vS B_4 4 d_4), (22, SV.one (SC.v (Value.int IntKind.u8 (↑(keyB t.key).length : Int)))), (24, vS B_1 (keyB t.key).length d_1), (27, SV.one (SC.v (Value.int IntKind.u8 (↑(valB t.value).length : Int)))), (29, vS B_2 (valB t.value).length d_2)] [] ?_
   refine two_at 9 14 (by kernel_rfl) ?_ ?_ <;> simp only [fxOf]
   ·refine stepFx_at true (St.mk (Rg.dr (bitL 4 7) (bitL 19 49151) 4 10) [kCd (bitL 4 15)] [(23, SV.one (SC.sl 0 0 1 1)), (16, vS B_3 4 d_3), (19, vS B_4 4 d_4), (22, SV.one (SC.v (Value.int IntKind.u8 (↑(keyB t.key).length : Int)))), (24, vS B_1 (keyB t.key).length d_1), (27, SV.one (SC.v (Value.int IntKind.u8 (↑(valB t.value).length : Int)))), (29, vS B_2 (valB t.value).length d_2)] [LB.mk [SC.v (Value.int IntKind.u8 (↑(keyB t.key).length : Int))] 5]) (by kernel_rfl) ?_
    refine gn 3 (Rg.dr (bitL 4 7) (bitL 19 131071) 2 10) [kCd (bitL 4 15)] [(30, SV.one (SC.sl 2 0 6 6))] [LB.mk [SC.v (Value.int IntKind.u8 (↑(keyB t.key).length : Int))] 5, LB.mk [SC.v (Value.int IntKind.u8 (↑(valB t.value).length : Int))] 5, LB.mk [cS B_3 4 d_3, cS B_4 4 d_4, SC.sl 0 0 1 1, cS B_1 (keyB t.key).length d_1, SC.sl 1 0 1 1, cS B_2 (valB t.value).length d_2] 44] ?_
    refine gn 3 (Rg.dr (bitL 4 7) (bitL 19 131071) 2 10) [kCd (bitL 4 15)] [(30, SV.one (SC.sl 2 0 6 6))] [LB.mk [SC.v (Value.int IntKind.u8 (↑(keyB t.key).length : Int))] 5, LB.mk [SC.v (Value.int IntKind.u8 (↑(valB t.value).length : Int))] 5, LB.mk [cS B_3 4 d_3, cS B_4 4 d_4, SC.sl 0 0 1 1, cS B_1 (keyB t.key).length d_1, SC.sl 1 0 1 1, cS B_2 (valB t.value).length d_2] 44] ?_
    refine cak 122 [SV.one (SC.sl 2 0 6 6)] (some 31) (Rg.dr (bitL 4 7) (bitL 19 262143) 1 10) (fun L w1 hs => (concat_ok (tupL t) _ w1 (rd_six (e := 5) (hs.2.1.2.2 2 _ rfl) (hs.rd 1 rfl) (hs.rd 0 rfl) (rd_lit1 (hs.2.1.2.2 0 _ rfl)) (hs.rd 3 rfl) (rd_lit1 (hs.2.1.2.2 1 _ rfl)) (hs.rd 2 rfl)) (by show (6 : Nat) ≤ 1048576; omega) (by have := tupL_len t; omega)).mono ?_)
    rintro e_ w2_ ⟨B_9, d_9, rfl, hf_⟩
    refine ⟨.one (.v (.slice B_9 (flat (tupL t)).length d_9)), _, _, rfl, fun _ => hf_.1.block, hs.fresh hf_, ?_⟩
    clear hs hf_
    refine gn 0 Rg.no [kCd (bitL 4 15)] [(2, vS B_9 (flat (tupL t)).length d_9)] [] ?_
    refine rtk [vS B_9 (flat (tupL t)).length d_9] ?_
    intro L w1 hs
    exact ⟨_, _, rfl, (hs.erases [1, 1, 1, 1]).out (As := [_])⟩
   ·refine stepFx_at true (St.mk (Rg.dr (bitL 4 7) (bitL 19 65023) 4 10) [kCd (bitL 4 15)] [(28, SV.one (SC.sl 0 0 1 1)), (16, vS B_3 4 d_3), (19, vS B_4 4 d_4), (22, SV.one (SC.v (Value.int IntKind.u8 (↑(keyB t.key).length : Int)))), (24, vS B_1 (keyB t.key).length d_1), (27, SV.one (SC.v (Value.int IntKind.u8 (↑(valB t.value).length : Int)))), (29, vS B_2 (valB t.value).length d_2)] [LB.mk [SC.v (Value.int IntKind.u8 (↑(valB t.value).length : Int))] 5]) (by kernel_rfl) ?_
    refine gn 3 (Rg.dr (bitL 4 7) (bitL 19 131071) 2 10) [kCd (bitL 4 15)] [(30, SV.one (SC.sl 2 0 6 6))] [LB.mk [SC.v (Value.int IntKind.u8 (↑(valB t.value).length : Int))] 5, LB.mk [SC.v (Value.int IntKind.u8 (↑(keyB t.key).length : Int))] 5, LB.mk [cS B_3 4 d_3, cS B_4 4 d_4, SC.sl 1 0 1 1, cS B_1 (keyB t.key).length d_1, SC.sl 0 0 1 1, cS B_2 (valB t.value).length d_2] 44] ?_
    refine gn 3 (Rg.dr (bitL 4 7) (bitL 19 131071) 2 10) [kCd (bitL 4 15)] [(30, SV.one (SC.sl 2 0 6 6))] [LB.mk [SC.v (Value.int IntKind.u8 (↑(valB t.value).length : Int))] 5, LB.mk [SC.v (Value.int IntKind.u8 (↑(keyB t.key).length : Int))] 5, LB.mk [cS B_3 4 d_3, cS B_4 4 d_4, SC.sl 1 0 1 1, cS B_1 (keyB t.key).length d_1, SC.sl 0 0 1 1, cS B_2 (valB t.value).length d_2] 44] ?_
    refine cak 122 [SV.one (SC.sl 2 0 6 6)] (some 31) (Rg.dr (bitL 4 7) (bitL 19 262143) 1 10) (fun L w1 hs => (concat_ok (tupL t) _ w1 (rd_six (e := 5) (hs.2.1.2.2 2 _ rfl) (hs.rd 1 rfl) (hs.rd 0 rfl) (rd_lit1 (hs.2.1.2.2 1 _ rfl)) (hs.rd 3 rfl) (rd_lit1 (hs.2.1.2.2 0 _ rfl)) (hs.rd 2 rfl)) (by show (6 : Nat) ≤ 1048576; omega) (by have := tupL_len t; omega)).mono ?_)
    rintro e_ w2_ ⟨B_9, d_9, rfl, hf_⟩
    refine ⟨.one (.v (.slice B_9 (flat (tupL t)).length d_9)), _, _, rfl, fun _ => hf_.1.block, hs.fresh hf_, ?_⟩
    clear hs hf_
    refine gn 0 Rg.no [kCd (bitL 4 15)] [(2, vS B_9 (flat (tupL t)).length d_9)] [] ?_
    refine rtk [vS B_9 (flat (tupL t)).length d_9] ?_
    intro L w1 hs
    exact ⟨_, _, rfl, (hs.erases [1, 1, 1, 1]).out (As := [_])⟩
  ·refine stepFx_at true (St.mk (Rg.dr (bitL 4 7) (bitL 19 49119) 5 10) [kCd (bitL 4 15)] [(23, SV.one (SC.sl 0 0 1 1)), (16, vS B_3 4 d_3), (18, vI t.xmax), (22, SV.one (SC.v (Value.int IntKind.u8 (↑(keyB t.key).length : Int)))), (24, vS B_1 (keyB t.key).length d_1), (27, SV.one (SC.v (Value.int IntKind.u8 (↑(valB t.value).length : Int)))), (29, vS B_2 (valB t.value).length d_2)] [LB.mk [SC.v (Value.int IntKind.u8 (↑(keyB t.key).length : Int))] 5]) (by kernel_rfl) ?_
   refine gn 1 (Rg.dr (bitL 4 7) (bitL 19 49119) 5 10) [kCd (bitL 4 15)] [(16, vS B_3 4 d_3), (18, vI t.xmax), (23, SV.one (SC.sl 0 0 1 1)), (24, vS B_1 (keyB t.key).length d_1), (27, SV.one (SC.v (Value.int IntKind.u8 (↑(valB t.value).length : Int)))), (29, vS B_2 (valB t.value).length d_2)] [LB.mk [SC.v (Value.int IntKind.u8 (↑(keyB t.key).length : Int))] 5] ?_
   refine two_at 5 14 (by kernel_rfl) ?_ ?_ <;> simp only [fxOf]
   ·refine gn 1 (Rg.fx (bitL 4 7) (bitL 19 49119) 4 10 5) [kCd (bitL 4 15)] [(16, vS B_3 4 d_3), (18, vI t.xmax), (23, SV.one (SC.sl 0 0 1 1)), (24, vS B_1 (keyB t.key).length d_1), (27, SV.one (SC.v (Value.int IntKind.u8 (↑(valB t.value).length : Int)))), (29, vS B_2 (valB t.value).length d_2)] [LB.mk [SC.v (Value.int IntKind.u8 (↑(keyB t.key).length : Int))] 5] ?_
    refine cak 123 [vI t.xmax, vI 4] (some 19) (Rg.dr (bitL 4 7) (bitL 19 49151) 4 10) (fun L w1 hs => (iPutNum_ok (t.xmax) (4) w1 ‹_› (by omega) (by decide) ‹_›).mono ?_)
    rintro e_ w2_ ⟨B_4, d_4, rfl, hf_⟩
    refine ⟨.one (.v (Value.slice B_4 (leI 4 t.xmax).length d_4)), _, _, rfl, fun _ => hf_.1.block, hs.fresh hf_, ?_⟩
    clear hs hf_
    refine gn 3 (Rg.dr (bitL 4 7) (bitL 19 131071) 2 10) [kCd (bitL 4 15)] [(30, SV.one (SC.sl 2 0 6 6))] [LB.mk [SC.v (Value.int IntKind.u8 (↑(keyB t.key).length : Int))] 5, LB.mk [SC.v (Value.int IntKind.u8 (↑(valB t.value).length : Int))] 5, LB.mk [cS B_3 4 d_3, cS B_4 4 d_4, SC.sl 0 0 1 1, cS B_1 (keyB t.key).length d_1, SC.sl 1 0 1 1, cS B_2 (valB t.value).length d_2] 44] ?_
    refine gn 3 (Rg.dr (bitL 4 7) (bitL 19 131071) 2 10) [kCd (bitL 4 15)] [(30, SV.one (SC.sl 2 0 6 6))] [LB.mk [SC.v (Value.int IntKind.u8 (↑(keyB t.key).length : Int))] 5, LB.mk [SC.v (Value.int IntKind.u8 (↑(valB t.value).length : Int))] 5, LB.mk [cS B_3 4 d_3, cS B_4 4 d_4, SC.sl 0 0 1 1, cS B_1 (keyB t.key).length d_1, SC.sl 1 0 1 1, cS B_2 (valB t.value).length d_2] 44] ?_
    refine cak 122 [SV.one (SC.sl 2 0 6 6)] (some 31) (Rg.dr (bitL 4 7) (bitL 19 262143) 1 10) (fun L w1 hs => (concat_ok (tupL t) _ w1 (rd_six (e := 5) (hs.2.1.2.2 2 _ rfl) (hs.rd 1 rfl) (hs.rd 0 rfl) (rd_lit1 (hs.2.1.2.2 0 _ rfl)) (hs.rd 3 rfl) (rd_lit1 (hs.2.1.2.2 1 _ rfl)) (hs.rd 2 rfl)) (by show (6 : Nat) ≤ 1048576; omega) (by have := tupL_len t; omega)).mono ?_)
    rintro e_ w2_ ⟨B_9, d_9, rfl, hf_⟩
    refine ⟨.one (.v (.slice B_9 (flat (tupL t)).length d_9)), _, _, rfl, fun _ => hf_.1.block, hs.fresh hf_, ?_⟩
    clear hs hf_
    refine gn 0 Rg.no [kCd (bitL 4 15)] [(2, vS B_9 (flat (tupL t)).length d_9)] [] ?_
    refine rtk [vS B_9 (flat (tupL t)).length d_9] ?_
    intro L w1 hs
    exact ⟨_, _, rfl, (hs.erases [1, 1, 1, 1]).out (As := [_])⟩
   ·refine stepFx_at true (St.mk (Rg.dr (bitL 4 7) (bitL 19 65503) 4 10) [kCd (bitL 4 15)] [(28, SV.one (SC.sl 1 0 1 1)), (16, vS B_3 4 d_3), (18, vI t.xmax), (23, SV.one (SC.sl 0 0 1 1)), (24, vS B_1 (keyB t.key).length d_1), (27, SV.one (SC.v (Value.int IntKind.u8 (↑(valB t.value).length : Int)))), (29, vS B_2 (valB t.value).length d_2)] [LB.mk [SC.v (Value.int IntKind.u8 (↑(keyB t.key).length : Int))] 5, LB.mk [SC.v (Value.int IntKind.u8 (↑(valB t.value).length : Int))] 5]) (by kernel_rfl) ?_
    refine gn 2 (Rg.dr (bitL 4 7) (bitL 19 65503) 4 10) [kCd (bitL 4 15)] [(16, vS B_3 4 d_3), (18, vI t.xmax), (23, SV.one (SC.sl 0 0 1 1)), (24, vS B_1 (keyB t.key).length d_1), (28, SV.one (SC.sl 1 0 1 1)), (29, vS B_2 (valB t.value).length d_2)] [LB.mk [SC.v (Value.int IntKind.u8 (↑(keyB t.key).length : Int))] 5, LB.mk [SC.v (Value.int IntKind.u8 (↑(valB t.value).length : Int))] 5] ?_
    refine gn 2 (Rg.dr (bitL 4 7) (bitL 19 65503) 4 10) [kCd (bitL 4 15)] [(16, vS B_3 4 d_3), (18, vI t.xmax), (23, SV.one (SC.sl 0 0 1 1)), (24, vS B_1 (keyB t.key).length d_1), (28, SV.one (SC.sl 1 0 1 1)), (29, vS B_2 (valB t.value).length d_2)] [LB.mk [SC.v (Value.int IntKind.u8 (↑(keyB t.key).length : Int))] 5, LB.mk [SC.v (Value.int IntKind.u8 (↑(valB t.value).length : Int))] 5] ?_
    refine cak 123 [vI t.xmax, vI 4] (some 19) (Rg.dr (bitL 4 7) (bitL 19 65535) 3 10) (fun L w1 hs => (iPutNum_ok (t.xmax) (4) w1 ‹_› (by omega) (by decide) ‹_›).mono ?_)
    rintro e_ w2_ ⟨B_4, d_4, rfl, hf_⟩
    refine ⟨.one (.v (Value.slice B_4 (leI 4 t.xmax).length d_4)), _, _, rfl, fun _ => hf_.1.block, hs.fresh hf_, ?_⟩
    clear hs hf_
    refine gn 3 (Rg.dr (bitL 4 7) (bitL 19 131071) 2 10) [kCd (bitL 4 15)] [(30, SV.one (SC.sl 2 0 6 6))] [LB.mk [SC.v (Value.int IntKind.u8 (↑(keyB t.key).length : Int))] 5, LB.mk [SC.v (Value.int IntKind.u8 (↑(valB t.value).length : Int))] 5, LB.mk [cS B_3 4 d_3, cS B_4 4 d_4, SC.sl 0 0 1 1, cS B_1 (keyB t.key).length d_1, SC.sl 1 0 1 1, cS B_2 (valB t.value).length d_2] 44] ?_
    refine cak 122 [SV.one (SC.sl 2 0 6 6)] (some 31) (Rg.dr (bitL 4 7) (bitL 19 262143) 1 10) (fun L w1 hs => (concat_ok (tupL t) _ w1 (rd_six (e := 5) (hs.2.1.2.2 2 _ rfl) (hs.rd 1 rfl) (hs.rd 0 rfl) (rd_lit1 (hs.2.1.2.2 0 _ rfl)) (hs.rd 3 rfl) (rd_lit1 (hs.2.1.2.2 1 _ rfl)) (hs.rd 2 rfl)) (by show (6 : Nat) ≤ 1048576; omega) (by have := tupL_len t; omega)).mono ?_)
    rintro e_ w2_ ⟨B_9, d_9, rfl, hf_⟩
    refine ⟨.one (.v (.slice B_9 (flat (tupL t)).length d_9)), _, _, rfl, fun _ => hf_.1.block, hs.fresh hf_, ?_⟩
    clear hs hf_
    refine gn 0 Rg.no [kCd (bitL 4 15)] [(2, vS B_9 (flat (tupL t)).length d_9)] [] ?_
    refine rtk [vS B_9 (flat (tupL t)).length d_9] ?_
    intro L w1 hs
    exact ⟨_, _, rfl, (hs.erases [1, 1, 1, 1]).out (As := [_])⟩
  ·refine stepFx_at true (St.mk (Rg.dr (bitL 4 7) (bitL 19 64991) 5 10) [kCd (bitL 4 15)] [(28, SV.one (SC.sl 0 0 1 1)), (16, vS B_3 4 d_3), (18, vI t.xmax), (22, SV.one (SC.v (Value.int IntKind.u8 (↑(keyB t.key).length : Int)))), (24, vS B_1 (keyB t.key).length d_1), (27, SV.one (SC.v (Value.int IntKind.u8 (↑(valB t.value).length : Int)))), (29, vS B_2 (valB t.value).length d_2)] [LB.mk [SC.v (Value.int IntKind.u8 (↑(valB t.value).length : Int))] 5]) (by kernel_rfl) ?_
   refine gn 1 (Rg.dr (bitL 4 7) (bitL 19 64991) 5 10) [kCd (bitL 4 15)] [(16, vS B_3 4 d_3), (18, vI t.xmax), (22, SV.one (SC.v (Value.int IntKind.u8 (↑(keyB t.key).length : Int)))), (24, vS B_1 (keyB t.key).length d_1), (28, SV.one (SC.sl 0 0 1 1)), (29, vS B_2 (valB t.value).length d_2)] [LB.mk [SC.v (Value.int IntKind.u8 (↑(valB t.value).length : Int))] 5] ?_
   refine two_at 5 9 (by kernel_rfl) ?_ ?_ <;> simp only [fxOf]
   ·refine gn 1 (Rg.fx (bitL 4 7) (bitL 19 64991) 4 10 5) [kCd (bitL 4 15)] [(16, vS B_3 4 d_3), (18, vI t.xmax), (22, SV.one (SC.v (Value.int IntKind.u8 (↑(keyB t.key).length : Int)))), (24, vS B_1 (keyB t.key).length d_1), (28, SV.one (SC.sl 0 0 1 1)), (29, vS B_2 (valB t.value).length d_2)] [LB.mk [SC.v (Value.int IntKind.u8 (↑(valB t.value).length : Int))] 5] ?_
    refine cak 123 [vI t.xmax, vI 4] (some 19) (Rg.dr (bitL 4 7) (bitL 19 65023) 4 10) (fun L w1 hs => (iPutNum_ok (t.xmax) (4) w1 ‹_› (by omega) (by decide) ‹_›).mono ?_)
    rintro e_ w2_ ⟨B_4, d_4, rfl, hf_⟩
    refine ⟨.one (.v (Value.slice B_4 (leI 4 t.xmax).length d_4)), _, _, rfl, fun _ => hf_.1.block, hs.fresh hf_, ?_⟩
    clear hs hf_
    refine gn 3 (Rg.dr (bitL 4 7) (bitL 19 131071) 2 10) [kCd (bitL 4 15)] [(30, SV.one (SC.sl 2 0 6 6))] [LB.mk [SC.v (Value.int IntKind.u8 (↑(valB t.value).length : Int))] 5, LB.mk [SC.v (Value.int IntKind.u8 (↑(keyB t.key).length : Int))] 5, LB.mk [cS B_3 4 d_3, cS B_4 4 d_4, SC.sl 1 0 1 1, cS B_1 (keyB t.key).length d_1, SC.sl 0 0 1 1, cS B_2 (valB t.value).length d_2] 44] ?_
    refine gn 3 (Rg.dr (bitL 4 7) (bitL 19 131071) 2 10) [kCd (bitL 4 15)] [(30, SV.one (SC.sl 2 0 6 6))] [LB.mk [SC.v (Value.int IntKind.u8 (↑(valB t.value).length : Int))] 5, LB.mk [SC.v (Value.int IntKind.u8 (↑(keyB t.key).length : Int))] 5, LB.mk [cS B_3 4 d_3, cS B_4 4 d_4, SC.sl 1 0 1 1, cS B_1 (keyB t.key).length d_1, SC.sl 0 0 1 1, cS B_2 (valB t.value).length d_2] 44] ?_
    refine cak 122 [SV.one (SC.sl 2 0 6 6)] (some 31) (Rg.dr (bitL 4 7) (bitL 19 262143) 1 10) (fun L w1 hs => (concat_ok (tupL t) _ w1 (rd_six (e := 5) (hs.2.1.2.2 2 _ rfl) (hs.rd 1 rfl) (hs.rd 0 rfl) (rd_lit1 (hs.2.1.2.2 1 _ rfl)) (hs.rd 3 rfl) (rd_lit1 (hs.2.1.2.2 0 _ rfl)) (hs.rd 2 rfl)) (by show (6 : Nat) ≤ 1048576; omega) (by have := tupL_len t; omega)).mono ?_)
    rintro e_ w2_ ⟨B_9, d_9, rfl, hf_⟩
    refine ⟨.one (.v (.slice B_9 (flat (tupL t)).length d_9)), _, _, rfl, fun _ => hf_.1.block, hs.fresh hf_, ?_⟩
    clear hs hf_
    refine gn 0 Rg.no [kCd (bitL 4 15)] [(2, vS B_9 (flat (tupL t)).length d_9)] [] ?_
    refine rtk [vS B_9 (flat (tupL t)).length d_9] ?_
    intro L w1 hs
    exact ⟨_, _, rfl, (hs.erases [1, 1, 1, 1]).out (As := [_])⟩
   ·refine stepFx_at true (St.mk (Rg.dr (bitL 4 7) (bitL 19 65503) 4 10) [kCd (bitL 4 15)] [(23, SV.one (SC.sl 1 0 1 1)), (16, vS B_3 4 d_3), (18, vI t.xmax), (22, SV.one (SC.v (Value.int IntKind.u8 (↑(keyB t.key).length : Int)))), (24, vS B_1 (keyB t.key).length d_1), (28, SV.one (SC.sl 0 0 1 1)), (29, vS B_2 (valB t.value).length d_2)] [LB.mk [SC.v (Value.int IntKind.u8 (↑(valB t.value).length : Int))] 5, LB.mk [SC.v (Value.int IntKind.u8 (↑(keyB t.key).length : Int))] 5]) (by kernel_rfl) ?_
    refine gn 2 (Rg.dr (bitL 4 7) (bitL 19 65503) 4 10) [kCd (bitL 4 15)] [(16, vS B_3 4 d_3), (18, vI t.xmax), (23, SV.one (SC.sl 1 0 1 1)), (24, vS B_1 (keyB t.key).length d_1), (28, SV.one (SC.sl 0 0 1 1)), (29, vS B_2 (valB t.value).length d_2)] [LB.mk [SC.v (Value.int IntKind.u8 (↑(valB t.value).length : Int))] 5, LB.mk [SC.v (Value.int IntKind.u8 (↑(keyB t.key).length : Int))] 5] ?_
    refine gn 2 (Rg.dr (bitL 4 7) (bitL 19 65503) 4 10) [kCd (bitL 4 15)] [(16, vS B_3 4 d_3), (18, vI t.xmax), (23, SV.one (SC.sl 1 0 1 1)), (24, vS B_1 (keyB t.key).length d_1), (28, SV.one (SC.sl 0 0 1 1)), (29, vS B_2 (valB t.value).length d_2)] [LB.mk [SC.v (Value.int IntKind.u8 (↑(valB t.value).length : Int))] 5, LB.mk [SC.v (Value.int IntKind.u8 (↑(keyB t.key).length : Int))] 5] ?_
    refine cak 123 [vI t.xmax, vI 4] (some 19) (Rg.dr (bitL 4 7) (bitL 19 65535) 3 10) (fun L w1 hs => (iPutNum_ok (t.xmax) (4) w1 ‹_› (by omega) (by decide) ‹_›).mono ?_)
    rintro e_ w2_ ⟨B_4, d_4, rfl, hf_⟩
    refine ⟨.one (.v (Value.slice B_4 (leI 4 t.xmax).length d_4)), _, _, rfl, fun _ => hf_.1.block, hs.fresh hf_, ?_⟩
    clear hs hf_
    refine gn 3 (Rg.dr (bitL 4 7) (bitL 19 131071) 2 10) [kCd (bitL 4 15)] [(30, SV.one (SC.sl 2 0 6 6))] [LB.mk [SC.v (Value.int IntKind.u8 (↑(valB t.value).length : Int))] 5, LB.mk [SC.v (Value.int IntKind.u8 (↑(keyB t.key).length : Int))] 5, LB.mk [cS B_3 4 d_3, cS B_4 4 d_4, SC.sl 1 0 1 1, cS B_1 (keyB t.key).length d_1, SC.sl 0 0 1 1, cS B_2 (valB t.value).length d_2] 44] ?_
    refine cak 122 [SV.one (SC.sl 2 0 6 6)] (some 31) (Rg.dr (bitL 4 7) (bitL 19 262143) 1 10) (fun L w1 hs => (concat_ok (tupL t) _ w1 (rd_six (e := 5) (hs.2.1.2.2 2 _ rfl) (hs.rd 1 rfl) (hs.rd 0 rfl) (rd_lit1 (hs.2.1.2.2 1 _ rfl)) (hs.rd 3 rfl) (rd_lit1 (hs.2.1.2.2 0 _ rfl)) (hs.rd 2 rfl)) (by show (6 : Nat) ≤ 1048576; omega) (by have := tupL_len t; omega)).mono ?_)
    rintro e_ w2_ ⟨B_9, d_9, rfl, hf_⟩
    refine ⟨.one (.v (.slice B_9 (flat (tupL t)).length d_9)), _, _, rfl, fun _ => hf_.1.block, hs.fresh hf_, ?_⟩
    clear hs hf_
    refine gn 0 Rg.no [kCd (bitL 4 15)] [(2, vS B_9 (flat (tupL t)).length d_9)] [] ?_
    refine rtk [vS B_9 (flat (tupL t)).length d_9] ?_
    intro L w1 hs
    exact ⟨_, _, rfl, (hs.erases [1, 1, 1, 1]).out (As := [_])⟩
 ·refine stepFx_at true (St.mk (Rg.dr (bitL 4 7) (bitL 19 49115) 6 10) [kCd (bitL 4 15)] [(23, SV.one (SC.sl 0 0 1 1)), (15, vI t.xmin), (18, vI t.xmax), (22, SV.one (SC.v (Value.int IntKind.u8 (↑(keyB t.key).length : Int)))), (24, vS B_1 (keyB t.key).length d_1), (27, SV.one (SC.v (Value.int IntKind.u8 (↑(valB t.value).length : Int)))), (29, vS B_2 (valB t.value).length d_2)] [LB.mk [SC.v (Value.int IntKind.u8 (↑(keyB t.key).length : Int))] 5]) (by kernel_rfl) ?_
  refine gn 1 (Rg.dr (bitL 4 7) (bitL 19 49115) 6 10) [kCd (bitL 4 15)] [(15, vI t.xmin), (18, vI t.xmax), (23, SV.one (SC.sl 0 0 1 1)), (24, vS B_1 (keyB t.key).length d_1), (27, SV.one (SC.v (Value.int IntKind.u8 (↑(valB t.value).length : Int)))), (29, vS B_2 (valB t.value).length d_2)] [LB.mk [SC.v (Value.int IntKind.u8 (↑(keyB t.key).length : Int))] 5] ?_
  refine two_at 2 14 (by kernel_rfl) ?_ ?_ <;> simp only [fxOf]
  ·refine gn 1 (Rg.fx (bitL 4 7) (bitL 19 49115) 5 10 2) [kCd (bitL 4 15)] [(15, vI t.xmin), (18, vI t.xmax), (23, SV.one (SC.sl 0 0 1 1)), (24, vS B_1 (keyB t.key).length d_1), (27, SV.one (SC.v (Value.int IntKind.u8 (↑(valB t.value).length : Int)))), (29, vS B_2 (valB t.value).length d_2)] [LB.mk [SC.v (Value.int IntKind.u8 (↑(keyB t.key).length : Int))] 5] ?_
   refine cak 123 [vI t.xmin, vI 4] (some 16) (Rg.dr (bitL 4 7) (bitL 19 49119) 5 10) (fun L w1 hs => (iPutNum_ok (t.xmin) (4) w1 (by omega) (by omega) (by decide) ‹_›).mono ?_)
   rintro e_ w2_ ⟨B_3, d_3, rfl, hf_⟩
   refine ⟨.one (.v (Value.slice B_3 (leI 4 t.xmin).length d_3)), _, _, rfl, fun _ => hf_.1.block, hs.fresh hf_, ?_⟩
   clear hs hf_
   refine gn 1 (Rg.dr (bitL 4 7) (bitL 19 49119) 5 10) [kCd (bitL 4 15)] [(16, vS B_3 4 d_3), (18, vI t.xmax), (23, SV.one (SC.sl 0 0 1 1)), (24, vS B_1 (keyB t.key).length d_1), (27, SV.one (SC.v (Value.int IntKind.u8 (↑(valB t.value).length : Int)))), (29, vS B_2 (valB t.value).length d_2)] [LB.mk [SC.v (Value.int IntKind.u8 (↑(keyB t.key).length : Int))] 5] ?_
   refine two_at 5 14 (by kernel_rfl) ?_ ?_ <;> simp only [fxOf]
   ·refine gn 1 (Rg.fx (bitL 4 7) (bitL 19 49119) 4 10 5) [kCd (bitL 4 15)] [(16, vS B_3 4 d_3), (18, vI t.xmax), (23, SV.one (SC.sl 0 0 1 1)), (24, vS B_1 (keyB t.key).length d_1), (27, SV.one (SC.v (Value.int IntKind.u8 (↑(valB t.value).length : Int)))), (29, vS B_2 (valB t.value).length d_2)] [LB.mk [SC.v (Value.int IntKind.u8 (↑(keyB t.key).length : Int))] 5] ?_
    refine cak 123 [vI t.xmax, vI 4] (some 19) (Rg.dr (bitL 4 7) (bitL 19 49151) 4 10) (fun L w1 hs => (iPutNum_ok (t.xmax) (4) w1 ‹_› (by omega) (by decide) ‹_›).mono ?_)
    rintro e_ w2_ ⟨B_4, d_4, rfl, hf_⟩
    refine ⟨.one (.v (Value.slice B_4 (leI 4 t.xmax).length d_4)), _, _, rfl, fun _ => hf_.1.block, hs.fresh hf_, ?_⟩
    clear hs hf_
    refine gn 3 (Rg.dr (bitL 4 7) (bitL 19 131071) 2 10) [kCd (bitL 4 15)] [(30, SV.one (SC.sl 2 0 6 6))] [LB.mk [SC.v (Value.int IntKind.u8 (↑(keyB t.key).length : Int))] 5, LB.mk [SC.v (Value.int IntKind.u8 (↑(valB t.value).length : Int))] 5, LB.mk [cS B_3 4 d_3, cS B_4 4 d_4, SC.sl 0 0 1 1, cS B_1 (keyB t.key).length d_1, SC.sl 1 0 1 1, cS B_2 (valB t.value).length d_2] 44] ?_
    refine gn 3 (Rg.dr (bitL 4 7) (bitL 19 131071) 2 10) [kCd (bitL 4 15)] [(30, SV.one (SC.sl 2 0 6 6))] [LB.mk [SC.v (Value.int IntKind.u8 (↑(keyB t.key).length : Int))] 5, LB.mk [SC.v (Value.int IntKind.u8 (↑(valB t.value).length : Int))] 5, LB.mk [cS B_3 4 d_3, cS B_4 4 d_4, SC.sl 0 0 1 1, cS B_1 (keyB t.key).length d_1, SC.sl 1 0 1 1, cS B_2 (valB t.value).length d_2] 44] ?_
    refine cak 122 [SV.one (SC.sl 2 0 6 6)] (some 31) (Rg.dr (bitL 4 7) (bitL 19 262143) 1 10) (fun L w1 hs => (concat_ok (tupL t) _ w1 (rd_six (e := 5) (hs.2.1.2.2 2 _ rfl) (hs.rd 1 rfl) (hs.rd 0 rfl) (rd_lit1 (hs.2.1.2.2 0 _ rfl)) (hs.rd 3 rfl) (rd_lit1 (hs.2.1.2.2 1 _ rfl)) (hs.rd 2 rfl)) (by show (6 : Nat) ≤ 1048576; omega) (by have := tupL_len t; omega)).mono ?_)
    rintro e_ w2_ ⟨B_9, d_9, rfl, hf_⟩
    refine ⟨.one (.v (.slice B_9 (flat (tupL t)).length d_9)), _, _, rfl, fun _ => hf_.1.block, hs.fresh hf_, ?_⟩
    clear hs hf_
    refine gn 0 Rg.no [kCd (bitL 4 15)] [(2, vS B_9 (flat (tupL t)).length d_9)] [] ?_
    refine rtk [vS B_9 (flat (tupL t)).length d_9] ?_
    intro L w1 hs
    exact ⟨_, _, rfl, (hs.erases [1, 1, 1, 1]).out (As := [_])⟩
   ·refine stepFx_at true (St.mk (Rg.dr (bitL 4 7) (bitL 19 65503) 4 10) [kCd (bitL 4 15)] [(28, SV.one (SC.sl 1 0 1 1)), (16, vS B_3 4 d_3), (18, vI t.xmax), (23, SV.one (SC.sl 0 0 1 1)), (24, vS B_1 (keyB t.key).length d_1), (27, SV.one (SC.v (Value.int IntKind.u8 (↑(valB t.value).length : Int)))), (29, vS B_2 (valB t.value).length d_2)] [LB.mk [SC.v (Value.int IntKind.u8 (↑(keyB t.key).length : Int))] 5, LB.mk [SC.v (Value.int IntKind.u8 (↑(valB t.value).length : Int))] 5]) (by kernel_rfl) ?_
    refine gn 2 (Rg.dr (bitL 4 7) (bitL 19 65503) 4 10) [kCd (bitL 4 15)] [(16, vS B_3 4 d_3), (18, vI t.xmax), (23, SV.one (SC.sl 0 0 1 1)), (24, vS B_1 (keyB t.key).length d_1), (28, SV.one (SC.sl 1 0 1 1)), (29, vS B_2 (valB t.value).length d_2)] [LB.mk [SC.v (Value.int IntKind.u8 (↑(keyB t.key).length : Int))] 5, LB.mk [SC.v (Value.int IntKind.u8 (↑(valB t.value).length : Int))] 5] ?_
    refine gn 2 (Rg.dr (bitL 4 7) (bitL 19 65503) 4 10) [kCd (bitL 4 15)] [(16, vS B_3 4 d_3), (18, vI t.xmax), (23, SV.one (SC.sl 0 0 1 1)), (24, vS B_1 (keyB t.key).length d_1), (28, SV.one (SC.sl 1 0 1 1)), (29, vS B_2 (valB t.value).length d_2)] [LB.mk [SC.v (Value.int IntKind.u8 (↑(keyB t.key).length : Int))] 5, LB.mk [SC.v (Value.int IntKind.u8 (↑(valB t.value).length : Int))] 5] ?_
    refine cak 123 [vI t.xmax, vI 4] (some 19) (Rg.dr (bitL 4 7) (bitL 19 65535) 3 10) (fun L w1 hs => (iPutNum_ok (t.xmax) (4) w1 ‹_› (by omega) (by decide) ‹_›).mono ?_)
    rintro e_ w2_ ⟨B_4, d_4, rfl, hf_⟩
    refine ⟨.one (.v (Value.slice B_4 (leI 4 t.xmax).length d_4)), _, _, rfl, fun _ => hf_.1.block, hs.fresh hf_, ?_⟩
    clear hs hf_
    refine gn 3 (Rg.dr (bitL 4 7) (bitL 19 131071) 2 10) [kCd (bitL 4 15)] [(30, SV.one (SC.sl 2 0 6 6))] [LB.mk [SC.v (Value.int IntKind.u8 (↑(keyB t.key).length : Int))] 5, LB.mk [SC.v (Value.int IntKind.u8 (↑(valB t.value).length : Int))] 5, LB.mk [cS B_3 4 d_3, cS B_4 4 d_4, SC.sl 0 0 1 1, cS B_1 (keyB t.key).length d_1, SC.sl 1 0 1 1, cS B_2 (valB t.value).length d_2] 44] ?_
    refine cak 122 [SV.one (SC.sl 2 0 6 6)] (some 31) (Rg.dr (bitL 4 7) (bitL 19 262143) 1 10) (fun L w1 hs => (concat_ok (tupL t) _ w1 (rd_six (e := 5) (hs.2.1.2.2 2 _ rfl) (hs.rd 1 rfl) (hs.rd 0 rfl) (rd_lit1 (hs.2.1.2.2 0 _ rfl)) (hs.rd 3 rfl) (rd_lit1 (hs.2.1.2.2 1 _ rfl)) (hs.rd 2 rfl)) (by show (6 : Nat) ≤ 1048576; omega) (by have := tupL_len t; omega)).mono ?_)
    rintro e_ w2_ ⟨B_9, d_9, rfl, hf_⟩
    refine ⟨.one (.v (.slice B_9 (flat (tupL t)).length d_9)), _, _, rfl, fun _ => hf_.1.block, hs.fresh hf_, ?_⟩
    clear hs hf_
    refine gn 0 Rg.no [kCd (bitL 4 15)] [(2, vS B_9 (flat (tupL t)).length d_9)] [] ?_
    refine rtk [vS B_9 (flat (tupL t)).length d_9] ?_
    intro L w1 hs
    exact ⟨_, _, rfl, (hs.erases [1, 1, 1, 1]).out (As := [_])⟩
  ·refine stepFx_at true (St.mk (Rg.dr (bitL 4 7) (bitL 19 65499) 5 10) [kCd (bitL 4 15)] [(28, SV.one (SC.sl 1 0 1 1)), (15, vI t.xmin), (18, vI t.xmax), (23, SV.one (SC.sl 0 0 1 1)), (24, vS B_1 (keyB t.key).length d_1), (27, SV.one (SC.v (Value.int IntKind.u8 (↑(valB t.value).length : Int)))), (29, vS B_2 (valB t.value).length d_2)] [LB.mk [SC.v (Value.int IntKind.u8 (↑(keyB t.key).length : Int))] 5, LB.mk [SC.v (Value.int IntKind.u8 (↑(valB t.value).length : Int))] 5]) (by kernel_rfl) ?_
   refine gn 2 (Rg.dr (bitL 4 7) (bitL 19 65499) 5 10) [kCd (bitL 4 15)] [(15, vI t.xmin), (18, vI t.xmax), (23, SV.one (SC.sl 0 0 1 1)), (24, vS B_1 (keyB t.key).length d_1), (28, SV.one (SC.sl 1 0 1 1)), (29, vS B_2 (valB t.value).length d_2)] [LB.mk [SC.v (Value.int IntKind.u8 (↑(keyB t.key).length : Int))] 5, LB.mk [SC.v (Value.int IntKind.u8 (↑(valB t.value).length : Int))] 5] ?_
   refine gn 2 (Rg.dr (bitL 4 7) (bitL 19 65499) 5 10) [kCd (bitL 4 15)] [(15, vI t.xmin), (18, vI t.xmax), (23, SV.one (SC.sl 0 0 1 1)), (24, vS B_1 (keyB t.key).length d_1), (28, SV.one (SC.sl 1 0 1 1)), (29, vS B_2 (valB t.value).length d_2)] [LB.mk [SC.v (Value.int IntKind.u8 (↑(keyB t.key).length : Int))] 5, LB.mk [SC.v (Value.int IntKind.u8 (↑(valB t.value).length : Int))] 5] ?_
   refine cak 123 [vI t.xmin, vI 4] (some 16) (Rg.dr (bitL 4 7) (bitL 19 65503) 4 10) (fun L w1 hs => (iPutNum_ok (t.xmin) (4) w1 (by omega) (by omega) (by decide) ‹_›).mono ?_)
   rintro e_ w2_ ⟨B_3, d_3, rfl, hf_⟩
   refine ⟨.one (.v (Value.slice B_3 (leI 4 t.xmin).length d_3)), _, _, rfl, fun _ => hf_.1.block, hs.fresh hf_, ?_⟩
   clear hs hf_
   refine gn 2 (Rg.dr (bitL 4 7) (bitL 19 65503) 4 10) [kCd (bitL 4 15)] [(16, vS B_3 4 d_3), (18, vI t.xmax), (23, SV.one (SC.sl 0 0 1 1)), (24, vS B_1 (keyB t.key).length d_1), (28, SV.one (SC.sl 1 0 1 1)), (29, vS B_2 (valB t.value).length d_2)] [LB.mk [SC.v (Value.int IntKind.u8 (↑(keyB t.key).length : Int))] 5, LB.mk [SC.v (Value.int IntKind.u8 (↑(valB t.value).length : Int))] 5] ?_
   refine cak 123 [vI t.xmax, vI 4] (some 19) (Rg.dr (bitL 4 7) (bitL 19 65535) 3 10) (fun L w1 hs => (iPutNum_ok (t.xmax) (4) w1 ‹_› (by omega) (by decide) ‹_›).mono ?_)
   rintro e_ w2_ ⟨B_4, d_4, rfl, hf_⟩
   refine ⟨.one (.v (Value.slice B_4 (leI 4 t.xmax).length d_4)), _, _, rfl, fun _ => hf_.1.block, hs.fresh hf_, ?_⟩
   clear hs hf_
   refine gn 3 (Rg.dr (bitL 4 7) (bitL 19 131071) 2 10) [kCd (bitL 4 15)] [(30, SV.one (SC.sl 2 0 6 6))] [LB.mk [SC.v (Value.int IntKind.u8 (↑(keyB t.key).length : Int))] 5, LB.mk [SC.v (Value.int IntKind.u8 (↑(valB t.value).length : Int))] 5, LB.mk [cS B_3 4 d_3, cS B_4 4 d_4, SC.sl 0 0 1 1, cS B_1 (keyB t.key).length d_1, SC.sl 1 0 1 1, cS B_2 (valB t.value).length d_2] 44] ?_
   refine gn 3 (Rg.dr (bitL 4 7) (bitL 19 131071) 2 10) [kCd (bitL 4 15)] [(30, SV.one (SC.sl 2 0 6 6))] [LB.mk [SC.v (Value.int IntKind.u8 (↑(keyB t.key).length : Int))] 5, LB.mk [SC.v (Value.int IntKind.u8 (↑(valB t.value).length : Int))] 5, LB.mk [cS B_3 4 d_3, cS B_4 4 d_4, SC.sl 0 0 1 1, cS B_1 (keyB t.key).length d_1, SC.sl 1 0 1 1, cS B_2 (valB t.value).length d_2] 44] ?_
   refine cak 122 [SV.one (SC.sl 2 0 6 6)] (some 31) (Rg.dr (bitL 4 7) (bitL 19 262143) 1 10) (fun L w1 hs => (concat_ok (tupL t) _ w1 (rd_six (e := 5) (hs.2.1.2.2 2 _ rfl) (hs.rd 1 rfl) (hs.rd 0 rfl) (rd_lit1 (hs.2.1.2.2 0 _ rfl)) (hs.rd 3 rfl) (rd_lit1 (hs.2.1.2.2 1 _ rfl)) (hs.rd 2 rfl)) (by show (6 : Nat) ≤ 1048576; omega) (by have := tupL_len t; omega)).mono ?_)
   rintro e_ w2_ ⟨B_9, d_9, rfl, hf_⟩
   refine ⟨.one (.v (.slice B_9 (flat (tupL t)).length d_9)), _, _, rfl, fun _ => hf_.1.block, hs.fresh hf_, ?_⟩
   clear hs hf_
   refine gn 0 Rg.no [kCd (bitL 4 15)] [(2, vS B_9 (flat (tupL t)).length d_9)] [] ?_
   refine rtk [vS B_9 (flat (tupL t)).length d_9] ?_
   intro L w1 hs
   exact ⟨_, _, rfl, (hs.erases [1, 1, 1, 1]).out (As := [_])⟩
 ·refine stepFx_at true (St.mk (Rg.dr (bitL 4 7) (bitL 19 64987) 6 10) [kCd (bitL 4 15)] [(28, SV.one (SC.sl 0 0 1 1)), (15, vI t.xmin), (18, vI t.xmax), (22, SV.one (SC.v (Value.int IntKind.u8 (↑(keyB t.key).length : Int)))), (24, vS B_1 (keyB t.key).length d_1), (27, SV.one (SC.v (Value.int IntKind.u8 (↑(valB t.value).length : Int)))), (29, vS B_2 (valB t.value).length d_2)] [LB.mk [SC.v (Value.int IntKind.u8 (↑(valB t.value).length : Int))] 5]) (by kernel_rfl) ?_
  refine gn 1 (Rg.dr (bitL 4 7) (bitL 19 64987) 6 10) [kCd (bitL 4 15)] [(15, vI t.xmin), (18, vI t.xmax), (22, SV.one (SC.v (Value.int IntKind.u8 (↑(keyB t.key).length : Int)))), (24, vS B_1 (keyB t.key).length d_1), (28, SV.one (SC.sl 0 0 1 1)), (29, vS B_2 (valB t.value).length d_2)] [LB.mk [SC.v (Value.int IntKind.u8 (↑(valB t.value).length : Int))] 5] ?_
  refine two_at 2 9 (by kernel_rfl) ?_ ?_ <;> simp only [fxOf]
  ·refine gn 1 (Rg.fx (bitL 4 7) (bitL 19 64987) 5 10 2) [kCd (bitL 4 15)] [(15, vI t.xmin), (18, vI t.xmax), (22, SV.one (SC.v (Value.int IntKind.u8 (↑(keyB t.key).length : Int)))), (24, vS B_1 (keyB t.key).length d_1), (28, SV.one (SC.sl 0 0 1 1)), (29, vS B_2 (valB t.value).length d_2)] [LB.mk [SC.v (Value.int IntKind.u8 (↑(valB t.value).length : Int))] 5] ?_
   refine cak 123 [vI t.xmin, vI 4] (some 16) (Rg.dr (bitL 4 7) (bitL 19 64991) 5 10) (fun L w1 hs => (iPutNum_ok (t.xmin) (4) w1 (by omega) (by omega) (by decide) ‹_›).mono ?_)
   rintro e_ w2_ ⟨B_3, d_3, rfl, hf_⟩
   refine ⟨.one (.v (Value.slice B_3 (leI 4 t.xmin).length d_3)), _, _, rfl, fun _ => hf_.1.block, hs.fresh hf_, ?_⟩
   clear hs hf_
   refine gn 1 (Rg.dr (bitL 4 7) (bitL 19 64991) 5 10) [kCd (bitL 4 15)] [(16, vS B_3 4 d_3), (18, vI t.xmax), (22, SV.one (SC.v (Value.int IntKind.u8 (↑(keyB t.key).length : Int)))), (24, vS B_1 (keyB t.key).length d_1), (28, SV.one (SC.sl 0 0 1 1)), (29, vS B_2 (valB t.value).length d_2)] [LB.mk [SC.v (Value.int IntKind.u8 (↑(valB t.value).length : Int))] 5] ?_
   refine two_at 5 9 (by kernel_rfl) ?_ ?_ <;> simp only [fxOf]
   ·refine gn 1 (Rg.fx (bitL 4 7) (bitL 19 64991) 4 10 5) [kCd (bitL 4 15)] [(16, vS B_3 4 d_3), (18, vI t.xmax), (22, SV.one (SC.v (Value.int IntKind.u8 (↑(keyB t.key).length : Int)))), (24, vS B_1 (keyB t.key).length d_1), (28, SV.one (SC.sl 0 0 1 1)), (29, vS B_2 (valB t.value).length d_2)] [LB.mk [SC.v (Value.int IntKind.u8 (↑(valB t.value).length : Int))] 5] ?_
    refine cak 123 [vI t.xmax, vI 4] (some 19) (Rg.dr (bitL 4 7) (bitL 19 65023) 4 10) (fun L w1 hs => (iPutNum_ok (t.xmax) (4) w1 ‹_› (by omega) (by decide) ‹_›).mono ?_)
    rintro e_ w2_ ⟨B_4, d_4, rfl, hf_⟩
    refine ⟨.one (.v (Value.slice B_4 (leI 4 t.xmax).length d_4)), _, _, rfl, fun _ => hf_.1.block, hs.fresh hf_, ?_⟩
    clear hs hf_
    refine gn 3 (Rg.dr (bitL 4 7) (bitL 19 131071) 2 10) [kCd (bitL 4 15)] [(30, SV.one (SC.sl 2 0 6 6))] [LB.mk [SC.v (Value.int IntKind.u8 (↑(valB t.value).length : Int))] 5, LB.mk [SC.v (Value.int IntKind.u8 (↑(keyB t.key).length : Int))] 5, LB.mk [cS B_3 4 d_3, cS B_4 4 d_4, SC.sl 1 0 1 1, cS B_1 (keyB t.key).length d_1, SC.sl 0 0 1 1, cS B_2 (valB t.value).length d_2] 44] ?_
    refine gn 3 (Rg.dr (bitL 4 7) (bitL 19 131071) 2 10) [kCd (bitL 4 15)] [(30, SV.one (SC.sl 2 0 6 6))] [LB.mk [SC.v (Value.int IntKind.u8 (↑(valB t.value).length : Int))] 5, LB.mk [SC.v (Value.int IntKind.u8 (↑(keyB t.key).length : Int))] 5, LB.mk [cS B_3 4 d_3, cS B_4 4 d_4, SC.sl 1 0 1 1, cS B_1 (keyB t.key).length d_1, SC.sl 0 0 1 1, cS B_2 (valB t.value).length d_2] 44] ?_
    refine cak 122 [SV.one (SC.sl 2 0 6 6)] (some 31) (Rg.dr (bitL 4 7) (bitL 19 262143) 1 10) (fun L w1 hs => (concat_ok (tupL t) _ w1 (rd_six (e := 5) (hs.2.1.2.2 2 _ rfl) (hs.rd 1 rfl) (hs.rd 0 rfl) (rd_lit1 (hs.2.1.2.2 1 _ rfl)) (hs.rd 3 rfl) (rd_lit1 (hs.2.1.2.2 0 _ rfl)) (hs.rd 2 rfl)) (by show (6 : Nat) ≤ 1048576; omega) (by have := tupL_len t; omega)).mono ?_)
    rintro e_ w2_ ⟨B_9, d_9, rfl, hf_⟩
    refine ⟨.one (.v (.slice B_9 (flat (tupL t)).length d_9)), _, _, rfl, fun _ => hf_.1.block, hs.fresh hf_, ?_⟩
    clear hs hf_
    refine gn 0 Rg.no [kCd (bitL 4 15)] [(2, vS B_9 (flat (tupL t)).length d_9)] [] ?_
    refine rtk [vS B_9 (flat (tupL t)).length d_9] ?_
    intro L w1 hs
    exact ⟨_, _, rfl, (hs.erases [1, 1, 1, 1]).out (As := [_])⟩
   ·refine stepFx_at true (St.mk (Rg.dr (bitL 4 7) (bitL 19 65503) 4 10) [kCd (bitL 4 15)] [(23, SV.one (SC.sl 1 0 1 1)), (16, vS B_3 4 d_3), (18, vI t.xmax), (22, SV.one (SC.v (Value.int IntKind.u8 (↑(keyB t.key).length : Int)))), (24, vS B_1 (keyB t.key).length d_1), (28, SV.one (SC.sl 0 0 1 1)), (29, vS B_2 (valB t.value).length d_2)] [LB.mk [SC.v (Value.int IntKind.u8 (↑(valB t.value).length : Int))] 5, LB.mk [SC.v (Value.int IntKind.u8 (↑(keyB t.key).length : Int))] 5]) (by kernel_rfl) ?_
    refine gn 2 (Rg.dr (bitL 4 7) (bitL 19 65503) 4 10) [kCd (bitL 4 15)] [(16, vS B_3 4 d_3), (18, vI t.xmax), (23, SV.one (SC.sl 1 0 1 1)), (24, vS B_1 (keyB t.key).length d_1), (28, SV.one (SC.sl 0 0 1 1)), (29, vS B_2 (valB t.value).length d_2)] [LB.mk [SC.v (Value.int IntKind.u8 (↑(valB t.value).length : Int))] 5, LB.mk [SC.v (Value.int IntKind.u8 (↑(keyB t.key).length : Int))] 5] ?_
    refine gn 2 (Rg.dr (bitL 4 7) (bitL 19 65503) 4 10) [kCd (bitL 4 15)] [(16, vS B_3 4 d_3), (18, vI t.xmax), (23, SV.one (SC.sl 1 0 1 1)), (24, vS B_1 (keyB t.key).length d_1), (28, SV.one (SC.sl 0 0 1 1)), (29, vS B_2 (valB t.value).length d_2)] [LB.mk [SC.v (Value.int IntKind.u8 (↑(valB t.value).length : Int))] 5, LB.mk [SC.v (Value.int IntKind.u8 (↑(keyB t.key).length : Int))] 5] ?_
    refine cak 123 [vI t.xmax, vI 4] (some 19) (Rg.dr (bitL 4 7) (bitL 19 65535) 3 10) (fun L w1 hs => (iPutNum_ok (t.xmax) (4) w1 ‹_› (by omega) (by decide) ‹_›).mono ?_)
    rintro e_ w2_ ⟨B_4, d_4, rfl, hf_⟩
    refine ⟨.one (.v (Value.slice B_4 (leI 4 t.xmax).length d_4)), _, _, rfl, fun _ => hf_.1.block, hs.fresh hf_, ?_⟩
    clear hs hf_
    refine gn 3 (Rg.dr (bitL 4 7) (bitL 19 131071) 2 10) [kCd (bitL 4 15)] [(30, SV.one (SC.sl 2 0 6 6))] [LB.mk [SC.v (Value.int IntKind.u8 (↑(valB t.value).length : Int))] 5, LB.mk [SC.v (Value.int IntKind.u8 (↑(keyB t.key).length : Int))] 5, LB.mk [cS B_3 4 d_3, cS B_4 4 d_4, SC.sl 1 0 1 1, cS B_1 (keyB t.key).length d_1, SC.sl 0 0 1 1, cS B_2 (valB t.value).length d_2] 44] ?_
    refine cak 122 [SV.one (SC.sl 2 0 6 6)] (some 31) (Rg.dr (bitL 4 7) (bitL 19 262143) 1 10) (fun L w1 hs => (concat_ok (tupL t) _ w1 (rd_six (e := 5) (hs.2.1.2.2 2 _ rfl) (hs.rd 1 rfl) (hs.rd 0 rfl) (rd_lit1 (hs.2.1.2.2 1 _ rfl)) (hs.rd 3 rfl) (rd_lit1 (hs.2.1.2.2 0 _ rfl)) (hs.rd 2 rfl)) (by show (6 : Nat) ≤ 1048576; omega) (by have := tupL_len t; omega)).mono ?_)
    rintro e_ w2_ ⟨B_9, d_9, rfl, hf_⟩
    refine ⟨.one (.v (.slice B_9 (flat (tupL t)).length d_9)), _, _, rfl, fun _ => hf_.1.block, hs.fresh hf_, ?_⟩
    clear hs hf_
    refine gn 0 Rg.no [kCd (bitL 4 15)] [(2, vS B_9 (flat (tupL t)).length d_9)] [] ?_
    refine rtk [vS B_9 (flat (tupL t)).length d_9] ?_
    intro L w1 hs
    exact ⟨_, _, rfl, (hs.erases [1, 1, 1, 1]).out (As := [_])⟩
  ·refine stepFx_at true (St.mk (Rg.dr (bitL 4 7) (bitL 19 65499) 5 10) [kCd (bitL 4 15)] [(23, SV.one (SC.sl 1 0 1 1)), (15, vI t.xmin), (18, vI t.xmax), (22, SV.one (SC.v (Value.int IntKind.u8 (↑(keyB t.key).length : Int)))), (24, vS B_1 (keyB t.key).length d_1), (28, SV.one (SC.sl 0 0 1 1)), (29, vS B_2 (valB t.value).length d_2)] [LB.mk [SC.v (Value.int IntKind.u8 (↑(valB t.value).length : Int))] 5, LB.mk [SC.v (Value.int IntKind.u8 (↑(keyB t.key).length : Int))] 5]) (by kernel_rfl) ?_
   refine gn 2 (Rg.dr (bitL 4 7) (bitL 19 65499) 5 10) [kCd (bitL 4 15)] [(15, vI t.xmin), (18, vI t.xmax), (23, SV.one (SC.sl 1 0 1 1)), (24, vS B_1 (keyB t.key).length d_1), (28, SV.one (SC.sl 0 0 1 1)), (29, vS B_2 (valB t.value).length d_2)] [LB.mk [SC.v (Value.int IntKind.u8 (↑(valB t.value).length : Int))] 5, LB.mk [SC.v (Value.int IntKind.u8 (↑(keyB t.key).length : Int))] 5] ?_
   refine gn 2 (Rg.dr (bitL 4 7) (bitL 19 65499) 5 10) [kCd (bitL 4 15)] [(15, vI t.xmin), (18, vI t.xmax), (23, SV.one (SC.sl 1 0 1 1)), (24, vS B_1 (keyB t.key).length d_1), (28, SV.one (SC.sl 0 0 1 1)), (29, vS B_2 (valB t.value).length d_2)] [LB.mk [SC.v (Value.int IntKind.u8 (↑(valB t.value).length : Int))] 5, LB.mk [SC.v (Value.int IntKind.u8 (↑(keyB t.key).length : Int))] 5] ?_
   refine cak 123 [vI t.xmin, vI 4] (some 16) (Rg.dr (bitL 4 7) (bitL 19 65503) 4 10) (fun L w1 hs => (iPutNum_ok (t.xmin) (4) w1 (by omega) (by omega) (by decide) ‹_›).mono ?_)
   rintro e_ w2_ ⟨B_3, d_3, rfl, hf_⟩
   refine ⟨.one (.v (Value.slice B_3 (leI 4 t.xmin).length d_3)), _, _, rfl, fun _ => hf_.1.block, hs.fresh hf_, ?_⟩
   clear hs hf_
   refine gn 2 (Rg.dr (bitL 4 7) (bitL 19 65503) 4 10) [kCd (bitL 4 15)] [(16, vS B_3 4 d_3), (18, vI t.xmax), (23, SV.one (SC.sl 1 0 1 1)), (24, vS B_1 (keyB t.key).length d_1), (28, SV.one (SC.sl 0 0 1 1)), (29, vS B_2 (valB t.value).length d_2)] [LB.mk [SC.v (Value.int IntKind.u8 (↑(valB t.value).length : Int))] 5, LB.mk [SC.v (Value.int IntKind.u8 (↑(keyB t.key).length : Int))] 5] ?_
   refine cak 123 [vI t.xmax, vI 4] (some 19) (Rg.dr (bitL 4 7) (bitL 19 65535) 3 10) (fun L w1 hs => (iPutNum_ok (t.xmax) (4) w1 ‹_› (by omega) (by decide) ‹_›).mono ?_)
   rintro e_ w2_ ⟨B_4, d_4, rfl, hf_⟩
   refine ⟨.one (.v (Value.slice B_4 (leI 4 t.xmax).length d_4)), _, _, rfl, fun _ => hf_.1.block, hs.fresh hf_, ?_⟩
   clear hs hf_
   refine gn 3 (Rg.dr (bitL 4 7) (bitL 19 131071) 2 10) [kCd (bitL 4 15)] [(30, SV.one (SC.sl 2 0 6 6))] [LB.mk [SC.v (Value.int IntKind.u8 (↑(valB t.value).length : Int))] 5, LB.mk [SC.v (Value.int IntKind.u8 (↑(keyB t.key).length : Int))] 5, LB.mk [cS B_3 4 d_3, cS B_4 4 d_4, SC.sl 1 0 1 1, cS B_1 (keyB t.key).length d_1, SC.sl 0 0 1 1, cS B_2 (valB t.value).length d_2] 44] ?_
   refine gn 3 (Rg.dr (bitL 4 7) (bitL 19 131071) 2 10) [kCd (bitL 4 15)] [(30, SV.one (SC.sl 2 0 6 6))] [LB.mk [SC.v (Value.int IntKind.u8 (↑(valB t.value).length : Int))] 5, LB.mk [SC.v (Value.int IntKind.u8 (↑(keyB t.key).length : Int))] 5, LB.mk [cS B_3 4 d_3, cS B_4 4 d_4, SC.sl 1 0 1 1, cS B_1 (keyB t.key).length d_1, SC.sl 0 0 1 1, cS B_2 (valB t.value).length d_2] 44] ?_
   refine cak 122 [SV.one (SC.sl 2 0 6 6)] (some 31) (Rg.dr (bitL 4 7) (bitL 19 262143) 1 10) (fun L w1 hs => (concat_ok (tupL t) _ w1 (rd_six (e := 5) (hs.2.1.2.2 2 _ rfl) (hs.rd 1 rfl) (hs.rd 0 rfl) (rd_lit1 (hs.2.1.2.2 1 _ rfl)) (hs.rd 3 rfl) (rd_lit1 (hs.2.1.2.2 0 _ rfl)) (hs.rd 2 rfl)) (by show (6 : Nat) ≤ 1048576; omega) (by have := tupL_len t; omega)).mono ?_)
   rintro e_ w2_ ⟨B_9, d_9, rfl, hf_⟩
   refine ⟨.one (.v (.slice B_9 (flat (tupL t)).length d_9)), _, _, rfl, fun _ => hf_.1.block, hs.fresh hf_, ?_⟩
   clear hs hf_
   refine gn 0 Rg.no [kCd (bitL 4 15)] [(2, vS B_9 (flat (tupL t)).length d_9)] [] ?_
   refine rtk [vS B_9 (flat (tupL t)).length d_9] ?_
   intro L w1 hs
   exact ⟨_, _, rfl, (hs.erases [1, 1, 1, 1]).out (As := [_])⟩
end Go.Proofs.YtgleoebogikooaaGreat.Dk
