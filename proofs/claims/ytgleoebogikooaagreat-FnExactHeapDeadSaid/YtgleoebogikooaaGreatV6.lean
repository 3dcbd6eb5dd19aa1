/- Walks of functions of the program: what each call returns and what it leaves in memory. Conditions: those that each theorem names. -/
import Derived.Test.YtgleoebogikooaaGreatV5
namespace Go.Proofs.YtgleoebogikooaaGreat.Dk
set_option linter.unusedVariables false
set_option linter.unusedSimpArgs false
open Go.Proofs.YtgleoebogikooaaGreat.Sx Go.Proofs Go.RowKit
set_option maxRecDepth 100000
set_option maxHeartbeats 1000000
def zTu0 : Tu := ⟨0, 0, zIt0, zIt0⟩
def tuOf (b : List Int) (k v : It) : Tu := ⟨ofLE (b.take 4), ofLE ((b.drop 4).take 4), k, v⟩
def tupR (b : List Int) : Option Tu :=
 if 10 + (b.getD 8 0).toNat ≤ b.length then
  match keyR ((b.take (9 + (b.getD 8 0).toNat)).drop 9), valR (b.drop (10 + (b.getD 8 0).toNat)) with
  | some k, some v => if tupOk (tuOf b k v) = true ∧ tupB (tuOf b k v) = b then some (tuOf b k v) else none
  | _, _ => none
 else none
theorem keyR_fact {b : List Int} {k : It} (hb : byOk b) (h : keyR b = some k) : okN k ∧ byOk k.t ∧ k.t.length ≤ b.length := by
 unfold keyR at h
 split at h
 ·obtain rfl := Option.some.inj h
  exact ⟨readI_n hb, readI_by hb, readI_len⟩
 ·cases h
theorem valR_fact {b : List Int} {k : It} (hb : byOk b) (h : valR b = some k) : okN k ∧ byOk k.t ∧ k.t.length ≤ b.length := by
 unfold valR at h
 split at h
 ·obtain rfl := Option.some.inj h
  exact ⟨readI_n hb, readI_by hb, readI_len⟩
 ·cases h
theorem tupR_short {b : List Int} (h : b.length < 10 + (b.getD 8 0).toNat) : tupR b = none := by unfold tupR; rw [if_neg (by omega)]
theorem tupR_long {b : List Int} (h : 92 < b.length) : tupR b = none := by
 unfold tupR
 split
 ·split
  ·rename_i k v _ _
   split
   ·rename_i hc
    have := tupB_len (tuOf b k v)
    rw [hc.2] at this
    omega
   ·rfl
  ·rfl
 ·rfl
theorem tupR_key {b : List Int} (h : keyR ((b.take (9 + (b.getD 8 0).toNat)).drop 9) = none) : tupR b = none := by
 unfold tupR
 rw [h]
 split <;> rfl
theorem tupR_val {b : List Int} (h : valR (b.drop (10 + (b.getD 8 0).toNat)) = none) : tupR b = none := by
 unfold tupR
 rw [h]
 split
 ·split
  ·rename_i h2; cases h2
  ·rfl
 ·rfl
theorem tupR_at {b : List Int} {k v : It} (hl : 10 + (b.getD 8 0).toNat ≤ b.length) (hk : keyR ((b.take (9 + (b.getD 8 0).toNat)).drop 9) = some k) (hv : valR (b.drop (10 + (b.getD 8 0).toNat)) = some v) : tupR b = if tupOk (tuOf b k v) = true ∧ tupB (tuOf b k v) = b then some (tuOf b k v) else none := by
 unfold tupR
 rw [if_pos hl, hk, hv]
theorem getD_at {b : List Int} {i : Nat} (h : i < b.length) : b.getD i 0 = b[i] := by simp [List.getD_eq_getElem?_getD, h]
theorem iGet0_ok (b : List Int) (vb : Value) (w : World) (hb : rdRow kU8 w.heap b vb) (hby : byOk b) (hl : b.length ≤ 1048576) :
  Calls Tryz.prog 105 #[vb, .int .i64 0, .int .i64 4] w fun e w' => e = .returned (.tuple #[.int .i64 (if 4 ≤ b.length then ofLE (b.take 4) else 0), .bool (decide (4 ≤ b.length))]) ∧ Below w.heap.size w w' :=
 iGetNum_ok b vb 0 4 w hb hby hl (by omega) (by omega)
theorem iGet4_ok (b : List Int) (vb : Value) (w : World) (hb : rdRow kU8 w.heap b vb) (hby : byOk b) (hl : b.length ≤ 1048576) :
  Calls Tryz.prog 105 #[vb, .int .i64 4, .int .i64 4] w fun e w' => e = .returned (.tuple #[.int .i64 (if 8 ≤ b.length then ofLE ((b.drop 4).take 4) else 0), .bool (decide (8 ≤ b.length))]) ∧ Below w.heap.size w w' :=
 iGetNum_ok b vb 4 4 w hb hby hl (by omega) (by omega)
theorem sGet0_ok (b : List Int) (vb : Value) (w : World) (hb : rdRow kU8 w.heap b vb) (hby : byOk b) (hl : b.length ≤ 1048576) :
  Calls Tryz.prog 51 #[vb, .int .i64 0, .int .i64 4] w fun e w' => e = .returned (.tuple #[.int .i64 (if 4 ≤ b.length then ofLE (b.take 4) else 0), .bool (decide (4 ≤ b.length))]) ∧ Below w.heap.size w w' :=
 sGetNum_ok b vb 0 4 w hb hby hl (by omega) (by omega)
theorem sGet4_ok (b : List Int) (vb : Value) (w : World) (hb : rdRow kU8 w.heap b vb) (hby : byOk b) (hl : b.length ≤ 1048576) :
  Calls Tryz.prog 51 #[vb, .int .i64 4, .int .i64 4] w fun e w' => e = .returned (.tuple #[.int .i64 (if 8 ≤ b.length then ofLE ((b.drop 4).take 4) else 0), .bool (decide (8 ≤ b.length))]) ∧ Below w.heap.size w w' :=
 sGetNum_ok b vb 4 4 w hb hby hl (by omega) (by omega)
theorem iTupRead_ok (b : List Int) (vb : Value) (w : World) (hb : rdRow kU8 w.heap b vb) (hby : byOk b) (hl : b.length ≤ 1048576) :
  Calls Tryz.prog 90 #[vb] w fun e w' => ∃ (bokey_f : Nat) (Aokey_t : Option Addr) (cokey_t : Nat) (bovalue_f : Nat) (Aovalue_t : Option Addr) (covalue_t : Nat), e = .returned (.tuple #[.agg #[.int .i64 ((tupR b).getD zTu0).xmin, .int .i64 ((tupR b).getD zTu0).xmax, .int .i64 ((tupR b).getD zTu0).key.kind, .int .i64 ((tupR b).getD zTu0).key.n, .float .f64 bokey_f, .slice Aokey_t (((tupR b).getD zTu0).key.t).length cokey_t, .int .i64 ((tupR b).getD zTu0).value.kind, .int .i64 ((tupR b).getD zTu0).value.n, .float .f64 bovalue_f, .slice Aovalue_t (((tupR b).getD zTu0).value.t).length covalue_t], .bool (tupR b).isSome]) ∧ Fresh w w' [rowA 5 kU8 (((tupR b).getD zTu0).value.t) (.slice Aovalue_t (((tupR b).getD zTu0).value.t).length covalue_t), rowA 5 kU8 (((tupR b).getD zTu0).key.t) (.slice Aokey_t (((tupR b).getD zTu0).key.t).length cokey_t)] ∧ bokey_f < 18446744073709551616 ∧ canonF bokey_f = ((tupR b).getD zTu0).key.f ∧ bovalue_f < 18446744073709551616 ∧ canonF bovalue_f = ((tupR b).getD zTu0).value.f := by
 obtain ⟨Ab, cb, rfl⟩ := rdRow_form hb
 refine enter (args := [.one (.v (.slice Ab b.length cb))]) Tryz.func90 (c := bodyOf Tryz.f90) rfl rfl (start_LOK _) (start_old w) ?_
 have hby8 : ∀ h : 8 < b.length, 0 ≤ b[8] ∧ b[8] < 256 := fun h => hby _ (List.getElem_mem h)
 by_cases h9 : b.length < 9
 ·have hno : tupR b = none := tupR_short (by omega)
  have nf_1 : (if 8 ≤ b.length then ofLE ((b.drop 4).take 4) else 0) = (if 8 ≤ b.length then ofLE ((b.drop 4).take 4) else 0) := rfl
  refine gn 1 (Rg.sq [true, false] 1) [KI.code [true, true]] [(0, vS Ab b.length cb), (2, vR 0 0), (15, vS Ab b.length cb)] [LB.mk [cI 0, cI 0, cI 0, cI 0, cF 0, cS none 0 0, cI 0, cI 0, cF 0, cS none 0 0] 60] ?_
  refine cpk 105 [vS Ab b.length cb, vI 0, vI 4] (some 16) (Rg.sq [true, false] 2) (.one (.v (Value.tuple #[Value.int IntKind.i64 (if 4 ≤ b.length then ofLE (List.take 4 b) else 0), Value.bool (decide (4 ≤ b.length))]))) (fun L w1 hs => (iGet0_ok (b) (Value.slice Ab b.length cb) w1 (rdRow_ext (hs.old 0 rfl) hb) ‹_› ‹_›)) ?_
  refine gn 1 (Rg.sq (bitL 3 3) 1) [kCd (bitL 3 7)] [(0, vS Ab b.length cb), (2, vR 0 0), (4, vI (if 4 ≤ b.length then ofLE (List.take 4 b) else 0)), (5, vB (decide (4 ≤ b.length))), (20, vS Ab b.length cb)] [LB.mk [cI 0, cI 0, cI 0, cI 0, cF 0, cS none 0 0, cI 0, cI 0, cF 0, cS none 0 0] 60] ?_
  refine cpk 105 [vS Ab b.length cb, vI 4, vI 4] (some 21) (Rg.sq (bitL 3 3) 2) (.one (.v (Value.tuple #[Value.int IntKind.i64 (if 8 ≤ b.length then ofLE (List.take 4 (List.drop 4 b)) else 0), Value.bool (decide (8 ≤ b.length))]))) (fun L w1 hs => (iGet4_ok (b) (Value.slice Ab b.length cb) w1 (rdRow_ext (hs.old 0 rfl) hb) ‹_› ‹_›)) ?_
  refine gn 1 (Rg.sq (bitL 5 7) 3) [kCd (bitL 5 23), kCd (bitL 4 15)] [(0, vS Ab b.length cb), (2, vR 0 0), (4, vI (if 4 ≤ b.length then ofLE (List.take 4 b) else 0)), (6, vI (if 8 ≤ b.length then ofLE (List.take 4 (List.drop 4 b)) else 0)), (7, vB (decide (8 ≤ b.length))), (26, vB !decide (4 ≤ b.length))] [LB.mk [cI 0, cI 0, cI 0, cI 0, cF 0, cS none 0 0, cI 0, cI 0, cF 0, cS none 0 0] 60] ?_
  refine spl 26 (!decide (4 ≤ b.length)) ?_ ?_
  ·intro hb1
   try simp only [sbb] at hb1
   refine gn 1 Rg.no [kCd (bitL 7 87), kCd (bitL 4 15)] [(2, vR 0 0), (3, vL false)] [LB.mk [cI 0, cI 0, cI 0, cI 0, cF 0, cS none 0 0, cI 0, cI 0, cF 0, cS none 0 0] 60] ?_
   refine rtk [SV.agg [cI 0, cI 0, cI 0, cI 0, cF 0, cS none 0 0, cI 0, cI 0, cF 0, cS none 0 0], vL false] ?_
   intro L w1 hs
   exact ⟨0, none, 0, 0, none, 0, by rw [hno]; rfl, by rw [hno]; exact ((hs.triv (A := rowA 5 kU8 ([] : List Int) (.slice none 0 0)) rowA_nil).triv (A := rowA 5 kU8 ([] : List Int) (.slice none 0 0)) rowA_nil).out (As := [_, _]), by decide, by rw [hno]; rfl, by decide, by rw [hno]; rfl⟩
  ·intro hb1
   try simp only [sbb] at hb1
   refine gn 1 (Rg.sq (bitL 5 7) 7) [kCd (bitL 5 23), kCd (bitL 4 15)] [(0, vS Ab b.length cb), (2, vR 0 0), (4, vI (if 4 ≤ b.length then ofLE (List.take 4 b) else 0)), (6, vI (if 8 ≤ b.length then ofLE (List.take 4 (List.drop 4 b)) else 0)), (30, vB !decide (8 ≤ b.length))] [LB.mk [cI 0, cI 0, cI 0, cI 0, cF 0, cS none 0 0, cI 0, cI 0, cF 0, cS none 0 0] 60] ?_
   refine spl 30 (!decide (8 ≤ b.length)) ?_ ?_
   ·intro hb2
    try simp only [sbb] at hb2
    refine gn 1 Rg.no [kCd (bitL 7 87), kCd (bitL 4 15)] [(2, vR 0 0), (3, vL false)] [LB.mk [cI 0, cI 0, cI 0, cI 0, cF 0, cS none 0 0, cI 0, cI 0, cF 0, cS none 0 0] 60] ?_
    refine rtk [SV.agg [cI 0, cI 0, cI 0, cI 0, cF 0, cS none 0 0, cI 0, cI 0, cF 0, cS none 0 0], vL false] ?_
    intro L w1 hs
    exact ⟨0, none, 0, 0, none, 0, by rw [hno]; rfl, by rw [hno]; exact ((hs.triv (A := rowA 5 kU8 ([] : List Int) (.slice none 0 0)) rowA_nil).triv (A := rowA 5 kU8 ([] : List Int) (.slice none 0 0)) rowA_nil).out (As := [_, _]), by decide, by rw [hno]; rfl, by decide, by rw [hno]; rfl⟩
   ·intro hb2
    try simp only [sbb] at hb2
    refine gn 1 (Rg.sq (bitL 5 7) 12) [kCd (bitL 5 23), kCd (bitL 4 15)] [(0, vS Ab b.length cb), (2, vR 0 0), (4, vI (if 4 ≤ b.length then ofLE (List.take 4 b) else 0)), (6, vI (if 8 ≤ b.length then ofLE (List.take 4 (List.drop 4 b)) else 0)), (35, vB (decide ((↑b.length : Int) < 9)))] [LB.mk [cI 0, cI 0, cI 0, cI 0, cF 0, cS none 0 0, cI 0, cI 0, cF 0, cS none 0 0] 60] ?_
    refine spl 35 (decide ((↑b.length : Int) < 9)) ?_ ?_
    ·intro hb3
     replace hb3 := of_decide_eq_true hb3
     refine gn 1 Rg.no [kCd (bitL 7 87), kCd (bitL 4 15)] [(2, vR 0 0), (3, vL false)] [LB.mk [cI 0, cI 0, cI 0, cI 0, cF 0, cS none 0 0, cI 0, cI 0, cF 0, cS none 0 0] 60] ?_
     refine rtk [SV.agg [cI 0, cI 0, cI 0, cI 0, cF 0, cS none 0 0, cI 0, cI 0, cF 0, cS none 0 0], vL false] ?_
     intro L w1 hs
     exact ⟨0, none, 0, 0, none, 0, by rw [hno]; rfl, by rw [hno]; exact ((hs.triv (A := rowA 5 kU8 ([] : List Int) (.slice none 0 0)) rowA_nil).triv (A := rowA 5 kU8 ([] : List Int) (.slice none 0 0)) rowA_nil).out (As := [_, _]), by decide, by rw [hno]; rfl, by decide, by rw [hno]; rfl⟩
    ·intro hb3
     replace hb3 := of_decide_eq_false hb3
     (exfalso; omega)
 have h8 : 8 < b.length := by omega
 obtain ⟨N, hN⟩ : ∃ N : Nat, b[8] = (N : Int) := ⟨b[8].toNat, by have := hby8 h8; omega⟩
 have hN2 : N < 256 := by have := hby8 h8; omega
 have hg8 : (b.getD 8 0).toNat = N := by rw [getD_at h8, hN]; rfl
 have nf_1 : IntKind.i64.wrap (b[8]'h8) = (N : Int) := by rw [hN, IntKind.wrap_i64]; omega
 have nf_2 : IntKind.i64.wrap ((10 : Int) + (N : Int)) = ((10 + N : Nat) : Int) := by rw [IntKind.wrap_i64]; omega
 have nf_3 : IntKind.i64.wrap ((9 : Int) + (N : Int)) = ((9 + N : Nat) : Int) := by rw [IntKind.wrap_i64]; omega
 have nf_4 : IntKind.i64.wrap (((9 + N : Nat) : Int) + 1) = ((10 + N : Nat) : Int) := by rw [IntKind.wrap_i64]; omega
 have nf_5 : IntKind.i64.wrap ((b.length : Int) - 10) = (b.length : Int) - 10 := by rw [IntKind.wrap_i64]; omega
 have nf_6 : (if 4 ≤ b.length then ofLE (b.take 4) else 0) = ofLE (b.take 4) := if_pos (by omega)
 have nf_7 : (if 8 ≤ b.length then ofLE ((b.drop 4).take 4) else 0) = ofLE ((b.drop 4).take 4) := if_pos (by omega)
 have nf_8 : decide (4 ≤ b.length) = true := decide_eq_true (by omega)
 have nf_9 : decide (8 ≤ b.length) = true := decide_eq_true (by omega)
 refine gn 1 (Rg.sq [true, false] 1) [KI.code [true, true]] [(0, vS Ab b.length cb), (2, vR 0 0), (15, vS Ab b.length cb)] [LB.mk [cI 0, cI 0, cI 0, cI 0, cF 0, cS none 0 0, cI 0, cI 0, cF 0, cS none 0 0] 60] ?_
 refine cpk 105 [vS Ab b.length cb, vI 0, vI 4] (some 16) (Rg.sq [true, false] 2) (.one (.v (Value.tuple #[Value.int IntKind.i64 (if 4 ≤ b.length then ofLE (List.take 4 b) else 0), Value.bool (decide (4 ≤ b.length))]))) (fun L w1 hs => (iGet0_ok (b) (Value.slice Ab b.length cb) w1 (rdRow_ext (hs.old 0 rfl) hb) ‹_› ‹_›)) ?_
 refine gn 1 (Rg.sq (bitL 3 3) 1) [kCd (bitL 3 7)] [(0, vS Ab b.length cb), (2, vR 0 0), (4, vI (if 4 ≤ b.length then ofLE (List.take 4 b) else 0)), (5, vB (decide (4 ≤ b.length))), (20, vS Ab b.length cb)] [LB.mk [cI 0, cI 0, cI 0, cI 0, cF 0, cS none 0 0, cI 0, cI 0, cF 0, cS none 0 0] 60] ?_
 try simp only [flx, nf_1, nf_2, nf_3, nf_4, nf_5, nf_6, nf_7, nf_8, nf_9]
 refine cpk 105 [vS Ab b.length cb, vI 4, vI 4] (some 21) (Rg.sq (bitL 3 3) 2) (.one (.v (Value.tuple #[Value.int IntKind.i64 (if 8 ≤ b.length then ofLE (List.take 4 (List.drop 4 b)) else 0), Value.bool (decide (8 ≤ b.length))]))) (fun L w1 hs => (iGet4_ok (b) (Value.slice Ab b.length cb) w1 (rdRow_ext (hs.old 0 rfl) hb) ‹_› ‹_›)) ?_
 refine gn 1 (Rg.sq (bitL 5 7) 3) [kCd (bitL 5 23), kCd (bitL 4 15)] [(0, vS Ab b.length cb), (2, vR 0 0), (4, vI (ofLE (List.take 4 b))), (6, vI (if 8 ≤ b.length then ofLE (List.take 4 (List.drop 4 b)) else 0)), (7, vB (decide (8 ≤ b.length))), (26, vB false)] [LB.mk [cI 0, cI 0, cI 0, cI 0, cF 0, cS none 0 0, cI 0, cI 0, cF 0, cS none 0 0] 60] ?_
 refine ltk 26 false ?_
 refine gn 1 (Rg.sq (bitL 5 7) 7) [kCd (bitL 5 23), kCd (bitL 4 15)] [(0, vS Ab b.length cb), (2, vR 0 0), (4, vI (ofLE (List.take 4 b))), (6, vI (if 8 ≤ b.length then ofLE (List.take 4 (List.drop 4 b)) else 0)), (30, vB !decide (8 ≤ b.length))] [LB.mk [cI 0, cI 0, cI 0, cI 0, cF 0, cS none 0 0, cI 0, cI 0, cF 0, cS none 0 0] 60] ?_
 try simp only [flx, nf_1, nf_2, nf_3, nf_4, nf_5, nf_6, nf_7, nf_8, nf_9]
 refine gn 1 (Rg.sq (bitL 5 7) 7) [kCd (bitL 5 23), kCd (bitL 4 15)] [(0, vS Ab b.length cb), (2, vR 0 0), (4, vI (ofLE (List.take 4 b))), (6, vI (ofLE (List.take 4 (List.drop 4 b)))), (30, vB false)] [LB.mk [cI 0, cI 0, cI 0, cI 0, cF 0, cS none 0 0, cI 0, cI 0, cF 0, cS none 0 0] 60] ?_
 refine ltk 30 false ?_
 refine gn 1 (Rg.sq (bitL 5 7) 12) [kCd (bitL 5 23), kCd (bitL 4 15)] [(0, vS Ab b.length cb), (2, vR 0 0), (4, vI (ofLE (List.take 4 b))), (6, vI (ofLE (List.take 4 (List.drop 4 b)))), (35, vB (decide ((↑b.length : Int) < 9)))] [LB.mk [cI 0, cI 0, cI 0, cI 0, cF 0, cS none 0 0, cI 0, cI 0, cF 0, cS none 0 0] 60] ?_
 refine spl 35 (decide ((↑b.length : Int) < 9)) ?_ ?_
 ·intro hb1
  replace hb1 := of_decide_eq_true hb1
  (exfalso; omega)
 intro hb1
 replace hb1 := of_decide_eq_false hb1
 refine gn 1 (Rg.sq (bitL 5 7) 15) [kCd (bitL 5 23), kCd (bitL 4 15)] [(0, vS Ab b.length cb), (2, vR 0 0), (4, vI (ofLE (List.take 4 b))), (6, vI (ofLE (List.take 4 (List.drop 4 b)))), (35, vL false), (37, vI (↑b.length : Int)), (38, vS Ab b.length cb)] [LB.mk [cI 0, cI 0, cI 0, cI 0, cF 0, cS none 0 0, cI 0, cI 0, cF 0, cS none 0 0] 60] ?_
 refine index_at 15 (by kernel_rfl : atP _ _ _ 15 false = some (Op.indexAddr 44 (tmpO 38) (Operand.const (Value.int IntKind.i64 8)), 0, some 39, Rg.sq (bitL 5 7) 16)) (ni := 8) (sz := 1) (by kernel_rfl) rfl rfl rfl ‹_› (fun L w1 hs => rd_some (i := 8) (rdRow_ext (hs.old 0 rfl) hb) ‹_›) ?_
 intro a_1 ha_1
 cases ha_1
 refine gn 1 (Rg.sq (bitL 5 7) 16) [kCd (bitL 5 23), kCd (bitL 4 15)] [(0, vS (some a_1) b.length cb), (2, vR 0 0), (4, vI (ofLE (List.take 4 b))), (6, vI (ofLE (List.take 4 (List.drop 4 b)))), (35, vL false), (37, vI (↑b.length : Int)), (39, vP (a_1.add 8))] [LB.mk [cI 0, cI 0, cI 0, cI 0, cF 0, cS none 0 0, cI 0, cI 0, cF 0, cS none 0 0] 60] ?_
 refine load_one 16 (by kernel_rfl : atP _ _ _ 16 true = some (Op.load 5 (tmpO 39), 5, some 40, Rg.sq (bitL 5 7) 17)) (n := 1) (by kernel_rfl) rfl ?_
 intro L w1 hs
 refine ⟨.v (.int .u8 b[8]), rd_sc (rdRow_ext (hs.old 0 rfl) hb) h8, ?_⟩
 clear hs
 by_cases hn : ¬ 10 + N ≤ b.length
 ·have hno : tupR b = none := tupR_short (by omega)
  refine gn 1 Rg.no [kCd (bitL 5 23), kCd (bitL 4 15)] [(0, vS (some a_1) b.length cb), (2, vR 0 0), (4, vI (ofLE (List.take 4 b))), (6, vI (ofLE (List.take 4 (List.drop 4 b)))), (44, vB (decide ((↑b.length : Int) < IntKind.i64.wrap ((10 : Int) + IntKind.i64.wrap b[8]))))] [LB.mk [cI 0, cI 0, cI 0, cI 0, cF 0, cS none 0 0, cI 0, cI 0, cF 0, cS none 0 0] 60] ?_
  try simp only [flx, nf_1, nf_2, nf_3, nf_4, nf_5, nf_6, nf_7, nf_8, nf_9]
  refine spl 44 (decide ((↑b.length : Int) < (↑(10 + N) : Int))) ?_ ?_
  ·intro hb2
   replace hb2 := of_decide_eq_true hb2
   refine gn 1 Rg.no [kCd (bitL 7 87), kCd (bitL 4 15)] [(2, vR 0 0), (3, vL false)] [LB.mk [cI 0, cI 0, cI 0, cI 0, cF 0, cS none 0 0, cI 0, cI 0, cF 0, cS none 0 0] 60] ?_
   refine rtk [SV.agg [cI 0, cI 0, cI 0, cI 0, cF 0, cS none 0 0, cI 0, cI 0, cF 0, cS none 0 0], vL false] ?_
   intro L w1 hs
   exact ⟨0, none, 0, 0, none, 0, by rw [hno]; rfl, by rw [hno]; exact ((hs.triv (A := rowA 5 kU8 ([] : List Int) (.slice none 0 0)) rowA_nil).triv (A := rowA 5 kU8 ([] : List Int) (.slice none 0 0)) rowA_nil).out (As := [_, _]), by decide, by rw [hno]; rfl, by decide, by rw [hno]; rfl⟩
  ·intro hb2
   replace hb2 := of_decide_eq_false hb2
   (exfalso; omega)
 replace hn : 10 + N ≤ b.length := Classical.not_not.1 hn
 refine gn 1 Rg.no [kCd (bitL 5 23), kCd (bitL 4 15)] [(0, vS (some a_1) b.length cb), (2, vR 0 0), (4, vI (ofLE (List.take 4 b))), (6, vI (ofLE (List.take 4 (List.drop 4 b)))), (44, vB (decide ((↑b.length : Int) < IntKind.i64.wrap ((10 : Int) + IntKind.i64.wrap b[8]))))] [LB.mk [cI 0, cI 0, cI 0, cI 0, cF 0, cS none 0 0, cI 0, cI 0, cF 0, cS none 0 0] 60] ?_
 try simp only [flx, nf_1, nf_2, nf_3, nf_4, nf_5, nf_6, nf_7, nf_8, nf_9]
 refine spl 44 (decide ((↑b.length : Int) < (↑(10 + N) : Int))) ?_ ?_
 ·intro hb2
  replace hb2 := of_decide_eq_true hb2
  (exfalso; omega)
 intro hb2
 replace hb2 := of_decide_eq_false hb2
 refine gn 1 (Rg.sq (bitL 5 15) 1) [kCd (bitL 5 31)] [(0, vS (some a_1) b.length cb), (2, vR 0 0), (4, vI (ofLE (List.take 4 b))), (6, vI (ofLE (List.take 4 (List.drop 4 b)))), (46, vS (some a_1) b.length cb)] [LB.mk [cI 0, cI 0, cI 0, cI 0, cF 0, cS none 0 0, cI 0, cI 0, cF 0, cS none 0 0] 60] ?_
 refine index_at 1 (by kernel_rfl : atP _ _ _ 1 false = some (Op.indexAddr 44 (tmpO 46) (Operand.const (Value.int IntKind.i64 8)), 0, some 47, Rg.sq (bitL 5 15) 2)) (ni := 8) (sz := 1) (by kernel_rfl) rfl rfl rfl ‹_› (fun L w1 hs => rd_some (i := 8) (rdRow_ext (hs.old 0 rfl) hb) ‹_›) ?_
 intro a_2 ha_2
 cases ha_2
 refine gn 1 (Rg.sq (bitL 5 15) 2) [kCd (bitL 5 31)] [(0, vS (some a_1) b.length cb), (2, vR 0 0), (4, vI (ofLE (List.take 4 b))), (6, vI (ofLE (List.take 4 (List.drop 4 b)))), (47, vP (a_1.add 8))] [LB.mk [cI 0, cI 0, cI 0, cI 0, cF 0, cS none 0 0, cI 0, cI 0, cF 0, cS none 0 0] 60] ?_
 refine load_one 2 (by kernel_rfl : atP _ _ _ 2 true = some (Op.load 5 (tmpO 47), 5, some 48, Rg.sq (bitL 5 15) 3)) (n := 1) (by kernel_rfl) rfl ?_
 intro L w1 hs
 refine ⟨.v (.int .u8 b[8]), rd_sc (rdRow_ext (hs.old 0 rfl) hb) h8, ?_⟩
 clear hs
 refine gn 1 (Rg.sq (bitL 6 31) 2) [kCd (bitL 6 63)] [(0, vS (some a_1) b.length cb), (2, vR 0 0), (4, vI (ofLE (List.take 4 b))), (6, vI (ofLE (List.take 4 (List.drop 4 b)))), (8, vI (IntKind.i64.wrap ((9 : Int) + IntKind.i64.wrap b[8]))), (52, vS (some a_1) b.length cb), (53, vI (IntKind.i64.wrap ((9 : Int) + IntKind.i64.wrap b[8])))] [LB.mk [cI 0, cI 0, cI 0, cI 0, cF 0, cS none 0 0, cI 0, cI 0, cF 0, cS none 0 0] 60] ?_
 try simp only [flx, nf_1, nf_2, nf_3, nf_4, nf_5, nf_6, nf_7, nf_8, nf_9]
 have hkb := byOk_drop (byOk_take hby (9 + N)) 9
 have hvb := byOk_drop hby (10 + N)
 have hkl : ((b.take (9 + N)).drop 9).length ≤ 1048576 := by rw [List.length_drop, List.length_take]; omega
 have hvl : (b.drop (10 + N)).length ≤ 1048576 := by rw [List.length_drop]; omega
 obtain ⟨hcap_hkey, hkey⟩ := rd_part (l := 9) (h := (9 + N)) (sz := 1) hb rfl (by omega) (by omega)
 refine slice_at 2 (l := 9) (h := (9 + N)) (m := cb) (sz := 1) (by kernel_rfl : atP _ _ _ 2 false = some (Op.slice 44 (tmpO 52) (some (Operand.const (Value.int IntKind.i64 9))) (some (tmpO 53)) none, 44, some 54, Rg.sq (bitL 6 31) 3)) (by kernel_rfl) rfl ⟨_, rfl⟩ ⟨_, rfl⟩ rfl (by decide) (by omega) hcap_hkey (by first | exact Nat.le_refl _ | omega) ?_
 generalize (if cb = 9 then (some a_1) else (some a_1).map (·.add (9 * 1))) = A_hkey at *
 refine gn 1 (Rg.sq (bitL 6 31) 3) [kCd (bitL 6 63)] [(0, vS (some a_1) b.length cb), (2, vR 0 0), (4, vI (ofLE (List.take 4 b))), (6, vI (ofLE (List.take 4 (List.drop 4 b)))), (8, vI (↑(9 + N) : Int)), (54, vS A_hkey (9 + N - 9) (cb - 9))] [LB.mk [cI 0, cI 0, cI 0, cI 0, cF 0, cS none 0 0, cI 0, cI 0, cF 0, cS none 0 0] 60] ?_
 refine cak 106 [vS A_hkey (9 + N - 9) (cb - 9)] (some 55) (Rg.sq (bitL 6 31) 4) (fun L w1 hs => (iKeyRead_ok (List.drop 9 (List.take (9 + N) b)) (Value.slice A_hkey (9 + N - 9) (cb - 9)) w1 (rdRow_ext (hs.old 0 rfl) hkey) ‹_› ‹_›).mono ?_)
 rintro e_ w2_ ⟨bof_1, Aot_1, cot_1, rfl, hf_, hq1, hq2⟩
 refine ⟨.one (.v (Value.tuple #[Value.agg #[Value.int IntKind.i64 ((keyR (List.drop 9 (List.take (9 + N) b))).getD zIt0).kind, Value.int IntKind.i64 ((keyR (List.drop 9 (List.take (9 + N) b))).getD zIt0).n, Value.float FloatKind.f64 bof_1, Value.slice Aot_1 ((keyR (List.drop 9 (List.take (9 + N) b))).getD zIt0).t.length cot_1], Value.bool (keyR (List.drop 9 (List.take (9 + N) b))).isSome])), _, _, rfl, fun _ => hf_.1.block, hs.fresh hf_, ?_⟩
 clear hs hf_
 refine gn 2 (Rg.sq (bitL 7 63) 3) [kCd (bitL 7 127)] [(0, vS (some a_1) b.length cb), (2, vR 0 0), (4, vI (ofLE (List.take 4 b))), (6, vI (ofLE (List.take 4 (List.drop 4 b)))), (9, vR 1 0), (10, vB (keyR (List.drop 9 (List.take (9 + N) b))).isSome), (59, vS (some a_1) b.length cb), (61, vI (IntKind.i64.wrap ((↑(9 + N) : Int) + 1)))] [LB.mk [cI 0, cI 0, cI 0, cI 0, cF 0, cS none 0 0, cI 0, cI 0, cF 0, cS none 0 0] 60, LB.mk [cI (Option.getD (keyR (List.drop 9 (List.take (9 + N) b))) zIt0).kind, cI (Option.getD (keyR (List.drop 9 (List.take (9 + N) b))) zIt0).n, cF bof_1, cS Aot_1 (Option.getD (keyR (List.drop 9 (List.take (9 + N) b))) zIt0).t.length cot_1] 49] ?_
 try simp only [flx, hq1, hq2, nf_1, nf_2, nf_3, nf_4, nf_5, nf_6, nf_7, nf_8, nf_9]
 obtain ⟨hcap_hval, hval⟩ := rd_part (l := (10 + N)) (h := b.length) (sz := 1) hb rfl (by omega) (by omega)
 refine slice_at 3 (l := (10 + N)) (h := b.length) (m := cb) (sz := 1) (by kernel_rfl : atP _ _ _ 3 false = some (Op.slice 44 (tmpO 59) (some (tmpO 61)) none none, 44, some 62, Rg.sq (bitL 7 63) 4)) (by kernel_rfl) rfl ⟨_, rfl⟩ rfl rfl (by decide) (by omega) hcap_hval (by first | exact Nat.le_refl _ | omega) ?_
 generalize (if cb = (10 + N) then (some a_1) else (some a_1).map (·.add ((10 + N) * 1))) = A_hval at *
 rw [show (b.take b.length).drop (10 + N) = b.drop (10 + N) by rw [List.take_length]] at hval
 refine gn 2 (Rg.sq (bitL 7 63) 4) [kCd (bitL 7 127)] [(0, vS (some a_1) b.length cb), (2, vR 0 0), (4, vI (ofLE (List.take 4 b))), (6, vI (ofLE (List.take 4 (List.drop 4 b)))), (9, vR 1 0), (10, vB (keyR (List.drop 9 (List.take (9 + N) b))).isSome), (62, vS A_hval (b.length - (10 + N)) (cb - (10 + N)))] [LB.mk [cI 0, cI 0, cI 0, cI 0, cF 0, cS none 0 0, cI 0, cI 0, cF 0, cS none 0 0] 60, LB.mk [cI (Option.getD (keyR (List.drop 9 (List.take (9 + N) b))) zIt0).kind, cI (Option.getD (keyR (List.drop 9 (List.take (9 + N) b))) zIt0).n, cF bof_1, cS Aot_1 (Option.getD (keyR (List.drop 9 (List.take (9 + N) b))) zIt0).t.length cot_1] 49] ?_
 refine cak 107 [vS A_hval (b.length - (10 + N)) (cb - (10 + N))] (some 63) (Rg.sq (bitL 7 63) 5) (fun L w1 hs => (iValRead_ok (List.drop (10 + N) b) (Value.slice A_hval (b.length - (10 + N)) (cb - (10 + N))) w1 (rdRow_ext (hs.old 1 rfl) hval) ‹_› ‹_›).mono ?_)
 rintro e_ w2_ ⟨bof_2, Aot_2, cot_2, rfl, hf_, hq3, hq4⟩
 refine ⟨.one (.v (Value.tuple #[Value.agg #[Value.int IntKind.i64 ((valR (List.drop (10 + N) b)).getD zIt0).kind, Value.int IntKind.i64 ((valR (List.drop (10 + N) b)).getD zIt0).n, Value.float FloatKind.f64 bof_2, Value.slice Aot_2 ((valR (List.drop (10 + N) b)).getD zIt0).t.length cot_2], Value.bool (valR (List.drop (10 + N) b)).isSome])), _, _, rfl, fun _ => hf_.1.block, hs.fresh hf_, ?_⟩
 clear hs hf_
 refine gn 4 (Rg.sq (bitL 10 255) 3) [kCd (bitL 10 767), kCd (bitL 9 511)] [(0, vS (some a_1) b.length cb), (2, vR 0 0), (12, vB (valR (List.drop (10 + N) b)).isSome), (13, vR 3 0), (73, vB !(keyR (List.drop 9 (List.take (9 + N) b))).isSome)] [LB.mk [cI 0, cI 0, cI 0, cI 0, cF 0, cS none 0 0, cI 0, cI 0, cF 0, cS none 0 0] 60, LB.mk [cI (Option.getD (keyR (List.drop 9 (List.take (9 + N) b))) zIt0).kind, cI (Option.getD (keyR (List.drop 9 (List.take (9 + N) b))) zIt0).n, cF bof_1, cS Aot_1 (Option.getD (keyR (List.drop 9 (List.take (9 + N) b))) zIt0).t.length cot_1] 49, LB.mk [cI (Option.getD (valR (List.drop (10 + N) b)) zIt0).kind, cI (Option.getD (valR (List.drop (10 + N) b)) zIt0).n, cF bof_2, cS Aot_2 (Option.getD (valR (List.drop (10 + N) b)) zIt0).t.length cot_2] 49, LB.mk [cI (ofLE (List.take 4 b)), cI (ofLE (List.take 4 (List.drop 4 b))), cI (Option.getD (keyR (List.drop 9 (List.take (9 + N) b))) zIt0).kind, cI (Option.getD (keyR (List.drop 9 (List.take (9 + N) b))) zIt0).n, cF bof_1, cS Aot_1 (Option.getD (keyR (List.drop 9 (List.take (9 + N) b))) zIt0).t.length cot_1, cI (Option.getD (valR (List.drop (10 + N) b)) zIt0).kind, cI (Option.getD (valR (List.drop (10 + N) b)) zIt0).n, cF bof_2, cS Aot_2 (Option.getD (valR (List.drop (10 + N) b)) zIt0).t.length cot_2] 60] ?_
 try simp only [flx, hq1, hq2, hq3, hq4, nf_1, nf_2, nf_3, nf_4, nf_5, nf_6, nf_7, nf_8, nf_9]
 rcases hkr : keyR ((b.take (9 + N)).drop 9) with _ | k
 ·rw [hkr] at hq2
  have hno : tupR b = none := tupR_key (by rw [hg8]; exact hkr)
  refine gn 4 (Rg.sq (bitL 10 255) 3) [kCd (bitL 10 767), kCd (bitL 9 511)] [(0, vS (some a_1) b.length cb), (2, vR 0 0), (12, vB (valR (List.drop (10 + N) b)).isSome), (13, vR 3 0), (73, vB true)] [LB.mk [cI 0, cI 0, cI 0, cI 0, cF 0, cS none 0 0, cI 0, cI 0, cF 0, cS none 0 0] 60, LB.mk [cI 0, cI 0, cF bof_1, cS Aot_1 0 cot_1] 49, LB.mk [cI (Option.getD (valR (List.drop (10 + N) b)) zIt0).kind, cI (Option.getD (valR (List.drop (10 + N) b)) zIt0).n, cF bof_2, cS Aot_2 (Option.getD (valR (List.drop (10 + N) b)) zIt0).t.length cot_2] 49, LB.mk [cI (ofLE (List.take 4 b)), cI (ofLE (List.take 4 (List.drop 4 b))), cI 0, cI 0, cF bof_1, cS Aot_1 0 cot_1, cI (Option.getD (valR (List.drop (10 + N) b)) zIt0).kind, cI (Option.getD (valR (List.drop (10 + N) b)) zIt0).n, cF bof_2, cS Aot_2 (Option.getD (valR (List.drop (10 + N) b)) zIt0).t.length cot_2] 60] ?_
  refine ltk 73 true ?_
  refine gn 1 Rg.no [kCd (bitL 12 2815), kCd (bitL 9 511)] [(2, vR 0 0), (3, vL false)] [LB.mk [cI 0, cI 0, cI 0, cI 0, cF 0, cS none 0 0, cI 0, cI 0, cF 0, cS none 0 0] 60] ?_
  refine rtk [SV.agg [cI 0, cI 0, cI 0, cI 0, cF 0, cS none 0 0, cI 0, cI 0, cF 0, cS none 0 0], vL false] ?_
  intro L w1 hs
  exact ⟨0, none, 0, 0, none, 0, by rw [hno]; rfl, by rw [hno]; exact (((hs.erases [0, 0]).triv (A := rowA 5 kU8 ([] : List Int) (.slice none 0 0)) rowA_nil).triv (A := rowA 5 kU8 ([] : List Int) (.slice none 0 0)) rowA_nil).out (As := [_, _]), by decide, by rw [hno]; rfl, by decide, by rw [hno]; rfl⟩
 rcases hvr : valR (b.drop (10 + N)) with _ | v
 ·rw [hvr] at hq4
  have hno : tupR b = none := tupR_val (by rw [hg8]; exact hvr)
  rw [hkr] at hq2
  refine gn 4 (Rg.sq (bitL 10 255) 3) [kCd (bitL 10 767), kCd (bitL 9 511)] [(0, vS (some a_1) b.length cb), (2, vR 0 0), (12, vB false), (13, vR 3 0), (73, vB !(some k).isSome)] [LB.mk [cI 0, cI 0, cI 0, cI 0, cF 0, cS none 0 0, cI 0, cI 0, cF 0, cS none 0 0] 60, LB.mk [cI (Option.getD (some k) zIt0).kind, cI (Option.getD (some k) zIt0).n, cF bof_1, cS Aot_1 (Option.getD (some k) zIt0).t.length cot_1] 49, LB.mk [cI 0, cI 0, cF bof_2, cS Aot_2 0 cot_2] 49, LB.mk [cI (ofLE (List.take 4 b)), cI (ofLE (List.take 4 (List.drop 4 b))), cI (Option.getD (some k) zIt0).kind, cI (Option.getD (some k) zIt0).n, cF bof_1, cS Aot_1 (Option.getD (some k) zIt0).t.length cot_1, cI 0, cI 0, cF bof_2, cS Aot_2 0 cot_2] 60] ?_
  try simp only [flx, hq1, hq3, hq4, hq2, nf_1, nf_2, nf_3, nf_4, nf_5, nf_6, nf_7, nf_8, nf_9]
  refine spl 73 (!(some k).isSome) ?_ ?_
  ·intro hb3
   try simp only [sbb] at hb3
   refine gn 1 Rg.no [kCd (bitL 12 2815), kCd (bitL 9 511)] [(2, vR 0 0), (3, vL false)] [LB.mk [cI 0, cI 0, cI 0, cI 0, cF 0, cS none 0 0, cI 0, cI 0, cF 0, cS none 0 0] 60] ?_
   refine rtk [SV.agg [cI 0, cI 0, cI 0, cI 0, cF 0, cS none 0 0, cI 0, cI 0, cF 0, cS none 0 0], vL false] ?_
   intro L w1 hs
   exact ⟨0, none, 0, 0, none, 0, by rw [hno]; rfl, by rw [hno]; exact (((hs.erases [0, 0]).triv (A := rowA 5 kU8 ([] : List Int) (.slice none 0 0)) rowA_nil).triv (A := rowA 5 kU8 ([] : List Int) (.slice none 0 0)) rowA_nil).out (As := [_, _]), by decide, by rw [hno]; rfl, by decide, by rw [hno]; rfl⟩
  ·intro hb3
   try simp only [sbb] at hb3
   refine gn 4 (Rg.sq (bitL 10 255) 7) [kCd (bitL 10 767), kCd (bitL 9 511)] [(0, vS (some a_1) b.length cb), (2, vR 0 0), (13, vR 3 0), (77, vB true)] [LB.mk [cI 0, cI 0, cI 0, cI 0, cF 0, cS none 0 0, cI 0, cI 0, cF 0, cS none 0 0] 60, LB.mk [cI k.kind, cI k.n, cF bof_1, cS Aot_1 k.t.length cot_1] 49, LB.mk [cI 0, cI 0, cF bof_2, cS Aot_2 0 cot_2] 49, LB.mk [cI (ofLE (List.take 4 b)), cI (ofLE (List.take 4 (List.drop 4 b))), cI k.kind, cI k.n, cF bof_1, cS Aot_1 k.t.length cot_1, cI 0, cI 0, cF bof_2, cS Aot_2 0 cot_2] 60] ?_
   refine ltk 77 true ?_
   refine gn 1 Rg.no [kCd (bitL 12 2815), kCd (bitL 9 511)] [(2, vR 0 0), (3, vL false)] [LB.mk [cI 0, cI 0, cI 0, cI 0, cF 0, cS none 0 0, cI 0, cI 0, cF 0, cS none 0 0] 60] ?_
   refine rtk [SV.agg [cI 0, cI 0, cI 0, cI 0, cF 0, cS none 0 0, cI 0, cI 0, cF 0, cS none 0 0], vL false] ?_
   intro L w1 hs
   exact ⟨0, none, 0, 0, none, 0, by rw [hno]; rfl, by rw [hno]; exact (((hs.erases [0, 0]).triv (A := rowA 5 kU8 ([] : List Int) (.slice none 0 0)) rowA_nil).triv (A := rowA 5 kU8 ([] : List Int) (.slice none 0 0)) rowA_nil).out (As := [_, _]), by decide, by rw [hno]; rfl, by decide, by rw [hno]; rfl⟩
 rw [hkr] at hq2
 rw [hvr] at hq4
 obtain ⟨hk1, hk2, hk3⟩ := keyR_fact hkb hkr
 obtain ⟨hv1, hv2, hv3⟩ := valR_fact hvb hvr
 have hk4 : k.t.length ≤ 1048576 := by omega
 have hv4 : v.t.length ≤ 1048576 := by omega
 have hkf : canonF bof_1 = k.f := hq2
 have hvf : canonF bof_2 = v.f := hq4
 clear hq2 hq4
 have hat := tupR_at (by rw [hg8]; exact hn) (by rw [hg8]; exact hkr) (by rw [hg8]; exact hvr)
 have htb : byOk (tupB (⟨ofLE (b.take 4), ofLE ((b.drop 4).take 4), k, v⟩ : Tu)) := tupB_by hk2 hv2
 have nf_12 : (!(some k).isSome) = false := rfl
 have nf_13 : (!(some v).isSome) = false := rfl
 by_cases hok : ¬ tupOk (⟨ofLE (b.take 4), ofLE ((b.drop 4).take 4), k, v⟩ : Tu) = true
 ·have hno : tupR b = none := by rw [hat, if_neg (fun h => hok h.1)]
  have nf_10 : tupOk (⟨ofLE (b.take 4), ofLE ((b.drop 4).take 4), k, v⟩ : Tu) = false := by rw [Bool.not_eq_true] at hok; exact hok
  refine gn 4 (Rg.sq (bitL 10 255) 3) [kCd (bitL 10 767), kCd (bitL 9 511)] [(0, vS (some a_1) b.length cb), (2, vR 0 0), (12, vB (some v).isSome), (13, vR 3 0), (73, vB !(some k).isSome)] [LB.mk [cI 0, cI 0, cI 0, cI 0, cF 0, cS none 0 0, cI 0, cI 0, cF 0, cS none 0 0] 60, LB.mk [cI (Option.getD (some k) zIt0).kind, cI (Option.getD (some k) zIt0).n, cF bof_1, cS Aot_1 (Option.getD (some k) zIt0).t.length cot_1] 49, LB.mk [cI (Option.getD (some v) zIt0).kind, cI (Option.getD (some v) zIt0).n, cF bof_2, cS Aot_2 (Option.getD (some v) zIt0).t.length cot_2] 49, LB.mk [cI (ofLE (List.take 4 b)), cI (ofLE (List.take 4 (List.drop 4 b))), cI (Option.getD (some k) zIt0).kind, cI (Option.getD (some k) zIt0).n, cF bof_1, cS Aot_1 (Option.getD (some k) zIt0).t.length cot_1, cI (Option.getD (some v) zIt0).kind, cI (Option.getD (some v) zIt0).n, cF bof_2, cS Aot_2 (Option.getD (some v) zIt0).t.length cot_2] 60] ?_
  try simp only [flx, hq1, hq3, hkf, hvf, nf_1, nf_2, nf_3, nf_4, nf_5, nf_6, nf_7, nf_8, nf_9, nf_12, nf_13, nf_10]
  refine gn 4 (Rg.sq (bitL 10 255) 3) [kCd (bitL 10 767), kCd (bitL 9 511)] [(0, vS (some a_1) b.length cb), (2, vR 0 0), (12, vB (some v).isSome), (13, vR 3 0), (73, vB false)] [LB.mk [cI 0, cI 0, cI 0, cI 0, cF 0, cS none 0 0, cI 0, cI 0, cF 0, cS none 0 0] 60, LB.mk [cI k.kind, cI k.n, cF bof_1, cS Aot_1 k.t.length cot_1] 49, LB.mk [cI v.kind, cI v.n, cF bof_2, cS Aot_2 v.t.length cot_2] 49, LB.mk [cI (ofLE (List.take 4 b)), cI (ofLE (List.take 4 (List.drop 4 b))), cI k.kind, cI k.n, cF bof_1, cS Aot_1 k.t.length cot_1, cI v.kind, cI v.n, cF bof_2, cS Aot_2 v.t.length cot_2] 60] ?_
  refine ltk 73 false ?_
  refine gn 4 (Rg.sq (bitL 10 255) 7) [kCd (bitL 10 767), kCd (bitL 9 511)] [(0, vS (some a_1) b.length cb), (2, vR 0 0), (13, vR 3 0), (77, vB !(some v).isSome)] [LB.mk [cI 0, cI 0, cI 0, cI 0, cF 0, cS none 0 0, cI 0, cI 0, cF 0, cS none 0 0] 60, LB.mk [cI k.kind, cI k.n, cF bof_1, cS Aot_1 k.t.length cot_1] 49, LB.mk [cI v.kind, cI v.n, cF bof_2, cS Aot_2 v.t.length cot_2] 49, LB.mk [cI (ofLE (List.take 4 b)), cI (ofLE (List.take 4 (List.drop 4 b))), cI k.kind, cI k.n, cF bof_1, cS Aot_1 k.t.length cot_1, cI v.kind, cI v.n, cF bof_2, cS Aot_2 v.t.length cot_2] 60] ?_
  try simp only [flx, hq1, hq3, hkf, hvf, nf_1, nf_2, nf_3, nf_4, nf_5, nf_6, nf_7, nf_8, nf_9, nf_12, nf_13, nf_10]
  refine gn 4 (Rg.sq (bitL 10 255) 7) [kCd (bitL 10 767), kCd (bitL 9 511)] [(0, vS (some a_1) b.length cb), (2, vR 0 0), (13, vR 3 0), (77, vB false)] [LB.mk [cI 0, cI 0, cI 0, cI 0, cF 0, cS none 0 0, cI 0, cI 0, cF 0, cS none 0 0] 60, LB.mk [cI k.kind, cI k.n, cF bof_1, cS Aot_1 k.t.length cot_1] 49, LB.mk [cI v.kind, cI v.n, cF bof_2, cS Aot_2 v.t.length cot_2] 49, LB.mk [cI (ofLE (List.take 4 b)), cI (ofLE (List.take 4 (List.drop 4 b))), cI k.kind, cI k.n, cF bof_1, cS Aot_1 k.t.length cot_1, cI v.kind, cI v.n, cF bof_2, cS Aot_2 v.t.length cot_2] 60] ?_
  refine ltk 77 false ?_
  refine gn 4 (Rg.sq (bitL 10 255) 8) [kCd (bitL 10 767), kCd (bitL 9 511)] [(0, vS (some a_1) b.length cb), (2, vR 0 0), (13, vR 3 0), (77, vL false), (78, SV.agg [cI (ofLE (List.take 4 b)), cI (ofLE (List.take 4 (List.drop 4 b))), cI k.kind, cI k.n, cF bof_1, cS Aot_1 k.t.length cot_1, cI v.kind, cI v.n, cF bof_2, cS Aot_2 v.t.length cot_2])] [LB.mk [cI 0, cI 0, cI 0, cI 0, cF 0, cS none 0 0, cI 0, cI 0, cF 0, cS none 0 0] 60, LB.mk [cI k.kind, cI k.n, cF bof_1, cS Aot_1 k.t.length cot_1] 49, LB.mk [cI v.kind, cI v.n, cF bof_2, cS Aot_2 v.t.length cot_2] 49, LB.mk [cI (ofLE (List.take 4 b)), cI (ofLE (List.take 4 (List.drop 4 b))), cI k.kind, cI k.n, cF bof_1, cS Aot_1 k.t.length cot_1, cI v.kind, cI v.n, cF bof_2, cS Aot_2 v.t.length cot_2] 60] ?_
  refine cpk 108 [SV.agg [cI (ofLE (List.take 4 b)), cI (ofLE (List.take 4 (List.drop 4 b))), cI k.kind, cI k.n, cF bof_1, cS Aot_1 k.t.length cot_1, cI v.kind, cI v.n, cF bof_2, cS Aot_2 v.t.length cot_2]] (some 79) (Rg.sq (bitL 10 255) 9) (.one (.bo (tupOk (Tu.mk (ofLE (List.take 4 b)) (ofLE (List.take 4 (List.drop 4 b))) (It.mk k.kind k.n k.f ((some k).getD zIt0).t) (It.mk v.kind v.n v.f ((some v).getD zIt0).t))))) (fun L w1 hs => (iTupOk_ok (Tu.mk (ofLE (List.take 4 b)) (ofLE (List.take 4 (List.drop 4 b))) (It.mk k.kind k.n k.f ((some k).getD zIt0).t) (It.mk v.kind v.n v.f ((some v).getD zIt0).t)) ([Value.int IntKind.i64 (ofLE (List.take 4 b)), Value.int IntKind.i64 (ofLE (List.take 4 (List.drop 4 b))), Value.int IntKind.i64 k.kind, Value.int IntKind.i64 k.n, Value.float FloatKind.f64 bof_1, Value.slice Aot_1 k.t.length cot_1, Value.int IntKind.i64 v.kind, Value.int IntKind.i64 v.n, Value.float FloatKind.f64 bof_2, Value.slice Aot_2 v.t.length cot_2]) w1 (kTu_mk ‹_› hkf (hs.rd 1 rfl) ‹_› hvf (hs.rd 0 rfl)))) ?_
  refine gn 4 (Rg.sq (bitL 10 255) 12) [kCd (bitL 10 767), kCd (bitL 9 511)] [(0, vS (some a_1) b.length cb), (2, vR 0 0), (13, vR 3 0), (82, vB !tupOk (Tu.mk (ofLE (List.take 4 b)) (ofLE (List.take 4 (List.drop 4 b))) (It.mk k.kind k.n k.f k.t) (It.mk v.kind v.n v.f v.t)))] [LB.mk [cI 0, cI 0, cI 0, cI 0, cF 0, cS none 0 0, cI 0, cI 0, cF 0, cS none 0 0] 60, LB.mk [cI k.kind, cI k.n, cF bof_1, cS Aot_1 k.t.length cot_1] 49, LB.mk [cI v.kind, cI v.n, cF bof_2, cS Aot_2 v.t.length cot_2] 49, LB.mk [cI (ofLE (List.take 4 b)), cI (ofLE (List.take 4 (List.drop 4 b))), cI k.kind, cI k.n, cF bof_1, cS Aot_1 k.t.length cot_1, cI v.kind, cI v.n, cF bof_2, cS Aot_2 v.t.length cot_2] 60] ?_
  try simp only [flx, hq1, hq3, hkf, hvf, nf_1, nf_2, nf_3, nf_4, nf_5, nf_6, nf_7, nf_8, nf_9, nf_12, nf_13, nf_10]
  refine gn 4 (Rg.sq (bitL 10 255) 12) [kCd (bitL 10 767), kCd (bitL 9 511)] [(0, vS (some a_1) b.length cb), (2, vR 0 0), (13, vR 3 0), (82, vB true)] [LB.mk [cI 0, cI 0, cI 0, cI 0, cF 0, cS none 0 0, cI 0, cI 0, cF 0, cS none 0 0] 60, LB.mk [cI k.kind, cI k.n, cF bof_1, cS Aot_1 k.t.length cot_1] 49, LB.mk [cI v.kind, cI v.n, cF bof_2, cS Aot_2 v.t.length cot_2] 49, LB.mk [cI (ofLE (List.take 4 b)), cI (ofLE (List.take 4 (List.drop 4 b))), cI k.kind, cI k.n, cF bof_1, cS Aot_1 k.t.length cot_1, cI v.kind, cI v.n, cF bof_2, cS Aot_2 v.t.length cot_2] 60] ?_
  refine ltk 82 true ?_
  refine gn 1 Rg.no [kCd (bitL 12 2815), kCd (bitL 9 511)] [(2, vR 0 0), (3, vL false)] [LB.mk [cI 0, cI 0, cI 0, cI 0, cF 0, cS none 0 0, cI 0, cI 0, cF 0, cS none 0 0] 60] ?_
  refine rtk [SV.agg [cI 0, cI 0, cI 0, cI 0, cF 0, cS none 0 0, cI 0, cI 0, cF 0, cS none 0 0], vL false] ?_
  intro L w1 hs
  exact ⟨0, none, 0, 0, none, 0, by rw [hno]; rfl, by rw [hno]; exact (((hs.erases [0, 0]).triv (A := rowA 5 kU8 ([] : List Int) (.slice none 0 0)) rowA_nil).triv (A := rowA 5 kU8 ([] : List Int) (.slice none 0 0)) rowA_nil).out (As := [_, _]), by decide, by rw [hno]; rfl, by decide, by rw [hno]; rfl⟩
 replace hok : tupOk (⟨ofLE (b.take 4), ofLE ((b.drop 4).take 4), k, v⟩ : Tu) = true := Classical.not_not.1 hok
 have nf_10 : tupOk (⟨ofLE (b.take 4), ofLE ((b.drop 4).take 4), k, v⟩ : Tu) = true := hok
 by_cases hq : tupB (⟨ofLE (b.take 4), ofLE ((b.drop 4).take 4), k, v⟩ : Tu) = b
 ·have nf_11 : decide (tupB (⟨ofLE (b.take 4), ofLE ((b.drop 4).take 4), k, v⟩ : Tu) = b) = true := decide_eq_true hq
  refine gn 4 (Rg.sq (bitL 10 255) 3) [kCd (bitL 10 767), kCd (bitL 9 511)] [(0, vS (some a_1) b.length cb), (2, vR 0 0), (12, vB (some v).isSome), (13, vR 3 0), (73, vB !(some k).isSome)] [LB.mk [cI 0, cI 0, cI 0, cI 0, cF 0, cS none 0 0, cI 0, cI 0, cF 0, cS none 0 0] 60, LB.mk [cI (Option.getD (some k) zIt0).kind, cI (Option.getD (some k) zIt0).n, cF bof_1, cS Aot_1 (Option.getD (some k) zIt0).t.length cot_1] 49, LB.mk [cI (Option.getD (some v) zIt0).kind, cI (Option.getD (some v) zIt0).n, cF bof_2, cS Aot_2 (Option.getD (some v) zIt0).t.length cot_2] 49, LB.mk [cI (ofLE (List.take 4 b)), cI (ofLE (List.take 4 (List.drop 4 b))), cI (Option.getD (some k) zIt0).kind, cI (Option.getD (some k) zIt0).n, cF bof_1, cS Aot_1 (Option.getD (some k) zIt0).t.length cot_1, cI (Option.getD (some v) zIt0).kind, cI (Option.getD (some v) zIt0).n, cF bof_2, cS Aot_2 (Option.getD (some v) zIt0).t.length cot_2] 60] ?_
  try simp only [flx, hq1, hq3, hkf, hvf, nf_1, nf_2, nf_3, nf_4, nf_5, nf_6, nf_7, nf_8, nf_9, nf_12, nf_13, nf_10, nf_11]
  refine gn 4 (Rg.sq (bitL 10 255) 3) [kCd (bitL 10 767), kCd (bitL 9 511)] [(0, vS (some a_1) b.length cb), (2, vR 0 0), (12, vB (some v).isSome), (13, vR 3 0), (73, vB false)] [LB.mk [cI 0, cI 0, cI 0, cI 0, cF 0, cS none 0 0, cI 0, cI 0, cF 0, cS none 0 0] 60, LB.mk [cI k.kind, cI k.n, cF bof_1, cS Aot_1 k.t.length cot_1] 49, LB.mk [cI v.kind, cI v.n, cF bof_2, cS Aot_2 v.t.length cot_2] 49, LB.mk [cI (ofLE (List.take 4 b)), cI (ofLE (List.take 4 (List.drop 4 b))), cI k.kind, cI k.n, cF bof_1, cS Aot_1 k.t.length cot_1, cI v.kind, cI v.n, cF bof_2, cS Aot_2 v.t.length cot_2] 60] ?_
  refine ltk 73 false ?_
  refine gn 4 (Rg.sq (bitL 10 255) 7) [kCd (bitL 10 767), kCd (bitL 9 511)] [(0, vS (some a_1) b.length cb), (2, vR 0 0), (13, vR 3 0), (77, vB !(some v).isSome)] [LB.mk [cI 0, cI 0, cI 0, cI 0, cF 0, cS none 0 0, cI 0, cI 0, cF 0, cS none 0 0] 60, LB.mk [cI k.kind, cI k.n, cF bof_1, cS Aot_1 k.t.length cot_1] 49, LB.mk [cI v.kind, cI v.n, cF bof_2, cS Aot_2 v.t.length cot_2] 49, LB.mk [cI (ofLE (List.take 4 b)), cI (ofLE (List.take 4 (List.drop 4 b))), cI k.kind, cI k.n, cF bof_1, cS Aot_1 k.t.length cot_1, cI v.kind, cI v.n, cF bof_2, cS Aot_2 v.t.length cot_2] 60] ?_
  try simp only [flx, hq1, hq3, hkf, hvf, nf_1, nf_2, nf_3, nf_4, nf_5, nf_6, nf_7, nf_8, nf_9, nf_12, nf_13, nf_10, nf_11]
  refine gn 4 (Rg.sq (bitL 10 255) 7) [kCd (bitL 10 767), kCd (bitL 9 511)] [(0, vS (some a_1) b.length cb), (2, vR 0 0), (13, vR 3 0), (77, vB false)] [LB.mk [cI 0, cI 0, cI 0, cI 0, cF 0, cS none 0 0, cI 0, cI 0, cF 0, cS none 0 0] 60, LB.mk [cI k.kind, cI k.n, cF bof_1, cS Aot_1 k.t.length cot_1] 49, LB.mk [cI v.kind, cI v.n, cF bof_2, cS Aot_2 v.t.length cot_2] 49, LB.mk [cI (ofLE (List.take 4 b)), cI (ofLE (List.take 4 (List.drop 4 b))), cI k.kind, cI k.n, cF bof_1, cS Aot_1 k.t.length cot_1, cI v.kind, cI v.n, cF bof_2, cS Aot_2 v.t.length cot_2] 60] ?_
  refine ltk 77 false ?_
  refine gn 4 (Rg.sq (bitL 10 255) 8) [kCd (bitL 10 767), kCd (bitL 9 511)] [(0, vS (some a_1) b.length cb), (2, vR 0 0), (13, vR 3 0), (77, vL false), (78, SV.agg [cI (ofLE (List.take 4 b)), cI (ofLE (List.take 4 (List.drop 4 b))), cI k.kind, cI k.n, cF bof_1, cS Aot_1 k.t.length cot_1, cI v.kind, cI v.n, cF bof_2, cS Aot_2 v.t.length cot_2])] [LB.mk [cI 0, cI 0, cI 0, cI 0, cF 0, cS none 0 0, cI 0, cI 0, cF 0, cS none 0 0] 60, LB.mk [cI k.kind, cI k.n, cF bof_1, cS Aot_1 k.t.length cot_1] 49, LB.mk [cI v.kind, cI v.n, cF bof_2, cS Aot_2 v.t.length cot_2] 49, LB.mk [cI (ofLE (List.take 4 b)), cI (ofLE (List.take 4 (List.drop 4 b))), cI k.kind, cI k.n, cF bof_1, cS Aot_1 k.t.length cot_1, cI v.kind, cI v.n, cF bof_2, cS Aot_2 v.t.length cot_2] 60] ?_
  refine cpk 108 [SV.agg [cI (ofLE (List.take 4 b)), cI (ofLE (List.take 4 (List.drop 4 b))), cI k.kind, cI k.n, cF bof_1, cS Aot_1 k.t.length cot_1, cI v.kind, cI v.n, cF bof_2, cS Aot_2 v.t.length cot_2]] (some 79) (Rg.sq (bitL 10 255) 9) (.one (.bo (tupOk (Tu.mk (ofLE (List.take 4 b)) (ofLE (List.take 4 (List.drop 4 b))) (It.mk k.kind k.n k.f ((some k).getD zIt0).t) (It.mk v.kind v.n v.f ((some v).getD zIt0).t))))) (fun L w1 hs => (iTupOk_ok (Tu.mk (ofLE (List.take 4 b)) (ofLE (List.take 4 (List.drop 4 b))) (It.mk k.kind k.n k.f ((some k).getD zIt0).t) (It.mk v.kind v.n v.f ((some v).getD zIt0).t)) ([Value.int IntKind.i64 (ofLE (List.take 4 b)), Value.int IntKind.i64 (ofLE (List.take 4 (List.drop 4 b))), Value.int IntKind.i64 k.kind, Value.int IntKind.i64 k.n, Value.float FloatKind.f64 bof_1, Value.slice Aot_1 k.t.length cot_1, Value.int IntKind.i64 v.kind, Value.int IntKind.i64 v.n, Value.float FloatKind.f64 bof_2, Value.slice Aot_2 v.t.length cot_2]) w1 (kTu_mk ‹_› hkf (hs.rd 1 rfl) ‹_› hvf (hs.rd 0 rfl)))) ?_
  refine gn 4 (Rg.sq (bitL 10 255) 12) [kCd (bitL 10 767), kCd (bitL 9 511)] [(0, vS (some a_1) b.length cb), (2, vR 0 0), (13, vR 3 0), (82, vB !tupOk (Tu.mk (ofLE (List.take 4 b)) (ofLE (List.take 4 (List.drop 4 b))) (It.mk k.kind k.n k.f k.t) (It.mk v.kind v.n v.f v.t)))] [LB.mk [cI 0, cI 0, cI 0, cI 0, cF 0, cS none 0 0, cI 0, cI 0, cF 0, cS none 0 0] 60, LB.mk [cI k.kind, cI k.n, cF bof_1, cS Aot_1 k.t.length cot_1] 49, LB.mk [cI v.kind, cI v.n, cF bof_2, cS Aot_2 v.t.length cot_2] 49, LB.mk [cI (ofLE (List.take 4 b)), cI (ofLE (List.take 4 (List.drop 4 b))), cI k.kind, cI k.n, cF bof_1, cS Aot_1 k.t.length cot_1, cI v.kind, cI v.n, cF bof_2, cS Aot_2 v.t.length cot_2] 60] ?_
  try simp only [flx, hq1, hq3, hkf, hvf, nf_1, nf_2, nf_3, nf_4, nf_5, nf_6, nf_7, nf_8, nf_9, nf_12, nf_13, nf_10, nf_11]
  refine gn 4 (Rg.sq (bitL 10 255) 12) [kCd (bitL 10 767), kCd (bitL 9 511)] [(0, vS (some a_1) b.length cb), (2, vR 0 0), (13, vR 3 0), (82, vB false)] [LB.mk [cI 0, cI 0, cI 0, cI 0, cF 0, cS none 0 0, cI 0, cI 0, cF 0, cS none 0 0] 60, LB.mk [cI k.kind, cI k.n, cF bof_1, cS Aot_1 k.t.length cot_1] 49, LB.mk [cI v.kind, cI v.n, cF bof_2, cS Aot_2 v.t.length cot_2] 49, LB.mk [cI (ofLE (List.take 4 b)), cI (ofLE (List.take 4 (List.drop 4 b))), cI k.kind, cI k.n, cF bof_1, cS Aot_1 k.t.length cot_1, cI v.kind, cI v.n, cF bof_2, cS Aot_2 v.t.length cot_2] 60] ?_
  refine ltk 82 false ?_
  refine gn 4 (Rg.sq (bitL 10 255) 13) [kCd (bitL 10 767), kCd (bitL 9 511)] [(0, vS (some a_1) b.length cb), (2, vR 0 0), (13, vR 3 0), (82, vL false), (83, SV.agg [cI (ofLE (List.take 4 b)), cI (ofLE (List.take 4 (List.drop 4 b))), cI k.kind, cI k.n, cF bof_1, cS Aot_1 k.t.length cot_1, cI v.kind, cI v.n, cF bof_2, cS Aot_2 v.t.length cot_2])] [LB.mk [cI 0, cI 0, cI 0, cI 0, cF 0, cS none 0 0, cI 0, cI 0, cF 0, cS none 0 0] 60, LB.mk [cI k.kind, cI k.n, cF bof_1, cS Aot_1 k.t.length cot_1] 49, LB.mk [cI v.kind, cI v.n, cF bof_2, cS Aot_2 v.t.length cot_2] 49, LB.mk [cI (ofLE (List.take 4 b)), cI (ofLE (List.take 4 (List.drop 4 b))), cI k.kind, cI k.n, cF bof_1, cS Aot_1 k.t.length cot_1, cI v.kind, cI v.n, cF bof_2, cS Aot_2 v.t.length cot_2] 60] ?_
  refine cak 110 [SV.agg [cI (ofLE (List.take 4 b)), cI (ofLE (List.take 4 (List.drop 4 b))), cI k.kind, cI k.n, cF bof_1, cS Aot_1 k.t.length cot_1, cI v.kind, cI v.n, cF bof_2, cS Aot_2 v.t.length cot_2]] (some 84) (Rg.sq (bitL 10 255) 14) (fun L w1 hs => (iTupB_ok (Tu.mk (ofLE (List.take 4 b)) (ofLE (List.take 4 (List.drop 4 b))) (It.mk k.kind k.n k.f ((some k).getD zIt0).t) (It.mk v.kind v.n v.f ((some v).getD zIt0).t)) ([Value.int IntKind.i64 (ofLE (List.take 4 b)), Value.int IntKind.i64 (ofLE (List.take 4 (List.drop 4 b))), Value.int IntKind.i64 k.kind, Value.int IntKind.i64 k.n, Value.float FloatKind.f64 bof_1, Value.slice Aot_1 k.t.length cot_1, Value.int IntKind.i64 v.kind, Value.int IntKind.i64 v.n, Value.float FloatKind.f64 bof_2, Value.slice Aot_2 v.t.length cot_2]) w1 (kTu_mk ‹_› hkf (hs.rd 1 rfl) ‹_› hvf (hs.rd 0 rfl)) ‹_› ‹_› ‹_› ‹_›).mono ?_)
  rintro e_ w2_ ⟨B_1, d_1, rfl, hf_⟩
  refine ⟨.one (.v (Value.slice B_1 (tupB (Tu.mk (ofLE (List.take 4 b)) (ofLE (List.take 4 (List.drop 4 b))) (It.mk k.kind k.n k.f ((some k).getD zIt0).t) (It.mk v.kind v.n v.f ((some v).getD zIt0).t))).length d_1)), _, _, rfl, fun _ => hf_.1.block, hs.fresh hf_, ?_⟩
  clear hs hf_
  refine gn 4 (Rg.sq (bitL 10 255) 15) [kCd (bitL 10 767), kCd (bitL 9 511)] [(2, vR 0 0), (13, vR 3 0), (82, vL false), (84, vS B_1 (tupB (Tu.mk (ofLE (List.take 4 b)) (ofLE (List.take 4 (List.drop 4 b))) (It.mk k.kind k.n k.f k.t) (It.mk v.kind v.n v.f v.t))).length d_1), (85, vS (some a_1) b.length cb)] [LB.mk [cI 0, cI 0, cI 0, cI 0, cF 0, cS none 0 0, cI 0, cI 0, cF 0, cS none 0 0] 60, LB.mk [cI k.kind, cI k.n, cF bof_1, cS Aot_1 k.t.length cot_1] 49, LB.mk [cI v.kind, cI v.n, cF bof_2, cS Aot_2 v.t.length cot_2] 49, LB.mk [cI (ofLE (List.take 4 b)), cI (ofLE (List.take 4 (List.drop 4 b))), cI k.kind, cI k.n, cF bof_1, cS Aot_1 k.t.length cot_1, cI v.kind, cI v.n, cF bof_2, cS Aot_2 v.t.length cot_2] 60] ?_
  refine cpk 109 [vS B_1 (tupB (Tu.mk (ofLE (List.take 4 b)) (ofLE (List.take 4 (List.drop 4 b))) (It.mk k.kind k.n k.f k.t) (It.mk v.kind v.n v.f v.t))).length d_1, vS (some a_1) b.length cb] (some 86) (Rg.sq (bitL 10 255) 16) (.one (.bo (decide (tupB (Tu.mk (ofLE (List.take 4 b)) (ofLE (List.take 4 (List.drop 4 b))) (It.mk k.kind k.n k.f ((some k).getD zIt0).t) (It.mk v.kind v.n v.f ((some v).getD zIt0).t)) = b)))) (fun L w1 hs => (eqB_ok (tupB (Tu.mk (ofLE (List.take 4 b)) (ofLE (List.take 4 (List.drop 4 b))) (It.mk k.kind k.n k.f ((some k).getD zIt0).t) (It.mk v.kind v.n v.f ((some v).getD zIt0).t))) (Value.slice B_1 (tupB (Tu.mk (ofLE (List.take 4 b)) (ofLE (List.take 4 (List.drop 4 b))) k v)).length d_1) (b) (Value.slice (some a_1) b.length cb) w1 (hs.rd 0 rfl) (rdRow_ext (hs.old 3 rfl) hb) ‹_› ‹_›)) ?_
  refine gn 4 Rg.no [kCd (bitL 10 767), kCd (bitL 9 511)] [(2, vR 0 0), (13, vR 3 0), (88, vB !decide (tupB (Tu.mk (ofLE (List.take 4 b)) (ofLE (List.take 4 (List.drop 4 b))) (It.mk k.kind k.n k.f k.t) (It.mk v.kind v.n v.f v.t)) = b))] [LB.mk [cI 0, cI 0, cI 0, cI 0, cF 0, cS none 0 0, cI 0, cI 0, cF 0, cS none 0 0] 60, LB.mk [cI k.kind, cI k.n, cF bof_1, cS Aot_1 k.t.length cot_1] 49, LB.mk [cI v.kind, cI v.n, cF bof_2, cS Aot_2 v.t.length cot_2] 49, LB.mk [cI (ofLE (List.take 4 b)), cI (ofLE (List.take 4 (List.drop 4 b))), cI k.kind, cI k.n, cF bof_1, cS Aot_1 k.t.length cot_1, cI v.kind, cI v.n, cF bof_2, cS Aot_2 v.t.length cot_2] 60] ?_
  try simp only [flx, hq1, hq3, hkf, hvf, nf_1, nf_2, nf_3, nf_4, nf_5, nf_6, nf_7, nf_8, nf_9, nf_12, nf_13, nf_10, nf_11]
  refine gn 4 Rg.no [kCd (bitL 10 767), kCd (bitL 9 511)] [(2, vR 0 0), (13, vR 3 0), (88, vB false)] [LB.mk [cI 0, cI 0, cI 0, cI 0, cF 0, cS none 0 0, cI 0, cI 0, cF 0, cS none 0 0] 60, LB.mk [cI k.kind, cI k.n, cF bof_1, cS Aot_1 k.t.length cot_1] 49, LB.mk [cI v.kind, cI v.n, cF bof_2, cS Aot_2 v.t.length cot_2] 49, LB.mk [cI (ofLE (List.take 4 b)), cI (ofLE (List.take 4 (List.drop 4 b))), cI k.kind, cI k.n, cF bof_1, cS Aot_1 k.t.length cot_1, cI v.kind, cI v.n, cF bof_2, cS Aot_2 v.t.length cot_2] 60] ?_
  refine ltk 88 false ?_
  refine gn 1 Rg.no [kCd (bitL 10 1023)] [(2, vR 0 0), (3, vL true)] [LB.mk [cI (ofLE (List.take 4 b)), cI (ofLE (List.take 4 (List.drop 4 b))), cI k.kind, cI k.n, cF bof_1, cS Aot_1 k.t.length cot_1, cI v.kind, cI v.n, cF bof_2, cS Aot_2 v.t.length cot_2] 60] ?_
  refine rtk [SV.agg [cI (ofLE (List.take 4 b)), cI (ofLE (List.take 4 (List.drop 4 b))), cI k.kind, cI k.n, cF bof_1, cS Aot_1 k.t.length cot_1, cI v.kind, cI v.n, cF bof_2, cS Aot_2 v.t.length cot_2], vL true] ?_
  intro L w1 hs
  exact ⟨_, _, _, _, _, _, by rw [hat, if_pos ⟨hok, hq⟩]; rfl, by rw [hat, if_pos ⟨hok, hq⟩]; exact (hs.erases [0]).out (As := [_, _]), by assumption, by rw [hat, if_pos ⟨hok, hq⟩]; exact hkf, by assumption, by rw [hat, if_pos ⟨hok, hq⟩]; exact hvf⟩
 ·have hno : tupR b = none := by rw [hat, if_neg (fun h => hq h.2)]
  have nf_11 : decide (tupB (⟨ofLE (b.take 4), ofLE ((b.drop 4).take 4), k, v⟩ : Tu) = b) = false := decide_eq_false hq
  refine gn 4 (Rg.sq (bitL 10 255) 3) [kCd (bitL 10 767), kCd (bitL 9 511)] [(0, vS (some a_1) b.length cb), (2, vR 0 0), (12, vB (some v).isSome), (13, vR 3 0), (73, vB !(some k).isSome)] [LB.mk [cI 0, cI 0, cI 0, cI 0, cF 0, cS none 0 0, cI 0, cI 0, cF 0, cS none 0 0] 60, LB.mk [cI (Option.getD (some k) zIt0).kind, cI (Option.getD (some k) zIt0).n, cF bof_1, cS Aot_1 (Option.getD (some k) zIt0).t.length cot_1] 49, LB.mk [cI (Option.getD (some v) zIt0).kind, cI (Option.getD (some v) zIt0).n, cF bof_2, cS Aot_2 (Option.getD (some v) zIt0).t.length cot_2] 49, LB.mk [cI (ofLE (List.take 4 b)), cI (ofLE (List.take 4 (List.drop 4 b))), cI (Option.getD (some k) zIt0).kind, cI (Option.getD (some k) zIt0).n, cF bof_1, cS Aot_1 (Option.getD (some k) zIt0).t.length cot_1, cI (Option.getD (some v) zIt0).kind, cI (Option.getD (some v) zIt0).n, cF bof_2, cS Aot_2 (Option.getD (some v) zIt0).t.length cot_2] 60] ?_
  try simp only [flx, hq1, hq3, hkf, hvf, nf_1, nf_2, nf_3, nf_4, nf_5, nf_6, nf_7, nf_8, nf_9, nf_12, nf_13, nf_10, nf_11]
  refine gn 4 (Rg.sq (bitL 10 255) 3) [kCd (bitL 10 767), kCd (bitL 9 511)] [(0, vS (some a_1) b.length cb), (2, vR 0 0), (12, vB (some v).isSome), (13, vR 3 0), (73, vB false)] [LB.mk [cI 0, cI 0, cI 0, cI 0, cF 0, cS none 0 0, cI 0, cI 0, cF 0, cS none 0 0] 60, LB.mk [cI k.kind, cI k.n, cF bof_1, cS Aot_1 k.t.length cot_1] 49, LB.mk [cI v.kind, cI v.n, cF bof_2, cS Aot_2 v.t.length cot_2] 49, LB.mk [cI (ofLE (List.take 4 b)), cI (ofLE (List.take 4 (List.drop 4 b))), cI k.kind, cI k.n, cF bof_1, cS Aot_1 k.t.length cot_1, cI v.kind, cI v.n, cF bof_2, cS Aot_2 v.t.length cot_2] 60] ?_
  refine ltk 73 false ?_
  refine gn 4 (Rg.sq (bitL 10 255) 7) [kCd (bitL 10 767), kCd (bitL 9 511)] [(0, vS (some a_1) b.length cb), (2, vR 0 0), (13, vR 3 0), (77, vB !(some v).isSome)] [LB.mk [cI 0, cI 0, cI 0, cI 0, cF 0, cS none 0 0, cI 0, cI 0, cF 0, cS none 0 0] 60, LB.mk [cI k.kind, cI k.n, cF bof_1, cS Aot_1 k.t.length cot_1] 49, LB.mk [cI v.kind, cI v.n, cF bof_2, cS Aot_2 v.t.length cot_2] 49, LB.mk [cI (ofLE (List.take 4 b)), cI (ofLE (List.take 4 (List.drop 4 b))), cI k.kind, cI k.n, cF bof_1, cS Aot_1 k.t.length cot_1, cI v.kind, cI v.n, cF bof_2, cS Aot_2 v.t.length cot_2] 60] ?_
  try simp only [flx, hq1, hq3, hkf, hvf, nf_1, nf_2, nf_3, nf_4, nf_5, nf_6, nf_7, nf_8, nf_9, nf_12, nf_13, nf_10, nf_11]
  refine gn 4 (Rg.sq (bitL 10 255) 7) [kCd (bitL 10 767), kCd (bitL 9 511)] [(0, vS (some a_1) b.length cb), (2, vR 0 0), (13, vR 3 0), (77, vB false)] [LB.mk [cI 0, cI 0, cI 0, cI 0, cF 0, cS none 0 0, cI 0, cI 0, cF 0, cS none 0 0] 60, LB.mk [cI k.kind, cI k.n, cF bof_1, cS Aot_1 k.t.length cot_1] 49, LB.mk [cI v.kind, cI v.n, cF bof_2, cS Aot_2 v.t.length cot_2] 49, LB.mk [cI (ofLE (List.take 4 b)), cI (ofLE (List.take 4 (List.drop 4 b))), cI k.kind, cI k.n, cF bof_1, cS Aot_1 k.t.length cot_1, cI v.kind, cI v.n, cF bof_2, cS Aot_2 v.t.length cot_2] 60] ?_
  refine ltk 77 false ?_
  refine gn 4 (Rg.sq (bitL 10 255) 8) [kCd (bitL 10 767), kCd (bitL 9 511)] [(0, vS (some a_1) b.length cb), (2, vR 0 0), (13, vR 3 0), (77, vL false), (78, SV.agg [cI (ofLE (List.take 4 b)), cI (ofLE (List.take 4 (List.drop 4 b))), cI k.kind, cI k.n, cF bof_1, cS Aot_1 k.t.length cot_1, cI v.kind, cI v.n, cF bof_2, cS Aot_2 v.t.length cot_2])] [LB.mk [cI 0, cI 0, cI 0, cI 0, cF 0, cS none 0 0, cI 0, cI 0, cF 0, cS none 0 0] 60, LB.mk [cI k.kind, cI k.n, cF bof_1, cS Aot_1 k.t.length cot_1] 49, LB.mk [cI v.kind, cI v.n, cF bof_2, cS Aot_2 v.t.length cot_2] 49, LB.mk [cI (ofLE (List.take 4 b)), cI (ofLE (List.take 4 (List.drop 4 b))), cI k.kind, cI k.n, cF bof_1, cS Aot_1 k.t.length cot_1, cI v.kind, cI v.n, cF bof_2, cS Aot_2 v.t.length cot_2] 60] ?_
  refine cpk 108 [SV.agg [cI (ofLE (List.take 4 b)), cI (ofLE (List.take 4 (List.drop 4 b))), cI k.kind, cI k.n, cF bof_1, cS Aot_1 k.t.length cot_1, cI v.kind, cI v.n, cF bof_2, cS Aot_2 v.t.length cot_2]] (some 79) (Rg.sq (bitL 10 255) 9) (.one (.bo (tupOk (Tu.mk (ofLE (List.take 4 b)) (ofLE (List.take 4 (List.drop 4 b))) (It.mk k.kind k.n k.f ((some k).getD zIt0).t) (It.mk v.kind v.n v.f ((some v).getD zIt0).t))))) (fun L w1 hs => (iTupOk_ok (Tu.mk (ofLE (List.take 4 b)) (ofLE (List.take 4 (List.drop 4 b))) (It.mk k.kind k.n k.f ((some k).getD zIt0).t) (It.mk v.kind v.n v.f ((some v).getD zIt0).t)) ([Value.int IntKind.i64 (ofLE (List.take 4 b)), Value.int IntKind.i64 (ofLE (List.take 4 (List.drop 4 b))), Value.int IntKind.i64 k.kind, Value.int IntKind.i64 k.n, Value.float FloatKind.f64 bof_1, Value.slice Aot_1 k.t.length cot_1, Value.int IntKind.i64 v.kind, Value.int IntKind.i64 v.n, Value.float FloatKind.f64 bof_2, Value.slice Aot_2 v.t.length cot_2]) w1 (kTu_mk ‹_› hkf (hs.rd 1 rfl) ‹_› hvf (hs.rd 0 rfl)))) ?_
  refine gn 4 (Rg.sq (bitL 10 255) 12) [kCd (bitL 10 767), kCd (bitL 9 511)] [(0, vS (some a_1) b.length cb), (2, vR 0 0), (13, vR 3 0), (82, vB !tupOk (Tu.mk (ofLE (List.take 4 b)) (ofLE (List.take 4 (List.drop 4 b))) (It.mk k.kind k.n k.f k.t) (It.mk v.kind v.n v.f v.t)))] [LB.mk [cI 0, cI 0, cI 0, cI 0, cF 0, cS none 0 0, cI 0, cI 0, cF 0, cS none 0 0] 60, LB.mk [cI k.kind, cI k.n, cF bof_1, cS Aot_1 k.t.length cot_1] 49, LB.mk [cI v.kind, cI v.n, cF bof_2, cS Aot_2 v.t.length cot_2] 49, LB.mk [cI (ofLE (List.take 4 b)), cI (ofLE (List.take 4 (List.drop 4 b))), cI k.kind, cI k.n, cF bof_1, cS Aot_1 k.t.length cot_1, cI v.kind, cI v.n, cF bof_2, cS Aot_2 v.t.length cot_2] 60] ?_
  try simp only [flx, hq1, hq3, hkf, hvf, nf_1, nf_2, nf_3, nf_4, nf_5, nf_6, nf_7, nf_8, nf_9, nf_12, nf_13, nf_10, nf_11]
  refine gn 4 (Rg.sq (bitL 10 255) 12) [kCd (bitL 10 767), kCd (bitL 9 511)] [(0, vS (some a_1) b.length cb), (2, vR 0 0), (13, vR 3 0), (82, vB false)] [LB.mk [cI 0, cI 0, cI 0, cI 0, cF 0, cS none 0 0, cI 0, cI 0, cF 0, cS none 0 0] 60, LB.mk [cI k.kind, cI k.n, cF bof_1, cS Aot_1 k.t.length cot_1] 49, LB.mk [cI v.kind, cI v.n, cF bof_2, cS Aot_2 v.t.length cot_2] 49, LB.mk [cI (ofLE (List.take 4 b)), cI (ofLE (List.take 4 (List.drop 4 b))), cI k.kind, cI k.n, cF bof_1, cS Aot_1 k.t.length cot_1, cI v.kind, cI v.n, cF bof_2, cS Aot_2 v.t.length cot_2] 60] ?_
  refine ltk 82 false ?_
  refine gn 4 (Rg.sq (bitL 10 255) 13) [kCd (bitL 10 767), kCd (bitL 9 511)] [(0, vS (some a_1) b.length cb), (2, vR 0 0), (13, vR 3 0), (82, vL false), (83, SV.agg [cI (ofLE (List.take 4 b)), cI (ofLE (List.take 4 (List.drop 4 b))), cI k.kind, cI k.n, cF bof_1, cS Aot_1 k.t.length cot_1, cI v.kind, cI v.n, cF bof_2, cS Aot_2 v.t.length cot_2])] [LB.mk [cI 0, cI 0, cI 0, cI 0, cF 0, cS none 0 0, cI 0, cI 0, cF 0, cS none 0 0] 60, LB.mk [cI k.kind, cI k.n, cF bof_1, cS Aot_1 k.t.length cot_1] 49, LB.mk [cI v.kind, cI v.n, cF bof_2, cS Aot_2 v.t.length cot_2] 49, LB.mk [cI (ofLE (List.take 4 b)), cI (ofLE (List.take 4 (List.drop 4 b))), cI k.kind, cI k.n, cF bof_1, cS Aot_1 k.t.length cot_1, cI v.kind, cI v.n, cF bof_2, cS Aot_2 v.t.length cot_2] 60] ?_
  refine cak 110 [SV.agg [cI (ofLE (List.take 4 b)), cI (ofLE (List.take 4 (List.drop 4 b))), cI k.kind, cI k.n, cF bof_1, cS Aot_1 k.t.length cot_1, cI v.kind, cI v.n, cF bof_2, cS Aot_2 v.t.length cot_2]] (some 84) (Rg.sq (bitL 10 255) 14) (fun L w1 hs => (iTupB_ok (Tu.mk (ofLE (List.take 4 b)) (ofLE (List.take 4 (List.drop 4 b))) (It.mk k.kind k.n k.f ((some k).getD zIt0).t) (It.mk v.kind v.n v.f ((some v).getD zIt0).t)) ([Value.int IntKind.i64 (ofLE (List.take 4 b)), Value.int IntKind.i64 (ofLE (List.take 4 (List.drop 4 b))), Value.int IntKind.i64 k.kind, Value.int IntKind.i64 k.n, Value.float FloatKind.f64 bof_1, Value.slice Aot_1 k.t.length cot_1, Value.int IntKind.i64 v.kind, Value.int IntKind.i64 v.n, Value.float FloatKind.f64 bof_2, Value.slice Aot_2 v.t.length cot_2]) w1 (kTu_mk ‹_› hkf (hs.rd 1 rfl) ‹_› hvf (hs.rd 0 rfl)) ‹_› ‹_› ‹_› ‹_›).mono ?_)
  rintro e_ w2_ ⟨B_1, d_1, rfl, hf_⟩
  refine ⟨.one (.v (Value.slice B_1 (tupB (Tu.mk (ofLE (List.take 4 b)) (ofLE (List.take 4 (List.drop 4 b))) (It.mk k.kind k.n k.f ((some k).getD zIt0).t) (It.mk v.kind v.n v.f ((some v).getD zIt0).t))).length d_1)), _, _, rfl, fun _ => hf_.1.block, hs.fresh hf_, ?_⟩
  clear hs hf_
  refine gn 4 (Rg.sq (bitL 10 255) 15) [kCd (bitL 10 767), kCd (bitL 9 511)] [(2, vR 0 0), (13, vR 3 0), (82, vL false), (84, vS B_1 (tupB (Tu.mk (ofLE (List.take 4 b)) (ofLE (List.take 4 (List.drop 4 b))) (It.mk k.kind k.n k.f k.t) (It.mk v.kind v.n v.f v.t))).length d_1), (85, vS (some a_1) b.length cb)] [LB.mk [cI 0, cI 0, cI 0, cI 0, cF 0, cS none 0 0, cI 0, cI 0, cF 0, cS none 0 0] 60, LB.mk [cI k.kind, cI k.n, cF bof_1, cS Aot_1 k.t.length cot_1] 49, LB.mk [cI v.kind, cI v.n, cF bof_2, cS Aot_2 v.t.length cot_2] 49, LB.mk [cI (ofLE (List.take 4 b)), cI (ofLE (List.take 4 (List.drop 4 b))), cI k.kind, cI k.n, cF bof_1, cS Aot_1 k.t.length cot_1, cI v.kind, cI v.n, cF bof_2, cS Aot_2 v.t.length cot_2] 60] ?_
  refine cpk 109 [vS B_1 (tupB (Tu.mk (ofLE (List.take 4 b)) (ofLE (List.take 4 (List.drop 4 b))) (It.mk k.kind k.n k.f k.t) (It.mk v.kind v.n v.f v.t))).length d_1, vS (some a_1) b.length cb] (some 86) (Rg.sq (bitL 10 255) 16) (.one (.bo (decide (tupB (Tu.mk (ofLE (List.take 4 b)) (ofLE (List.take 4 (List.drop 4 b))) (It.mk k.kind k.n k.f ((some k).getD zIt0).t) (It.mk v.kind v.n v.f ((some v).getD zIt0).t)) = b)))) (fun L w1 hs => (eqB_ok (tupB (Tu.mk (ofLE (List.take 4 b)) (ofLE (List.take 4 (List.drop 4 b))) (It.mk k.kind k.n k.f ((some k).getD zIt0).t) (It.mk v.kind v.n v.f ((some v).getD zIt0).t))) (Value.slice B_1 (tupB (Tu.mk (ofLE (List.take 4 b)) (ofLE (List.take 4 (List.drop 4 b))) k v)).length d_1) (b) (Value.slice (some a_1) b.length cb) w1 (hs.rd 0 rfl) (rdRow_ext (hs.old 3 rfl) hb) ‹_› ‹_›)) ?_
  refine gn 4 Rg.no [kCd (bitL 10 767), kCd (bitL 9 511)] [(2, vR 0 0), (13, vR 3 0), (88, vB !decide (tupB (Tu.mk (ofLE (List.take 4 b)) (ofLE (List.take 4 (List.drop 4 b))) (It.mk k.kind k.n k.f k.t) (It.mk v.kind v.n v.f v.t)) = b))] [LB.mk [cI 0, cI 0, cI 0, cI 0, cF 0, cS none 0 0, cI 0, cI 0, cF 0, cS none 0 0] 60, LB.mk [cI k.kind, cI k.n, cF bof_1, cS Aot_1 k.t.length cot_1] 49, LB.mk [cI v.kind, cI v.n, cF bof_2, cS Aot_2 v.t.length cot_2] 49, LB.mk [cI (ofLE (List.take 4 b)), cI (ofLE (List.take 4 (List.drop 4 b))), cI k.kind, cI k.n, cF bof_1, cS Aot_1 k.t.length cot_1, cI v.kind, cI v.n, cF bof_2, cS Aot_2 v.t.length cot_2] 60] ?_
  try simp only [flx, hq1, hq3, hkf, hvf, nf_1, nf_2, nf_3, nf_4, nf_5, nf_6, nf_7, nf_8, nf_9, nf_12, nf_13, nf_10, nf_11]
  refine gn 4 Rg.no [kCd (bitL 10 767), kCd (bitL 9 511)] [(2, vR 0 0), (13, vR 3 0), (88, vB true)] [LB.mk [cI 0, cI 0, cI 0, cI 0, cF 0, cS none 0 0, cI 0, cI 0, cF 0, cS none 0 0] 60, LB.mk [cI k.kind, cI k.n, cF bof_1, cS Aot_1 k.t.length cot_1] 49, LB.mk [cI v.kind, cI v.n, cF bof_2, cS Aot_2 v.t.length cot_2] 49, LB.mk [cI (ofLE (List.take 4 b)), cI (ofLE (List.take 4 (List.drop 4 b))), cI k.kind, cI k.n, cF bof_1, cS Aot_1 k.t.length cot_1, cI v.kind, cI v.n, cF bof_2, cS Aot_2 v.t.length cot_2] 60] ?_
  refine ltk 88 true ?_
  refine gn 1 Rg.no [kCd (bitL 12 2815), kCd (bitL 9 511)] [(2, vR 0 0), (3, vL false)] [LB.mk [cI 0, cI 0, cI 0, cI 0, cF 0, cS none 0 0, cI 0, cI 0, cF 0, cS none 0 0] 60] ?_
  refine rtk [SV.agg [cI 0, cI 0, cI 0, cI 0, cF 0, cS none 0 0, cI 0, cI 0, cF 0, cS none 0 0], vL false] ?_
  intro L w1 hs
  exact ⟨0, none, 0, 0, none, 0, by rw [hno]; rfl, by rw [hno]; exact (((hs.erases [0, 0, 0]).triv (A := rowA 5 kU8 ([] : List Int) (.slice none 0 0)) rowA_nil).triv (A := rowA 5 kU8 ([] : List Int) (.slice none 0 0)) rowA_nil).out (As := [_, _]), by decide, by rw [hno]; rfl, by decide, by rw [hno]; rfl⟩
end Go.Proofs.YtgleoebogikooaaGreat.Dk
