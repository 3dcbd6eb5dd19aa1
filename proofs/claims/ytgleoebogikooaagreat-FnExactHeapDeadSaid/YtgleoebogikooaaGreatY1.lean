/- Walks of functions of the program: what each call returns and what it leaves in memory. Conditions: those that each theorem names. -/
import Derived.Test.YtgleoebogikooaaGreatW1
namespace Go.Proofs.YtgleoebogikooaaGreat.Dk
set_option linter.unusedVariables false
set_option linter.unusedSimpArgs false
open Go.Proofs.YtgleoebogikooaaGreat.Sx Go.Proofs Go.RowKit
set_option maxRecDepth 100000
set_option maxHeartbeats 1000000
theorem fI_le (n : Int) (h : 0 ≤ n) : FloatKind.f64.nearest n ≤ 9218868437227405312 := by
 have hn : decide (n < 0) = false := decide_eq_false (by omega)
 have hw : ∀ r, Ieee.Format.word FloatKind.f64.format false r = r := fun r => rfl
 have hi : Ieee.Format.infRung FloatKind.f64.format = 9218868437227405312 := by decide
 show FloatKind.f64.format.nearest (decide (n < 0)) n.natAbs 0 ≤ _
 rw [hn]
 unfold Ieee.Format.nearest
 dsimp only
 split
 ·rw [hw]; omega
 ·rw [hw]
  have := Nat.min_le_right
  exact Nat.le_trans (Nat.min_le_right ..) (Nat.le_of_eq hi)
def fI (n : Int) : Nat := FloatKind.f64.nearest n
theorem fI_lt {n : Int} (h : 0 ≤ n) : fI n < 18446744073709551616 := by have := fI_le n h; unfold fI; omega
theorem fI_nan {n : Int} (h : 0 ≤ n) : isNaN (fI n) = false := by
 have := fI_le n h
 unfold isNaN fI
 exact decide_eq_false (by omega)
theorem fI_canon {n : Int} (h : 0 ≤ n) : canonF (fI n) = fI n := by
 rcases canon_cases (fI_lt h) with ⟨h1, _⟩ | ⟨_, h2, _⟩
 ·rw [fI_nan h] at h1; cases h1
 ·exact h2
theorem fI_of {b : Nat} {n : Int} (h : 0 ≤ n) (hb : b < 18446744073709551616) (hc : canonF b = fI n) : b = fI n := by
 rcases canon_cases hb with ⟨_, h2, _⟩ | ⟨_, h2, _⟩
 ·have h3 := fI_le n h
  rw [h2] at hc
  unfold fI at hc
  omega
 ·rw [← hc, h2]
def mkB (n : Nat) (k : Int) : List Int := (List.range n).map fun (i : Nat) => IntKind.u8.wrap (k + (i : Int))
theorem mkB_len (n : Nat) (k : Int) : (mkB n k).length = n := by simp [mkB]
theorem mkB_get {n : Nat} {k : Int} {i : Nat} (h : i < (mkB n k).length) : (mkB n k)[i] = IntKind.u8.wrap (k + (i : Int)) := by simp [mkB]
theorem mk_step (ys : List Int) (k : Int) {i : Nat} (hi : i < ys.length) : (mkB i k ++ ys.drop i).set i (IntKind.u8.wrap (k + (i : Int))) = mkB (i + 1) k ++ ys.drop (i + 1) := by
 have hl : (mkB i k).length = i := mkB_len i k
 rw [List.set_append_right _ _ (by omega), hl, Nat.sub_self, List.drop_eq_getElem_cons hi, List.set_cons_zero]
 simp [mkB, List.range_succ]
def mkN (n : Nat) (k : Int) : List Int := (List.range n).map fun (i : Nat) => k + (i : Int)
theorem mkN_len (n : Nat) (k : Int) : (mkN n k).length = n := by simp [mkN]
theorem mkN_step (ys : List Int) (k : Int) {i : Nat} (hi : i < ys.length) : (mkN i k ++ ys.drop i).set i (k + (i : Int)) = mkN (i + 1) k ++ ys.drop (i + 1) := by
 have hl : (mkN i k).length = i := mkN_len i k
 rw [List.set_append_right _ _ (by omega), hl, Nat.sub_self, List.drop_eq_getElem_cons hi, List.set_cons_zero]
 simp [mkN, List.range_succ]
theorem markByteS_ok (ys : List Int) (A : Option Addr) (c : Nat) (k : Int) (w : World) (S : Nat → Prop) (h : sepL [rowA 5 kU8 ys (.slice A ys.length c)] w.heap S) (hS : ∀ b, S b → b < w.heap.size) (hl : ys.length ≤ 1048576) (hk : 0 ≤ k ∧ k ≤ 1099511627776) :
  Calls Tryz.prog 35 #[.slice A ys.length c, .int .i64 k] w fun e w' => e = .returned (.int .i64 (k + ys.length)) ∧ Mut w w' S [rowA 5 kU8 (mkB ys.length k) (.slice A ys.length c)] := by
 have hown := rowA_holds.1 (sepL_one h)
 refine enter (args := [.one (.v (.slice A ys.length c)), .one (.v (.int .i64 k))]) Tryz.func35 (c := bodyOf Tryz.f35) rfl rfl (start_LOK _) (start_mut h hS) ?_
 refine gn 0 Rg.no [kLp (bitL 5 29), KI.block 0, KI.code [true, true]] [(0, vS A ys.length c), (1, vI k), (5, vI 0)] [] ?_
 refine loop_at (ι := Nat) (fun i => [(1, .one (.v (.int .i64 (k + (i : Int))))), (5, .one (.v (.int .i64 i)))]) (fun _ => []) (fun i => [rowA 5 kU8 (mkB i k ++ ys.drop i) (.slice A ys.length c), oldX w S]) (fun i => i ≤ ys.length) (fun i => ys.length - i) 0 (by simp [updTm, lk]; exact ⟨rfl, rfl⟩) rfl (by simp [mkB]) (Nat.zero_le _) ?_
 intro i hi ih
 refine gn 0 Rg.no [kCd (bitL 7 93), kCd (bitL 6 61), kLp (bitL 5 29), KI.block 0, KI.code [true, true]] [(0, vS A ys.length c), (1, vI (k + (↑i : Int))), (5, vI (↑i : Int)), (9, vB (decide ((↑i : Int) < (↑ys.length : Int))))] [] ?_
 refine spl 9 (decide ((↑i : Int) < (↑ys.length : Int))) ?_ ?_
 ·intro h1
  have hlt : i < ys.length := by simpa using h1
  refine gn 0 (Rg.sq (bitL 9 189) 4) [kCd (bitL 9 445), KI.block 1, kCd (bitL 7 125), kLp (bitL 5 29), KI.block 0, KI.code [true, true]] [(0, vS A ys.length c), (1, vI (k + (↑i : Int))), (5, vI (↑i : Int)), (12, vS A ys.length c), (13, vI (↑i : Int)), (15, SV.one (SC.v (Value.int IntKind.u8 (IntKind.u8.wrap (k + (↑i : Int))))))] [] ?_
  obtain ⟨g, rfl⟩ := own_g hown (by omega)
  refine index_at 4 (by kernel_rfl : atP _ _ _ 4 false = some (Op.indexAddr 44 (tmpO 12) (tmpO 13), 0, some 16, Rg.sq (bitL 9 189) 5)) (sz := 1) (by kernel_rfl) rfl rfl rfl hlt (fun L w1 hs => ⟨_, rfl⟩) ?_
  intro a2 ha2; cases ha2
  refine gn 0 (Rg.sq (bitL 9 189) 5) [kCd (bitL 9 445), KI.block 1, kCd (bitL 7 125), kLp (bitL 5 29), KI.block 0, KI.code [true, true]] [(0, vS (some (Addr.mk g 0 none)) ys.length c), (1, vI (k + (↑i : Int))), (5, vI (↑i : Int)), (15, SV.one (SC.v (Value.int IntKind.u8 (IntKind.u8.wrap (k + (↑i : Int)))))), (16, vP ((Addr.mk g 0 none).add (i * 1)))] [] ?_
  refine store_el (A := []) (d := kU8) (y := IntKind.u8.wrap (k + (i : Int))) (by kernel_rfl : atB _ _ _ false = some (Op.store 5 (tmpO 16) (tmpO 15), 0, none, Rg.sq (bitL 9 189) 6)) (by kernel_rfl) rfl rfl rfl rfl rfl (by simp [mkB]; omega) (fun _ _ _ => rfl) ?_
  refine gn 0 Rg.no [kLp (bitL 5 29), KI.block 0, KI.code [true, true]] [(0, vS (some (Addr.mk g 0 none)) ys.length c), (1, vI (IntKind.i64.wrap (k + (↑i : Int) + 1))), (5, vI (IntKind.i64.wrap ((↑i : Int) + 1)))] [] ?_
  rw [wrap_succ (by omega), mk_step ys k hlt, show IntKind.i64.wrap (k + (i : Int) + 1) = k + ((i + 1 : Nat) : Int) by rw [IntKind.wrap_i64]; omega]
  exact ih (i + 1) hlt (by omega)
 ·intro h1
  refine gn 0 Rg.no [kCd (bitL 3 7)] [(4, vI (k + (↑i : Int)))] [] ?_
  refine rtk [vI (k + (↑i : Int))] ?_
  intro L w1 hs
  have hi2 : i = ys.length := by
   have : ¬ i < ys.length := by simpa using h1
   omega
  subst hi2
  simp only [List.drop_length, List.append_nil] at hs
  exact ⟨rfl, hs.outm (As := [_])⟩
theorem heldByteS_ok (xs : List Int) (vxs : Value) (k : Int) (w : World) (hxs : rdRow kU8 w.heap xs vxs) (hx : xs = mkB xs.length k) (hl : xs.length ≤ 1048576) (hk : 0 ≤ k ∧ k ≤ 1099511627776) :
  Calls Tryz.prog 36 #[vxs, .int .i64 k] w fun e w' => e = .returned (.int .i64 (k + xs.length)) ∧ Below w.heap.size w w' := by
 obtain ⟨Axs, cxs, rfl⟩ := rdRow_form hxs
 refine enter (args := [.one (.v (.slice Axs xs.length cxs)), .one (.v (.int .i64 k))]) Tryz.func36 (c := bodyOf Tryz.f36) rfl rfl (start_LOK _) (start_old w) ?_
 have hnk : ∀ i : Nat, i < xs.length → IntKind.i64.wrap (k + (i : Int) + 1) = k + ((i + 1 : Nat) : Int) := fun i hi => by rw [IntKind.wrap_i64]; omega
 refine gn 0 Rg.no [kLp (bitL 5 29), KI.block 0, KI.code [true, true]] [(0, vS Axs xs.length cxs), (1, vI k), (5, vI 0)] [] ?_
 refine loop_at (ι := Nat) (fun i => [(1, .one (.v (.int .i64 (k + (i : Int))))), (5, .one (.v (.int .i64 i)))]) (fun _ => []) (fun i => [oldA w]) (fun i => i ≤ xs.length) (fun i => xs.length - i) 0 (by simp [updTm, lk]; exact ⟨rfl, rfl⟩) rfl rfl (Nat.zero_le _) ?_
 intro i hi ih
 rcases Nat.lt_or_ge i xs.length with hlt | hge
 ·have nf_1 := hnk i hlt
  have hm : xs[i] = IntKind.u8.wrap (k + (i : Int)) := (List.getElem_of_eq hx hlt).trans (mkB_get _)
  refine gn 0 Rg.no [kCd (bitL 7 93), kCd (bitL 6 61), kLp (bitL 5 29), KI.block 0, KI.code [true, true]] [(0, vS Axs xs.length cxs), (1, vI (k + (↑i : Int))), (5, vI (↑i : Int)), (9, vB (decide ((↑i : Int) < (↑xs.length : Int))))] [] ?_
  refine spl 9 (decide ((↑i : Int) < (↑xs.length : Int))) ?_ ?_
  ·intro hb1
   replace hb1 := of_decide_eq_true hb1
   refine gn 0 (Rg.sq (bitL 10 189) 2) [kCd (bitL 10 701), kCd (bitL 9 445), KI.block 1, kCd (bitL 7 125), kLp (bitL 5 29), KI.block 0, KI.code [true, true]] [(0, vS Axs xs.length cxs), (1, vI (k + (↑i : Int))), (5, vI (↑i : Int)), (12, vS Axs xs.length cxs), (13, vI (↑i : Int))] [] ?_
   refine index_at 2 (by kernel_rfl : atP _ _ _ 2 false = some (Op.indexAddr 44 (tmpO 12) (tmpO 13), 0, some 14, Rg.sq (bitL 10 189) 3)) (ni := i) (sz := 1) (by kernel_rfl) rfl rfl rfl ‹_› (fun L w1 hs => rd_some (i := i) (rdRow_ext (hs.old 0 rfl) hxs) ‹_›) ?_
   intro a_1 ha_1
   cases ha_1
   refine gn 0 (Rg.sq (bitL 10 189) 3) [kCd (bitL 10 701), kCd (bitL 9 445), KI.block 1, kCd (bitL 7 125), kLp (bitL 5 29), KI.block 0, KI.code [true, true]] [(0, vS (some a_1) xs.length cxs), (1, vI (k + (↑i : Int))), (5, vI (↑i : Int)), (14, vP (a_1.add (i * 1)))] [] ?_
   refine load_one 3 (by kernel_rfl : atP _ _ _ 3 true = some (Op.load 5 (tmpO 14), 5, some 15, Rg.sq (bitL 10 189) 4)) (n := 1) (by kernel_rfl) rfl ?_
   intro L w1 hs
   refine ⟨.v (Value.int IntKind.u8 ((xs)[i]'‹_›)), rd_sc (rdRow_ext (hs.old 0 rfl) hxs) ‹_›, ?_⟩
   clear hs
   refine gn 0 Rg.no [kCd (bitL 10 701), kCd (bitL 9 445), KI.block 1, kCd (bitL 7 125), kLp (bitL 5 29), KI.block 0, KI.code [true, true]] [(0, vS (some a_1) xs.length cxs), (1, vI (k + (↑i : Int))), (5, vI (↑i : Int)), (18, vB (xs[i] != IntKind.u8.wrap (k + (↑i : Int))))] [] ?_
   refine spl 18 (xs[i] != IntKind.u8.wrap (k + (↑i : Int))) ?_ ?_
   ·intro hb2
    replace hb2 := bne_iff_ne.1 hb2
    (exfalso; omega)
   ·intro hb2
    replace hb2 := bne_eq_false_iff_eq.1 hb2
    refine gn 0 Rg.no [kLp (bitL 5 29), KI.block 0, KI.code [true, true]] [(0, vS (some a_1) xs.length cxs), (1, vI (IntKind.i64.wrap (k + (↑i : Int) + 1))), (5, vI (IntKind.i64.wrap ((↑i : Int) + 1)))] [] ?_
    try simp only [flx, nf_1]
    rw [wrap_succ (by omega)]; exact ih (i + 1) hlt (by omega)
  ·intro hb1
   replace hb1 := of_decide_eq_false hb1
   (exfalso; omega)
 ·obtain rfl : i = xs.length := by omega
  refine gn 0 Rg.no [kCd (bitL 7 93), kCd (bitL 6 61), kLp (bitL 5 29), KI.block 0, KI.code [true, true]] [(0, vS Axs xs.length cxs), (1, vI (k + (↑xs.length : Int))), (5, vI (↑xs.length : Int)), (9, vB (decide ((↑xs.length : Int) < (↑xs.length : Int))))] [] ?_
  refine spl 9 (decide ((↑xs.length : Int) < (↑xs.length : Int))) ?_ ?_
  ·intro hb1
   replace hb1 := of_decide_eq_true hb1
   (exfalso; omega)
  ·intro hb1
   replace hb1 := of_decide_eq_false hb1
   refine gn 0 Rg.no [kCd (bitL 3 7)] [(4, vI (k + (↑xs.length : Int)))] [] ?_
   refine rtk [vI (k + (↑xs.length : Int))] ?_
   intro L w1 hs
   exact ⟨rfl, hs.out0⟩
end Go.Proofs.YtgleoebogikooaaGreat.Dk
