/- Walks of functions of the program: what each call returns and what it leaves in memory. Conditions: those that each theorem names. -/
import Derived.Test.YtgleoebogikooaaGreatB2
namespace Go.Proofs.YtgleoebogikooaaGreat.Dk
set_option linter.unusedVariables false
set_option linter.unusedSimpArgs false
open Go.Proofs.YtgleoebogikooaaGreat.Sx Go.Proofs Go.RowKit
set_option maxRecDepth 100000
set_option maxHeartbeats 1000000
def zRow {α : Type} (z : α → Nat) (xs : List α) : Nat := xs.length + (xs.map z).sum
def sumT {α : Type} (z : α → Nat) (xs : List α) (i : Nat) : Nat := ((xs.take i).map z).sum
theorem sumT_succ {α : Type} (z : α → Nat) (xs : List α) (i : Nat) (h : i < xs.length) : sumT z xs (i + 1) = sumT z xs i + z xs[i] := by
 unfold sumT
 rw [List.take_succ_eq_append_getElem h, List.map_append, List.sum_append]
 simp
theorem sumT_le {α : Type} (z : α → Nat) (xs : List α) : ∀ i, sumT z xs i ≤ (xs.map z).sum := by
 induction xs with
 | nil => intro i; simp [sumT]
 | cons a r ih =>
  intro i
  cases i with
  | zero => simp [sumT]
  | succ i => have := ih i; simp only [sumT, List.take_succ_cons, List.map_cons, List.sum_cons] at *; omega
theorem sumT_all {α : Type} (z : α → Nat) (xs : List α) (i : Nat) (h : xs.length ≤ i) : sumT z xs i = (xs.map z).sum := by
 unfold sumT; rw [List.take_of_length_le h]
theorem z_le {α : Type} (z : α → Nat) (xs : List α) {x : α} (h : x ∈ xs) : z x ≤ (xs.map z).sum := by
 induction xs with
 | nil => simp at h
 | cons a r ih =>
  simp only [List.map_cons, List.sum_cons]
  rcases List.mem_cons.1 h with h | h
  ·subst h; omega
  ·have := ih h; omega
def zIt (x : It) : Nat := x.t.length
theorem szByteS_ok (xs : List Int) (vxs : Value) (left : Int) (w : World) (hxs : rdRow kU8 w.heap xs vxs) (h0 : 0 ≤ left) (h1 : left ≤ 1048576) (hw : xs.length ≤ 9223372036854775807) :
  Calls Tryz.prog 40 #[vxs, .int .i64 left] w fun e w' => ∃ r : Int, e = .returned (.int .i64 r) ∧ Below w.heap.size w w' ∧ ((((xs.length : Nat) : Int) ≤ left ∧ r = left - ((xs.length : Nat) : Int)) ∨ (left < ((xs.length : Nat) : Int) ∧ r = -1)) := by
 obtain ⟨Axs, cxs, rfl⟩ := rdRow_form hxs
 refine enter (args := [.one (.v (.slice Axs xs.length cxs)), .one (.v (.int .i64 left))]) Tryz.func40 (c := bodyOf Tryz.f40) rfl rfl (start_LOK _) (start_old w) ?_
 have nf_1 : IntKind.i64.wrap (left - (xs.length : Int)) = left - xs.length := by rw [IntKind.wrap_i64]; omega
 refine gn 0 Rg.no [kCd (bitL 4 11), kCd (bitL 3 7)] [(1, vI (IntKind.i64.wrap (left - (↑xs.length : Int)))), (10, vB (decide (IntKind.i64.wrap (left - (↑xs.length : Int)) < 0)))] [] ?_
 try simp only [flx, nf_1]
 refine spl 10 (decide (left - (↑xs.length : Int) < 0)) ?_ ?_
 ·intro hb1
  replace hb1 := of_decide_eq_true hb1
  refine gn 0 Rg.no [kCd (bitL 6 43), kCd (bitL 3 7)] [(4, vI (-1))] [] ?_
  refine rtk [vI (-1)] ?_
  intro L w1 hs
  exact ⟨_, rfl, hs.out0, by omega⟩
 ·intro hb1
  replace hb1 := of_decide_eq_false hb1
  refine gn 0 Rg.no [kCd (bitL 4 15)] [(4, vI (left - (↑xs.length : Int)))] [] ?_
  refine rtk [vI (left - (↑xs.length : Int))] ?_
  intro L w1 hs
  exact ⟨_, rfl, hs.out0, by omega⟩
end Go.Proofs.YtgleoebogikooaaGreat.Dk
