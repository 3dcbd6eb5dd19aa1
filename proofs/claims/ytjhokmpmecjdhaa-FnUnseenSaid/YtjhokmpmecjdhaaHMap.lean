/- A map from whole numbers to bools that a call makes, as a function: made, looked up, set to true. No program stands in it. -/
import Derived.Maps.OwnOps
import Derived.Maps.Views
import Derived.Maps.Own
import Derived.WalkKit
import Derived.Test.YtjhokmpmecjdhaaWWords
namespace Go.Proofs.Ytjhokmpmecjdhaa.HMap
open Go.RowKit Go.Maps Go.WideMaps Go.Proofs.YtjhokmpmecjdhaaW.PrintWords
set_option linter.unusedVariables false

def BMap (w : World) (P : Program) (k e : TypeId) (b n : Nat) (f : Int → Bool) : Prop :=
  ∃ D : DataW Unit, w.ownsMap P k (plainElem P e) b n D ∧ IsMap D ∧ ∀ x : Int, (Lit.int .i64 x).wf = true → D.atKey (.int .i64 x) (.lit (.bool false)) = .lit (.bool (f x))

section
variable {P : Program} {k e t : TypeId} {w : World} {b n : Nat} {f : Int → Bool}

theorem BMap.made (w : World) : BMap (w.alloc (.map #[] 0)) P k e w.heap.size 0 (fun _ => false) :=
  ⟨_, World.ownsMap_made _ _ _ _, by first | exact ⟨_, rfl⟩ | trivial, fun x hx => rfl⟩

theorem BMap.kept {w' : World} {row : Option Nat} (h : BMap w P k e b n f) (hg : w.grownBy w' row) (hne : some b ≠ row) : BMap w' P k e b n f := by
  obtain ⟨D, h1, h2, h3⟩ := h
  exact ⟨D, h1.kept hg hne, h2, h3⟩
theorem BMap.lt (h : BMap w P k e b n f) : b < w.heap.size := by
  obtain ⟨D, ⟨es, clock, hb, _⟩, _⟩ := h
  exact (Array.getElem?_eq_some_iff.1 hb).1
theorem BMap.below {w' : World} (h : BMap w P k e b n f) (hb : Below w.heap.size w w') : BMap w' P k e b n f := h.kept (grown_of_below hb none) (by simp)
theorem BMap.alloc (h : BMap w P k e b n f) (o : Obj) : BMap (w.alloc o) P k e b n f := h.kept (World.grownBy_alloc w o none) (by simp)
theorem BMap.set {a : Addr} (h : BMap w P k e b n f) (ha : b ≠ a.block) (u : Value) : BMap (w.setCell a u) P k e b n f := by
  obtain ⟨D, ⟨es, clock, hb, F, hs, hD⟩, h2, h3⟩ := h
  exact ⟨D, ⟨es, clock, by rw [Below.heap_setCell w a u b ha]; exact hb, F, hs, hD⟩, h2, h3⟩

theorem BMap.look (h : BMap w P k e b n f) (K : Keyed P k) (ht : P.underlying t = some (.map k e)) (hk : P.underlying k = some (.int .i64)) (he : P.underlying e = some .bool) (hz : (zeroValue e).run P w = .ok (.bool false) w) (x : Int) (hx : (Lit.int .i64 x).wf = true) :
    (Instr.lookup t (.map (some b)) (.int .i64 x) false).run P w = .ok (.bool (f x)) w := by
  obtain ⟨D, h1, h2, h3⟩ := h
  obtain ⟨v, ps, hrun, hv⟩ := h1.lookup K ht hz (plainElem_bool he false) (keyOf_int_mk hk hx)
  rw [h3 x hx] at hv
  rw [hrun]
  have : v = .bool (f x) := by
    unfold plainElem at hv
    rw [he] at hv
    split at hv <;> simp_all
  rw [this]

theorem BMap.put (h : BMap w P k e b n f) (K : Keyed P k) (ht : P.underlying t = some (.map k e)) (hk : P.underlying k = some (.int .i64)) (he : P.underlying e = some .bool) (hn : n < maxLen) (x : Int) (hx : (Lit.int .i64 x).wf = true) :
    ∃ w', (Instr.mapUpdate t (.map (some b)) (.int .i64 x) (.bool true)).run P w = .ok () w' ∧ BMap w' P k e b (n + 1) (fun y => if y = x then true else f y) ∧ w.grownBy w' (some b) := by
  obtain ⟨D, h1, h2, h3⟩ := h
  obtain ⟨w', hrun, h4, h5⟩ := h1.update K ht hn (keyOf_int_mk hk hx) (plainElem_bool he true)
  refine ⟨w', hrun, ⟨_, h4, ?_, fun y hy => ?_⟩, h5⟩
  · obtain ⟨es, rfl⟩ := h2
    exact ⟨_, rfl⟩
  · by_cases hyx : y = x
    · subst hyx
      rw [atKey_put_same h2 (by simp [WideAt.IsKeyLit])]
      simp
    · rw [atKey_put_other (by simpa using hyx)]
      simp [hyx, h3 y hy]

/-- 'm[x]' in the walk. -/
theorem wp_look {ops : Array Oper} {rest : List Oper} {o : Oper} {a : Act} {Q : Exit → Act → World → Prop} (hg : o.guard = none) (m x : Operand) (t : TypeId) (hop : o.op = Op.lookup t m x false) (K : Keyed P k) (ht : P.underlying t = some (.map k e)) (hk : P.underlying k = some (.int .i64)) (he : P.underlying e = some .bool)
    (hz : (zeroValue e).run P w = .ok (.bool false) w) (hm : a.eval m = .map (some b)) (h : BMap w P k e b n f) (y : Int) (hx : a.eval x = .int .i64 y) (hy : (Lit.int .i64 y).wf = true) (hK : wpList P ops Q rest (a.put o.dst (.bool (f y))) w) : wpList P ops Q (o :: rest) a w := by
  refine wpList_plain hg fun K' hK' => ?_
  have hrun := h.look K ht hk he hz y hy
  unfold Oper.wp
  simp [execOp, hop, hm, hx, hrun, Result.andThen]
  exact hK' _ _ hK

/-- 'm[x] = true' in the walk. -/
theorem wp_put {ops : Array Oper} {rest : List Oper} {o : Oper} {a : Act} {Q : Exit → Act → World → Prop} (hg : o.guard = none) (m x v : Operand) (t : TypeId) (hop : o.op = Op.mapUpdate t m x v) (K : Keyed P k) (ht : P.underlying t = some (.map k e)) (hk : P.underlying k = some (.int .i64)) (he : P.underlying e = some .bool)
    (hm : a.eval m = .map (some b)) (h : BMap w P k e b n f) (hn : n < maxLen) (y : Int) (hx : a.eval x = .int .i64 y) (hv : a.eval v = .bool true) (hy : (Lit.int .i64 y).wf = true)
    (hK : ∀ w', BMap w' P k e b (n + 1) (fun z => if z = y then true else f z) → w.grownBy w' (some b) → wpList P ops Q rest (a.put o.dst undef) w') : wpList P ops Q (o :: rest) a w := by
  refine wpList_plain hg fun K' hK' => ?_
  obtain ⟨w', hrun, h1, h2⟩ := h.put K ht hk he hn y hy
  unfold Oper.wp
  simp [execOp, hop, hm, hx, hv, hrun, Result.andThen]
  exact hK' _ _ (hK w' h1 h2)
end
end Go.Proofs.Ytjhokmpmecjdhaa.HMap
