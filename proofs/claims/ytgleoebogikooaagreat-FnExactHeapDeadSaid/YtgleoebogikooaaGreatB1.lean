/- Walks of functions of the program: what each call returns and what it leaves in memory. Conditions: those that each theorem names. -/
import Derived.Test.YtgleoebogikooaaGreatA6
namespace Go.Proofs.YtgleoebogikooaaGreat.Dk
set_option linter.unusedVariables false
set_option linter.unusedSimpArgs false
open Go.Proofs.YtgleoebogikooaaGreat.Sx Go.Proofs Go.RowKit
set_option maxRecDepth 100000
set_option maxHeartbeats 1000000
def Pred {α : Type} (ev : Hp → α → Value → Prop) (F : Nat) (caps : Array Value) (w : World) (xs : List α) (p : α → Bool) : Prop :=
 ∀ w1 : World, (∀ b, b < w.heap.size → w1.heap[b]? = w.heap[b]?) → ∀ x ∈ xs, ∀ v, ev w1.heap x v → Calls Tryz.prog F (#[v] ++ caps) w1 fun e w2 => e = .returned (.bool (p x)) ∧ Below w1.heap.size w1 w2
def evA {α : Type} (d : Kn α) (h : Hp) (x : α) (v : Value) : Prop := ∃ cs, v = .agg cs.toArray ∧ d.rd h x cs
def evR {α : Type} (d : Kn α) (h : Hp) (x : List α) (v : Value) : Prop := rdRow d h x v
theorem Pred.ext {α : Type} {ev : Hp → α → Value → Prop} {F : Nat} {caps : Array Value} {w w' : World} {xs : List α} {p : α → Bool} (h : Pred ev F caps w xs p) (hb : ∀ b, b < w.heap.size → w'.heap[b]? = w.heap[b]?) (hsz : w.heap.size ≤ w'.heap.size) : Pred ev F caps w' xs p :=
 fun w1 h1 x hx v hv => h w1 (fun b hb' => (h1 b (Nat.lt_of_lt_of_le hb' hsz)).trans (hb b hb')) x hx v hv
def idxOf {α : Type} (p : α → Bool) (xs : List α) : Int := match xs.findIdx? p with
 | some i => i
 | none => -1
theorem idx_hit {α : Type} {p : α → Bool} {xs : List α} {i : Nat} (hi : i < xs.length) (h : ∀ x ∈ xs.take i, p x = false) (hp : p xs[i] = true) : idxOf p xs = i := by
 have : xs.findIdx? p = some i := by
  rw [List.findIdx?_eq_some_iff_getElem]
  refine ⟨hi, hp, fun j hj => ?_⟩
  have : xs[j]'(by omega) ∈ xs.take i := List.mem_take_iff_getElem.2 ⟨j, by omega, rfl⟩
  rw [h _ this]
  simp
 simp [idxOf, this]
theorem idx_none {α : Type} {p : α → Bool} {xs : List α} (h : ∀ x ∈ xs, p x = false) : idxOf p xs = -1 := by
 have : xs.findIdx? p = none := by rw [List.findIdx?_eq_none_iff]; exact h
 simp [idxOf, this]
theorem idx_ge {α : Type} (p : α → Bool) (xs : List α) : decide (idxOf p xs ≥ 0) = xs.any p := by
 cases h : xs.findIdx? p with
 | none =>
  have h1 : xs.any p = false := by rw [List.any_eq_false]; intro x hx; rw [List.findIdx?_eq_none_iff.1 h x hx]; simp
  rw [h1]
  simp [idxOf, h]
 | some i =>
  obtain ⟨hi, hp, _⟩ := List.findIdx?_eq_some_iff_getElem.1 h
  have h1 : xs.any p = true := List.any_eq_true.2 ⟨_, List.getElem_mem hi, hp⟩
  rw [h1]
  simp [idxOf, h]
theorem heap_grows {w w0 : World} (hb : ∀ b, b < w.heap.size → w0.heap[b]? = w.heap[b]?) : w.heap.size ≤ w0.heap.size := by
 rcases Nat.eq_zero_or_pos w.heap.size with h0 | h0
 ·omega
 ·have h1 := hb (w.heap.size - 1) (by omega)
  rw [Array.getElem?_eq_getElem (show w.heap.size - 1 < w.heap.size by omega)] at h1
  have := (Array.getElem?_eq_some_iff.1 h1).1
  omega
end Go.Proofs.YtgleoebogikooaaGreat.Dk
