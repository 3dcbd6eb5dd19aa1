/- Small words of this session: the place of the first that is so; a list asked element by element. No program stands in it. -/
import Derived.Test.YtadbcjeelbkfcaaWWords
namespace Go.Proofs.Ytadbcjeelbkfcaa.HMore
open Go.RowKit Go.Proofs.YtadbcjeelbkfcaaW.PrintWords

/-- The place of the first that is so, or -1. -/
def idxOf {α : Type} (p : α → Bool) (l : List α) : Int := match l.findIdx? p with | some i => i | none => -1
theorem idxOf_hit {α : Type} {p : α → Bool} {l : List α} {k : Nat} (hk : k < l.length) (h : p l[k] = true) (hn : ∀ j, j < k → ∀ h : j < l.length, p l[j] = false) : idxOf p l = k := by
  unfold idxOf
  rw [show l.findIdx? p = some k from List.findIdx?_eq_some_iff_getElem.2 ⟨hk, h, fun j hj => by rw [hn j hj (by omega)]; simp⟩]
theorem idxOf_miss {α : Type} {p : α → Bool} {l : List α} (hn : ∀ j, ∀ h : j < l.length, p l[j] = false) : idxOf p l = -1 := by
  unfold idxOf
  rw [show l.findIdx? p = none from List.findIdx?_eq_none_iff.2 fun x hx => by
    obtain ⟨j, hj, rfl⟩ := List.mem_iff_getElem.1 hx
    exact hn j hj]
theorem idxOf_any {α : Type} (p : α → Bool) (l : List α) : decide (0 ≤ idxOf p l) = l.any p := by
  unfold idxOf
  cases h : l.findIdx? p with
  | none =>
    have := List.findIdx?_eq_none_iff.1 h
    rw [List.any_eq_false.2 (fun x hx => by rw [this x hx]; simp)]
    simp
  | some i =>
    obtain ⟨hi, hp, _⟩ := List.findIdx?_eq_some_iff_getElem.1 h
    rw [List.any_eq_true.2 ⟨l[i], List.getElem_mem _, hp⟩]
    simp
theorem idxOf_range {α : Type} (p : α → Bool) (l : List α) : -1 ≤ idxOf p l ∧ idxOf p l < l.length := by
  unfold idxOf
  cases h : l.findIdx? p with
  | none => simp; omega
  | some i =>
    obtain ⟨hi, hp, _⟩ := List.findIdx?_eq_some_iff_getElem.1 h
    simp
    omega
theorem _root_.Go.World.cell?_alloc_new0 (w : World) (cs : Array Value) (t : TypeId) (v : Value) (h : cs[0]? = some v) : (w.alloc (.cells cs t)).cell? ⟨w.heap.size, 0, none⟩ = some v := by
  rw [cell_of_row (w.alloc (.cells cs t)) w.heap.size 0 cs t (0, 0) (heap_alloc_new w _)]
  exact h

/-- Every element asked; nothing where one question has no answer. -/
def allO {α : Type} (g : α → Option Bool) : List α → Option Bool
  | [] => some true
  | x :: xs => (g x).bind fun b => (allO g xs).bind fun c => some (b && c)
theorem allO_some {α : Type} {g : α → Option Bool} {p : α → Bool} : ∀ {l : List α}, (∀ x ∈ l, g x = some (p x)) → allO g l = some (l.all p)
  | [], _ => rfl
  | x :: xs, h => by
    have h2 : allO g xs = some (xs.all p) := allO_some fun y hy => h y (List.mem_cons_of_mem _ hy)
    simp only [allO, h x (List.mem_cons_self), h2, Option.bind_some, List.all_cons]
theorem allO_inv {α : Type} {g : α → Option Bool} : ∀ {l : List α} {r : Bool}, allO g l = some r → ∃ p : α → Bool, (∀ x ∈ l, g x = some (p x)) ∧ l.all p = r
  | [], r, h => ⟨fun _ => true, by simp, by simpa [allO] using h⟩
  | x :: xs, r, h => by
    simp only [allO, Option.bind_eq_some_iff] at h
    obtain ⟨b, hb, c, hc, h⟩ := h
    obtain ⟨p, hp, hpr⟩ := allO_inv hc
    refine ⟨fun y => (g y).getD true, ?_, ?_⟩
    · intro y hy
      rcases List.mem_cons.1 hy with rfl | hy
      · show g y = some ((g y).getD true)
        rw [hb]
        rfl
      · show g y = some ((g y).getD true)
        rw [hp y hy]
        rfl
    · rw [List.all_cons, hb]
      have : (xs.all fun y => (g y).getD true) = xs.all p := by
        rw [Bool.eq_iff_iff]
        simp only [List.all_eq_true]
        constructor
        · intro h y hy
          have := h y hy
          rwa [hp y hy] at this
        · intro h y hy
          rw [hp y hy]
          exact h y hy
      rw [this, hpr]
      simpa using h
theorem allO_LeO {α : Type} {g g' : α → Option Bool} (h : ∀ x, LeO (g x) (g' x)) : ∀ l : List α, LeO (allO g l) (allO g' l)
  | [] => LeO.refl _
  | x :: xs => LeO.bind (h x) fun _ => LeO.bind (allO_LeO h xs) fun _ => LeO.refl _
end Go.Proofs.Ytadbcjeelbkfcaa.HMore
