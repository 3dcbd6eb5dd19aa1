/- Small words of this session: the place of the first that is so; a list asked element by element. No program stands in it. -/
import Derived.Test.YtjhokmpmecjdhaaWWords
namespace Go.Proofs.Ytjhokmpmecjdhaa.HMore
open Go.RowKit Go.Proofs.YtjhokmpmecjdhaaW.PrintWords

/-- The place of the first that is so, or -1. -/
def idxOf {α : Type} (p : α → Bool) (l : List α) : Int := match l.findIdx? p with | some i => i | none => -1
theorem idxOf_hit {α : Type} {p : α → Bool} {l : List α} {k : Nat} (hk : k < l.length) (h : p l[k] = true) (hn : ∀ j, j < k → ∀ h : j < l.length, p l[j] = false) : idxOf p l = k := by
  unfold idxOf
  rw [show l.findIdx? p = some k from List.findIdx?_eq_some_iff_getElem.2 ⟨hk, h, fun j hj => by rw [hn j hj (by omega)]; simp⟩]
theorem idxOf_miss {α : Type} {p : α → Bool} {l : List α} (hn : ∀ j, ∀ h : j < l.length, p l[j] = false) : idxOf p l = -1 := by
  unfold idxOf
  rw [show l.findIdx? p = none from List.findIdx?_eq_none_iff.2 fun x hx => by
    obtain ⟨j, hj, rfl⟩ := List.mem_iff_getElem.1 hx
    exact hn j hj]
theorem idxOf_any {α : Type} (p : α → Bool) (l : List α) : decide (0 ≤ idxOf p l) = l.any p := by
  unfold idxOf
  cases h : l.findIdx? p with
  | none =>
    have := List.findIdx?_eq_none_iff.1 h
    rw [List.any_eq_false.2 (fun x hx => by rw [this x hx]; simp)]
    simp
  | some i =>
    obtain ⟨hi, hp, _⟩ := List.findIdx?_eq_some_iff_getElem.1 h
    rw [List.any_eq_true.2 ⟨l[i], List.getElem_mem _, hp⟩]
    simp
theorem idxOf_range {α : Type} (p : α → Bool) (l : List α) : -1 ≤ idxOf p l ∧ idxOf p l < l.length := by
  unfold idxOf
  cases h : l.findIdx? p with
  | none => simp; omega
  | some i =>
    obtain ⟨hi, hp, _⟩ := List.findIdx?_eq_some_iff_getElem.1 h
    simp
    omega
theorem _root_.Go.World.cell?_alloc_new0 (w : World) (cs : Array Value) (t : TypeId) (v : Value) (h : cs[0]? = some v) : (w.alloc (.cells cs t)).cell? ⟨w.heap.size, 0, none⟩ = some v := by
  rw [cell_of_row (w.alloc (.cells cs t)) w.heap.size 0 cs t (0, 0) (heap_alloc_new w _)]
  exact h

/-- Every element asked; nothing where one question has no answer. -/
def allO {α : Type} (g : α → Option Bool) : List α → Option Bool
  | [] => some true
  | x :: xs => (g x).bind fun b => (allO g xs).bind fun c => some (b && c)
theorem allO_some {α : Type} {g : α → Option Bool} {p : α → Bool} : ∀ {l : List α}, (∀ x ∈ l, g x = some (p x)) → allO g l = some (l.all p)
  | [], _ => rfl
  | x :: xs, h => by
    have h2 : allO g xs = some (xs.all p) := allO_some fun y hy => h y (List.mem_cons_of_mem _ hy)
    simp only [allO, h x (List.mem_cons_self), h2, Option.bind_some, List.all_cons]
theorem allO_inv {α : Type} {g : α → Option Bool} : ∀ {l : List α} {r : Bool}, allO g l = some r → ∃ p : α → Bool, (∀ x ∈ l, g x = some (p x)) ∧ l.all p = r
  | [], r, h => ⟨fun _ => true, by simp, by simpa [allO] using h⟩
  | x :: xs, r, h => by
    simp only [allO, Option.bind_eq_some_iff] at h
    obtain ⟨b, hb, c, hc, h⟩ := h
    obtain ⟨p, hp, hpr⟩ := allO_inv hc
    refine ⟨fun y => (g y).getD true, ?_, ?_⟩
    · intro y hy
      rcases List.mem_cons.1 hy with rfl | hy
      · show g y = some ((g y).getD true)
        rw [hb]
        rfl
      · show g y = some ((g y).getD true)
        rw [hp y hy]
        rfl
    · rw [List.all_cons, hb]
      have : (xs.all fun y => (g y).getD true) = xs.all p := by
        rw [Bool.eq_iff_iff]
        simp only [List.all_eq_true]
        constructor
        · intro h y hy
          have := h y hy
          rwa [hp y hy] at this
        · intro h y hy
          rw [hp y hy]
          exact h y hy
      rw [this, hpr]
      simpa using h
theorem allO_LeO {α : Type} {g g' : α → Option Bool} (h : ∀ x, LeO (g x) (g' x)) : ∀ l : List α, LeO (allO g l) (allO g' l)
  | [] => LeO.refl _
  | x :: xs => LeO.bind (h x) fun _ => LeO.bind (allO_LeO h xs) fun _ => LeO.refl _
theorem any_not {α : Type} (p : α → Bool) : ∀ l : List α, (!(l.any fun x => !(p x))) = l.all p
  | [] => rfl
  | x :: xs => by
    rw [List.any_cons, List.all_cons, Bool.not_or, Bool.not_not, any_not p xs]
/-- The same, asked whether one is so. -/
def anyO {α : Type} (g : α → Option Bool) : List α → Option Bool
  | [] => some false
  | x :: xs => (g x).bind fun b => (anyO g xs).bind fun c => some (b || c)
theorem anyO_some {α : Type} {g : α → Option Bool} {p : α → Bool} : ∀ {l : List α}, (∀ x ∈ l, g x = some (p x)) → anyO g l = some (l.any p)
  | [], _ => rfl
  | x :: xs, h => by
    have h2 : anyO g xs = some (xs.any p) := anyO_some fun y hy => h y (List.mem_cons_of_mem _ hy)
    simp only [anyO, h x (List.mem_cons_self), h2, Option.bind_some, List.any_cons]
theorem asked {α : Type} {g : α → Option Bool} {l : List α} (h : ∀ x ∈ l, ∃ b, g x = some b) : ∃ p : α → Bool, ∀ x ∈ l, g x = some (p x) :=
  ⟨fun y => (g y).getD true, fun x hx => by
    obtain ⟨b, hb⟩ := h x hx
    show g x = some ((g x).getD true)
    rw [hb]
    rfl⟩
theorem anyO_all {α : Type} {g : α → Option Bool} : ∀ {l : List α} {r : Bool}, anyO g l = some r → ∀ x ∈ l, ∃ b, g x = some b
  | x :: xs, r, h, y, hy => by
    simp only [anyO, Option.bind_eq_some_iff] at h
    obtain ⟨b, hb, c, hc, h⟩ := h
    rcases List.mem_cons.1 hy with rfl | hy
    · exact ⟨b, hb⟩
    · exact anyO_all hc y hy
theorem anyO_inv {α : Type} {g : α → Option Bool} {l : List α} {r : Bool} (h : anyO g l = some r) : ∃ p : α → Bool, (∀ x ∈ l, g x = some (p x)) ∧ l.any p = r := by
  obtain ⟨p, hp⟩ := asked (anyO_all h)
  refine ⟨p, hp, ?_⟩
  rw [anyO_some hp] at h
  exact Option.some.inj h
theorem anyO_LeO {α : Type} {g g' : α → Option Bool} (h : ∀ x, LeO (g x) (g' x)) : ∀ l : List α, LeO (anyO g l) (anyO g' l)
  | [] => LeO.refl _
  | x :: xs => LeO.bind (h x) fun _ => LeO.bind (anyO_LeO h xs) fun _ => LeO.refl _
/-- The same, asked for the place of the first that is so. -/
def idxO {α : Type} (g : α → Option Bool) (l : List α) : Option Int := (anyO g l).bind fun _ => some (idxOf (fun x => (g x).getD true) l)
theorem idxOf_congr {α : Type} {p q : α → Bool} {l : List α} (h : ∀ x ∈ l, p x = q x) : idxOf p l = idxOf q l := by
  unfold idxOf
  have : l.findIdx? p = l.findIdx? q := by
    induction l with
    | nil => rfl
    | cons x xs ih =>
      rw [List.findIdx?_cons, List.findIdx?_cons, h x (by simp), ih (fun y hy => h y (by simp [hy]))]
  rw [this]
theorem idxO_some {α : Type} {g : α → Option Bool} {p : α → Bool} {l : List α} (h : ∀ x ∈ l, g x = some (p x)) : idxO g l = some (idxOf p l) := by
  unfold idxO
  have e : idxOf (fun x => (g x).getD true) l = idxOf p l := idxOf_congr fun x hx => by
    show (g x).getD true = p x
    rw [h x hx]
    rfl
  rw [anyO_some h, Option.bind_some, e]
theorem idxO_inv {α : Type} {g : α → Option Bool} {l : List α} {r : Int} (h : idxO g l = some r) : ∃ p : α → Bool, (∀ x ∈ l, g x = some (p x)) ∧ idxOf p l = r := by
  have h0 := h
  unfold idxO at h
  obtain ⟨b, hb, _⟩ := Option.bind_eq_some_iff.1 h
  obtain ⟨p, hp⟩ := asked (anyO_all hb)
  refine ⟨p, hp, ?_⟩
  rw [idxO_some hp] at h0
  exact Option.some.inj h0
theorem idxO_LeO {α : Type} {g g' : α → Option Bool} (h : ∀ x, LeO (g x) (g' x)) (l : List α) : LeO (idxO g l) (idxO g' l) := by
  intro r hr
  obtain ⟨p, hp, rfl⟩ := idxO_inv hr
  exact idxO_some fun x hx => h x _ (hp x hx)
/-- Every element asked for a number. -/
def listO {α : Type} (g : α → Option Int) : List α → Option (List Int)
  | [] => some []
  | x :: xs => (g x).bind fun b => (listO g xs).bind fun c => some (b :: c)
theorem listO_some {α : Type} {g : α → Option Int} {p : α → Int} : ∀ {l : List α}, (∀ x ∈ l, g x = some (p x)) → listO g l = some (l.map p)
  | [], _ => rfl
  | x :: xs, h => by
    have h2 : listO g xs = some (xs.map p) := listO_some fun y hy => h y (List.mem_cons_of_mem _ hy)
    simp only [listO, h x (List.mem_cons_self), h2, Option.bind_some, List.map_cons]
theorem listO_all {α : Type} {g : α → Option Int} : ∀ {l : List α} {r : List Int}, listO g l = some r → ∀ x ∈ l, ∃ b, g x = some b
  | x :: xs, r, h, y, hy => by
    simp only [listO, Option.bind_eq_some_iff] at h
    obtain ⟨b, hb, c, hc, h⟩ := h
    rcases List.mem_cons.1 hy with rfl | hy
    · exact ⟨b, hb⟩
    · exact listO_all hc y hy
/-- Whether no two of them have one number. -/
def diffO {α : Type} (g : α → Option Int) (l : List α) : Option Bool := (listO g l).bind fun ks => if (ks.all fun y => (Lit.int .i64 y).wf) = true then some (decide ks.Nodup) else none
theorem diffO_some {α : Type} {g : α → Option Int} {p : α → Int} {l : List α} (h : ∀ x ∈ l, g x = some (p x)) (hw : ∀ x ∈ l, (Lit.int .i64 (p x)).wf = true) : diffO g l = some (decide (l.map p).Nodup) := by
  unfold diffO
  rw [listO_some h, Option.bind_some, if_pos]
  rw [List.all_eq_true]
  intro y hy
  obtain ⟨x, hx, rfl⟩ := List.mem_map.1 hy
  exact hw x hx
theorem diffO_inv {α : Type} {g : α → Option Int} {l : List α} {r : Bool} (h : diffO g l = some r) : ∃ p : α → Int, (∀ x ∈ l, g x = some (p x)) ∧ (∀ x ∈ l, (Lit.int .i64 (p x)).wf = true) ∧ decide (l.map p).Nodup = r := by
  unfold diffO at h
  obtain ⟨ks, hk, h⟩ := Option.bind_eq_some_iff.1 h
  have ha := listO_all hk
  have hp : ∀ x ∈ l, g x = some ((g x).getD 0) := fun x hx => by
    obtain ⟨b, hb⟩ := ha x hx
    rw [hb]
    rfl
  refine ⟨fun x => (g x).getD 0, hp, ?_⟩
  rw [listO_some hp] at hk
  obtain rfl := Option.some.inj hk
  split at h
  · rename_i hall
    rw [List.all_eq_true] at hall
    exact ⟨fun x hx => hall _ (List.mem_map.2 ⟨x, hx, rfl⟩), Option.some.inj h⟩
  · cases h
theorem diffO_LeO {α : Type} {g g' : α → Option Int} (h : ∀ x, LeO (g x) (g' x)) (l : List α) : LeO (diffO g l) (diffO g' l) := by
  intro r hr
  obtain ⟨p, hp, hw, rfl⟩ := diffO_inv hr
  exact diffO_some (fun x hx => h x _ (hp x hx)) hw
end Go.Proofs.Ytjhokmpmecjdhaa.HMore
