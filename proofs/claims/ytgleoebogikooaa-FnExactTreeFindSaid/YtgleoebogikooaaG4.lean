/- Walks of functions of the program: what each call returns and what it leaves in memory. Conditions: those that each theorem names. -/
import Derived.Test.YtgleoebogikooaaG3
namespace Go.Proofs.Ytgleoebogikooaa.Dk
set_option linter.unusedVariables false
set_option linter.unusedSimpArgs false
open Go.Proofs.Ytgleoebogikooaa.Sx Go.Proofs Go.RowKit
set_option maxRecDepth 100000
set_option maxHeartbeats 1000000
theorem less_iff {a b : En} (ha : itemOk a.key = true) (hb : itemOk b.key = true) : lessEn a b = decide (cmpEn a b < 0) := by
  unfold lessEn cmpEn
  rw [ha, hb]
  simp only [Bool.and_true, if_true, orI]
  generalize cmpIt a.key b.key = k
  unfold cmpI
  by_cases h0 : k = 0
  · subst h0
    by_cases h1 : a.id < b.id
    · simp [h1]
    · by_cases h2 : b.id < a.id
      · simp [h1, h2]
      · simp [h1, h2]
  · by_cases h1 : k < 0
    · simp [h0, h1]
    · simp [h0, h1]
theorem entOk_item {e : En} (h : entOk e = true) : itemOk e.key = true := by
  unfold entOk at h
  simp only [Bool.and_eq_true] at h
  exact keyOk_ok h.1
/-- what the reference asks of entry i of a node -/
def entI (lo hi : Option En) (xs : List En) (i : Nat) (h : i < xs.length) : Bool :=
  entOk xs[i] && (decide (i = 0) || decide (cmpEn (xs[i - 1]'(by omega)) xs[i] < 0)) && okLo lo xs[i] && okHi hi xs[i]
theorem asc_iff : ∀ (xs : List En), asc xs = true ↔ ∀ (i : Nat) (h : i < xs.length), 0 < i → cmpEn (xs[i - 1]'(by omega)) xs[i] < 0
  | [] => ⟨fun _ i h => by simp at h, fun _ => rfl⟩
  | [a] => ⟨fun _ i h h0 => by simp at h; omega, fun _ => rfl⟩
  | a :: b :: r => by
    have ih := asc_iff (b :: r)
    simp only [asc, Bool.and_eq_true, decide_eq_true_eq]
    constructor
    · rintro ⟨h1, h2⟩ i h h0
      rcases i with _ | _ | i
      · omega
      · exact h1
      · exact ih.1 h2 (i + 1) (by simpa using h) (by omega)
    · intro hh
      refine ⟨hh 1 (by simp) (by omega), ih.2 fun i h h0 => ?_⟩
      rcases i with _ | i
      · omega
      · exact hh (i + 2) (by simpa using h) (by omega)
theorem ents_iff {lo hi : Option En} {xs : List En} : (∀ (i : Nat) (h : i < xs.length), entI lo hi xs i h = true) ↔ xs.all entOk = true ∧ asc xs = true ∧ xs.all (fun e => okLo lo e && okHi hi e) = true := by
  rw [asc_iff, List.all_eq_true, List.all_eq_true]
  constructor
  · intro hh
    have h1 : ∀ (i : Nat) (h : i < xs.length), (entOk xs[i] = true ∧ (i = 0 ∨ cmpEn (xs[i - 1]'(by omega)) xs[i] < 0)) ∧ (okLo lo xs[i] = true ∧ okHi hi xs[i] = true) := fun i h => by
      have := hh i h
      simp only [entI, Bool.and_eq_true, Bool.or_eq_true, decide_eq_true_eq] at this
      exact ⟨⟨this.1.1.1, this.1.1.2⟩, this.1.2, this.2⟩
    refine ⟨fun e he => ?_, fun i h h0 => ((h1 i h).1.2).resolve_left (by omega), fun e he => ?_⟩
    · obtain ⟨j, hj, rfl⟩ := List.getElem_of_mem he
      exact (h1 j hj).1.1
    · obtain ⟨j, hj, rfl⟩ := List.getElem_of_mem he
      rw [(h1 j hj).2.1, (h1 j hj).2.2]; rfl
  · rintro ⟨h1, h2, h3⟩ i h
    have h4 := h3 _ (List.getElem_mem h)
    simp only [Bool.and_eq_true] at h4
    simp only [entI, Bool.and_eq_true, Bool.or_eq_true, decide_eq_true_eq]
    refine ⟨⟨⟨h1 _ (List.getElem_mem h), ?_⟩, h4.1⟩, h4.2⟩
    rcases Nat.eq_zero_or_pos i with h0 | h0
    · exact .inl h0
    · exact .inr (h2 i h h0)
end Go.Proofs.Ytgleoebogikooaa.Dk
