/- Walks of functions of the program: what each call returns and what it leaves in memory. Conditions: those that each theorem names. -/
import Derived.Test.YtjbbakckckihnaaF13
namespace Go.Proofs.Ytjbbakckckihnaa.Dk
set_option linter.unusedVariables false
set_option linter.unusedSimpArgs false
open Go.Proofs.Ytjbbakckckihnaa.Sx Go.Proofs Go.RowKit
set_option maxRecDepth 100000
def FI (n : Int) (i : Nat) (r : DD) : Prop := r.xs.length = 4 ∧ okD r.xs r.ws r.f = true ∧ r.ws.length ≤ i ∧ (((i : Int) ≤ n ∧ r.f = n - i ∧ r.dn = false) ∨ (n < (i : Int) ∧ r.f = 0 ∧ r.dn = true))
def codeI (n : Int) (i : Nat) : Int := if (i : Int) < n then 0 else 3
theorem takeI {n : Int} {i : Nat} {r : DD} (h : FI n i r) (hn : n ≤ 8) : ((i : Int) < n ∧ takeR r.f r.dn = ((n - ((i + 1 : Nat) : Int), false), true)) ∨ (¬ (i : Int) < n ∧ takeR r.f r.dn = ((0, true), false)) := by
  obtain ⟨_, _, _, h4⟩ := h
  rcases h4 with ⟨a, b, c⟩ | ⟨a, b, c⟩
  · by_cases hlt : (i : Int) < n
    · refine .inl ⟨hlt, ?_⟩
      rw [b, c]
      unfold takeR
      rw [if_neg (by decide), if_neg (by omega), if_pos (by omega), show IntKind.i64.wrap (n - i - 1) = n - ((i + 1 : Nat) : Int) by rw [IntKind.wrap_i64]; omega]
    · refine .inr ⟨hlt, ?_⟩
      rw [b, c]
      unfold takeR
      rw [if_neg (by decide), if_pos (by omega), show n - (i : Int) = 0 by omega]
  · refine .inr ⟨by omega, ?_⟩
    rw [b, c]
    rfl
theorem okD_f {xs : List (List Int)} {ws : List (Int × List Int)} {f g : Int} (h : okD xs ws f = true) (hg : -1 ≤ g) : okD xs ws g = true := by
  have := okD_iff.1 h
  exact okD_iff.2 ⟨⟨this.1.1, this.1.2.1, this.1.2.2.1, hg⟩, this.2⟩
theorem okD_stl {xs : List (List Int)} {ws : List (Int × List Int)} {f g : Int} (is : Nat → Bool) (m : Nat) (h : okD xs ws f = true) (hg : -1 ≤ g) : okD (stl is ws xs m) [] g = true := by
  have k := okD_iff.1 h
  have hl := stl_len is ws xs m
  exact okD_iff.2 ⟨⟨by omega, by omega, by simp, hg⟩, stl_all (is := is) (p := fun y => y.length = 64) k.2.1 (fun y hy => (k.2.2 y hy).2.2) m, fun y hy => by simp at hy⟩
theorem syncI {n : Int} {i : Nat} {r : DD} (h : FI n i r) (hn : n ≤ 8) : FI n (i + 1) (syncR r.xs r.ws r.f r.dn).1 ∧ (syncR r.xs r.ws r.f r.dn).2 = codeI n i := by
  have h1 := takeI h hn
  obtain ⟨ha, hb, hc, hd⟩ := h
  unfold syncR
  rw [if_pos hb]
  rcases h1 with ⟨hlt, ht⟩ | ⟨hlt, ht⟩
  · rw [ht, if_pos rfl]
    exact ⟨⟨by simp only [stl_len]; exact ha, okD_stl _ _ hb (by simp only; omega), Nat.zero_le _, .inl ⟨by omega, rfl, rfl⟩⟩, (if_pos hlt).symm⟩
  · rw [ht, if_neg (by decide)]
    exact ⟨⟨ha, okD_f hb (show (-1 : Int) ≤ 0 by decide), by simp only; omega, .inr ⟨by omega, rfl, rfl⟩⟩, (if_neg hlt).symm⟩
theorem writeI {n : Int} {i : Nat} {r : DD} (h : FI n i r) (hn : n ≤ 8) (hi : i ≤ 11) (x : Int) (ys : List Int) (hx : 0 ≤ x ∧ x < 4) (hy : ys.length = 64) : FI n (i + 1) (writeR r.xs r.ws r.f r.dn x ys).1 ∧ (writeR r.xs r.ws r.f r.dn x ys).2 = codeI n i := by
  have h1 := takeI h hn
  obtain ⟨ha, hb, hc, hd⟩ := h
  have k := okD_iff.1 hb
  unfold writeR
  rw [if_pos ⟨hb, by omega, by omega⟩]
  unfold writeIn
  rw [if_neg (by omega)]
  rcases h1 with ⟨hlt, ht⟩ | ⟨hlt, ht⟩
  · rw [ht, if_pos rfl]
    refine ⟨⟨ha, okD_iff.2 ⟨⟨k.1.1, k.1.2.1, by simp only [List.length_append, List.length_singleton]; omega, by simp only; omega⟩, k.2.1, fun y hm => ?_⟩, by simp only [List.length_append, List.length_singleton]; omega, .inl ⟨by omega, rfl, rfl⟩⟩, (if_pos hlt).symm⟩
    rcases List.mem_append.1 hm with hm | hm
    · exact k.2.2 y hm
    · obtain rfl := List.mem_singleton.1 hm
      exact ⟨hx.1, by simp only; omega, hy⟩
  · rw [ht, if_neg (by decide)]
    exact ⟨⟨ha, okD_f hb (show (-1 : Int) ≤ 0 by decide), by simp only; omega, .inr ⟨by omega, rfl, rfl⟩⟩, (if_neg hlt).symm⟩
theorem fi_small {n : Int} {i : Nat} {r : DD} (h : FI n i r) : r.xs.length ≤ 1048576 ∧ (∀ y ∈ r.xs, y.length ≤ 1048576) ∧ r.ws.length ≤ 1048576 ∧ ∀ y ∈ r.ws, y.2.length ≤ 1048576 := by
  have k := okD_iff.1 h.2.1
  exact ⟨by omega, fun y hy => by rw [k.2.1 y hy]; decide, by omega, fun y hy => by rw [(k.2.2 y hy).2.2]; decide⟩
end Go.Proofs.Ytjbbakckckihnaa.Dk
