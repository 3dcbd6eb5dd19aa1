/- Library: a checked symbolic machine over the model's code (part SxReg). No conditions: each theorem says its own. -/
import Derived.OrdersHeld
import Derived.LoopN
/-! Regions of free order: readers are taken first while what they read stays. -/
namespace Go.Proofs.Ytjbbakckckihnaa.Sx
set_option linter.unusedVariables false
set_option linter.unusedSimpArgs false
section
variable {P : Program} {ops : Array Oper} {Q : Exit → Act → World → Prop} {S : World → Prop} {ns : Nat → Bool}
/-- Whatever order is picked from here on; an operation of 'ns' keeps S. -/
def wpS (P : Program) (ops : Array Oper) (Q : Exit → Act → World → Prop) (S : World → Prop) (ns : Nat → Bool) : Nat → Array Bool → Act → World → Prop
  | 0, l, a, w => Region.ready .any ops l = [] ∧ Q .normal a w
  | f + 1, l, a, w => (Region.ready .any ops l = [] → Q .normal a w) ∧
      ∀ i ∈ Region.ready .any ops l, wpOp P ops Q i (fun a' w' => (ns i = true → S w → S w') ∧ wpS P ops Q S ns f (l.setIfInBounds i true) a' w') a w
theorem wpAny_of_S : ∀ (f : Nat) (l : Array Bool) (a : Act) (w : World), wpS P ops Q S ns f l a w → wpAny P .any ops Q f l a w
  | 0, _, _, _, h => h
  | f + 1, _, _, _, h => ⟨h.1, fun i hi => wpOp_mono (fun a' w' h' => wpAny_of_S f _ a' w' h'.2) (h.2 i hi)⟩
theorem wp_region_S {id : Nat} {a : Act} {w : World} (hm : P.follows .mixedOrders = true)
    (h : wpS P ops Q S ns ops.size (Array.replicate ops.size false) a { w with drawn := w.drawn + 1 }) : (Code.region id ops true).wp P Q a w :=
  wp_region_any hm (wpAny_of_S _ _ _ _ h)
theorem wpS_done {l : Array Bool} {a : Act} {w : World} (hr : Region.ready .any ops l = []) (h : Q .normal a w) : ∀ f, wpS P ops Q S ns f l a w
  | 0 => ⟨hr, h⟩
  | _ + 1 => ⟨fun _ => h, by rw [hr]; simp⟩
theorem wpS_one {i f : Nat} {l : Array Bool} {a : Act} {w : World} (hr : Region.ready .any ops l = [i])
    (h : wpOp P ops Q i (fun a' w' => (ns i = true → S w → S w') ∧ wpS P ops Q S ns f (l.setIfInBounds i true) a' w') a w) : wpS P ops Q S ns (f + 1) l a w :=
  ⟨fun h0 => (by rw [hr] at h0; cases h0), fun j hj => by
    rw [hr] at hj
    obtain rfl : j = i := by simpa using hj
    exact h⟩
/-- Operation r stands ahead of k, by edges. -/
inductive Anc (ops : Array Oper) : Nat → Nat → Prop where
  | base {r k : Nat} {o : Oper} {e : Edge} : ops[k]? = some o → e ∈ o.after → Region.binds .any e = true → e.on = r → Anc ops r k
  | step {r m k : Nat} {o : Oper} {e : Edge} : ops[k]? = some o → e ∈ o.after → Region.binds .any e = true → e.on = m → Anc ops r m → Anc ops r k
/-- What has come up has all come up that stands ahead of it. -/
def Closed (ops : Array Oper) (l : Array Bool) : Prop := ∀ k o, l.getD k false = true → ops[k]? = some o → ∀ e ∈ o.after, Region.binds .any e = true → l.getD e.on false = true
theorem anc_listed {l : Array Bool} (hc : Closed ops l) {r k : Nat} (h : Anc ops r k) : l.getD k false = true → l.getD r false = true := by
  induction h with
  | base ho he hb hr => intro hk; rw [← hr]; exact hc _ _ hk ho _ he hb
  | step ho he hb hm _ ih => intro hk; exact ih (by rw [← hm]; exact hc _ _ hk ho _ he hb)
theorem anc_ready {l : Array Bool} (hc : Closed ops l) {r k : Nat} (h : Anc ops r k) (hr : k ∈ Region.ready .any ops l) : l.getD r false = true := by
  obtain ⟨_, o', ho', hall⟩ := mem_ready.1 hr
  cases h with
  | base ho he hb hr => rw [ho'] at ho; cases ho; rw [← hr]; exact hall _ he hb
  | step ho he hb hm h2 => rw [ho'] at ho; cases ho; exact anc_listed hc h2 (by rw [← hm]; exact hall _ he hb)
theorem closed_set {l : Array Bool} (hc : Closed ops l) {j : Nat} (hr : j ∈ Region.ready .any ops l) : Closed ops (l.setIfInBounds j true) := by
  intro k o hk ho e he hb
  by_cases hjk : j = k
  · subst hjk
    obtain ⟨_, o', ho', hall⟩ := mem_ready.1 hr
    rw [ho'] at ho
    cases ho
    exact getD_set_true (hall e he hb)
  · rw [getD_set_ne false hjk] at hk
    exact getD_set_true (hc k o hk ho e he hb)
/-- An operation that yields its value (a reader: in every world that meets S) may be taken first. -/
theorem wpS_first {i : Nat} {oi : Oper} {v : Value} {rd : Bool} (hi : ops[i]? = some oi) (hsel : Region.noSelect ops = true)
    (hQ : ∀ c a w, Q (.panic c) (a.put oi.dst v) w → Q (.panic c) a w)
    (hrd : rd = true → ∀ (j : Nat) oj, ops[j]? = some oj → ns j = false → j ≠ i → Anc ops i j) :
    ∀ (f : Nat) (l : Array Bool) (a : Act) (w : World),
      (∀ j oj, ops[j]? = some oj → j ≠ i → l.getD j true = false → (∀ e ∈ oj.after, Region.binds .any e = true → e.on ≠ i) → oi.apart ops oj = true) →
      i ∈ Region.ready .any ops l → Closed ops l →
      YieldsIf P ops (fun w => rd = true → S w) oi v a → (rd = true → S w) →
      wpS P ops Q S ns f (l.setIfInBounds i true) (a.put oi.dst v) w → wpS P ops Q S ns (f + 1) l a w := by
  intro f
  induction f with
  | zero =>
    intro l a w hfr hr hcl hy hS H
    refine ⟨fun h => (by rw [h] at hr; cases hr), fun j hj => ?_⟩
    by_cases hji : j = i
    · subst hji
      exact hy.wpOp hi hS ⟨fun _ h => h, H⟩
    · have := ready_mono hj hji
      rw [H.1] at this
      cases this
  | succ f ih =>
    intro l a w hfr hr hcl hy hS H
    refine ⟨fun h => (by rw [h] at hr; cases hr), fun j hj => ?_⟩
    by_cases hji : j = i
    · subst hji
      exact hy.wpOp hi hS ⟨fun _ h => h, H⟩
    · have h1 := H.2 j (ready_mono hj hji)
      obtain ⟨hjun, oj, hoj, hall⟩ := mem_ready.1 hj
      have h0 := (mem_ready.1 hr).1
      have hnot : ∀ e ∈ oj.after, Region.binds .any e = true → e.on ≠ i := fun e he hb heq => by
        have h1 := hall e he hb
        rw [heq] at h1
        rcases Nat.lt_or_ge i l.size with h' | h'
        · simp [h'] at h0 h1
          rw [h0] at h1
          cases h1
        · simp [Array.getElem?_eq_none h'] at h1
      have hnsj : rd = true → ns j = true := fun hr1 => by
        cases hn : ns j with
        | true => rfl
        | false =>
          have h5 := anc_ready hcl (hrd hr1 j oj hoj hn hji) hj
          rcases Nat.lt_or_ge i l.size with h' | h'
          · simp [h'] at h0 h5
            rw [h0] at h5
            cases h5
          · simp [Array.getElem?_eq_none h'] at h5
      have h2 := wpOp_putIf hoj (hfr j oj hoj hji hjun hnot) (fun cs b => Region.noSelect_spec hsel i oi cs b hi) (fun cs b => Region.noSelect_spec hsel j oj cs b hoj) hQ hy h1
      refine wpOp_mono (fun a' w' h3 => ⟨h3.2.1, ?_⟩) h2
      refine ih (l.setIfInBounds j true) a' w' ?_ (ready_mono hr (Ne.symm hji)) (closed_set hcl hj) h3.1 (fun hr1 => h3.2.1 (hnsj hr1) (hS hr1)) ?_
      · intro k ok hk hki hun hno
        refine hfr k ok hk hki ?_ hno
        by_cases hjk : j = k
        · subst hjk; exact hjun
        · rw [getD_set_ne true hjk] at hun; exact hun
      · rw [Array.setIfInBounds_comm _ _ hji]
        exact h3.2.2
end
end Go.Proofs.Ytjbbakckckihnaa.Sx
