/- FnExactWaitNext: the pure half: what the printed functions answer, without Go and memory. No condition beside those that each theorem states. -/
import Derived.Test.YtciflbagdlkgpaaPFnExactWaitNextx
import Derived.Test.YtciflbagdlkgpaaOFnExactWaitNext
namespace Go.Proofs.Ytciflbagdlkgpaa.Pure
open Go.RowKit Go.Proofs.Ytciflbagdlkgpaa.PFnExactWaitNext Go.Proofs.YtciflbagdlkgpaaW.PrintWords Go.Proofs.YtciflbagdlkgpaaW.PrintLast Go.Proofs.YtciflbagdlkgpaaW.PrintMore Go.Proofs.Ytciflbagdlkgpaa.HFl Go.Proofs.Ytciflbagdlkgpaa.HMap Go.Proofs.Ytciflbagdlkgpaa.HMore
set_option linter.unusedVariables false
set_option linter.unusedSimpArgs false

theorem wrap_succ {i : Int} (h0 : 0 ≤ i) (h : i ≤ 9223372036854775806) : wrap64 (i + 1) = i + 1 := by
  unfold wrap64
  omega

theorem drop_rd (l : List Int) (i : Nat) (h : i < l.length) : l.drop i = rd l (i : Int) :: l.drop (i + 1) := by
  rw [List.drop_eq_getElem_cons h]
  simp [rd, List.getD_eq_getElem?_getD, h]

/-- A loop that is walked from its end: what it tells at i follows from what it tells at i + 1. -/
theorem ev_down {ρ : Type} (F : Nat → Int → Option ρ) (R : Nat → ρ → Prop) (n : Nat) (hend : ∀ r, R n r → Ev (fun k => F k n) r) (hstep : ∀ i, i < n → (∀ r, R (i + 1) r → Ev (fun k => F k ((i + 1 : Nat) : Int)) r) → ∀ r, R i r → Ev (fun k => F k (i : Int)) r) :
    ∀ i, i ≤ n → ∀ r, R i r → Ev (fun k => F k (i : Int)) r := by
  have key : ∀ d i, n - i = d → i ≤ n → ∀ r, R i r → Ev (fun k => F k (i : Int)) r := by
    intro d
    induction d with
    | zero =>
      intro i hd hi
      obtain rfl : i = n := by omega
      exact hend
    | succ d ih =>
      intro i hd hi
      exact hstep i (by omega) (ih (i + 1) (by omega) (by omega))
  intro i hi
  exact key _ i rfl hi

theorem ev_if_pos {ρ : Type} {c : Prop} [Decidable c] {a b : Nat → Option ρ} {r : ρ} (h : c) (k : Ev a r) : Ev (fun n => if c then a n else b n) r := by simpa only [if_pos h] using k
theorem ev_if_neg {ρ : Type} {c : Prop} [Decidable c] {a b : Nat → Option ρ} {r : ρ} (h : ¬ c) (k : Ev b r) : Ev (fun n => if c then a n else b n) r := by simpa only [if_neg h] using k

theorem set_fill {α β : Type} (l : List α) (m : List β) (g : α → β) (i : Nat) (hi : i < l.length) (h : l.length = m.length) : ((l.take i).map g ++ m.drop i).set i (g l[i]) = (l.take (i + 1)).map g ++ m.drop (i + 1) := by
  apply List.ext_getElem?
  intro j
  simp only [List.getElem?_set, List.getElem?_append, List.length_map, List.length_take, List.getElem?_map, List.getElem?_take, List.getElem?_drop, List.length_append, List.length_drop]
  rw [Nat.min_eq_left (by omega), Nat.min_eq_left (by omega)]
  by_cases h1 : i = j
  · subst h1
    simp [hi]
    omega
  · by_cases h2 : j < i
    · simp [h1, h2, show j < i + 1 by omega]
    · simp only [h1, h2, if_false, show ¬ j < i + 1 by omega]
      congr 1
      omega

/-- A loop that fills a row, element by element. -/
theorem fill_ev {α β : Type} (l : List α) (g : α → β) (z : β) (F : Nat → List β → Int → Option (List β)) (hend : ∀ out, Ev (fun k => F k out (l.length : Int)) out)
    (hstep : ∀ (i : Nat) (hi : i < l.length) (out : List β) (r : List β), out.length = l.length → Ev (fun k => F k (out.set i (g l[i])) ((i + 1 : Nat) : Int)) r → Ev (fun k => F k out (i : Int)) r) :
    Ev (fun k => F k (List.replicate l.length z) 0) (l.map g) := by
  have key : ∀ d i, l.length - i = d → i ≤ l.length → Ev (fun k => F k ((l.take i).map g ++ (List.replicate l.length z).drop i) (i : Int)) (l.map g) := by
    intro d
    induction d with
    | zero =>
      intro i hd hi
      obtain rfl : i = l.length := by omega
      have h := hend (l.map g)
      simpa using h
    | succ d ih =>
      intro i hd hi
      refine hstep i (by omega) _ _ (by simp; omega) ?_
      rw [set_fill l _ g i (by omega) (by simp)]
      exact ih (i + 1) (by omega) (by omega)
  have h := key l.length 0 (by omega) (by omega)
  simpa using h

theorem int_wf {n : Int} (h : (Lit.int .i64 n).wf = true) : -9223372036854775808 ≤ n ∧ n ≤ 9223372036854775807 := by
  simp [Lit.wf, IntKind.min, IntKind.max, IntKind.signed, IntKind.bits] at h
  omega
theorem wrap_id {i : Int} (h0 : -9223372036854775808 ≤ i) (h : i ≤ 9223372036854775807) : wrap64 i = i := by
  unfold wrap64
  omega

def toW (x : S55) : S47 := ⟨x.f0, x.f1⟩
theorem rd_laws_wait (l : List S55) (i : Nat) (h : i < l.length) : rd_T55 l (i : Int) = l[i] := by simp [rd_T55, h]
theorem rd_wait (l : List S47) (i : Nat) (h : i < l.length) : rd_T47 l (i : Int) = l[i] := by simp [rd_T47, h]
theorem szWaitS (l : List S55) (n : Int) (h0 : 0 ≤ n) (h1 : n ≤ 1048576) (hl : l.length ≤ 9223372036854775807) : (laws_szWaitS.f l n = some (-1) ∧ n - (l.length : Int) < 0) ∨ (laws_szWaitS.f l n = some (n - (l.length : Int)) ∧ 0 ≤ n - (l.length : Int)) := by
  unfold laws_szWaitS.f
  rw [wrap_id (by omega) (by omega)]
  by_cases h : n - (l.length : Int) < 0
  · rw [if_pos h]
    exact .inl ⟨rfl, h⟩
  · rw [if_neg h]
    exact .inr ⟨rfl, by omega⟩
theorem toWaitS (l : List S55) (hl : l.length ≤ 1048576) : Ev (fun k => laws_toWaitS.f k l) (l.map toW) := by
  unfold laws_toWaitS.f
  simp only [Int.toNat_natCast, show (0 : Int) ≤ (l.length : Int) by omega, show l.length ≤ 17592186044416 by omega, if_true]
  refine fill_ev l toW z47 (fun k out i => laws_toWaitS.l0 k l out i) (fun out => ?_) (fun i hi out r ho h => ?_)
  · refine Ev.step (f := fun _ => some out) (fun k => ?_) (Ev.now _)
    simp only [laws_toWaitS.l0]
    rw [if_neg (by omega)]
  · refine Ev.step (fun k => ?_) h
    simp only [laws_toWaitS.l0, laws_toWait.f, Option.bind_some]
    rw [if_pos (by omega), if_pos (by omega), if_pos (by omega), wrap_succ (by omega) (by omega), rd_laws_wait l i hi, Int.toNat_natCast]
    rfl
theorem eqWaitS (l : List S47) (hl : l.length ≤ 9223372036854775806) : Ev (fun k => laws_eqWaitS.f k l l) true := by
  unfold laws_eqWaitS.f
  simp only [if_true]
  refine ev_down (fun k i => laws_eqWaitS.l0 k l l i) (fun _ r => r = true) l.length (fun r hr => ?_) (fun i hi ih r hr => ?_) 0 (by omega) true rfl
  · subst hr
    refine Ev.step (f := fun _ => some true) (fun k => ?_) (Ev.now _)
    simp only [laws_eqWaitS.l0]
    rw [if_neg (by omega)]
  · refine Ev.step (fun k => ?_) (ih r hr)
    simp only [laws_eqWaitS.l0, laws_eqWait.f, if_true, Option.bind_some]
    rw [if_pos (by omega), if_pos (by omega), if_pos (by omega), wrap_succ (by omega) (by omega)]
    rfl
theorem implWaitsOk (l : List S55) (h : ∀ x ∈ l, (Lit.int .i64 x.f0).wf = true) : impl_WaitsOk.f (l.map toW) = some (waitsOkB (l.map toW)) := by
  rw [impl_WaitsOk.f, if_pos]
  intro x hx
  obtain ⟨y, hy, rfl⟩ := List.mem_map.1 hx
  exact h y hy
theorem nodup_pairs (l : List Int) : l.Nodup ↔ ∀ i k, i < l.length → k < i → l[k]? ≠ l[i]? := by
  rw [List.Nodup, List.pairwise_iff_getElem]
  constructor
  · intro h i k hi hk
    rw [List.getElem?_eq_getElem hi, List.getElem?_eq_getElem (by omega)]
    intro e
    exact h k i (by omega) hi hk (Option.some.inj e)
  · intro h i j hi hj hij e
    have := h j i hj hij
    rw [List.getElem?_eq_getElem hj, List.getElem?_eq_getElem hi] at this
    exact this (by rw [e])
theorem specWaitsOk_l (l : List S47) (hl : l.length ≤ 64) : ∀ i, i ≤ l.length → ∀ r : Bool, (r = true ↔ ∀ i' k, i ≤ i' → i' < l.length → k < i' → (rd_T47 l (k : Nat)).f0 ≠ (rd_T47 l (i' : Nat)).f0) → Ev (fun k => spec_WaitsOk.l0 k l i) r := by
  refine ev_down (fun k i => spec_WaitsOk.l0 k l i) (fun i r => r = true ↔ ∀ i' k, i ≤ i' → i' < l.length → k < i' → (rd_T47 l (k : Nat)).f0 ≠ (rd_T47 l (i' : Nat)).f0) l.length (fun r hr => ?_) (fun i hi ih r hr => ?_)
  · obtain rfl : r = true := hr.2 (fun i' k h1 h2 => by omega)
    refine Ev.step (f := fun _ => some true) (fun k => ?_) (Ev.now _)
    simp only [spec_WaitsOk.l0]
    rw [if_neg (by omega)]
  · have inner : ∀ j, j ≤ i → ∀ r : Bool, (r = true ↔ (∀ k, j ≤ k → k < i → (rd_T47 l (k : Nat)).f0 ≠ (rd_T47 l (i : Nat)).f0) ∧ ∀ i' k, i + 1 ≤ i' → i' < l.length → k < i' → (rd_T47 l (k : Nat)).f0 ≠ (rd_T47 l (i' : Nat)).f0) → Ev (fun k => spec_WaitsOk.l1 k l i j) r := by
      refine ev_down (fun k j => spec_WaitsOk.l1 k l i j) _ i (fun r hr => ?_) (fun j hj ih2 r hr => ?_)
      · refine Ev.step (fun k => ?_) (ih r ⟨fun h => (hr.1 h).2, fun h => hr.2 ⟨fun k h1 h2 => by omega, h⟩⟩)
        simp only [spec_WaitsOk.l1]
        rw [if_neg (by omega), wrap_succ (by omega) (by omega)]
        rfl
      · by_cases he : (rd_T47 l (j : Nat)).f0 = (rd_T47 l (i : Nat)).f0
        · obtain rfl : r = false := by
            rw [Bool.eq_false_iff]
            intro h
            exact (hr.1 h).1 j (by omega) hj he
          refine Ev.step (f := fun _ => some false) (fun k => ?_) (Ev.now _)
          simp only [spec_WaitsOk.l1]
          rw [if_pos (by omega), if_pos (by omega), if_pos (by omega), if_pos (by omega), if_pos (by omega), if_pos he]
        · refine Ev.step (fun k => ?_) (ih2 r ⟨fun h => ⟨fun k h1 h2 => (hr.1 h).1 k (by omega) h2, (hr.1 h).2⟩, fun h => hr.2 ⟨fun k h1 h2 => by
            rcases Nat.lt_or_ge j k with h3 | h3
            · exact h.1 k (by omega) h2
            · obtain rfl : k = j := by omega
              exact he, h.2⟩⟩)
          simp only [spec_WaitsOk.l1]
          rw [if_pos (by omega), if_pos (by omega), if_pos (by omega), if_pos (by omega), if_pos (by omega), if_neg he, wrap_succ (by omega) (by omega)]
          rfl
    have h0 := inner 0 (by omega) r ⟨fun h => ⟨fun k _ h2 => hr.1 h i k (by omega) hi h2, fun i' k h1 h2 h3 => hr.1 h i' k (by omega) h2 h3⟩, fun h => hr.2 fun i' k h1 h2 h3 => by
      rcases Nat.lt_or_ge i i' with h4 | h4
      · exact h.2 i' k (by omega) h2 h3
      · obtain rfl : i' = i := by omega
        exact h.1 k (by omega) h3⟩
    refine Ev.step (fun k => ?_) h0
    simp only [spec_WaitsOk.l0]
    rw [if_pos (by omega)]
    rfl
theorem allDiff_iff (l : List S47) : allDiff (l.map (·.f0)) = true ↔ ∀ i' k, 0 ≤ i' → i' < l.length → k < i' → (rd_T47 l (k : Nat)).f0 ≠ (rd_T47 l (i' : Nat)).f0 := by
  unfold allDiff
  rw [decide_eq_true_iff, nodup_pairs]
  constructor
  · intro h i k _ hi hk
    have := h i k (by simpa using hi) hk
    rw [rd_wait l k (by omega), rd_wait l i hi]
    intro e
    apply this
    simp [List.getElem?_map, List.getElem?_eq_getElem (show k < l.length by omega), List.getElem?_eq_getElem hi, e]
  · intro h i k hi hk
    have hi2 : i < l.length := by simpa using hi
    have := h i k (by omega) hi2 hk
    rw [rd_wait l k (by omega), rd_wait l i hi2] at this
    simp only [List.getElem?_map, List.getElem?_eq_getElem (show k < l.length by omega), List.getElem?_eq_getElem hi2, Option.map_some]
    intro e
    exact this (Option.some.inj e)
theorem specWaitsOk (l : List S47) : Ev (fun k => spec_WaitsOk.f k l) (waitsOkB l) := by
  unfold spec_WaitsOk.f waitsOkB
  by_cases h : (l.length : Int) > 64
  · simp only [if_pos h, decide_eq_false (show ¬ l.length ≤ 64 by omega), Bool.false_and]
    exact Ev.now _
  · simp only [if_neg h, decide_eq_true (show l.length ≤ 64 by omega), Bool.true_and]
    exact specWaitsOk_l l (by omega) 0 (by omega) _ (allDiff_iff l)

theorem find_step {l : List S47} {who : Int} {i : Nat} (hi : i < l.length) (h : l[i].f0 = who) (hn : ∀ j, j < i → ∀ h : j < l.length, l[j].f0 ≠ who) : idxOf (fun x => x.f0 == who) l = (i : Int) :=
  idxOf_hit hi (by simp [h]) (fun j hj hjl => by simp [hn j hj hjl])
theorem specWaitNext_l (l : List S47) (who : Int) (hl : l.length ≤ 64) (hok : waitsOkB l = true) : ∀ d i, l.length - i = d → i ≤ l.length → (∀ j, j < i → ∀ h : j < l.length, l[j].f0 ≠ who) → Ev (fun k => spec_WaitNext.l0 k l who i) (waitNextB l who) := by
  intro d
  induction d with
  | zero =>
    intro i hd hi hn
    obtain rfl : i = l.length := by omega
    have e : waitNextB l who = (0, false) := by
      rw [waitNextB, if_neg]
      rw [idxOf_miss (fun j h => by simp [hn j h h])]
      omega
    rw [e]
    refine Ev.step (f := fun _ => some (0, false)) (fun k => ?_) (Ev.now _)
    simp only [spec_WaitNext.l0]
    rw [if_neg (by omega)]
  | succ d ih =>
    intro i hd hi hn
    have hil : i < l.length := by omega
    by_cases h : l[i].f0 = who
    · have e : waitNextB l who = (l[i].f1, true) := by
        have hx := find_step hil h hn
        rw [waitNextB, hx, if_pos ⟨hok, by omega⟩, rd_wait l i hil]
      rw [e]
      refine Ev.step (f := fun _ => some (l[i].f1, true)) (fun k => ?_) (Ev.now _)
      simp only [spec_WaitNext.l0]
      rw [if_pos (by omega), if_pos (by omega), rd_wait l i hil, if_pos h]
    · refine Ev.step (fun k => ?_) (ih (i + 1) (by omega) (by omega) (fun j hj hjl => by
        rcases Nat.lt_or_ge j i with h1 | h1
        · exact hn j h1 hjl
        · obtain rfl : j = i := by omega
          exact h))
      simp only [spec_WaitNext.l0]
      rw [if_pos (by omega), if_pos (by omega), rd_wait l i hil, if_neg h, wrap_succ (by omega) (by omega)]
      rfl
theorem specWaitNext (l : List S47) (who : Int) : Ev (fun k => spec_WaitNext.f k l who) (waitNextB l who) := by
  unfold spec_WaitNext.f
  refine Ev.bind (specWaitsOk l) ?_
  by_cases h : waitsOkB l = true
  · simp only [if_pos h]
    have hl : l.length ≤ 64 := by
      simp only [waitsOkB, Bool.and_eq_true, decide_eq_true_eq] at h
      exact h.1
    exact specWaitNext_l l who hl h l.length 0 (by omega) (by omega) (fun j hj => by omega)
  · simp only [if_neg h]
    rw [waitNextB, if_neg (fun hx => h hx.1)]
    exact Ev.now _
theorem implWaitNext (l : List S55) (who : Int) (h : ∀ x ∈ l, (Lit.int .i64 x.f0).wf = true) : impl_WaitNext.f (l.map toW) who = some (waitNextB (l.map toW) who) := by
  rw [impl_WaitNext.f, if_pos]
  intro x hx
  obtain ⟨y, hy, rfl⟩ := List.mem_map.1 hx
  exact h y hy

theorem FnExactWaitNext (l : List S55) (a : Int) (h : l.length ≤ 9223372036854775807 ∧ ∀ x ∈ l, ok55 x) (ha : (Lit.int .i64 a).wf = true) : ∃ k, laws_FnExactWaitNext.f k l a = some true := by
  have key : Ev (fun k => laws_FnExactWaitNext.f k l a) true := by
    unfold laws_FnExactWaitNext.f
    rcases szWaitS l 1048576 (by omega) (by omega) h.1 with ⟨hr, h0⟩ | ⟨hr, h0⟩
    · simp only [hr, Option.bind_some, if_pos (show (-1 : Int) < 0 by omega)]
      exact Ev.now _
    · simp only [hr, Option.bind_some, if_neg (show ¬ (1048576 - (l.length : Int) < 0) by omega)]
      refine Ev.bind (toWaitS l (by omega)) ?_
      refine Ev.bind (specWaitNext _ a) ?_
      refine Ev.bind (toWaitS l (by omega)) ?_
      simp only [implWaitNext l a (fun x hx => (h.2 x hx).1), Option.bind_some, bne_self_eq_false, Bool.false_eq_true, if_true]
      refine Ev.step (f := fun k => (laws_toWaitS.f k l).bind fun t132 => ((laws_eqWaitS.f k (l.map toW) t132).bind fun t135 => (if t135 = true then (some true) else (some false)))) (fun k => ?_) ?_
      · simp only [laws_FnExactWaitNext.j0, Bool.false_eq_true, if_false]
      refine Ev.bind (toWaitS l (by omega)) ?_
      refine Ev.bind (eqWaitS _ (by simp; omega)) ?_
      simp only [if_true]
      exact Ev.now _
  exact key.rounds

end Go.Proofs.Ytciflbagdlkgpaa.Pure
