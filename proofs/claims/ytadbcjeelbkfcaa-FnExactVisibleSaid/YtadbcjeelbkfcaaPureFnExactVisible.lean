/- FnExactVisible: the pure half: what the printed functions answer, without Go and memory. No condition beside those that each theorem states. -/
import Derived.Test.YtadbcjeelbkfcaaPFnExactVisiblex
import Derived.Test.YtadbcjeelbkfcaaOFnExactVisible
namespace Go.Proofs.Ytadbcjeelbkfcaa.Pure
open Go.RowKit Go.Proofs.Ytadbcjeelbkfcaa.PFnExactVisible Go.Proofs.YtadbcjeelbkfcaaW.PrintWords Go.Proofs.YtadbcjeelbkfcaaW.PrintLast Go.Proofs.YtadbcjeelbkfcaaW.PrintMore Go.Proofs.Ytadbcjeelbkfcaa.HFl Go.Proofs.Ytadbcjeelbkfcaa.HMap Go.Proofs.Ytadbcjeelbkfcaa.HMore
set_option linter.unusedVariables false
set_option linter.unusedSimpArgs false

theorem wrap_succ {i : Int} (h0 : 0 ≤ i) (h : i ≤ 9223372036854775806) : wrap64 (i + 1) = i + 1 := by
  unfold wrap64
  omega

theorem drop_rd (l : List Int) (i : Nat) (h : i < l.length) : l.drop i = rd l (i : Int) :: l.drop (i + 1) := by
  rw [List.drop_eq_getElem_cons h]
  simp [rd, List.getD_eq_getElem?_getD, h]

/-- A loop that is walked from its end: what it tells at i follows from what it tells at i + 1. -/
theorem ev_down {ρ : Type} (F : Nat → Int → Option ρ) (R : Nat → ρ → Prop) (n : Nat) (hend : ∀ r, R n r → Ev (fun k => F k n) r) (hstep : ∀ i, i < n → (∀ r, R (i + 1) r → Ev (fun k => F k ((i + 1 : Nat) : Int)) r) → ∀ r, R i r → Ev (fun k => F k (i : Int)) r) :
    ∀ i, i ≤ n → ∀ r, R i r → Ev (fun k => F k (i : Int)) r := by
  have key : ∀ d i, n - i = d → i ≤ n → ∀ r, R i r → Ev (fun k => F k (i : Int)) r := by
    intro d
    induction d with
    | zero =>
      intro i hd hi
      obtain rfl : i = n := by omega
      exact hend
    | succ d ih =>
      intro i hd hi
      exact hstep i (by omega) (ih (i + 1) (by omega) (by omega))
  intro i hi
  exact key _ i rfl hi

theorem ev_if_pos {ρ : Type} {c : Prop} [Decidable c] {a b : Nat → Option ρ} {r : ρ} (h : c) (k : Ev a r) : Ev (fun n => if c then a n else b n) r := by simpa only [if_pos h] using k
theorem ev_if_neg {ρ : Type} {c : Prop} [Decidable c] {a b : Nat → Option ρ} {r : ρ} (h : ¬ c) (k : Ev b r) : Ev (fun n => if c then a n else b n) r := by simpa only [if_neg h] using k

theorem set_fill {α β : Type} (l : List α) (m : List β) (g : α → β) (i : Nat) (hi : i < l.length) (h : l.length = m.length) : ((l.take i).map g ++ m.drop i).set i (g l[i]) = (l.take (i + 1)).map g ++ m.drop (i + 1) := by
  apply List.ext_getElem?
  intro j
  simp only [List.getElem?_set, List.getElem?_append, List.length_map, List.length_take, List.getElem?_map, List.getElem?_take, List.getElem?_drop, List.length_append, List.length_drop]
  rw [Nat.min_eq_left (by omega), Nat.min_eq_left (by omega)]
  by_cases h1 : i = j
  · subst h1
    simp [hi]
    omega
  · by_cases h2 : j < i
    · simp [h1, h2, show j < i + 1 by omega]
    · simp only [h1, h2, if_false, show ¬ j < i + 1 by omega]
      congr 1
      omega

/-- A loop that fills a row, element by element. -/
theorem fill_ev {α β : Type} (l : List α) (g : α → β) (z : β) (F : Nat → List β → Int → Option (List β)) (hend : ∀ out, Ev (fun k => F k out (l.length : Int)) out)
    (hstep : ∀ (i : Nat) (hi : i < l.length) (out : List β) (r : List β), out.length = l.length → Ev (fun k => F k (out.set i (g l[i])) ((i + 1 : Nat) : Int)) r → Ev (fun k => F k out (i : Int)) r) :
    Ev (fun k => F k (List.replicate l.length z) 0) (l.map g) := by
  have key : ∀ d i, l.length - i = d → i ≤ l.length → Ev (fun k => F k ((l.take i).map g ++ (List.replicate l.length z).drop i) (i : Int)) (l.map g) := by
    intro d
    induction d with
    | zero =>
      intro i hd hi
      obtain rfl : i = l.length := by omega
      have h := hend (l.map g)
      simpa using h
    | succ d ih =>
      intro i hd hi
      refine hstep i (by omega) _ _ (by simp; omega) ?_
      rw [set_fill l _ g i (by omega) (by simp)]
      exact ih (i + 1) (by omega) (by omega)
  have h := key l.length 0 (by omega) (by omega)
  simpa using h
theorem ev_eq {ρ : Type} {x : Option ρ} {r : ρ} (h : x = some r) : Ev (fun _ => x) r := ⟨0, fun _ _ => h⟩
/-- A loop that turns a row, element by element, whatever stood there. -/
theorem turn_ev {β ρ : Type} (m : List β) (l : List β) (hm : m.length = l.length) (F : Nat → List β → Int → Option ρ) (r : ρ) (hend : Ev (fun k => F k l (l.length : Int)) r)
    (hstep : ∀ (i : Nat) (hi : i < l.length) (out : List β), out.length = l.length → Ev (fun k => F k (out.set i l[i]) ((i + 1 : Nat) : Int)) r → Ev (fun k => F k out (i : Int)) r) : Ev (fun k => F k m 0) r := by
  have key : ∀ d i, l.length - i = d → i ≤ l.length → Ev (fun k => F k ((l.take i).map id ++ m.drop i) (i : Int)) r := by
    intro d
    induction d with
    | zero =>
      intro i hd hi
      obtain rfl : i = l.length := by omega
      simpa [List.drop_eq_nil_of_le (show m.length ≤ l.length by omega)] using hend
    | succ d ih =>
      intro i hd hi
      refine hstep i (by omega) _ (by simp; omega) ?_
      have := set_fill l m id i (by omega) hm.symm
      simp only [id] at this ⊢
      rw [this]
      have h2 := ih (i + 1) (by omega) (by omega)
      simpa using h2
  have h := key l.length 0 (by omega) (by omega)
  simpa using h

theorem within_eq (a lo hi : Int) : impl_within.f a lo hi = some (decide (lo ≤ a ∧ a ≤ hi)) := by
  unfold impl_within.f
  by_cases h : lo ≤ a
  · rw [if_pos h]; simp [h]
  · rw [if_neg h]; simp [h]

theorem l5in_eq (a lo hi : Int) : spec_l5in.f a lo hi = some (decide (lo ≤ a ∧ a ≤ hi)) := by
  unfold spec_l5in.f
  by_cases h : lo ≤ a
  · rw [if_pos h]; simp [h]
  · rw [if_neg (by omega)]; simp [h]

theorem int_wf {n : Int} (h : (Lit.int .i64 n).wf = true) : -9223372036854775808 ≤ n ∧ n ≤ 9223372036854775807 := by
  simp [Lit.wf, IntKind.min, IntKind.max, IntKind.signed, IntKind.bits] at h
  omega
theorem wrap_id {i : Int} (h0 : -9223372036854775808 ≤ i) (h : i ≤ 9223372036854775807) : wrap64 i = i := by
  unfold wrap64
  omega

/-- Ascending from behind 'last', all below 'self'. -/
def asc (self : Int) : Int → List Int → Bool
  | _, [] => true
  | last, x :: xs => decide (last < x) && (decide (x < self) && asc self x xs)

theorem asc_length (self : Int) : ∀ (l : List Int) (last : Int), asc self last l = true → last ≤ self → (l.length : Int) ≤ self - last
  | [], last, _, h => by simp; omega
  | x :: xs, last, h, _ => by
    simp only [asc, Bool.and_eq_true, decide_eq_true_eq] at h
    have := asc_length self xs x h.2.2 (by omega)
    simp only [List.length_cons]
    omega

def snapOk (self : Int) (l : List Int) : Bool := decide (1 ≤ self ∧ self ≤ 400) && asc self 0 l

theorem specSnapOk_l (self : Int) (l : List Int) (hl : l.length ≤ 9223372036854775806) : ∀ (d i : Nat) (last : Int), l.length - i = d → i ≤ l.length → Ev (fun k => spec_SnapOk.l0 k last i self l) (asc self last (l.drop i)) := by
  intro d
  induction d with
  | zero =>
    intro i last hd h0
    obtain rfl : i = l.length := by omega
    refine Ev.step (f := fun _ => some true) (fun k => ?_) (by simp only [List.drop_length, asc]; exact Ev.now _)
    simp only [spec_SnapOk.l0]
    rw [if_neg (by omega)]
  | succ d ih =>
    intro i last hd h0
    rw [drop_rd l i (by omega)]
    have ih2 := ih (i + 1) (rd l i) (by omega) (by omega)
    by_cases c1 : rd l i ≤ last
    · refine Ev.step (f := fun _ => some false) (fun k => ?_) (by rw [asc, decide_eq_false (by omega)]; exact Ev.now _)
      simp only [spec_SnapOk.l0]
      rw [if_pos (by omega), if_pos (by omega), if_pos c1]
    · by_cases c2 : rd l i ≥ self
      · refine Ev.step (f := fun _ => some false) (fun k => ?_) (by rw [asc, decide_eq_true (by omega), decide_eq_false (by omega)]; exact Ev.now _)
        simp only [spec_SnapOk.l0]
        rw [if_pos (by omega), if_pos (by omega), if_neg c1, if_pos c2]
      · refine Ev.step (f := fun k => spec_SnapOk.l0 k (rd l i) ((i + 1 : Nat) : Int) self l) (fun k => ?_) (by rw [asc, decide_eq_true (by omega), decide_eq_true (by omega)]; exact ih2)
        simp only [spec_SnapOk.l0]
        rw [if_pos (by omega), if_pos (by omega), if_neg c1, if_neg c2, wrap_succ (by omega) (by omega)]
        rfl

theorem specSnapOk (self : Int) (l : List Int) (hl : l.length ≤ 1048576) : Ev (fun k => spec_SnapOk.f k self l) (snapOk self l) := by
  unfold spec_SnapOk.f snapOk
  simp only [l5in_eq, Option.bind_some, decide_eq_true_eq]
  by_cases h : 1 ≤ self ∧ self ≤ 400
  · simp only [if_pos h, decide_eq_true h, Bool.true_and]
    by_cases h2 : (l.length : Int) > 400
    · have : asc self 0 l = false := by
        rw [Bool.eq_false_iff]
        intro h3
        have := asc_length self l 0 h3 (by omega)
        omega
      rw [this, decide_eq_true h2]
      refine Ev.step (f := fun _ => some false) (fun k => ?_) (Ev.now _)
      simp only [spec_SnapOk.j0, if_true]
    · rw [decide_eq_false h2]
      have hk := specSnapOk_l self l (by omega) l.length 0 0 (by omega) (by omega)
      rw [List.drop_zero] at hk
      refine Ev.step (fun k => ?_) hk
      simp only [spec_SnapOk.j0, Bool.false_eq_true, if_false]
      rfl
  · simp only [if_neg h, decide_eq_false h, Bool.false_and]
    refine Ev.step (f := fun _ => some false) (fun k => ?_) (Ev.now _)
    simp only [spec_SnapOk.j0, if_true]

theorem isAscending_l (self : Int) (l : List Int) (hl : l.length ≤ 9223372036854775806) : ∀ (d i : Nat) (last : Int), l.length - i = d → i ≤ l.length → 0 ≤ last → (0 < i → last = rd l ((i : Int) - 1)) → (i = 0 → last = 0) →
    Ev (fun k => impl_isAscending.l0 k l 1 (self - 1) l (l.length : Int) i) (asc self last (l.drop i)) := by
  intro d
  induction d with
  | zero =>
    intro i last hd h0 hp hi hz
    obtain rfl : i = l.length := by omega
    refine Ev.step (f := fun _ => some true) (fun k => ?_) (by simp only [List.drop_length, asc]; exact Ev.now _)
    simp only [impl_isAscending.l0]
    rw [if_neg (by omega)]
  | succ d ih =>
    intro i last hd h0 hp hi hz
    rw [drop_rd l i (by omega)]
    by_cases c1 : 1 ≤ rd l i ∧ rd l i ≤ self - 1
    · by_cases c0 : 0 < i
      · have hlast := hi c0
        by_cases c2 : rd l i ≤ last
        · refine Ev.step (f := fun _ => some false) (fun k => ?_) (by rw [asc, decide_eq_false (by omega)]; exact Ev.now _)
          simp only [impl_isAscending.l0, within_eq, Option.bind_some, decide_eq_true_eq]
          rw [if_pos (by omega), if_pos (by omega), if_pos (by omega), if_pos c1, if_pos (by omega), wrap_id (by omega) (by omega), if_pos (by omega), if_pos (by omega), if_pos (by omega)]
        · have ih2 := ih (i + 1) (rd l i) (by omega) (by omega) (by omega) (fun _ => by congr 1; omega) (by omega)
          refine Ev.step (f := fun k => impl_isAscending.l0 k l 1 (self - 1) l (l.length : Int) ((i + 1 : Nat) : Int)) (fun k => ?_) (by rw [asc, decide_eq_true (by omega), decide_eq_true (by omega)]; exact ih2)
          simp only [impl_isAscending.l0, within_eq, Option.bind_some, decide_eq_true_eq]
          rw [if_pos (by omega), if_pos (by omega), if_pos (by omega), if_pos c1, if_pos (by omega), wrap_id (i := (i : Int) - 1) (by omega) (by omega), if_pos (by omega), if_pos (by omega), if_neg (by omega), wrap_succ (by omega) (by omega)]
          rfl
      · have hlast := hz (by omega)
        have ih2 := ih (i + 1) (rd l i) (by omega) (by omega) (by omega) (fun _ => by congr 1; omega) (by omega)
        refine Ev.step (f := fun k => impl_isAscending.l0 k l 1 (self - 1) l (l.length : Int) ((i + 1 : Nat) : Int)) (fun k => ?_) (by rw [asc, decide_eq_true (by omega), decide_eq_true (by omega)]; exact ih2)
        simp only [impl_isAscending.l0, within_eq, Option.bind_some, decide_eq_true_eq]
        rw [if_pos (by omega), if_pos (by omega), if_pos (by omega), if_pos c1, if_neg (by omega), wrap_succ (by omega) (by omega)]
        rfl
    · refine Ev.step (f := fun _ => some false) (fun k => ?_) (by
        rw [asc]
        by_cases c2 : last < rd l i
        · rw [decide_eq_true c2, decide_eq_false (by omega)]
          exact Ev.now _
        · rw [decide_eq_false c2]
          exact Ev.now _)
      simp only [impl_isAscending.l0, within_eq, Option.bind_some, decide_eq_true_eq]
      rw [if_pos (by omega), if_pos (by omega), if_pos (by omega), if_neg c1]

theorem implSnapOk (self : Int) (l : List Int) (hl : l.length ≤ 1048576) : Ev (fun k => impl_SnapOk.f k self l) (snapOk self l) := by
  unfold impl_SnapOk.f impl_isXid.f impl_isAscending.f snapOk
  simp only [within_eq, Option.bind_some, decide_eq_true_eq]
  by_cases h : 1 ≤ self ∧ self ≤ 400
  · simp only [if_pos h, decide_eq_true h, Bool.true_and, wrap_id (i := self - 1) (by omega) (by omega)]
    have hk := isAscending_l self l (by omega) l.length 0 0 (by omega) (by omega) (by omega) (by omega) (by omega)
    rw [List.drop_zero] at hk
    exact Ev.bind hk (Ev.now _)
  · simp only [if_neg h, decide_eq_false h, Bool.false_and]
    exact Ev.now _

/-- What a list of statuses says of a number. -/
def statusOf (l : List Int) (x : Int) : Int :=
  if 1 ≤ x ∧ x ≤ 400 ∧ x < (l.length : Int) ∧ 1 ≤ rd l x ∧ rd l x ≤ 2 then rd l x else 0

theorem statusOf_pos {l : List Int} {x : Int} (h : 1 ≤ x ∧ x ≤ 400 ∧ x < (l.length : Int) ∧ 1 ≤ rd l x ∧ rd l x ≤ 2) : statusOf l x = rd l x := if_pos h
theorem statusOf_neg {l : List Int} {x : Int} (h : ¬ (1 ≤ x ∧ x ≤ 400 ∧ x < (l.length : Int) ∧ 1 ≤ rd l x ∧ rd l x ≤ 2)) : statusOf l x = 0 := if_neg h

theorem implStatusOf (l : List Int) (x : Int) : impl_StatusOf.f l x = some (statusOf l x) := by
  unfold impl_StatusOf.f impl_isXid.f
  simp only [within_eq, Option.bind_some, decide_eq_true_eq]
  by_cases h1 : 1 ≤ x ∧ x ≤ 400
  · rw [if_pos h1]
    by_cases h2 : x ≥ (l.length : Int)
    · rw [if_pos h2, statusOf_neg (by omega)]
    · rw [if_neg h2, if_pos (by omega), if_pos (by omega)]
      by_cases h3 : 0 ≤ rd l x ∧ rd l x ≤ 2
      · rw [if_pos h3]
        by_cases h4 : rd l x = 0
        · rw [statusOf_neg (by omega), h4]
        · rw [statusOf_pos (by omega)]
      · rw [if_neg h3, statusOf_neg (by omega)]
  · rw [if_neg h1, statusOf_neg (by omega)]

theorem specStatusOf (l : List Int) (x : Int) : spec_StatusOf.f l x = some (statusOf l x) := by
  unfold spec_StatusOf.f
  simp only [l5in_eq, Option.bind_some, decide_eq_true_eq]
  by_cases h1 : 1 ≤ x ∧ x ≤ 400
  · rw [if_pos h1]
    by_cases h2 : x ≥ (l.length : Int)
    · rw [if_pos h2, statusOf_neg (by omega)]
    · rw [if_neg h2, if_pos (by omega), if_pos (by omega)]
      by_cases h3 : 1 ≤ rd l x ∧ rd l x ≤ 2
      · rw [if_pos h3, statusOf_pos (by omega)]
      · rw [if_neg h3, statusOf_neg (by omega)]
  · rw [if_neg h1, statusOf_neg (by omega)]

theorem index_l (l : List Int) (hl : l.length ≤ 9223372036854775806) (x : Int) : ∀ d i : Nat, l.length - i = d → i ≤ l.length → (∀ j, j < i → ∀ h : j < l.length, l[j] ≠ x) → ∃ r, Ev (fun k => slices_Index_int_int.l0 k l x (l.length : Int) i) r ∧ (0 ≤ r ↔ x ∈ l) := by
  intro d
  induction d with
  | zero =>
    intro i hd hi hn
    obtain rfl : i = l.length := by omega
    refine ⟨-1, Ev.step (f := fun _ => some (-1)) (fun k => ?_) (Ev.now _), ?_⟩
    · simp only [slices_Index_int_int.l0]
      rw [if_neg (by omega)]
    · refine ⟨fun h => by omega, fun h => ?_⟩
      obtain ⟨j, hj, e⟩ := List.mem_iff_getElem.1 h
      exact absurd e (hn j hj hj)
  | succ d ih =>
    intro i hd hi hn
    have hil : i < l.length := by omega
    have hr : rd l i = l[i] := by simp [rd, hil]
    by_cases h : l[i] = x
    · refine ⟨i, Ev.step (f := fun _ => some (i : Int)) (fun k => ?_) (Ev.now _), ?_⟩
      · simp only [slices_Index_int_int.l0]
        rw [if_pos (by omega), if_pos (by omega), if_pos (by omega), hr, if_pos h.symm]
      · exact ⟨fun _ => h ▸ List.getElem_mem _, fun _ => by omega⟩
    · obtain ⟨r, h1, h2⟩ := ih (i + 1) (by omega) (by omega) (fun j hj hjl => by
        rcases Nat.lt_or_ge j i with h3 | h3
        · exact hn j h3 hjl
        · obtain rfl : j = i := by omega
          exact h)
      refine ⟨r, Ev.step (fun k => ?_) h1, h2⟩
      simp only [slices_Index_int_int.l0]
      rw [if_pos (by omega), if_pos (by omega), if_pos (by omega), hr, if_neg (fun e => h e.symm), wrap_succ (by omega) (by omega)]
      rfl
theorem containsI (l : List Int) (x : Int) (hl : l.length ≤ 9223372036854775806) : Ev (fun k => slices_Contains_int_int.f k l x) (decide (x ∈ l)) := by
  unfold slices_Contains_int_int.f slices_Index_int_int.f
  obtain ⟨r, h1, h2⟩ := index_l l hl x l.length 0 (by omega) (by omega) (fun j hj => by omega)
  refine Ev.bind h1 ?_
  rw [show decide (x ∈ l) = decide (r ≥ 0) by
    rw [Bool.eq_iff_iff]
    simp only [decide_eq_true_eq]
    exact h2.symm]
  exact Ev.now _

def sees (self : Int) (run st : List Int) (x : Int) : Bool :=
  snapOk self run && (decide (x = self) || (decide (1 ≤ x ∧ x < self) && (!decide (x ∈ run)) && (statusOf st x == 1)))
theorem implSees (self : Int) (run st : List Int) (x : Int) (hl : run.length ≤ 1048576) : Ev (fun k => impl_Sees.f k self run st x) (sees self run st x) := by
  unfold impl_Sees.f sees
  refine Ev.bind (implSnapOk self run hl) ?_
  cases h : snapOk self run with
  | false =>
    refine ev_if_neg (by decide) ?_
    rw [Bool.false_and]
    exact Ev.now _
  | true =>
    have hs : 1 ≤ self ∧ self ≤ 400 := by
      unfold snapOk at h
      simp only [Bool.and_eq_true, decide_eq_true_eq] at h
      exact h.1
    refine ev_if_pos rfl ?_
    rw [Bool.true_and]
    by_cases hx : x = self
    · refine ev_if_pos hx ?_
      rw [decide_eq_true hx, Bool.true_or]
      exact Ev.now _
    · refine ev_if_neg hx ?_
      rw [decide_eq_false hx, Bool.false_or]
      refine Ev.bind (ev_eq (within_eq x 1 _)) ?_
      rw [wrap_id (by omega) (by omega)]
      by_cases h1 : 1 ≤ x ∧ x ≤ self - 1
      · refine ev_if_pos (decide_eq_true h1) ?_
        rw [decide_eq_true (show 1 ≤ x ∧ x < self by omega), Bool.true_and]
        refine Ev.bind (containsI run x (by omega)) ?_
        by_cases h2 : x ∈ run
        · refine ev_if_pos (decide_eq_true h2) ?_
          rw [decide_eq_true h2]
          exact Ev.now _
        · refine ev_if_neg (by rw [decide_eq_false h2]; decide) ?_
          rw [decide_eq_false h2]
          exact Ev.bind (ev_eq (implStatusOf st x)) (Ev.now _)
      · refine ev_if_neg (by rw [decide_eq_false h1]; decide) ?_
        rw [decide_eq_false (show ¬ (1 ≤ x ∧ x < self) by omega)]
        exact Ev.now _
theorem specSees_l (self : Int) (run st : List Int) (x : Int) (hl : run.length ≤ 1048576) : ∀ d i : Nat, run.length - i = d → i ≤ run.length → (∀ j, j < i → ∀ h : j < run.length, run[j] ≠ x) →
    Ev (fun k => spec_Sees.l0 k st x i self run) (decide (1 ≤ x ∧ x < self) && (!decide (x ∈ run)) && (statusOf st x == 1)) := by
  intro d
  induction d with
  | zero =>
    intro i hd hi hn
    obtain rfl : i = run.length := by omega
    have hx : ¬ x ∈ run := fun h => by
      obtain ⟨j, hj, e⟩ := List.mem_iff_getElem.1 h
      exact hn j hj hj e
    rw [decide_eq_false hx]
    refine Ev.step (f := fun _ => some (decide (1 ≤ x ∧ x < self) && !false && (statusOf st x == 1))) (fun k => ?_) (Ev.now _)
    simp only [spec_Sees.l0]
    rw [if_neg (by omega)]
    by_cases h1 : x ≥ 1
    · rw [if_pos h1]
      by_cases h2 : x < self
      · rw [if_pos h2, specStatusOf, Option.bind_some, decide_eq_true (show 1 ≤ x ∧ x < self by omega)]
        simp
      · rw [if_neg h2, decide_eq_false (show ¬ (1 ≤ x ∧ x < self) by omega)]
        simp
    · rw [if_neg h1, decide_eq_false (show ¬ (1 ≤ x ∧ x < self) by omega)]
      simp
  | succ d ih =>
    intro i hd hi hn
    have hil : i < run.length := by omega
    have hr : rd run i = run[i] := by simp [rd, hil]
    by_cases h : run[i] = x
    · have hx : x ∈ run := h ▸ List.getElem_mem _
      rw [decide_eq_true hx]
      refine Ev.step (f := fun _ => some false) (fun k => ?_) (by simpa using Ev.now false)
      simp only [spec_Sees.l0]
      rw [if_pos (by omega), if_pos (by omega), hr, if_pos h]
    · refine Ev.step (fun k => ?_) (ih (i + 1) (by omega) (by omega) (fun j hj hjl => by
        rcases Nat.lt_or_ge j i with h3 | h3
        · exact hn j h3 hjl
        · obtain rfl : j = i := by omega
          exact h))
      simp only [spec_Sees.l0]
      rw [if_pos (by omega), if_pos (by omega), hr, if_neg h, wrap_succ (by omega) (by omega)]
      rfl
theorem specSees (self : Int) (run st : List Int) (x : Int) (hl : run.length ≤ 1048576) : Ev (fun k => spec_Sees.f k self run st x) (sees self run st x) := by
  unfold spec_Sees.f sees
  refine Ev.bind (specSnapOk self run hl) ?_
  cases h : snapOk self run with
  | false =>
    refine ev_if_neg (by decide) ?_
    rw [Bool.false_and]
    exact Ev.now _
  | true =>
    refine ev_if_pos rfl ?_
    rw [Bool.true_and]
    by_cases hx : x = self
    · refine ev_if_pos hx ?_
      rw [decide_eq_true hx, Bool.true_or]
      exact Ev.now _
    · refine ev_if_neg hx ?_
      rw [decide_eq_false hx, Bool.false_or]
      exact specSees_l self run st x hl run.length 0 (by omega) (by omega) (fun j hj => by omega)

def visible (self : Int) (run st : List Int) (x y : Int) : Bool := sees self run st x && !sees self run st y
theorem implVisible (self : Int) (run st : List Int) (x y : Int) (hl : run.length ≤ 1048576) : Ev (fun k => impl_Visible.f k self run st x y) (visible self run st x y) := by
  unfold impl_Visible.f visible
  refine Ev.bind (implSees self run st x hl) ?_
  cases h : sees self run st x with
  | false => exact ev_if_neg (by decide) (Ev.now _)
  | true =>
    refine ev_if_pos rfl ?_
    rw [Bool.true_and]
    exact Ev.bind (implSees self run st y hl) (Ev.now _)
theorem specVisible (self : Int) (run st : List Int) (x y : Int) (hl : run.length ≤ 1048576) : Ev (fun k => spec_Visible.f k self run st x y) (visible self run st x y) := by
  unfold spec_Visible.f visible
  refine Ev.bind (specSees self run st x hl) ?_
  cases h : sees self run st x with
  | false => exact ev_if_neg (by decide) (Ev.now _)
  | true =>
    refine ev_if_pos rfl ?_
    rw [Bool.true_and]
    exact Ev.bind (specSees self run st y hl) (Ev.now _)

theorem eqIntS_l (l : List Int) (hl : l.length ≤ 9223372036854775806) : ∀ (d : Nat) (i : Int), 0 ≤ i → (l.length : Int) - i = d → Ev (fun k => laws_eqIntS.l0 k l l i) true := by
  intro d
  induction d with
  | zero =>
    intro i h0 hd
    refine Ev.step (f := fun _ => some true) (fun k => ?_) (Ev.now _)
    simp only [laws_eqIntS.l0]
    rw [if_neg (by omega)]
  | succ d ih =>
    intro i h0 hd
    refine Ev.step (f := fun k => laws_eqIntS.l0 k l l (i + 1)) (fun k => ?_) (ih (i + 1) (by omega) (by omega))
    simp only [laws_eqIntS.l0]
    rw [if_pos (by omega), if_pos h0, if_pos (by omega), if_pos trivial, wrap_succ h0 (by omega)]

theorem eqIntS (l : List Int) (hl : l.length ≤ 9223372036854775806) : Ev (fun k => laws_eqIntS.f k l l) true := by
  unfold laws_eqIntS.f
  simp only [if_true]
  exact eqIntS_l l hl l.length 0 (by omega) (by omega)

theorem eqSnap (s : Int) (l : List Int) (hl : l.length ≤ 9223372036854775806) : Ev (fun k => laws_eqSnap.f k s l s l) true := by
  unfold laws_eqSnap.f
  simp only [if_true]
  refine Ev.bind (eqIntS l hl) ?_
  simp only [if_true]
  exact Ev.now _

theorem set_at (l m : List Int) (i : Nat) (hi : i < l.length) (h : l.length = m.length) : (l.take i ++ m.drop i).set i (rd l i) = l.take (i + 1) ++ m.drop (i + 1) := by
  have hr : rd l (i : Int) = l[i] := by simp [rd, List.getD_eq_getElem?_getD, hi]
  rw [hr]
  apply List.ext_getElem?
  intro j
  simp only [List.getElem?_set, List.getElem?_append, List.length_take, List.getElem?_take, List.getElem?_drop, List.length_append, List.length_drop]
  rw [Nat.min_eq_left (by omega), Nat.min_eq_left (by omega)]
  by_cases h1 : i = j
  · subst h1
    simp [hi]
    omega
  · by_cases h2 : j < i
    · simp [h1, h2, show j < i + 1 by omega]
    · simp only [h1, h2, if_false, show ¬ j < i + 1 by omega]
      congr 1
      omega

theorem toIntS_l (l : List Int) (hl : l.length ≤ 9223372036854775806) : ∀ (d i : Nat), l.length - i = d → i ≤ l.length → Ev (fun k => laws_toIntS.l0 k l (l.take i ++ (List.replicate l.length 0).drop i) i) l := by
  intro d
  induction d with
  | zero =>
    intro i hd h0
    obtain rfl : i = l.length := by omega
    refine Ev.step (f := fun _ => some l) (fun k => ?_) (Ev.now _)
    simp only [laws_toIntS.l0]
    rw [if_neg (by omega)]
    simp
  | succ d ih =>
    intro i hd h0
    refine Ev.step (f := fun k => laws_toIntS.l0 k l (l.take (i + 1) ++ (List.replicate l.length 0).drop (i + 1)) ((i + 1 : Nat) : Int)) (fun k => ?_) (ih (i + 1) (by omega) (by omega))
    simp only [laws_toIntS.l0]
    rw [if_pos (by omega), if_pos (by omega), if_pos (by simp; omega), wrap_succ (by omega) (by omega), Int.toNat_natCast, set_at l _ i (by omega) (by simp)]
    rfl

theorem toIntS (l : List Int) (hl : l.length ≤ 1048576) : Ev (fun k => laws_toIntS.f k l) l := by
  unfold laws_toIntS.f
  simp only [Int.toNat_natCast]
  simp only [show (0 : Int) ≤ (l.length : Int) by omega, show l.length ≤ 35184372088832 by omega, if_true]
  have := toIntS_l l (by omega) l.length 0 (by omega) (by omega)
  simpa using this

theorem szIntS (l : List Int) (n : Int) (h0 : 0 ≤ n) (h1 : n ≤ 1048576) (hl : l.length ≤ 9223372036854775807) : (laws_szIntS.f l n = some (-1) ∧ n - (l.length : Int) < 0) ∨ (laws_szIntS.f l n = some (n - (l.length : Int)) ∧ 0 ≤ n - (l.length : Int)) := by
  unfold laws_szIntS.f
  rw [wrap_id (by omega) (by omega)]
  by_cases h : n - (l.length : Int) < 0
  · rw [if_pos h]
    exact .inl ⟨rfl, h⟩
  · rw [if_neg h]
    exact .inr ⟨rfl, by omega⟩

theorem szSnap (s : Int) (l : List Int) (n : Int) (h0 : 0 ≤ n) (h1 : n ≤ 1048576) (hl : l.length ≤ 9223372036854775807) : (∃ r, laws_szSnap.f s l n = some r ∧ r < 0) ∨ (laws_szSnap.f s l n = some (n - (l.length : Int)) ∧ 0 ≤ n - (l.length : Int)) := by
  unfold laws_szSnap.f
  rcases szIntS l n h0 h1 hl with ⟨h, h2⟩ | ⟨h, h2⟩
  · refine .inl ⟨-1, ?_, by omega⟩
    rw [h]
    rfl
  · refine .inr ⟨?_, h2⟩
    rw [h]
    simp only [Option.bind_some]
    rw [if_neg (by omega)]

theorem toSnap (s : Int) (l : List Int) (hl : l.length ≤ 1048576) : Ev (fun k => laws_toSnap.f k s l) (s, l) := by
  unfold laws_toSnap.f
  exact Ev.bind (toIntS l hl) (Ev.now _)

-- GEN args: s.f0 s.f1 st x y
theorem FnExactVisible (s : S39) (st : List Int) (x y : Int) (h : ok39 s) (h2 : st.length ≤ 9223372036854775807 ∧ ∀ y ∈ st, (Lit.int .i64 y).wf = true) (hx : (Lit.int .i64 x).wf = true) (hy : (Lit.int .i64 y).wf = true) : ∃ k, laws_FnExactVisible.f k s.f0 s.f1 st x y = some true := by
  have hl : s.f1.length ≤ 9223372036854775807 := h.2.1
  have hl2 := h2.1
  have key : Ev (fun k => laws_FnExactVisible.f k s.f0 s.f1 st x y) true := by
    unfold laws_FnExactVisible.f
    by_cases hc4 : (st.length : Int) > 1048576
    · refine ev_if_pos hc4 ?_
      exact Ev.now _
    · refine ev_if_neg hc4 ?_
      rcases szSnap s.f0 s.f1 1048576 (by omega) (by omega) (by first | omega | (simp; done) | (simp; omega) | assumption) with ⟨rz, hr, h0⟩ | ⟨hr, h0⟩
      · refine Ev.bind (ev_eq hr) ?_
        exact ev_if_pos (by omega) (Ev.now _)
      · refine Ev.bind (ev_eq hr) ?_
        refine ev_if_neg (by first | rfl | decide | omega | (simp; done) | (simp; omega) | (simp only []; omega)) ?_
        refine Ev.bind (toSnap s.f0 s.f1 (by first | omega | (simp; done) | (simp; omega) | assumption)) ?_
        refine Ev.bind (toIntS st (by first | omega | (simp; done) | (simp; omega) | assumption)) ?_
        refine Ev.bind (specVisible s.f0 s.f1 st x y (by first | omega | (simp; done) | (simp; omega) | assumption)) ?_
        refine Ev.bind (toSnap s.f0 s.f1 (by first | omega | (simp; done) | (simp; omega) | assumption)) ?_
        refine Ev.bind (toIntS st (by first | omega | (simp; done) | (simp; omega) | assumption)) ?_
        refine Ev.bind (implVisible s.f0 s.f1 st x y (by first | omega | (simp; done) | (simp; omega) | assumption)) ?_
        refine ev_if_neg (by first | rfl | decide | omega | (simp; done) | (simp; omega) | (simp only []; omega)) ?_
        refine Ev.bind (toSnap s.f0 s.f1 (by first | omega | (simp; done) | (simp; omega) | assumption)) ?_
        refine Ev.bind (eqSnap s.f0 s.f1 (by first | omega | (simp; done) | (simp; omega) | assumption)) ?_
        refine ev_if_pos (by first | rfl | decide | omega | (simp; done) | (simp; omega) | (simp only []; omega)) ?_
        refine Ev.bind (toIntS st (by first | omega | (simp; done) | (simp; omega) | assumption)) ?_
        refine Ev.bind (eqIntS st (by first | omega | (simp; done) | (simp; omega) | assumption)) ?_
        refine ev_if_pos (by first | rfl | decide | omega | (simp; done) | (simp; omega) | (simp only []; omega)) ?_
        exact Ev.now _
  exact key.rounds

end Go.Proofs.Ytadbcjeelbkfcaa.Pure
