/- FnExactHorizon: the pure half: what the printed functions answer, without Go and memory. No condition beside those that each theorem states. -/
import Derived.Test.YtadbcjeelbkfcaaPFnExactHorizonx
import Derived.Test.YtadbcjeelbkfcaaOFnExactHorizon
namespace Go.Proofs.Ytadbcjeelbkfcaa.Pure
open Go.RowKit Go.Proofs.Ytadbcjeelbkfcaa.PFnExactHorizon Go.Proofs.YtadbcjeelbkfcaaW.PrintWords Go.Proofs.YtadbcjeelbkfcaaW.PrintLast Go.Proofs.YtadbcjeelbkfcaaW.PrintMore Go.Proofs.Ytadbcjeelbkfcaa.HFl Go.Proofs.Ytadbcjeelbkfcaa.HMap Go.Proofs.Ytadbcjeelbkfcaa.HMore
set_option linter.unusedVariables false
set_option linter.unusedSimpArgs false

theorem wrap_succ {i : Int} (h0 : 0 ≤ i) (h : i ≤ 9223372036854775806) : wrap64 (i + 1) = i + 1 := by
  unfold wrap64
  omega

theorem drop_rd (l : List Int) (i : Nat) (h : i < l.length) : l.drop i = rd l (i : Int) :: l.drop (i + 1) := by
  rw [List.drop_eq_getElem_cons h]
  simp [rd, List.getD_eq_getElem?_getD, h]

/-- A loop that is walked from its end: what it tells at i follows from what it tells at i + 1. -/
theorem ev_down {ρ : Type} (F : Nat → Int → Option ρ) (R : Nat → ρ → Prop) (n : Nat) (hend : ∀ r, R n r → Ev (fun k => F k n) r) (hstep : ∀ i, i < n → (∀ r, R (i + 1) r → Ev (fun k => F k ((i + 1 : Nat) : Int)) r) → ∀ r, R i r → Ev (fun k => F k (i : Int)) r) :
    ∀ i, i ≤ n → ∀ r, R i r → Ev (fun k => F k (i : Int)) r := by
  have key : ∀ d i, n - i = d → i ≤ n → ∀ r, R i r → Ev (fun k => F k (i : Int)) r := by
    intro d
    induction d with
    | zero =>
      intro i hd hi
      obtain rfl : i = n := by omega
      exact hend
    | succ d ih =>
      intro i hd hi
      exact hstep i (by omega) (ih (i + 1) (by omega) (by omega))
  intro i hi
  exact key _ i rfl hi

theorem ev_if_pos {ρ : Type} {c : Prop} [Decidable c] {a b : Nat → Option ρ} {r : ρ} (h : c) (k : Ev a r) : Ev (fun n => if c then a n else b n) r := by simpa only [if_pos h] using k
theorem ev_if_neg {ρ : Type} {c : Prop} [Decidable c] {a b : Nat → Option ρ} {r : ρ} (h : ¬ c) (k : Ev b r) : Ev (fun n => if c then a n else b n) r := by simpa only [if_neg h] using k

theorem set_fill {α β : Type} (l : List α) (m : List β) (g : α → β) (i : Nat) (hi : i < l.length) (h : l.length = m.length) : ((l.take i).map g ++ m.drop i).set i (g l[i]) = (l.take (i + 1)).map g ++ m.drop (i + 1) := by
  apply List.ext_getElem?
  intro j
  simp only [List.getElem?_set, List.getElem?_append, List.length_map, List.length_take, List.getElem?_map, List.getElem?_take, List.getElem?_drop, List.length_append, List.length_drop]
  rw [Nat.min_eq_left (by omega), Nat.min_eq_left (by omega)]
  by_cases h1 : i = j
  · subst h1
    simp [hi]
    omega
  · by_cases h2 : j < i
    · simp [h1, h2, show j < i + 1 by omega]
    · simp only [h1, h2, if_false, show ¬ j < i + 1 by omega]
      congr 1
      omega

/-- A loop that fills a row, element by element. -/
theorem fill_ev {α β : Type} (l : List α) (g : α → β) (z : β) (F : Nat → List β → Int → Option (List β)) (hend : ∀ out, Ev (fun k => F k out (l.length : Int)) out)
    (hstep : ∀ (i : Nat) (hi : i < l.length) (out : List β) (r : List β), out.length = l.length → Ev (fun k => F k (out.set i (g l[i])) ((i + 1 : Nat) : Int)) r → Ev (fun k => F k out (i : Int)) r) :
    Ev (fun k => F k (List.replicate l.length z) 0) (l.map g) := by
  have key : ∀ d i, l.length - i = d → i ≤ l.length → Ev (fun k => F k ((l.take i).map g ++ (List.replicate l.length z).drop i) (i : Int)) (l.map g) := by
    intro d
    induction d with
    | zero =>
      intro i hd hi
      obtain rfl : i = l.length := by omega
      have h := hend (l.map g)
      simpa using h
    | succ d ih =>
      intro i hd hi
      refine hstep i (by omega) _ _ (by simp; omega) ?_
      rw [set_fill l _ g i (by omega) (by simp)]
      exact ih (i + 1) (by omega) (by omega)
  have h := key l.length 0 (by omega) (by omega)
  simpa using h
theorem ev_eq {ρ : Type} {x : Option ρ} {r : ρ} (h : x = some r) : Ev (fun _ => x) r := ⟨0, fun _ _ => h⟩
/-- A loop that turns a row, element by element, whatever stood there. -/
theorem turn_ev {β ρ : Type} (m : List β) (l : List β) (hm : m.length = l.length) (F : Nat → List β → Int → Option ρ) (r : ρ) (hend : Ev (fun k => F k l (l.length : Int)) r)
    (hstep : ∀ (i : Nat) (hi : i < l.length) (out : List β), out.length = l.length → Ev (fun k => F k (out.set i l[i]) ((i + 1 : Nat) : Int)) r → Ev (fun k => F k out (i : Int)) r) : Ev (fun k => F k m 0) r := by
  have key : ∀ d i, l.length - i = d → i ≤ l.length → Ev (fun k => F k ((l.take i).map id ++ m.drop i) (i : Int)) r := by
    intro d
    induction d with
    | zero =>
      intro i hd hi
      obtain rfl : i = l.length := by omega
      simpa [List.drop_eq_nil_of_le (show m.length ≤ l.length by omega)] using hend
    | succ d ih =>
      intro i hd hi
      refine hstep i (by omega) _ (by simp; omega) ?_
      have := set_fill l m id i (by omega) hm.symm
      simp only [id] at this ⊢
      rw [this]
      have h2 := ih (i + 1) (by omega) (by omega)
      simpa using h2
  have h := key l.length 0 (by omega) (by omega)
  simpa using h

theorem set_at (l m : List Int) (i : Nat) (hi : i < l.length) (h : l.length = m.length) : (l.take i ++ m.drop i).set i (rd l i) = l.take (i + 1) ++ m.drop (i + 1) := by
  have hr : rd l (i : Int) = l[i] := by simp [rd, List.getD_eq_getElem?_getD, hi]
  rw [hr]
  apply List.ext_getElem?
  intro j
  simp only [List.getElem?_set, List.getElem?_append, List.length_take, List.getElem?_take, List.getElem?_drop, List.length_append, List.length_drop]
  rw [Nat.min_eq_left (by omega), Nat.min_eq_left (by omega)]
  by_cases h1 : i = j
  · subst h1
    simp [hi]
    omega
  · by_cases h2 : j < i
    · simp [h1, h2, show j < i + 1 by omega]
    · simp only [h1, h2, if_false, show ¬ j < i + 1 by omega]
      congr 1
      omega

theorem toIntS_l (l : List Int) (hl : l.length ≤ 9223372036854775806) : ∀ (d i : Nat), l.length - i = d → i ≤ l.length → Ev (fun k => laws_toIntS.l0 k l (l.take i ++ (List.replicate l.length 0).drop i) i) l := by
  intro d
  induction d with
  | zero =>
    intro i hd h0
    obtain rfl : i = l.length := by omega
    refine Ev.step (f := fun _ => some l) (fun k => ?_) (Ev.now _)
    simp only [laws_toIntS.l0]
    rw [if_neg (by omega)]
    simp
  | succ d ih =>
    intro i hd h0
    refine Ev.step (f := fun k => laws_toIntS.l0 k l (l.take (i + 1) ++ (List.replicate l.length 0).drop (i + 1)) ((i + 1 : Nat) : Int)) (fun k => ?_) (ih (i + 1) (by omega) (by omega))
    simp only [laws_toIntS.l0]
    rw [if_pos (by omega), if_pos (by omega), if_pos (by simp; omega), wrap_succ (by omega) (by omega), Int.toNat_natCast, set_at l _ i (by omega) (by simp)]
    rfl

theorem toIntS (l : List Int) (hl : l.length ≤ 1048576) : Ev (fun k => laws_toIntS.f k l) l := by
  unfold laws_toIntS.f
  simp only [Int.toNat_natCast]
  simp only [show (0 : Int) ≤ (l.length : Int) by omega, show l.length ≤ 35184372088832 by omega, if_true]
  have := toIntS_l l (by omega) l.length 0 (by omega) (by omega)
  simpa using this

theorem int_wf {n : Int} (h : (Lit.int .i64 n).wf = true) : -9223372036854775808 ≤ n ∧ n ≤ 9223372036854775807 := by
  simp [Lit.wf, IntKind.min, IntKind.max, IntKind.signed, IntKind.bits] at h
  omega
theorem wrap_id {i : Int} (h0 : -9223372036854775808 ≤ i) (h : i ≤ 9223372036854775807) : wrap64 i = i := by
  unfold wrap64
  omega

theorem szIntS (l : List Int) (n : Int) (h0 : 0 ≤ n) (h1 : n ≤ 1048576) (hl : l.length ≤ 9223372036854775807) : (laws_szIntS.f l n = some (-1) ∧ n - (l.length : Int) < 0) ∨ (laws_szIntS.f l n = some (n - (l.length : Int)) ∧ 0 ≤ n - (l.length : Int)) := by
  unfold laws_szIntS.f
  rw [wrap_id (by omega) (by omega)]
  by_cases h : n - (l.length : Int) < 0
  · rw [if_pos h]
    exact .inl ⟨rfl, h⟩
  · rw [if_neg h]
    exact .inr ⟨rfl, by omega⟩

theorem szSnap (s : Int) (l : List Int) (n : Int) (h0 : 0 ≤ n) (h1 : n ≤ 1048576) (hl : l.length ≤ 9223372036854775807) : (∃ r, laws_szSnap.f s l n = some r ∧ r < 0) ∨ (laws_szSnap.f s l n = some (n - (l.length : Int)) ∧ 0 ≤ n - (l.length : Int)) := by
  unfold laws_szSnap.f
  rcases szIntS l n h0 h1 hl with ⟨h, h2⟩ | ⟨h, h2⟩
  · refine .inl ⟨-1, ?_, by omega⟩
    rw [h]
    rfl
  · refine .inr ⟨?_, h2⟩
    rw [h]
    simp only [Option.bind_some]
    rw [if_neg (by omega)]

theorem toSnap (s : Int) (l : List Int) (hl : l.length ≤ 1048576) : Ev (fun k => laws_toSnap.f k s l) (s, l) := by
  unfold laws_toSnap.f
  exact Ev.bind (toIntS l hl) (Ev.now _)

theorem eqIntS_l (l : List Int) (hl : l.length ≤ 9223372036854775806) : ∀ (d : Nat) (i : Int), 0 ≤ i → (l.length : Int) - i = d → Ev (fun k => laws_eqIntS.l0 k l l i) true := by
  intro d
  induction d with
  | zero =>
    intro i h0 hd
    refine Ev.step (f := fun _ => some true) (fun k => ?_) (Ev.now _)
    simp only [laws_eqIntS.l0]
    rw [if_neg (by omega)]
  | succ d ih =>
    intro i h0 hd
    refine Ev.step (f := fun k => laws_eqIntS.l0 k l l (i + 1)) (fun k => ?_) (ih (i + 1) (by omega) (by omega))
    simp only [laws_eqIntS.l0]
    rw [if_pos (by omega), if_pos h0, if_pos (by omega), if_pos trivial, wrap_succ h0 (by omega)]

theorem eqIntS (l : List Int) (hl : l.length ≤ 9223372036854775806) : Ev (fun k => laws_eqIntS.f k l l) true := by
  unfold laws_eqIntS.f
  simp only [if_true]
  exact eqIntS_l l hl l.length 0 (by omega) (by omega)

theorem eqSnap (s : Int) (l : List Int) (hl : l.length ≤ 9223372036854775806) : Ev (fun k => laws_eqSnap.f k s l s l) true := by
  unfold laws_eqSnap.f
  simp only [if_true]
  refine Ev.bind (eqIntS l hl) ?_
  simp only [if_true]
  exact Ev.now _

theorem within_eq (a lo hi : Int) : impl_within.f a lo hi = some (decide (lo ≤ a ∧ a ≤ hi)) := by
  unfold impl_within.f
  by_cases h : lo ≤ a
  · rw [if_pos h]; simp [h]
  · rw [if_neg h]; simp [h]

theorem l5in_eq (a lo hi : Int) : spec_l5in.f a lo hi = some (decide (lo ≤ a ∧ a ≤ hi)) := by
  unfold spec_l5in.f
  by_cases h : lo ≤ a
  · rw [if_pos h]; simp [h]
  · rw [if_neg (by omega)]; simp [h]

/-- Ascending from behind 'last', all below 'self'. -/
def asc (self : Int) : Int → List Int → Bool
  | _, [] => true
  | last, x :: xs => decide (last < x) && (decide (x < self) && asc self x xs)

theorem asc_length (self : Int) : ∀ (l : List Int) (last : Int), asc self last l = true → last ≤ self → (l.length : Int) ≤ self - last
  | [], last, _, h => by simp; omega
  | x :: xs, last, h, _ => by
    simp only [asc, Bool.and_eq_true, decide_eq_true_eq] at h
    have := asc_length self xs x h.2.2 (by omega)
    simp only [List.length_cons]
    omega

def snapOk (self : Int) (l : List Int) : Bool := decide (1 ≤ self ∧ self ≤ 400) && asc self 0 l

theorem specSnapOk_l (self : Int) (l : List Int) (hl : l.length ≤ 9223372036854775806) : ∀ (d i : Nat) (last : Int), l.length - i = d → i ≤ l.length → Ev (fun k => spec_SnapOk.l0 k last i self l) (asc self last (l.drop i)) := by
  intro d
  induction d with
  | zero =>
    intro i last hd h0
    obtain rfl : i = l.length := by omega
    refine Ev.step (f := fun _ => some true) (fun k => ?_) (by simp only [List.drop_length, asc]; exact Ev.now _)
    simp only [spec_SnapOk.l0]
    rw [if_neg (by omega)]
  | succ d ih =>
    intro i last hd h0
    rw [drop_rd l i (by omega)]
    have ih2 := ih (i + 1) (rd l i) (by omega) (by omega)
    by_cases c1 : rd l i ≤ last
    · refine Ev.step (f := fun _ => some false) (fun k => ?_) (by rw [asc, decide_eq_false (by omega)]; exact Ev.now _)
      simp only [spec_SnapOk.l0]
      rw [if_pos (by omega), if_pos (by omega), if_pos c1]
    · by_cases c2 : rd l i ≥ self
      · refine Ev.step (f := fun _ => some false) (fun k => ?_) (by rw [asc, decide_eq_true (by omega), decide_eq_false (by omega)]; exact Ev.now _)
        simp only [spec_SnapOk.l0]
        rw [if_pos (by omega), if_pos (by omega), if_neg c1, if_pos c2]
      · refine Ev.step (f := fun k => spec_SnapOk.l0 k (rd l i) ((i + 1 : Nat) : Int) self l) (fun k => ?_) (by rw [asc, decide_eq_true (by omega), decide_eq_true (by omega)]; exact ih2)
        simp only [spec_SnapOk.l0]
        rw [if_pos (by omega), if_pos (by omega), if_neg c1, if_neg c2, wrap_succ (by omega) (by omega)]
        rfl

theorem specSnapOk (self : Int) (l : List Int) (hl : l.length ≤ 1048576) : Ev (fun k => spec_SnapOk.f k self l) (snapOk self l) := by
  unfold spec_SnapOk.f snapOk
  simp only [l5in_eq, Option.bind_some, decide_eq_true_eq]
  by_cases h : 1 ≤ self ∧ self ≤ 400
  · simp only [if_pos h, decide_eq_true h, Bool.true_and]
    by_cases h2 : (l.length : Int) > 400
    · have : asc self 0 l = false := by
        rw [Bool.eq_false_iff]
        intro h3
        have := asc_length self l 0 h3 (by omega)
        omega
      rw [this, decide_eq_true h2]
      refine Ev.step (f := fun _ => some false) (fun k => ?_) (Ev.now _)
      simp only [spec_SnapOk.j0, if_true]
    · rw [decide_eq_false h2]
      have hk := specSnapOk_l self l (by omega) l.length 0 0 (by omega) (by omega)
      rw [List.drop_zero] at hk
      refine Ev.step (fun k => ?_) hk
      simp only [spec_SnapOk.j0, Bool.false_eq_true, if_false]
      rfl
  · simp only [if_neg h, decide_eq_false h, Bool.false_and]
    refine Ev.step (f := fun _ => some false) (fun k => ?_) (Ev.now _)
    simp only [spec_SnapOk.j0, if_true]

theorem isAscending_l (self : Int) (l : List Int) (hl : l.length ≤ 9223372036854775806) : ∀ (d i : Nat) (last : Int), l.length - i = d → i ≤ l.length → 0 ≤ last → (0 < i → last = rd l ((i : Int) - 1)) → (i = 0 → last = 0) →
    Ev (fun k => impl_isAscending.l0 k l 1 (self - 1) l (l.length : Int) i) (asc self last (l.drop i)) := by
  intro d
  induction d with
  | zero =>
    intro i last hd h0 hp hi hz
    obtain rfl : i = l.length := by omega
    refine Ev.step (f := fun _ => some true) (fun k => ?_) (by simp only [List.drop_length, asc]; exact Ev.now _)
    simp only [impl_isAscending.l0]
    rw [if_neg (by omega)]
  | succ d ih =>
    intro i last hd h0 hp hi hz
    rw [drop_rd l i (by omega)]
    by_cases c1 : 1 ≤ rd l i ∧ rd l i ≤ self - 1
    · by_cases c0 : 0 < i
      · have hlast := hi c0
        by_cases c2 : rd l i ≤ last
        · refine Ev.step (f := fun _ => some false) (fun k => ?_) (by rw [asc, decide_eq_false (by omega)]; exact Ev.now _)
          simp only [impl_isAscending.l0, within_eq, Option.bind_some, decide_eq_true_eq]
          rw [if_pos (by omega), if_pos (by omega), if_pos (by omega), if_pos c1, if_pos (by omega), wrap_id (by omega) (by omega), if_pos (by omega), if_pos (by omega), if_pos (by omega)]
        · have ih2 := ih (i + 1) (rd l i) (by omega) (by omega) (by omega) (fun _ => by congr 1; omega) (by omega)
          refine Ev.step (f := fun k => impl_isAscending.l0 k l 1 (self - 1) l (l.length : Int) ((i + 1 : Nat) : Int)) (fun k => ?_) (by rw [asc, decide_eq_true (by omega), decide_eq_true (by omega)]; exact ih2)
          simp only [impl_isAscending.l0, within_eq, Option.bind_some, decide_eq_true_eq]
          rw [if_pos (by omega), if_pos (by omega), if_pos (by omega), if_pos c1, if_pos (by omega), wrap_id (i := (i : Int) - 1) (by omega) (by omega), if_pos (by omega), if_pos (by omega), if_neg (by omega), wrap_succ (by omega) (by omega)]
          rfl
      · have hlast := hz (by omega)
        have ih2 := ih (i + 1) (rd l i) (by omega) (by omega) (by omega) (fun _ => by congr 1; omega) (by omega)
        refine Ev.step (f := fun k => impl_isAscending.l0 k l 1 (self - 1) l (l.length : Int) ((i + 1 : Nat) : Int)) (fun k => ?_) (by rw [asc, decide_eq_true (by omega), decide_eq_true (by omega)]; exact ih2)
        simp only [impl_isAscending.l0, within_eq, Option.bind_some, decide_eq_true_eq]
        rw [if_pos (by omega), if_pos (by omega), if_pos (by omega), if_pos c1, if_neg (by omega), wrap_succ (by omega) (by omega)]
        rfl
    · refine Ev.step (f := fun _ => some false) (fun k => ?_) (by
        rw [asc]
        by_cases c2 : last < rd l i
        · rw [decide_eq_true c2, decide_eq_false (by omega)]
          exact Ev.now _
        · rw [decide_eq_false c2]
          exact Ev.now _)
      simp only [impl_isAscending.l0, within_eq, Option.bind_some, decide_eq_true_eq]
      rw [if_pos (by omega), if_pos (by omega), if_pos (by omega), if_neg c1]

theorem implSnapOk (self : Int) (l : List Int) (hl : l.length ≤ 1048576) : Ev (fun k => impl_SnapOk.f k self l) (snapOk self l) := by
  unfold impl_SnapOk.f impl_isXid.f impl_isAscending.f snapOk
  simp only [within_eq, Option.bind_some, decide_eq_true_eq]
  by_cases h : 1 ≤ self ∧ self ≤ 400
  · simp only [if_pos h, decide_eq_true h, Bool.true_and, wrap_id (i := self - 1) (by omega) (by omega)]
    have hk := isAscending_l self l (by omega) l.length 0 0 (by omega) (by omega) (by omega) (by omega) (by omega)
    rw [List.drop_zero] at hk
    exact Ev.bind hk (Ev.now _)
  · simp only [if_neg h, decide_eq_false h, Bool.false_and]
    exact Ev.now _

def toSn (x : S39) : S42 := ⟨x.f0, x.f1⟩
theorem rd_laws_snap (l : List S39) (i : Nat) (h : i < l.length) : rd_T39 l (i : Int) = l[i] := by simp [rd_T39, h]
theorem rd_snap (l : List S42) (i : Nat) (h : i < l.length) : rd_T42 l (i : Int) = l[i] := by simp [rd_T42, h]
/-- A size that is told: below 0, or what is known. -/
theorem szSnapS (l : List S39) (n : Int) (h0 : 0 ≤ n) (h1 : n ≤ 1048576) (hl : l.length ≤ 9223372036854775807) (hx : ∀ x ∈ l, x.f1.length ≤ 9223372036854775807) : ∃ r, Ev (fun k => laws_szSnapS.f k l n) r ∧ (0 ≤ r → l.length ≤ 1048576 ∧ ∀ x ∈ l, x.f1.length ≤ 1048576) := by
  unfold laws_szSnapS.f
  rw [wrap_id (by omega) (by omega)]
  by_cases h : n - (l.length : Int) < 0
  · exact ⟨-1, by simp only [if_pos h]; exact Ev.now _, fun h2 => by omega⟩
  · simp only [if_neg h]
    have key : ∀ d i : Nat, l.length - i = d → i ≤ l.length → ∀ m : Int, 0 ≤ m → m ≤ 1048576 → (∀ x ∈ l.take i, x.f1.length ≤ 1048576) → ∃ r, Ev (fun k => laws_szSnapS.l0 k l m i) r ∧ (0 ≤ r → ∀ x ∈ l, x.f1.length ≤ 1048576) := by
      intro d
      induction d with
      | zero =>
        intro i hd hi m hm0 hm1 hp
        obtain rfl : i = l.length := by omega
        refine ⟨m, Ev.step (f := fun _ => some m) (fun k => ?_) (Ev.now _), fun _ => by simpa using hp⟩
        simp only [laws_szSnapS.l0]
        rw [if_neg (by omega)]
      | succ d ih =>
        intro i hd hi m hm0 hm1 hp
        have hil : i < l.length := by omega
        rcases szSnap l[i].f0 l[i].f1 m hm0 hm1 (hx _ (List.getElem_mem _)) with ⟨r, hr, hr0⟩ | ⟨hr, hr0⟩
        · refine ⟨-1, Ev.step (f := fun _ => some (-1)) (fun k => ?_) (Ev.now _), fun h => by omega⟩
          simp only [laws_szSnapS.l0, rd_laws_snap l i hil, hr, Option.bind_some]
          rw [if_pos (by omega), if_pos (by omega), if_pos hr0]
        · obtain ⟨r, h3, h4⟩ := ih (i + 1) (by omega) (by omega) (m - (l[i].f1.length : Int)) hr0 (by omega) (fun x hx2 => by
            rw [List.take_succ_eq_append_getElem hil] at hx2
            rcases List.mem_append.1 hx2 with h5 | h5
            · exact hp x h5
            · obtain rfl : x = l[i] := by simpa using h5
              omega)
          refine ⟨r, Ev.step (fun k => ?_) h3, h4⟩
          simp only [laws_szSnapS.l0, rd_laws_snap l i hil, hr, Option.bind_some]
          rw [if_pos (by omega), if_pos (by omega), if_neg (by omega), wrap_succ (by omega) (by omega)]
          rfl
    obtain ⟨r, h2, h3⟩ := key l.length 0 (by omega) (by omega) (n - (l.length : Int)) (by omega) (by omega) (by simp)
    exact ⟨r, h2, fun h4 => ⟨by omega, h3 h4⟩⟩
theorem toSnapS (l : List S39) (hs : l.length ≤ 1048576 ∧ ∀ x ∈ l, x.f1.length ≤ 1048576) : Ev (fun k => laws_toSnapS.f k l) (l.map toSn) := by
  have hl := hs.1
  unfold laws_toSnapS.f
  simp only [Int.toNat_natCast, show (0 : Int) ≤ (l.length : Int) by omega, show l.length ≤ 8796093022208 by omega, if_true]
  refine fill_ev l toSn z42 (fun k out i => laws_toSnapS.l0 k l out i) (fun out => ?_) (fun i hi out r ho h => ?_)
  · refine Ev.step (f := fun _ => some out) (fun k => ?_) (Ev.now _)
    simp only [laws_toSnapS.l0]
    rw [if_neg (by omega)]
  · have h2 := Ev.bind (f := fun k bt => laws_toSnapS.l0 k l (out.set i (⟨bt.1, bt.2⟩ : S42)) ((i + 1 : Nat) : Int)) (toSnap l[i].f0 l[i].f1 (hs.2 _ (List.getElem_mem _))) h
    refine Ev.step (fun k => ?_) h2
    simp only [laws_toSnapS.l0, rd_laws_snap l i hi]
    rw [if_pos (by omega), if_pos (by omega), wrap_succ (by omega) (by omega), Int.toNat_natCast]
    simp only [if_pos (show (i : Int) < (out.length : Int) by omega)]
    rfl
theorem eqSnapS (l : List S42) (hs : l.length ≤ 1048576 ∧ ∀ x ∈ l, x.f1.length ≤ 1048576) : Ev (fun k => laws_eqSnapS.f k l l) true := by
  have hl := hs.1
  unfold laws_eqSnapS.f
  simp only [if_true]
  refine ev_down (fun k i => laws_eqSnapS.l0 k l l i) (fun _ r => r = true) l.length (fun r hr => ?_) (fun i hi ih r hr => ?_) 0 (by omega) true rfl
  · subst hr
    refine Ev.step (f := fun _ => some true) (fun k => ?_) (Ev.now _)
    simp only [laws_eqSnapS.l0]
    rw [if_neg (by omega)]
  · have h2 := Ev.bind (f := fun k t => if t = true then laws_eqSnapS.l0 k l l ((i + 1 : Nat) : Int) else some false) (eqSnap l[i].f0 l[i].f1 (by have := hs.2 l[i] (List.getElem_mem _); omega)) (ev_if_pos rfl (ih r hr))
    refine Ev.step (fun k => ?_) h2
    simp only [laws_eqSnapS.l0, rd_snap l i hi]
    rw [if_pos (by omega), if_pos (by omega), if_pos (by omega), wrap_succ (by omega) (by omega)]
    rfl
theorem toSn_small {l : List S39} (hs : l.length ≤ 1048576 ∧ ∀ x ∈ l, x.f1.length ≤ 1048576) : (l.map toSn).length ≤ 1048576 ∧ ∀ x ∈ l.map toSn, x.f1.length ≤ 1048576 := by
  refine ⟨by simpa using hs.1, fun x hx => ?_⟩
  obtain ⟨y, hy, rfl⟩ := List.mem_map.1 hx
  exact hs.2 y hy

def sOk (s : S42) : Bool := snapOk s.f0 s.f1
def low1 (a : Int) (s : S42) : Int := match s.f1 with
  | [] => min a s.f0
  | x :: _ => min (min a s.f0) x
def horizon (l : List S42) (next : Int) : Int := if l.length ≤ 400 ∧ 1 ≤ next ∧ next ≤ 401 ∧ l.all sOk = true then l.foldl low1 next else 0
theorem rd_zero {x : Int} {xs : List Int} : rd (x :: xs) 0 = x := rfl
theorem mn_min (a b : Int) : mn a b = min a b := by
  unfold mn
  rw [Int.min_def]
  split <;> split <;> omega
theorem implHorizon_l (l : List S42) (hl : l.length ≤ 400) : ∀ d i : Nat, l.length - i = d → i ≤ l.length → ∀ a, Ev (fun k => impl_Horizon.l0 k a l (l.length : Int) i) ((l.drop i).foldl low1 a) := by
  intro d
  induction d with
  | zero =>
    intro i hd hi a
    obtain rfl : i = l.length := by omega
    rw [List.drop_length]
    refine Ev.step (f := fun _ => some a) (fun k => ?_) (Ev.now _)
    simp only [impl_Horizon.l0]
    rw [if_neg (by omega)]
  | succ d ih =>
    intro i hd hi a
    have hil : i < l.length := by omega
    rw [List.drop_eq_getElem_cons hil, List.foldl_cons]
    refine Ev.step (fun k => ?_) (ih (i + 1) (by omega) (by omega) (low1 a l[i]))
    simp only [impl_Horizon.l0, rd_snap l i hil, mn_min]
    rw [if_pos (by omega), if_pos (by omega), if_pos (by omega), wrap_succ (by omega) (by omega)]
    cases hf : l[i].f1 with
    | nil =>
      rw [if_neg (by simp)]
      simp only [low1, hf]
      rfl
    | cons x xs =>
      rw [if_pos (by simp only [List.length_cons]; omega), if_pos (by simp only [List.length_cons]; omega), rd_zero]
      simp only [low1, hf]
      rfl
theorem implHorizon (l : List S42) (next : Int) (hs : l.length ≤ 1048576 ∧ ∀ x ∈ l, x.f1.length ≤ 1048576) : Ev (fun k => impl_Horizon.f k l next) (horizon l next) := by
  unfold impl_Horizon.f horizon
  have hno : ∀ b : Int, b = 0 → Ev (fun k => impl_Horizon.j0 k l next true) b := fun b hb => by
    subst hb
    refine Ev.step (f := fun _ => some 0) (fun k => ?_) (Ev.now _)
    simp only [impl_Horizon.j0, if_true]
  by_cases h1 : (l.length : Int) > 400
  · exact ev_if_pos h1 (hno _ (if_neg (by omega)))
  · refine ev_if_neg h1 ?_
    refine Ev.bind (ev_eq (within_eq next 1 401)) ?_
    by_cases h2 : 1 ≤ next ∧ next ≤ 401
    · refine ev_if_pos (decide_eq_true h2) ?_
      have hall : Ev (fun k => areAll_Snap_impl_SnapOk.f k l) (l.all sOk) := by
        unfold areAll_Snap_impl_SnapOk.f
        have : ∃ K, ∀ k, K ≤ k → ∀ x ∈ l, impl_SnapOk.f k x.f0 x.f1 = some (sOk x) := by
          have hx := hs.2
          clear h1 hno hs
          induction l with
          | nil => exact ⟨0, fun k _ x hx => by simp at hx⟩
          | cons y ys ih =>
            obtain ⟨K1, hK1⟩ := ih (fun x hx2 => hx x (List.mem_cons_of_mem _ hx2))
            obtain ⟨K2, hK2⟩ := implSnapOk y.f0 y.f1 (hx y List.mem_cons_self)
            refine ⟨max K1 K2, fun k hk x hx2 => ?_⟩
            rcases List.mem_cons.1 hx2 with rfl | h3
            · exact hK2 k (by omega)
            · exact hK1 k (by omega) x h3
        obtain ⟨K, hK⟩ := this
        exact ⟨K, fun k hk => allO_some (hK k hk)⟩
      refine Ev.bind hall ?_
      cases h3 : l.all sOk with
      | false =>
        rw [if_neg (by simp)]
        exact hno 0 rfl
      | true =>
        rw [if_pos ⟨by omega, h2.1, h2.2, rfl⟩]
        have := implHorizon_l l (by omega) l.length 0 (by omega) (by omega) next
        rw [List.drop_zero] at this
        refine Ev.step (fun k => ?_) this
        simp only [impl_Horizon.j0, Bool.not_true, Bool.false_eq_true, if_false]
        rfl
    · refine ev_if_neg (by rw [decide_eq_false h2]; decide) ?_
      exact hno _ (if_neg (fun h => h2 ⟨h.2.1, h.2.2.1⟩))
theorem specHorizon_l (l : List S42) (hl : l.length ≤ 400) (hs : ∀ x ∈ l, x.f1.length ≤ 1048576) : ∀ d i : Nat, l.length - i = d → i ≤ l.length → ∀ a, Ev (fun k => spec_Horizon.l0 k l a i) (if (l.drop i).all sOk = true then (l.drop i).foldl low1 a else 0) := by
  intro d
  induction d with
  | zero =>
    intro i hd hi a
    obtain rfl : i = l.length := by omega
    rw [List.drop_length, List.all_nil, if_pos rfl]
    refine Ev.step (f := fun _ => some a) (fun k => ?_) (Ev.now _)
    simp only [spec_Horizon.l0]
    rw [if_neg (by omega)]
  | succ d ih =>
    intro i hd hi a
    have hil : i < l.length := by omega
    rw [List.drop_eq_getElem_cons hil, List.foldl_cons, List.all_cons]
    have hsn := specSnapOk l[i].f0 l[i].f1 (hs _ (List.getElem_mem _))
    refine Ev.step (f := fun k => (spec_SnapOk.f k l[i].f0 l[i].f1).bind fun t => if t = true then spec_Horizon.l0 k l (low1 a l[i]) ((i + 1 : Nat) : Int) else some 0) (fun k => ?_) ?_
    · simp only [spec_Horizon.l0, rd_snap l i hil]
      rw [if_pos (by omega), if_pos (by omega), wrap_succ (by omega) (by omega)]
      congr 1
      funext t
      split
      · cases hf : l[i].f1 with
        | nil =>
          rw [if_neg (show ¬ (((([] : List Int).length : Nat) : Int) > 0) by simp)]
          simp only [low1, hf]
          by_cases h : l[i].f0 < a
          · rw [if_pos h, show min a l[i].f0 = l[i].f0 by omega]
            rfl
          · rw [if_neg h, show min a l[i].f0 = a by omega]
            rfl
        | cons x xs =>
          rw [if_pos (show (((x :: xs).length : Nat) : Int) > 0 by simp only [List.length_cons]; omega), if_pos (show (0 : Int) < (((x :: xs).length : Nat) : Int) by simp only [List.length_cons]; omega), rd_zero]
          simp only [low1, hf]
          by_cases h : l[i].f0 < a
          · rw [if_pos h, show min a l[i].f0 = l[i].f0 by omega]
            by_cases h2 : x < l[i].f0
            · rw [if_pos h2, show min l[i].f0 x = x by omega]
              rfl
            · rw [if_neg h2, show min l[i].f0 x = l[i].f0 by omega]
              rfl
          · rw [if_neg h, show min a l[i].f0 = a by omega]
            by_cases h2 : x < a
            · rw [if_pos (show (((x :: xs).length : Nat) : Int) > 0 by simp only [List.length_cons]; omega), if_pos (show (0 : Int) < (((x :: xs).length : Nat) : Int) by simp only [List.length_cons]; omega), if_pos h2, show min a x = x by omega]
              rfl
            · rw [if_pos (show (((x :: xs).length : Nat) : Int) > 0 by simp only [List.length_cons]; omega), if_pos (show (0 : Int) < (((x :: xs).length : Nat) : Int) by simp only [List.length_cons]; omega), if_neg h2, show min a x = a by omega]
              rfl
      · rfl
    · refine Ev.bind hsn ?_
      by_cases h : snapOk l[i].f0 l[i].f1 = true
      · refine ev_if_pos h ?_
        rw [show sOk l[i] = true from h, Bool.true_and]
        exact ih (i + 1) (by omega) (by omega) _
      · refine ev_if_neg h ?_
        rw [show sOk l[i] = false from by simpa [sOk] using h, Bool.false_and, if_neg (by decide)]
        exact Ev.now _
theorem specHorizon (l : List S42) (next : Int) (hs : l.length ≤ 1048576 ∧ ∀ x ∈ l, x.f1.length ≤ 1048576) : Ev (fun k => spec_Horizon.f k l next) (horizon l next) := by
  unfold spec_Horizon.f horizon
  have hno : ∀ b : Int, b = 0 → Ev (fun k => spec_Horizon.j0 k l next true) b := fun b hb => by
    subst hb
    refine Ev.step (f := fun _ => some 0) (fun k => ?_) (Ev.now _)
    simp only [spec_Horizon.j0, if_true]
  refine Ev.bind (ev_eq (l5in_eq next 1 401)) ?_
  by_cases h2 : 1 ≤ next ∧ next ≤ 401
  · refine ev_if_pos (decide_eq_true h2) ?_
    by_cases h1 : (l.length : Int) > 400
    · rw [decide_eq_true h1]
      exact hno _ (if_neg (by omega))
    · rw [decide_eq_false h1]
      have := specHorizon_l l (by omega) hs.2 l.length 0 (by omega) (by omega) next
      rw [List.drop_zero] at this
      rw [show (if l.length ≤ 400 ∧ 1 ≤ next ∧ next ≤ 401 ∧ l.all sOk = true then l.foldl low1 next else 0) = if l.all sOk = true then l.foldl low1 next else 0 by
        by_cases h3 : l.all sOk = true
        · rw [if_pos ⟨by omega, h2.1, h2.2, h3⟩, if_pos h3]
        · rw [if_neg (fun h => h3 h.2.2.2), if_neg h3]]
      refine Ev.step (fun k => ?_) this
      simp only [spec_Horizon.j0, Bool.false_eq_true, if_false]
      rfl
  · refine ev_if_neg (by rw [decide_eq_false h2]; decide) ?_
    exact hno _ (if_neg (fun h => h2 ⟨h.2.1, h.2.2.1⟩))

-- GEN args: l a
theorem FnExactHorizon (l : List S39) (a : Int) (h : l.length ≤ 9223372036854775807 ∧ ∀ x ∈ l, ok39 x) (ha : (Lit.int .i64 a).wf = true) : ∃ k, laws_FnExactHorizon.f k l a = some true := by
  have hl := h.1
  have hx : ∀ x ∈ l, x.f1.length ≤ 9223372036854775807 := fun x hx => (h.2 x hx).2.1
  have key : Ev (fun k => laws_FnExactHorizon.f k l a) true := by
    unfold laws_FnExactHorizon.f
    obtain ⟨r1_, he, hs1⟩ := szSnapS l 1048576 (by omega) (by omega) hl hx
    refine Ev.bind he ?_
    by_cases hneg : r1_ < 0
    · exact ev_if_pos hneg (Ev.now _)
    replace hs1 := hs1 (by omega)
    clear he
    have hsm := toSn_small hs1
    have hsz := hs1
    refine ev_if_neg hneg ?_
    refine Ev.bind (toSnapS l hsz) ?_
    refine Ev.bind (specHorizon (l.map toSn) a hsm) ?_
    refine Ev.bind (toSnapS l hsz) ?_
    refine Ev.bind (implHorizon (l.map toSn) a hsm) ?_
    refine ev_if_pos (by first | rfl | decide | omega | (simp; done) | (simp; omega) | (simp only []; omega)) ?_
    refine Ev.bind (toSnapS l hsz) ?_
    refine Ev.bind (eqSnapS (l.map toSn) hsm) ?_
    refine ev_if_pos (by first | rfl | decide | omega | (simp; done) | (simp; omega) | (simp only []; omega)) ?_
    exact Ev.now _
  exact key.rounds

end Go.Proofs.Ytadbcjeelbkfcaa.Pure
