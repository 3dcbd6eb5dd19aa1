/- FnExactSnapOk: the pure half: what the printed functions answer, without Go and memory. No condition beside those that each theorem states. -/
import Derived.Test.YtciflbagdlkgpaaPFnExactSnapOkx
import Derived.Test.YtciflbagdlkgpaaOFnExactSnapOk
namespace Go.Proofs.Ytciflbagdlkgpaa.Pure
open Go.RowKit Go.Proofs.Ytciflbagdlkgpaa.PFnExactSnapOk Go.Proofs.YtciflbagdlkgpaaW.PrintWords Go.Proofs.YtciflbagdlkgpaaW.PrintLast Go.Proofs.YtciflbagdlkgpaaW.PrintMore
set_option linter.unusedVariables false
set_option linter.unusedSimpArgs false

theorem wrap_succ {i : Int} (h0 : 0 ≤ i) (h : i ≤ 9223372036854775806) : wrap64 (i + 1) = i + 1 := by
  unfold wrap64
  omega

theorem drop_rd (l : List Int) (i : Nat) (h : i < l.length) : l.drop i = rd l (i : Int) :: l.drop (i + 1) := by
  rw [List.drop_eq_getElem_cons h]
  simp [rd, List.getD_eq_getElem?_getD, h]

theorem within_eq (a lo hi : Int) : impl_within.f a lo hi = some (decide (lo ≤ a ∧ a ≤ hi)) := by
  unfold impl_within.f
  by_cases h : lo ≤ a
  · rw [if_pos h]; simp [h]
  · rw [if_neg h]; simp [h]

theorem l5in_eq (a lo hi : Int) : spec_l5in.f a lo hi = some (decide (lo ≤ a ∧ a ≤ hi)) := by
  unfold spec_l5in.f
  by_cases h : lo ≤ a
  · rw [if_pos h]; simp [h]
  · rw [if_neg (by omega)]; simp [h]

theorem int_wf {n : Int} (h : (Lit.int .i64 n).wf = true) : -9223372036854775808 ≤ n ∧ n ≤ 9223372036854775807 := by
  simp [Lit.wf, IntKind.min, IntKind.max, IntKind.signed, IntKind.bits] at h
  omega
theorem wrap_id {i : Int} (h0 : -9223372036854775808 ≤ i) (h : i ≤ 9223372036854775807) : wrap64 i = i := by
  unfold wrap64
  omega
theorem szIntS (l : List Int) (n : Int) (h0 : 0 ≤ n) (h1 : n ≤ 1048576) (hl : l.length ≤ 9223372036854775807) : (laws_szIntS.f l n = some (-1) ∧ n - (l.length : Int) < 0) ∨ (laws_szIntS.f l n = some (n - (l.length : Int)) ∧ 0 ≤ n - (l.length : Int)) := by
  unfold laws_szIntS.f
  rw [wrap_id (by omega) (by omega)]
  by_cases h : n - (l.length : Int) < 0
  · rw [if_pos h]
    exact .inl ⟨rfl, h⟩
  · rw [if_neg h]
    exact .inr ⟨rfl, by omega⟩

/-- Ascending from behind 'last', all below 'self'. -/
def asc (self : Int) : Int → List Int → Bool
  | _, [] => true
  | last, x :: xs => decide (last < x) && (decide (x < self) && asc self x xs)

theorem asc_length (self : Int) : ∀ (l : List Int) (last : Int), asc self last l = true → last ≤ self → (l.length : Int) ≤ self - last
  | [], last, _, h => by simp; omega
  | x :: xs, last, h, _ => by
    simp only [asc, Bool.and_eq_true, decide_eq_true_eq] at h
    have := asc_length self xs x h.2.2 (by omega)
    simp only [List.length_cons]
    omega

def snapOk (self : Int) (l : List Int) : Bool := decide (1 ≤ self ∧ self ≤ 400) && asc self 0 l

theorem specSnapOk_l (self : Int) (l : List Int) (hl : l.length ≤ 9223372036854775806) : ∀ (d i : Nat) (last : Int), l.length - i = d → i ≤ l.length → Ev (fun k => spec_SnapOk.l0 k last i self l) (asc self last (l.drop i)) := by
  intro d
  induction d with
  | zero =>
    intro i last hd h0
    obtain rfl : i = l.length := by omega
    refine Ev.step (f := fun _ => some true) (fun k => ?_) (by simp only [List.drop_length, asc]; exact Ev.now _)
    simp only [spec_SnapOk.l0]
    rw [if_neg (by omega)]
  | succ d ih =>
    intro i last hd h0
    rw [drop_rd l i (by omega)]
    have ih2 := ih (i + 1) (rd l i) (by omega) (by omega)
    by_cases c1 : rd l i ≤ last
    · refine Ev.step (f := fun _ => some false) (fun k => ?_) (by rw [asc, decide_eq_false (by omega)]; exact Ev.now _)
      simp only [spec_SnapOk.l0]
      rw [if_pos (by omega), if_pos (by omega), if_pos c1]
    · by_cases c2 : rd l i ≥ self
      · refine Ev.step (f := fun _ => some false) (fun k => ?_) (by rw [asc, decide_eq_true (by omega), decide_eq_false (by omega)]; exact Ev.now _)
        simp only [spec_SnapOk.l0]
        rw [if_pos (by omega), if_pos (by omega), if_neg c1, if_pos c2]
      · refine Ev.step (f := fun k => spec_SnapOk.l0 k (rd l i) ((i + 1 : Nat) : Int) self l) (fun k => ?_) (by rw [asc, decide_eq_true (by omega), decide_eq_true (by omega)]; exact ih2)
        simp only [spec_SnapOk.l0]
        rw [if_pos (by omega), if_pos (by omega), if_neg c1, if_neg c2, wrap_succ (by omega) (by omega)]
        rfl

theorem specSnapOk (self : Int) (l : List Int) (hl : l.length ≤ 1048576) : Ev (fun k => spec_SnapOk.f k self l) (snapOk self l) := by
  unfold spec_SnapOk.f snapOk
  simp only [l5in_eq, Option.bind_some, decide_eq_true_eq]
  by_cases h : 1 ≤ self ∧ self ≤ 400
  · simp only [if_pos h, decide_eq_true h, Bool.true_and]
    by_cases h2 : (l.length : Int) > 400
    · have : asc self 0 l = false := by
        rw [Bool.eq_false_iff]
        intro h3
        have := asc_length self l 0 h3 (by omega)
        omega
      rw [this, decide_eq_true h2]
      refine Ev.step (f := fun _ => some false) (fun k => ?_) (Ev.now _)
      simp only [spec_SnapOk.j0, if_true]
    · rw [decide_eq_false h2]
      have hk := specSnapOk_l self l (by omega) l.length 0 0 (by omega) (by omega)
      rw [List.drop_zero] at hk
      refine Ev.step (fun k => ?_) hk
      simp only [spec_SnapOk.j0, Bool.false_eq_true, if_false]
      rfl
  · simp only [if_neg h, decide_eq_false h, Bool.false_and]
    refine Ev.step (f := fun _ => some false) (fun k => ?_) (Ev.now _)
    simp only [spec_SnapOk.j0, if_true]

theorem isAscending_l (self : Int) (l : List Int) (hl : l.length ≤ 9223372036854775806) : ∀ (d i : Nat) (last : Int), l.length - i = d → i ≤ l.length → 0 ≤ last → (0 < i → last = rd l ((i : Int) - 1)) → (i = 0 → last = 0) →
    Ev (fun k => impl_isAscending.l0 k l 1 (self - 1) l (l.length : Int) i) (asc self last (l.drop i)) := by
  intro d
  induction d with
  | zero =>
    intro i last hd h0 hp hi hz
    obtain rfl : i = l.length := by omega
    refine Ev.step (f := fun _ => some true) (fun k => ?_) (by simp only [List.drop_length, asc]; exact Ev.now _)
    simp only [impl_isAscending.l0]
    rw [if_neg (by omega)]
  | succ d ih =>
    intro i last hd h0 hp hi hz
    rw [drop_rd l i (by omega)]
    by_cases c1 : 1 ≤ rd l i ∧ rd l i ≤ self - 1
    · by_cases c0 : 0 < i
      · have hlast := hi c0
        by_cases c2 : rd l i ≤ last
        · refine Ev.step (f := fun _ => some false) (fun k => ?_) (by rw [asc, decide_eq_false (by omega)]; exact Ev.now _)
          simp only [impl_isAscending.l0, within_eq, Option.bind_some, decide_eq_true_eq]
          rw [if_pos (by omega), if_pos (by omega), if_pos (by omega), if_pos c1, if_pos (by omega), wrap_id (by omega) (by omega), if_pos (by omega), if_pos (by omega), if_pos (by omega)]
        · have ih2 := ih (i + 1) (rd l i) (by omega) (by omega) (by omega) (fun _ => by congr 1; omega) (by omega)
          refine Ev.step (f := fun k => impl_isAscending.l0 k l 1 (self - 1) l (l.length : Int) ((i + 1 : Nat) : Int)) (fun k => ?_) (by rw [asc, decide_eq_true (by omega), decide_eq_true (by omega)]; exact ih2)
          simp only [impl_isAscending.l0, within_eq, Option.bind_some, decide_eq_true_eq]
          rw [if_pos (by omega), if_pos (by omega), if_pos (by omega), if_pos c1, if_pos (by omega), wrap_id (i := (i : Int) - 1) (by omega) (by omega), if_pos (by omega), if_pos (by omega), if_neg (by omega), wrap_succ (by omega) (by omega)]
          rfl
      · have hlast := hz (by omega)
        have ih2 := ih (i + 1) (rd l i) (by omega) (by omega) (by omega) (fun _ => by congr 1; omega) (by omega)
        refine Ev.step (f := fun k => impl_isAscending.l0 k l 1 (self - 1) l (l.length : Int) ((i + 1 : Nat) : Int)) (fun k => ?_) (by rw [asc, decide_eq_true (by omega), decide_eq_true (by omega)]; exact ih2)
        simp only [impl_isAscending.l0, within_eq, Option.bind_some, decide_eq_true_eq]
        rw [if_pos (by omega), if_pos (by omega), if_pos (by omega), if_pos c1, if_neg (by omega), wrap_succ (by omega) (by omega)]
        rfl
    · refine Ev.step (f := fun _ => some false) (fun k => ?_) (by
        rw [asc]
        by_cases c2 : last < rd l i
        · rw [decide_eq_true c2, decide_eq_false (by omega)]
          exact Ev.now _
        · rw [decide_eq_false c2]
          exact Ev.now _)
      simp only [impl_isAscending.l0, within_eq, Option.bind_some, decide_eq_true_eq]
      rw [if_pos (by omega), if_pos (by omega), if_pos (by omega), if_neg c1]

theorem implSnapOk (self : Int) (l : List Int) (hl : l.length ≤ 1048576) : Ev (fun k => impl_SnapOk.f k self l) (snapOk self l) := by
  unfold impl_SnapOk.f impl_isXid.f impl_isAscending.f snapOk
  simp only [within_eq, Option.bind_some, decide_eq_true_eq]
  by_cases h : 1 ≤ self ∧ self ≤ 400
  · simp only [if_pos h, decide_eq_true h, Bool.true_and, wrap_id (i := self - 1) (by omega) (by omega)]
    have hk := isAscending_l self l (by omega) l.length 0 0 (by omega) (by omega) (by omega) (by omega) (by omega)
    rw [List.drop_zero] at hk
    exact Ev.bind hk (Ev.now _)
  · simp only [if_neg h, decide_eq_false h, Bool.false_and]
    exact Ev.now _

theorem eqIntS_l (l : List Int) (hl : l.length ≤ 9223372036854775806) : ∀ (d : Nat) (i : Int), 0 ≤ i → (l.length : Int) - i = d → Ev (fun k => laws_eqIntS.l0 k l l i) true := by
  intro d
  induction d with
  | zero =>
    intro i h0 hd
    refine Ev.step (f := fun _ => some true) (fun k => ?_) (Ev.now _)
    simp only [laws_eqIntS.l0]
    rw [if_neg (by omega)]
  | succ d ih =>
    intro i h0 hd
    refine Ev.step (f := fun k => laws_eqIntS.l0 k l l (i + 1)) (fun k => ?_) (ih (i + 1) (by omega) (by omega))
    simp only [laws_eqIntS.l0]
    rw [if_pos (by omega), if_pos h0, if_pos (by omega), if_pos trivial, wrap_succ h0 (by omega)]

theorem eqIntS (l : List Int) (hl : l.length ≤ 9223372036854775806) : Ev (fun k => laws_eqIntS.f k l l) true := by
  unfold laws_eqIntS.f
  simp only [if_true]
  exact eqIntS_l l hl l.length 0 (by omega) (by omega)

theorem eqSnap (s : Int) (l : List Int) (hl : l.length ≤ 9223372036854775806) : Ev (fun k => laws_eqSnap.f k s l s l) true := by
  unfold laws_eqSnap.f
  simp only [if_true]
  refine Ev.bind (eqIntS l hl) ?_
  simp only [if_true]
  exact Ev.now _

theorem set_at (l m : List Int) (i : Nat) (hi : i < l.length) (h : l.length = m.length) : (l.take i ++ m.drop i).set i (rd l i) = l.take (i + 1) ++ m.drop (i + 1) := by
  have hr : rd l (i : Int) = l[i] := by simp [rd, List.getD_eq_getElem?_getD, hi]
  rw [hr]
  apply List.ext_getElem?
  intro j
  simp only [List.getElem?_set, List.getElem?_append, List.length_take, List.getElem?_take, List.getElem?_drop, List.length_append, List.length_drop]
  rw [Nat.min_eq_left (by omega), Nat.min_eq_left (by omega)]
  by_cases h1 : i = j
  · subst h1
    simp [hi]
    omega
  · by_cases h2 : j < i
    · simp [h1, h2, show j < i + 1 by omega]
    · simp only [h1, h2, if_false, show ¬ j < i + 1 by omega]
      congr 1
      omega

theorem toIntS_l (l : List Int) (hl : l.length ≤ 9223372036854775806) : ∀ (d i : Nat), l.length - i = d → i ≤ l.length → Ev (fun k => laws_toIntS.l0 k l (l.take i ++ (List.replicate l.length 0).drop i) i) l := by
  intro d
  induction d with
  | zero =>
    intro i hd h0
    obtain rfl : i = l.length := by omega
    refine Ev.step (f := fun _ => some l) (fun k => ?_) (Ev.now _)
    simp only [laws_toIntS.l0]
    rw [if_neg (by omega)]
    simp
  | succ d ih =>
    intro i hd h0
    refine Ev.step (f := fun k => laws_toIntS.l0 k l (l.take (i + 1) ++ (List.replicate l.length 0).drop (i + 1)) ((i + 1 : Nat) : Int)) (fun k => ?_) (ih (i + 1) (by omega) (by omega))
    simp only [laws_toIntS.l0]
    rw [if_pos (by omega), if_pos (by omega), if_pos (by simp; omega), wrap_succ (by omega) (by omega), Int.toNat_natCast, set_at l _ i (by omega) (by simp)]
    rfl

theorem toIntS (l : List Int) (hl : l.length ≤ 1048576) : Ev (fun k => laws_toIntS.f k l) l := by
  unfold laws_toIntS.f
  simp only [Int.toNat_natCast]
  simp only [show (0 : Int) ≤ (l.length : Int) by omega, show l.length ≤ 35184372088832 by omega, if_true]
  have := toIntS_l l (by omega) l.length 0 (by omega) (by omega)
  simpa using this

theorem szSnap (s : Int) (l : List Int) (n : Int) (h0 : 0 ≤ n) (h1 : n ≤ 1048576) (hl : l.length ≤ 9223372036854775807) : (∃ r, laws_szSnap.f s l n = some r ∧ r < 0) ∨ (laws_szSnap.f s l n = some (n - (l.length : Int)) ∧ 0 ≤ n - (l.length : Int)) := by
  unfold laws_szSnap.f
  rcases szIntS l n h0 h1 hl with ⟨h, h2⟩ | ⟨h, h2⟩
  · refine .inl ⟨-1, ?_, by omega⟩
    rw [h]
    rfl
  · refine .inr ⟨?_, h2⟩
    rw [h]
    simp only [Option.bind_some]
    rw [if_neg (by omega)]

theorem toSnap (s : Int) (l : List Int) (hl : l.length ≤ 1048576) : Ev (fun k => laws_toSnap.f k s l) (s, l) := by
  unfold laws_toSnap.f
  exact Ev.bind (toIntS l hl) (Ev.now _)

theorem FnExactSnapOk (x : S34) (h : ok34 x) : ∃ k, laws_FnExactSnapOk.f k x.f0 x.f1 = some true := by
  have hl : x.f1.length ≤ 9223372036854775807 := h.2.1
  have hw : -9223372036854775808 ≤ x.f0 ∧ x.f0 ≤ 9223372036854775807 := int_wf h.1
  have key : Ev (fun k => laws_FnExactSnapOk.f k x.f0 x.f1) true := by
    unfold laws_FnExactSnapOk.f
    rcases szSnap x.f0 x.f1 1048576 (by omega) (by omega) hl with ⟨r, hr, h0⟩ | ⟨hr, h0⟩
    · simp only [hr, Option.bind_some, h0, if_true]
      exact Ev.now _
    · simp only [hr, Option.bind_some]
      simp only [if_neg (show ¬ (1048576 - (x.f1.length : Int) < 0) by omega)]
      refine Ev.bind (toSnap x.f0 x.f1 (by omega)) ?_
      refine Ev.bind (specSnapOk x.f0 x.f1 (by omega)) ?_
      refine Ev.bind (toSnap x.f0 x.f1 (by omega)) ?_
      refine Ev.bind (implSnapOk x.f0 x.f1 (by omega)) ?_
      simp only [bne_self_eq_false, Bool.false_eq_true, if_false]
      refine Ev.bind (toSnap x.f0 x.f1 (by omega)) ?_
      refine Ev.bind (eqSnap x.f0 x.f1 (by omega)) ?_
      simp only [if_true]
      exact Ev.now _
  exact key.rounds

end Go.Proofs.Ytciflbagdlkgpaa.Pure
