/- The program's Dead returns what the reference's returns, for all arguments: the pure half, over the printed functions. No condition. -/
import Derived.Test.YtciflbagdlkgpaaPFnExactDeadx1
namespace Go.Proofs.Ytciflbagdlkgpaa.Pure
open Go.RowKit Go.Proofs.Ytciflbagdlkgpaa.PFnExactDead Go.Proofs.YtciflbagdlkgpaaW.PrintWords Go.Proofs.YtciflbagdlkgpaaW.PrintLast

theorem wrap_succ {i : Int} (h0 : 0 ≤ i) (h : i ≤ 9223372036854775806) : wrap64 (i + 1) = i + 1 := by
  unfold wrap64
  omega

theorem within_eq (a lo hi : Int) : impl_within.f a lo hi = some (decide (lo ≤ a ∧ a ≤ hi)) := by
  unfold impl_within.f
  by_cases h : lo ≤ a
  · rw [if_pos h]; simp [h]
  · rw [if_neg h]; simp [h]

theorem l5in_eq (a lo hi : Int) : spec_l5in.f a lo hi = some (decide (lo ≤ a ∧ a ≤ hi)) := by
  unfold spec_l5in.f
  by_cases h : lo ≤ a
  · rw [if_pos h]; simp [h]
  · rw [if_neg (by omega)]; simp [h]

/-- What a list of statuses says of a number. -/
def statusOf (l : List Int) (x : Int) : Int :=
  if 1 ≤ x ∧ x ≤ 400 ∧ x < (l.length : Int) ∧ 1 ≤ rd l x ∧ rd l x ≤ 2 then rd l x else 0

theorem statusOf_pos {l : List Int} {x : Int} (h : 1 ≤ x ∧ x ≤ 400 ∧ x < (l.length : Int) ∧ 1 ≤ rd l x ∧ rd l x ≤ 2) : statusOf l x = rd l x := if_pos h
theorem statusOf_neg {l : List Int} {x : Int} (h : ¬ (1 ≤ x ∧ x ≤ 400 ∧ x < (l.length : Int) ∧ 1 ≤ rd l x ∧ rd l x ≤ 2)) : statusOf l x = 0 := if_neg h

theorem implStatusOf (l : List Int) (x : Int) : impl_StatusOf.f l x = some (statusOf l x) := by
  unfold impl_StatusOf.f impl_isXid.f
  simp only [within_eq, Option.bind_some, decide_eq_true_eq]
  by_cases h1 : 1 ≤ x ∧ x ≤ 400
  · rw [if_pos h1]
    by_cases h2 : x ≥ (l.length : Int)
    · rw [if_pos h2, statusOf_neg (by omega)]
    · rw [if_neg h2, if_pos (by omega), if_pos (by omega)]
      by_cases h3 : 0 ≤ rd l x ∧ rd l x ≤ 2
      · rw [if_pos h3]
        by_cases h4 : rd l x = 0
        · rw [statusOf_neg (by omega), h4]
        · rw [statusOf_pos (by omega)]
      · rw [if_neg h3, statusOf_neg (by omega)]
  · rw [if_neg h1, statusOf_neg (by omega)]

theorem specStatusOf (l : List Int) (x : Int) : spec_StatusOf.f l x = some (statusOf l x) := by
  unfold spec_StatusOf.f
  simp only [l5in_eq, Option.bind_some, decide_eq_true_eq]
  by_cases h1 : 1 ≤ x ∧ x ≤ 400
  · rw [if_pos h1]
    by_cases h2 : x ≥ (l.length : Int)
    · rw [if_pos h2, statusOf_neg (by omega)]
    · rw [if_neg h2, if_pos (by omega), if_pos (by omega)]
      by_cases h3 : 1 ≤ rd l x ∧ rd l x ≤ 2
      · rw [if_pos h3, statusOf_pos (by omega)]
      · rw [if_neg h3, statusOf_neg (by omega)]
  · rw [if_neg h1, statusOf_neg (by omega)]

def dead (l : List Int) (a b h : Int) : Bool := statusOf l a == 2 || (statusOf l b == 1 && decide (b < h))

theorem implDead (l : List Int) (a b h : Int) : impl_Dead.f l a b h = some (dead l a b h) := by
  unfold impl_Dead.f dead
  simp only [implStatusOf, Option.bind_some]
  by_cases h1 : statusOf l a = 2
  · simp [h1]
  · by_cases h2 : statusOf l b = 1 <;> simp [h1, h2]

theorem specDead (l : List Int) (a b h : Int) : spec_Dead.f l a b h = some (dead l a b h) := by
  unfold spec_Dead.f dead
  simp only [specStatusOf, Option.bind_some]
  by_cases h1 : statusOf l a = 2
  · simp [h1]
  · by_cases h2 : statusOf l b = 1 <;> simp [h1, h2]

theorem eqIntS_l (l : List Int) (hl : l.length ≤ 9223372036854775806) : ∀ (d : Nat) (i : Int), 0 ≤ i → (l.length : Int) - i = d → Ev (fun k => laws_eqIntS.l0 k l l i) true := by
  intro d
  induction d with
  | zero =>
    intro i h0 hd
    refine Ev.step (f := fun _ => some true) (fun k => ?_) (Ev.now _)
    simp only [laws_eqIntS.l0]
    rw [if_neg (by omega)]
  | succ d ih =>
    intro i h0 hd
    refine Ev.step (f := fun k => laws_eqIntS.l0 k l l (i + 1)) (fun k => ?_) (ih (i + 1) (by omega) (by omega))
    simp only [laws_eqIntS.l0]
    rw [if_pos (by omega), if_pos h0, if_pos (by omega), if_pos trivial, wrap_succ h0 (by omega)]

theorem eqIntS (l : List Int) (hl : l.length ≤ 9223372036854775806) : Ev (fun k => laws_eqIntS.f k l l) true := by
  unfold laws_eqIntS.f
  simp only [if_true]
  exact eqIntS_l l hl l.length 0 (by omega) (by omega)

theorem set_at (l m : List Int) (i : Nat) (hi : i < l.length) (h : l.length = m.length) : (l.take i ++ m.drop i).set i (rd l i) = l.take (i + 1) ++ m.drop (i + 1) := by
  have hr : rd l (i : Int) = l[i] := by simp [rd, List.getD_eq_getElem?_getD, hi]
  rw [hr]
  apply List.ext_getElem?
  intro j
  simp only [List.getElem?_set, List.getElem?_append, List.length_take, List.getElem?_take, List.getElem?_drop, List.length_append, List.length_drop]
  rw [Nat.min_eq_left (by omega), Nat.min_eq_left (by omega)]
  by_cases h1 : i = j
  · subst h1
    simp [hi]
    omega
  · by_cases h2 : j < i
    · simp [h1, h2, show j < i + 1 by omega]
    · simp only [h1, h2, if_false, show ¬ j < i + 1 by omega]
      congr 1
      omega

theorem toIntS_l (l : List Int) (hl : l.length ≤ 9223372036854775806) : ∀ (d i : Nat), l.length - i = d → i ≤ l.length → Ev (fun k => laws_toIntS.l0 k l (l.take i ++ (List.replicate l.length 0).drop i) i) l := by
  intro d
  induction d with
  | zero =>
    intro i hd h0
    obtain rfl : i = l.length := by omega
    refine Ev.step (f := fun _ => some l) (fun k => ?_) (Ev.now _)
    simp only [laws_toIntS.l0]
    rw [if_neg (by omega)]
    simp
  | succ d ih =>
    intro i hd h0
    refine Ev.step (f := fun k => laws_toIntS.l0 k l (l.take (i + 1) ++ (List.replicate l.length 0).drop (i + 1)) ((i + 1 : Nat) : Int)) (fun k => ?_) (ih (i + 1) (by omega) (by omega))
    simp only [laws_toIntS.l0]
    rw [if_pos (by omega), if_pos (by omega), if_pos (by simp; omega), wrap_succ (by omega) (by omega), Int.toNat_natCast, set_at l _ i (by omega) (by simp)]
    rfl

theorem toIntS (l : List Int) (hl : l.length ≤ 1048576) : Ev (fun k => laws_toIntS.f k l) l := by
  unfold laws_toIntS.f
  simp only [Int.toNat_natCast]
  simp only [show (0 : Int) ≤ (l.length : Int) by omega, show l.length ≤ 35184372088832 by omega, if_true]
  have := toIntS_l l (by omega) l.length 0 (by omega) (by omega)
  simpa using this

theorem FnExactDead (l : List Int) (a b c : Int) (_ : l.length ≤ 9223372036854775807 ∧ ∀ x ∈ l, (Lit.int .i64 x).wf = true) (_ : (Lit.int .i64 a).wf = true) (_ : (Lit.int .i64 b).wf = true) (_ : (Lit.int .i64 c).wf = true) : ∃ k, laws_FnExactDead.f k l a b c = some true := by
  have key : Ev (fun k => laws_FnExactDead.f k l a b c) true := by
    unfold laws_FnExactDead.f
    by_cases hs : (l.length : Int) > 1048576
    · simp only [hs, if_true]
      exact Ev.now _
    · simp only [hs, if_false]
      refine Ev.bind (toIntS l (by omega)) ?_
      simp only [specDead, implDead, Option.bind_some]
      refine Ev.bind (toIntS l (by omega)) ?_
      simp only [bne_self_eq_false, Bool.false_eq_true, if_false]
      refine Ev.bind (toIntS l (by omega)) ?_
      refine Ev.bind (eqIntS l (by omega)) ?_
      simp only [if_true]
      exact Ev.now _
  exact key.rounds

end Go.Proofs.Ytciflbagdlkgpaa.Pure
