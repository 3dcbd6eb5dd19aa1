/- FnExactWaitFree: the pure half: what the printed functions answer, without Go and memory. No condition beside those that each theorem states. -/
import Derived.Test.YtadbcjeelbkfcaaPFnExactWaitFreex
import Derived.Test.YtadbcjeelbkfcaaOFnExactWaitFree
namespace Go.Proofs.Ytadbcjeelbkfcaa.Pure
open Go.RowKit Go.Proofs.Ytadbcjeelbkfcaa.PFnExactWaitFree Go.Proofs.YtadbcjeelbkfcaaW.PrintWords Go.Proofs.YtadbcjeelbkfcaaW.PrintLast Go.Proofs.YtadbcjeelbkfcaaW.PrintMore Go.Proofs.Ytadbcjeelbkfcaa.HFl Go.Proofs.Ytadbcjeelbkfcaa.HMap Go.Proofs.Ytadbcjeelbkfcaa.HMore
set_option linter.unusedVariables false
set_option linter.unusedSimpArgs false

theorem wrap_succ {i : Int} (h0 : 0 ≤ i) (h : i ≤ 9223372036854775806) : wrap64 (i + 1) = i + 1 := by
  unfold wrap64
  omega

theorem drop_rd (l : List Int) (i : Nat) (h : i < l.length) : l.drop i = rd l (i : Int) :: l.drop (i + 1) := by
  rw [List.drop_eq_getElem_cons h]
  simp [rd, List.getD_eq_getElem?_getD, h]

/-- A loop that is walked from its end: what it tells at i follows from what it tells at i + 1. -/
theorem ev_down {ρ : Type} (F : Nat → Int → Option ρ) (R : Nat → ρ → Prop) (n : Nat) (hend : ∀ r, R n r → Ev (fun k => F k n) r) (hstep : ∀ i, i < n → (∀ r, R (i + 1) r → Ev (fun k => F k ((i + 1 : Nat) : Int)) r) → ∀ r, R i r → Ev (fun k => F k (i : Int)) r) :
    ∀ i, i ≤ n → ∀ r, R i r → Ev (fun k => F k (i : Int)) r := by
  have key : ∀ d i, n - i = d → i ≤ n → ∀ r, R i r → Ev (fun k => F k (i : Int)) r := by
    intro d
    induction d with
    | zero =>
      intro i hd hi
      obtain rfl : i = n := by omega
      exact hend
    | succ d ih =>
      intro i hd hi
      exact hstep i (by omega) (ih (i + 1) (by omega) (by omega))
  intro i hi
  exact key _ i rfl hi

theorem ev_if_pos {ρ : Type} {c : Prop} [Decidable c] {a b : Nat → Option ρ} {r : ρ} (h : c) (k : Ev a r) : Ev (fun n => if c then a n else b n) r := by simpa only [if_pos h] using k
theorem ev_if_neg {ρ : Type} {c : Prop} [Decidable c] {a b : Nat → Option ρ} {r : ρ} (h : ¬ c) (k : Ev b r) : Ev (fun n => if c then a n else b n) r := by simpa only [if_neg h] using k

theorem set_fill {α β : Type} (l : List α) (m : List β) (g : α → β) (i : Nat) (hi : i < l.length) (h : l.length = m.length) : ((l.take i).map g ++ m.drop i).set i (g l[i]) = (l.take (i + 1)).map g ++ m.drop (i + 1) := by
  apply List.ext_getElem?
  intro j
  simp only [List.getElem?_set, List.getElem?_append, List.length_map, List.length_take, List.getElem?_map, List.getElem?_take, List.getElem?_drop, List.length_append, List.length_drop]
  rw [Nat.min_eq_left (by omega), Nat.min_eq_left (by omega)]
  by_cases h1 : i = j
  · subst h1
    simp [hi]
    omega
  · by_cases h2 : j < i
    · simp [h1, h2, show j < i + 1 by omega]
    · simp only [h1, h2, if_false, show ¬ j < i + 1 by omega]
      congr 1
      omega

/-- A loop that fills a row, element by element. -/
theorem fill_ev {α β : Type} (l : List α) (g : α → β) (z : β) (F : Nat → List β → Int → Option (List β)) (hend : ∀ out, Ev (fun k => F k out (l.length : Int)) out)
    (hstep : ∀ (i : Nat) (hi : i < l.length) (out : List β) (r : List β), out.length = l.length → Ev (fun k => F k (out.set i (g l[i])) ((i + 1 : Nat) : Int)) r → Ev (fun k => F k out (i : Int)) r) :
    Ev (fun k => F k (List.replicate l.length z) 0) (l.map g) := by
  have key : ∀ d i, l.length - i = d → i ≤ l.length → Ev (fun k => F k ((l.take i).map g ++ (List.replicate l.length z).drop i) (i : Int)) (l.map g) := by
    intro d
    induction d with
    | zero =>
      intro i hd hi
      obtain rfl : i = l.length := by omega
      have h := hend (l.map g)
      simpa using h
    | succ d ih =>
      intro i hd hi
      refine hstep i (by omega) _ _ (by simp; omega) ?_
      rw [set_fill l _ g i (by omega) (by simp)]
      exact ih (i + 1) (by omega) (by omega)
  have h := key l.length 0 (by omega) (by omega)
  simpa using h
theorem ev_eq {ρ : Type} {x : Option ρ} {r : ρ} (h : x = some r) : Ev (fun _ => x) r := ⟨0, fun _ _ => h⟩
/-- A loop that turns a row, element by element, whatever stood there. -/
theorem turn_ev {β ρ : Type} (m : List β) (l : List β) (hm : m.length = l.length) (F : Nat → List β → Int → Option ρ) (r : ρ) (hend : Ev (fun k => F k l (l.length : Int)) r)
    (hstep : ∀ (i : Nat) (hi : i < l.length) (out : List β), out.length = l.length → Ev (fun k => F k (out.set i l[i]) ((i + 1 : Nat) : Int)) r → Ev (fun k => F k out (i : Int)) r) : Ev (fun k => F k m 0) r := by
  have key : ∀ d i, l.length - i = d → i ≤ l.length → Ev (fun k => F k ((l.take i).map id ++ m.drop i) (i : Int)) r := by
    intro d
    induction d with
    | zero =>
      intro i hd hi
      obtain rfl : i = l.length := by omega
      simpa [List.drop_eq_nil_of_le (show m.length ≤ l.length by omega)] using hend
    | succ d ih =>
      intro i hd hi
      refine hstep i (by omega) _ (by simp; omega) ?_
      have := set_fill l m id i (by omega) hm.symm
      simp only [id] at this ⊢
      rw [this]
      have h2 := ih (i + 1) (by omega) (by omega)
      simpa using h2
  have h := key l.length 0 (by omega) (by omega)
  simpa using h

theorem int_wf {n : Int} (h : (Lit.int .i64 n).wf = true) : -9223372036854775808 ≤ n ∧ n ≤ 9223372036854775807 := by
  simp [Lit.wf, IntKind.min, IntKind.max, IntKind.signed, IntKind.bits] at h
  omega
theorem wrap_id {i : Int} (h0 : -9223372036854775808 ≤ i) (h : i ≤ 9223372036854775807) : wrap64 i = i := by
  unfold wrap64
  omega

def toW (x : S115) : S113 := ⟨x.f0, x.f1⟩
theorem rd_laws_wait (l : List S115) (i : Nat) (h : i < l.length) : rd_T115 l (i : Int) = l[i] := by simp [rd_T115, h]
theorem rd_wait (l : List S113) (i : Nat) (h : i < l.length) : rd_T113 l (i : Int) = l[i] := by simp [rd_T113, h]
theorem szWaitS (l : List S115) (n : Int) (h0 : 0 ≤ n) (h1 : n ≤ 1048576) (hl : l.length ≤ 9223372036854775807) : (laws_szWaitS.f l n = some (-1) ∧ n - (l.length : Int) < 0) ∨ (laws_szWaitS.f l n = some (n - (l.length : Int)) ∧ 0 ≤ n - (l.length : Int)) := by
  unfold laws_szWaitS.f
  rw [wrap_id (by omega) (by omega)]
  by_cases h : n - (l.length : Int) < 0
  · rw [if_pos h]
    exact .inl ⟨rfl, h⟩
  · rw [if_neg h]
    exact .inr ⟨rfl, by omega⟩
theorem toWaitS (l : List S115) (hl : l.length ≤ 1048576) : Ev (fun k => laws_toWaitS.f k l) (l.map toW) := by
  unfold laws_toWaitS.f
  simp only [Int.toNat_natCast, show (0 : Int) ≤ (l.length : Int) by omega, show l.length ≤ 17592186044416 by omega, if_true]
  refine fill_ev l toW z113 (fun k out i => laws_toWaitS.l0 k l out i) (fun out => ?_) (fun i hi out r ho h => ?_)
  · refine Ev.step (f := fun _ => some out) (fun k => ?_) (Ev.now _)
    simp only [laws_toWaitS.l0]
    rw [if_neg (by omega)]
  · refine Ev.step (fun k => ?_) h
    simp only [laws_toWaitS.l0, laws_toWait.f, Option.bind_some]
    rw [if_pos (by omega), if_pos (by omega), if_pos (by omega), wrap_succ (by omega) (by omega), rd_laws_wait l i hi, Int.toNat_natCast]
    rfl
theorem eqWaitS (l : List S113) (hl : l.length ≤ 9223372036854775806) : Ev (fun k => laws_eqWaitS.f k l l) true := by
  unfold laws_eqWaitS.f
  simp only [if_true]
  refine ev_down (fun k i => laws_eqWaitS.l0 k l l i) (fun _ r => r = true) l.length (fun r hr => ?_) (fun i hi ih r hr => ?_) 0 (by omega) true rfl
  · subst hr
    refine Ev.step (f := fun _ => some true) (fun k => ?_) (Ev.now _)
    simp only [laws_eqWaitS.l0]
    rw [if_neg (by omega)]
  · refine Ev.step (fun k => ?_) (ih r hr)
    simp only [laws_eqWaitS.l0, laws_eqWait.f, if_true, Option.bind_some]
    rw [if_pos (by omega), if_pos (by omega), if_pos (by omega), wrap_succ (by omega) (by omega)]
    rfl
theorem implWaitsOk (l : List S115) (h : ∀ x ∈ l, (Lit.int .i64 x.f0).wf = true) : impl_WaitsOk.f (l.map toW) = some (waitsOkB (l.map toW)) := by
  rw [impl_WaitsOk.f, if_pos]
  intro x hx
  obtain ⟨y, hy, rfl⟩ := List.mem_map.1 hx
  exact h y hy
theorem nodup_pairs (l : List Int) : l.Nodup ↔ ∀ i k, i < l.length → k < i → l[k]? ≠ l[i]? := by
  rw [List.Nodup, List.pairwise_iff_getElem]
  constructor
  · intro h i k hi hk
    rw [List.getElem?_eq_getElem hi, List.getElem?_eq_getElem (by omega)]
    intro e
    exact h k i (by omega) hi hk (Option.some.inj e)
  · intro h i j hi hj hij e
    have := h j i hj hij
    rw [List.getElem?_eq_getElem hj, List.getElem?_eq_getElem hi] at this
    exact this (by rw [e])
theorem specWaitsOk_l (l : List S113) (hl : l.length ≤ 64) : ∀ i, i ≤ l.length → ∀ r : Bool, (r = true ↔ ∀ i' k, i ≤ i' → i' < l.length → k < i' → (rd_T113 l (k : Nat)).f0 ≠ (rd_T113 l (i' : Nat)).f0) → Ev (fun k => spec_WaitsOk.l0 k l i) r := by
  refine ev_down (fun k i => spec_WaitsOk.l0 k l i) (fun i r => r = true ↔ ∀ i' k, i ≤ i' → i' < l.length → k < i' → (rd_T113 l (k : Nat)).f0 ≠ (rd_T113 l (i' : Nat)).f0) l.length (fun r hr => ?_) (fun i hi ih r hr => ?_)
  · obtain rfl : r = true := hr.2 (fun i' k h1 h2 => by omega)
    refine Ev.step (f := fun _ => some true) (fun k => ?_) (Ev.now _)
    simp only [spec_WaitsOk.l0]
    rw [if_neg (by omega)]
  · have inner : ∀ j, j ≤ i → ∀ r : Bool, (r = true ↔ (∀ k, j ≤ k → k < i → (rd_T113 l (k : Nat)).f0 ≠ (rd_T113 l (i : Nat)).f0) ∧ ∀ i' k, i + 1 ≤ i' → i' < l.length → k < i' → (rd_T113 l (k : Nat)).f0 ≠ (rd_T113 l (i' : Nat)).f0) → Ev (fun k => spec_WaitsOk.l1 k l i j) r := by
      refine ev_down (fun k j => spec_WaitsOk.l1 k l i j) _ i (fun r hr => ?_) (fun j hj ih2 r hr => ?_)
      · refine Ev.step (fun k => ?_) (ih r ⟨fun h => (hr.1 h).2, fun h => hr.2 ⟨fun k h1 h2 => by omega, h⟩⟩)
        simp only [spec_WaitsOk.l1]
        rw [if_neg (by omega), wrap_succ (by omega) (by omega)]
        rfl
      · by_cases he : (rd_T113 l (j : Nat)).f0 = (rd_T113 l (i : Nat)).f0
        · obtain rfl : r = false := by
            rw [Bool.eq_false_iff]
            intro h
            exact (hr.1 h).1 j (by omega) hj he
          refine Ev.step (f := fun _ => some false) (fun k => ?_) (Ev.now _)
          simp only [spec_WaitsOk.l1]
          rw [if_pos (by omega), if_pos (by omega), if_pos (by omega), if_pos (by omega), if_pos (by omega), if_pos he]
        · refine Ev.step (fun k => ?_) (ih2 r ⟨fun h => ⟨fun k h1 h2 => (hr.1 h).1 k (by omega) h2, (hr.1 h).2⟩, fun h => hr.2 ⟨fun k h1 h2 => by
            rcases Nat.lt_or_ge j k with h3 | h3
            · exact h.1 k (by omega) h2
            · obtain rfl : k = j := by omega
              exact he, h.2⟩⟩)
          simp only [spec_WaitsOk.l1]
          rw [if_pos (by omega), if_pos (by omega), if_pos (by omega), if_pos (by omega), if_pos (by omega), if_neg he, wrap_succ (by omega) (by omega)]
          rfl
    have h0 := inner 0 (by omega) r ⟨fun h => ⟨fun k _ h2 => hr.1 h i k (by omega) hi h2, fun i' k h1 h2 h3 => hr.1 h i' k (by omega) h2 h3⟩, fun h => hr.2 fun i' k h1 h2 h3 => by
      rcases Nat.lt_or_ge i i' with h4 | h4
      · exact h.2 i' k (by omega) h2 h3
      · obtain rfl : i' = i := by omega
        exact h.1 k (by omega) h3⟩
    refine Ev.step (fun k => ?_) h0
    simp only [spec_WaitsOk.l0]
    rw [if_pos (by omega)]
    rfl
theorem allDiff_iff (l : List S113) : allDiff (l.map (·.f0)) = true ↔ ∀ i' k, 0 ≤ i' → i' < l.length → k < i' → (rd_T113 l (k : Nat)).f0 ≠ (rd_T113 l (i' : Nat)).f0 := by
  unfold allDiff
  rw [decide_eq_true_iff, nodup_pairs]
  constructor
  · intro h i k _ hi hk
    have := h i k (by simpa using hi) hk
    rw [rd_wait l k (by omega), rd_wait l i hi]
    intro e
    apply this
    simp [List.getElem?_map, List.getElem?_eq_getElem (show k < l.length by omega), List.getElem?_eq_getElem hi, e]
  · intro h i k hi hk
    have hi2 : i < l.length := by simpa using hi
    have := h i k (by omega) hi2 hk
    rw [rd_wait l k (by omega), rd_wait l i hi2] at this
    simp only [List.getElem?_map, List.getElem?_eq_getElem (show k < l.length by omega), List.getElem?_eq_getElem hi2, Option.map_some]
    intro e
    exact this (Option.some.inj e)
theorem specWaitsOk (l : List S113) : Ev (fun k => spec_WaitsOk.f k l) (waitsOkB l) := by
  unfold spec_WaitsOk.f waitsOkB
  by_cases h : (l.length : Int) > 64
  · simp only [if_pos h, decide_eq_false (show ¬ l.length ≤ 64 by omega), Bool.false_and]
    exact Ev.now _
  · simp only [if_neg h, decide_eq_true (show l.length ≤ 64 by omega), Bool.true_and]
    exact specWaitsOk_l l (by omega) 0 (by omega) _ (allDiff_iff l)

theorem find_step {l : List S113} {who : Int} {i : Nat} (hi : i < l.length) (h : l[i].f0 = who) (hn : ∀ j, j < i → ∀ h : j < l.length, l[j].f0 ≠ who) : idxOf (fun x => x.f0 == who) l = (i : Int) :=
  idxOf_hit hi (by simp [h]) (fun j hj hjl => by simp [hn j hj hjl])
/-- For whom who waits. -/
def nx (l : List S113) (x : Int) : Option Int := if waitsOkB l = true then (l.find? (fun w => w.f0 == x)).map (·.f1) else none
theorem idxOf_find {l : List S113} {x : Int} : (0 ≤ idxOf (fun w : S113 => w.f0 == x) l ∧ l.find? (fun w => w.f0 == x) = some (rd_T113 l (idxOf (fun w : S113 => w.f0 == x) l))) ∨ (idxOf (fun w : S113 => w.f0 == x) l = -1 ∧ l.find? (fun w => w.f0 == x) = none) := by
  unfold idxOf
  cases h : l.findIdx? (fun w : S113 => w.f0 == x) with
  | none =>
    right
    refine ⟨rfl, ?_⟩
    rw [List.find?_eq_none]
    intro y hy
    rw [List.findIdx?_eq_none_iff.1 h y hy]
    simp
  | some i =>
    left
    obtain ⟨hi, hp, hn⟩ := List.findIdx?_eq_some_iff_getElem.1 h
    refine ⟨by simp, ?_⟩
    show _ = some (rd_T113 l ((i : Nat) : Int))
    rw [rd_wait l i hi, List.find?_eq_some_iff_getElem]
    exact ⟨hp, i, hi, rfl, fun j hj => by simpa using hn j hj⟩
def closesGo (l : List S113) (who : Int) : Nat → Int → Bool
  | 0, _ => false
  | d + 1, a => if a = who then true else match nx l a with
    | none => false
    | some y => closesGo l who d y
def ringGo (l : List S113) (who : Int) : Nat → List Int → Int → List Int
  | 0, _, _ => []
  | d + 1, out, a => match nx l a with
    | none => []
    | some y => if y = who then out else ringGo l who d (out ++ [y]) y
def closesB (l : List S113) (who holder : Int) : Bool := if (nx l who).isSome = true ∨ waitsOkB l = false then false else closesGo l who (l.length + 1) holder
def ringB (l : List S113) (who : Int) : List Int := ringGo l who (l.length + 1) [who] who
theorem ringGo_len (l : List S113) (who : Int) : ∀ d out a, (ringGo l who d out a).length ≤ out.length + d := by
  intro d
  induction d with
  | zero => intro out a; simp [ringGo]
  | succ d ih =>
    intro out a
    rw [ringGo]
    split
    · simp
    · split
      · omega
      · rename_i y _ _
        have := ih (out ++ [y]) y
        simp at this
        omega
theorem ringB_len (l : List S113) (who : Int) : (ringB l who).length ≤ l.length + 2 := by
  have := ringGo_len l who (l.length + 1) [who] who
  unfold ringB
  simp at this ⊢
  omega

def WWf (l : List S113) : Prop := ∀ x ∈ l, (Lit.int .i64 x.f0).wf = true
theorem implOk {l : List S113} (h : WWf l) : impl_WaitsOk.f l = some (waitsOkB l) := by rw [impl_WaitsOk.f, if_pos (show ∀ x ∈ l, (Lit.int .i64 x.f0).wf = true from h)]

def leftOf (holder : Int) (l : List S113) : List S113 := l.filter fun w => w.f1 != holder
def freeOf (holder : Int) (l : List S113) : List Int := (l.filter fun w => w.f1 == holder).map (·.f0)
theorem implFree_l (l : List S113) (hl : l.length ≤ 64) (holder : Int) : ∀ (d i : Nat), l.length - i = d → i ≤ l.length → Ev (fun k => impl_WaitFree.l0 k holder (leftOf holder (l.take i)) (freeOf holder (l.take i)) l (l.length : Int) i) (leftOf holder l, freeOf holder l) := by
  intro d
  induction d with
  | zero =>
    intro i hd hi
    obtain rfl : i = l.length := by omega
    rw [List.take_length]
    refine Ev.step (f := fun _ => some (leftOf holder l, freeOf holder l)) (fun k => ?_) (Ev.now _)
    simp only [impl_WaitFree.l0]
    rw [if_neg (by omega)]
  | succ d ih =>
    intro i hd hi
    have hil : i < l.length := by omega
    have h1 : (leftOf holder (l.take i)).length ≤ i := Nat.le_trans (List.length_filter_le _ _) (by simp; omega)
    have h2 : (freeOf holder (l.take i)).length ≤ i := by
      unfold freeOf
      rw [List.length_map]
      exact Nat.le_trans (List.length_filter_le _ _) (by simp; omega)
    refine Ev.step (fun k => ?_) (ih (i + 1) (by omega) (by omega))
    simp only [impl_WaitFree.l0]
    rw [if_pos (by omega), if_pos (by omega), if_pos (by omega), rd_wait l i hil, wrap_succ (by omega) (by omega)]
    by_cases h : l[i].f1 = holder
    · rw [if_pos h, if_pos (by omega)]
      have e1 : leftOf holder (l.take (i + 1)) = leftOf holder (l.take i) := by
        unfold leftOf
        rw [List.take_succ_eq_append_getElem hil, List.filter_append]
        simp [h]
      have e2 : freeOf holder (l.take (i + 1)) = freeOf holder (l.take i) ++ [l[i].f0] := by
        unfold freeOf
        rw [List.take_succ_eq_append_getElem hil, List.filter_append]
        simp [h]
      rw [e1, e2]
      rfl
    · rw [if_neg h, if_pos (by omega)]
      have e1 : leftOf holder (l.take (i + 1)) = leftOf holder (l.take i) ++ [l[i]] := by
        unfold leftOf
        rw [List.take_succ_eq_append_getElem hil, List.filter_append]
        simp [h]
      have e2 : freeOf holder (l.take (i + 1)) = freeOf holder (l.take i) := by
        unfold freeOf
        rw [List.take_succ_eq_append_getElem hil, List.filter_append]
        simp [h]
      rw [e1, e2]
      rfl
theorem waitsOk_len {l : List S113} (h : waitsOkB l = true) : l.length ≤ 64 := by
  simp only [waitsOkB, Bool.and_eq_true, decide_eq_true_eq] at h
  exact h.1
theorem implFree {l : List S113} (hw : WWf l) (holder : Int) : Ev (fun k => impl_WaitFree.f k l holder) (if waitsOkB l = true then (leftOf holder l, freeOf holder l) else ([], [])) := by
  unfold impl_WaitFree.f
  simp only [implOk hw, Option.bind_some]
  by_cases h : waitsOkB l = true
  · simp only [if_pos h]
    exact implFree_l l (waitsOk_len h) holder l.length 0 (by omega) (by omega)
  · simp only [if_neg h]
    exact Ev.now _

theorem specFree_l (l : List S113) (hl : l.length ≤ 64) (holder : Int) : ∀ (d i : Nat), l.length - i = d → i ≤ l.length → Ev (fun k => spec_WaitFree.l0 k l holder (leftOf holder (l.take i)) (freeOf holder (l.take i)) i) (leftOf holder l, freeOf holder l) := by
  intro d
  induction d with
  | zero =>
    intro i hd hi
    obtain rfl : i = l.length := by omega
    rw [List.take_length]
    refine Ev.step (f := fun _ => some (leftOf holder l, freeOf holder l)) (fun k => ?_) (Ev.now _)
    simp only [spec_WaitFree.l0]
    rw [if_neg (by omega)]
  | succ d ih =>
    intro i hd hi
    have hil : i < l.length := by omega
    have h1 : (leftOf holder (l.take i)).length ≤ i := Nat.le_trans (List.length_filter_le _ _) (by simp; omega)
    have h2 : (freeOf holder (l.take i)).length ≤ i := by
      unfold freeOf
      rw [List.length_map]
      exact Nat.le_trans (List.length_filter_le _ _) (by simp; omega)
    refine Ev.step (fun k => ?_) (ih (i + 1) (by omega) (by omega))
    simp only [spec_WaitFree.l0]
    rw [if_pos (by omega), if_pos (by omega), rd_wait l i hil, wrap_succ (by omega) (by omega)]
    by_cases h : l[i].f1 = holder
    · rw [if_pos h, if_pos (by omega)]
      have e1 : leftOf holder (l.take (i + 1)) = leftOf holder (l.take i) := by
        unfold leftOf
        rw [List.take_succ_eq_append_getElem hil, List.filter_append]
        simp [h]
      have e2 : freeOf holder (l.take (i + 1)) = freeOf holder (l.take i) ++ [l[i].f0] := by
        unfold freeOf
        rw [List.take_succ_eq_append_getElem hil, List.filter_append]
        simp [h]
      rw [e1, e2]
      rfl
    · rw [if_neg h, if_pos (by omega)]
      have e1 : leftOf holder (l.take (i + 1)) = leftOf holder (l.take i) ++ [l[i]] := by
        unfold leftOf
        rw [List.take_succ_eq_append_getElem hil, List.filter_append]
        simp [h]
      have e2 : freeOf holder (l.take (i + 1)) = freeOf holder (l.take i) := by
        unfold freeOf
        rw [List.take_succ_eq_append_getElem hil, List.filter_append]
        simp [h]
      rw [e1, e2]
      rfl
def freeB (holder : Int) (l : List S113) : List S113 × List Int := if waitsOkB l = true then (leftOf holder l, freeOf holder l) else ([], [])
theorem freeB_len (holder : Int) (l : List S113) : (freeB holder l).1.length ≤ 64 ∧ (freeB holder l).2.length ≤ 64 := by
  unfold freeB
  split
  · rename_i h
    have := waitsOk_len h
    refine ⟨Nat.le_trans (List.length_filter_le _ _) this, ?_⟩
    unfold freeOf
    rw [List.length_map]
    exact Nat.le_trans (List.length_filter_le _ _) this
  · exact ⟨by simp, by simp⟩
theorem specFreeE (l : List S113) (holder : Int) : Ev (fun k => spec_WaitFree.f k l holder) ((freeB holder l).1, (freeB holder l).2) := by
  unfold spec_WaitFree.f
  show Ev _ (freeB holder l)
  refine Ev.bind (specWaitsOk l) ?_
  unfold freeB
  by_cases h : waitsOkB l = true
  · simp only [if_pos h]
    exact specFree_l l (waitsOk_len h) holder l.length 0 (by omega) (by omega)
  · simp only [if_neg h]
    exact Ev.now _
theorem implFreeE {l : List S113} (hw : WWf l) (holder : Int) : Ev (fun k => impl_WaitFree.f k l holder) ((freeB holder l).1, (freeB holder l).2) := implFree hw holder

theorem eqIntS_l (l : List Int) (hl : l.length ≤ 9223372036854775806) : ∀ (d : Nat) (i : Int), 0 ≤ i → (l.length : Int) - i = d → Ev (fun k => laws_eqIntS.l0 k l l i) true := by
  intro d
  induction d with
  | zero =>
    intro i h0 hd
    refine Ev.step (f := fun _ => some true) (fun k => ?_) (Ev.now _)
    simp only [laws_eqIntS.l0]
    rw [if_neg (by omega)]
  | succ d ih =>
    intro i h0 hd
    refine Ev.step (f := fun k => laws_eqIntS.l0 k l l (i + 1)) (fun k => ?_) (ih (i + 1) (by omega) (by omega))
    simp only [laws_eqIntS.l0]
    rw [if_pos (by omega), if_pos h0, if_pos (by omega), if_pos trivial, wrap_succ h0 (by omega)]

theorem eqIntS (l : List Int) (hl : l.length ≤ 9223372036854775806) : Ev (fun k => laws_eqIntS.f k l l) true := by
  unfold laws_eqIntS.f
  simp only [if_true]
  exact eqIntS_l l hl l.length 0 (by omega) (by omega)

def seqI (n : Int) (len : Nat) : List Int := (List.range len).map fun i : Nat => n + (i : Int)
@[simp] theorem seqI_length (n : Int) (len : Nat) : (seqI n len).length = len := by simp [seqI]
theorem seqI_at (n : Int) (len i : Nat) (h : i < (seqI n len).length) : (seqI n len)[i] = n + (i : Int) := by simp [seqI]
theorem markIntS (l : List Int) (n : Int) (h0 : 0 ≤ n ∧ n ≤ 1048576000) (hl : l.length ≤ 9223372035000000000) : Ev (fun k => laws_markIntS.f k l n) (n + (l.length : Int), seqI n l.length) := by
  unfold laws_markIntS.f
  have key := turn_ev l (seqI n l.length) (by simp) (fun k out i => laws_markIntS.l0 k out (n + i) i) (n + (l.length : Int), seqI n l.length) ?_ (fun i hi out ho h => ?_)
  · simpa using key
  · refine Ev.step (f := fun _ => some (n + (l.length : Int), seqI n l.length)) (fun k => ?_) (Ev.now _)
    simp only [laws_markIntS.l0, seqI_length]
    rw [if_neg (by omega)]
  · rw [seqI_length] at hi ho
    refine Ev.step (fun k => ?_) h
    simp only [laws_markIntS.l0]
    rw [if_pos (by omega), if_pos (by omega), wrap_succ (i := (i : Int)) (by omega) (by omega), wrap_succ (i := n + (i : Int)) (by omega) (by omega), seqI_at, Int.toNat_natCast]
    rw [show n + (i : Int) + 1 = n + ((i + 1 : Nat) : Int) by omega]
    rfl
theorem heldIntS (n : Int) (len : Nat) (h0 : 0 ≤ n ∧ n ≤ 1048576000) (hl : len ≤ 9223372035000000000) : Ev (fun k => laws_heldIntS.f k (seqI n len) n) (n + (len : Int)) := by
  unfold laws_heldIntS.f
  have key := ev_down (fun k i => laws_heldIntS.l0 k (seqI n len) (n + i) i) (fun _ r => r = n + (len : Int)) len (fun r hr => ?_) (fun i hi ih r hr => ?_) 0 (by omega) _ rfl
  · simpa using key
  · subst hr
    refine Ev.step (f := fun _ => some (n + (len : Int))) (fun k => ?_) (Ev.now _)
    simp only [laws_heldIntS.l0, seqI_length]
    rw [if_neg (by omega)]
  · refine Ev.step (fun k => ?_) (ih r hr)
    have he : rd (seqI n len) (i : Int) = n + (i : Int) := by simp [rd, seqI, hi]
    simp only [laws_heldIntS.l0, seqI_length, he]
    rw [if_pos (by omega), if_pos (by omega), if_pos trivial, wrap_succ (i := (i : Int)) (by omega) (by omega), wrap_succ (i := n + (i : Int)) (by omega) (by omega)]
    rw [show n + (i : Int) + 1 = n + ((i + 1 : Nat) : Int) by omega]
    rfl

def seqW (n : Int) (len : Nat) : List S113 := (List.range len).map fun i : Nat => ⟨n + 2 * (i : Int), n + 2 * (i : Int) + 1⟩
@[simp] theorem seqW_length (n : Int) (len : Nat) : (seqW n len).length = len := by simp [seqW]
theorem markWaitS (l : List S113) (n : Int) (h0 : 0 ≤ n ∧ n ≤ 1048576000) (hl : l.length ≤ 1048577000) : Ev (fun k => laws_markWaitS.f k l n) (n + 2 * (l.length : Int), seqW n l.length) := by
  unfold laws_markWaitS.f
  have key := turn_ev l (seqW n l.length) (by simp) (fun k out i => laws_markWaitS.l0 k out (n + 2 * i) i) (n + 2 * (l.length : Int), seqW n l.length) ?_ (fun i hi out ho h => ?_)
  · simpa using key
  · refine Ev.step (f := fun _ => some (n + 2 * (l.length : Int), seqW n l.length)) (fun k => ?_) (Ev.now _)
    simp only [laws_markWaitS.l0, seqW_length]
    rw [if_neg (by omega)]
  · rw [seqW_length] at hi ho
    refine Ev.step (fun k => ?_) h
    have he : (seqW n l.length)[i]'(by simpa using hi) = ⟨n + 2 * (i : Int), n + 2 * (i : Int) + 1⟩ := by simp [seqW]
    simp only [laws_markWaitS.l0, Option.bind_some]
    rw [if_pos (by omega), if_pos (by omega), wrap_succ (i := (i : Int)) (by omega) (by omega), wrap_succ (i := n + 2 * (i : Int)) (by omega) (by omega), wrap_succ (i := n + 2 * (i : Int) + 1) (by omega) (by omega), he, Int.toNat_natCast, List.set_set]
    rw [show n + 2 * (i : Int) + 1 + 1 = n + 2 * ((i + 1 : Nat) : Int) by omega]
    have h3 : (rd_T113 (out.set i ⟨n + 2 * (i : Int), (rd_T113 out (i : Int)).f1⟩) (i : Int)).f0 = n + 2 * (i : Int) := by
      rw [rd_wait _ i (by simp; omega)]
      simp
    rw [h3]
    rfl
theorem heldWaitS (n : Int) (len : Nat) (h0 : 0 ≤ n ∧ n ≤ 1048576000) (hl : len ≤ 1048577000) : Ev (fun k => laws_heldWaitS.f k (seqW n len) n) (n + 2 * (len : Int)) := by
  unfold laws_heldWaitS.f
  have key := ev_down (fun k i => laws_heldWaitS.l0 k (seqW n len) (n + 2 * i) i) (fun _ r => r = n + 2 * (len : Int)) len (fun r hr => ?_) (fun i hi ih r hr => ?_) 0 (by omega) _ rfl
  · simpa using key
  · subst hr
    refine Ev.step (f := fun _ => some (n + 2 * (len : Int))) (fun k => ?_) (Ev.now _)
    simp only [laws_heldWaitS.l0, seqW_length]
    rw [if_neg (by omega)]
  · refine Ev.step (fun k => ?_) (ih r hr)
    have he : rd_T113 (seqW n len) (i : Int) = ⟨n + 2 * (i : Int), n + 2 * (i : Int) + 1⟩ := by
      rw [rd_wait _ i (by simpa using hi)]
      simp [seqW]
    simp only [laws_heldWaitS.l0, seqW_length, he]
    rw [if_pos (by omega), if_pos (by omega), if_pos trivial, wrap_succ (i := (i : Int)) (by omega) (by omega), wrap_succ (i := n + 2 * (i : Int)) (by omega) (by omega), wrap_succ (i := n + 2 * (i : Int) + 1) (by omega) (by omega), if_pos rfl]
    rw [show n + 2 * (i : Int) + 1 + 1 = n + 2 * ((i + 1 : Nat) : Int) by omega]
    rfl

-- GEN args: l a
theorem toW_wf {l : List S115} (h : ∀ x ∈ l, ok115 x) : WWf (l.map toW) := fun x hx => by
  obtain ⟨y, hy, rfl⟩ := List.mem_map.1 hx
  exact (h y hy).1
theorem FnExactWaitFree (l : List S115) (a : Int) (h : l.length ≤ 9223372036854775807 ∧ ∀ x ∈ l, ok115 x) (ha : (Lit.int .i64 a).wf = true) : ∃ k, laws_FnExactWaitFree.f k l a = some true := by
  have hl := h.1
  have hw := toW_wf h.2
  have hfl := freeB_len a (l.map toW)
  have key : Ev (fun k => laws_FnExactWaitFree.f k l a) true := by
    unfold laws_FnExactWaitFree.f
    rcases szWaitS l 1048576 (by omega) (by omega) (by first | omega | (simp; done) | (simp; omega) | assumption) with ⟨hr, h0⟩ | ⟨hr, h0⟩
    · refine Ev.bind (ev_eq hr) ?_
      exact ev_if_pos (by omega) (Ev.now _)
    · refine Ev.bind (ev_eq hr) ?_
      refine ev_if_neg (by first | rfl | decide | omega | (simp; done) | (simp; omega) | (simp only []; omega)) ?_
      refine Ev.bind (toWaitS l (by first | omega | (simp; done) | (simp; omega) | assumption)) ?_
      refine Ev.bind (specFreeE (l.map toW) a) ?_
      refine Ev.bind (toWaitS l (by first | omega | (simp; done) | (simp; omega) | assumption)) ?_
      refine Ev.bind (implFreeE hw a) ?_
      refine Ev.bind (eqWaitS ((freeB a (l.map toW)).1) (by first | omega | (simp; done) | (simp; omega) | assumption)) ?_
      refine ev_if_pos (by first | rfl | decide | omega | (simp; done) | (simp; omega) | (simp only []; omega)) ?_
      refine Ev.bind (eqIntS ((freeB a (l.map toW)).2) (by first | omega | (simp; done) | (simp; omega) | assumption)) ?_
      refine Ev.step (f := fun k => if (!true) = true then (some false) else ((laws_toWaitS.f k l).bind fun t166 => ((laws_eqWaitS.f k (l.map toW) t166).bind fun t169 => (if t169 = true then ((laws_markWaitS.f k (l.map toW) 1).bind fun bt170 => (if bt170.1 < 0 then (laws_FnExactWaitFree.j1 k l a ((freeB a (l.map toW)).1) ((freeB a (l.map toW)).2) ((freeB a (l.map toW)).1) ((freeB a (l.map toW)).2) true) else ((laws_eqWaitS.f k ((freeB a (l.map toW)).1) ((freeB a (l.map toW)).1)).bind fun t172 => (if t172 = true then ((laws_eqIntS.f k ((freeB a (l.map toW)).2) ((freeB a (l.map toW)).2)).bind fun t173 => (laws_FnExactWaitFree.j1 k l a ((freeB a (l.map toW)).1) ((freeB a (l.map toW)).2) ((freeB a (l.map toW)).1) ((freeB a (l.map toW)).2) (!t173))) else (laws_FnExactWaitFree.j1 k l a ((freeB a (l.map toW)).1) ((freeB a (l.map toW)).2) ((freeB a (l.map toW)).1) ((freeB a (l.map toW)).2) true))))) else (some false))))) (fun k => by first | rfl | (simp only [laws_FnExactWaitFree.j0])) ?_
      refine ev_if_neg (by first | rfl | decide | omega | (simp; done) | (simp; omega) | (simp only []; omega)) ?_
      refine Ev.bind (toWaitS l (by first | omega | (simp; done) | (simp; omega) | assumption)) ?_
      refine Ev.bind (eqWaitS (l.map toW) (by first | omega | (simp; done) | (simp; omega) | assumption)) ?_
      refine ev_if_pos (by first | rfl | decide | omega | (simp; done) | (simp; omega) | (simp only []; omega)) ?_
      refine Ev.bind (markWaitS (l.map toW) 1 (by omega) (by first | omega | (simp; done) | (simp; omega) | assumption)) ?_
      refine ev_if_neg (by first | rfl | decide | omega | (simp; done) | (simp; omega) | (simp only []; omega)) ?_
      refine Ev.bind (eqWaitS ((freeB a (l.map toW)).1) (by first | omega | (simp; done) | (simp; omega) | assumption)) ?_
      refine ev_if_pos (by first | rfl | decide | omega | (simp; done) | (simp; omega) | (simp only []; omega)) ?_
      refine Ev.bind (eqIntS ((freeB a (l.map toW)).2) (by first | omega | (simp; done) | (simp; omega) | assumption)) ?_
      refine Ev.step (f := fun k => if (!true) = true then (some false) else ((laws_markWaitS.f k ((freeB a (l.map toW)).1) 1).bind fun bt174 => ((laws_markIntS.f k ((freeB a (l.map toW)).2) bt174.1).bind fun bt176 => ((laws_heldWaitS.f k bt174.2 1).bind fun t178 => (if t178 < 0 then (some false) else ((laws_heldIntS.f k bt176.2 t178).bind fun t179 => (if t179 < 0 then (some false) else (if t179 = bt176.1 then ((laws_toWaitS.f k l).bind fun t180 => ((impl_WaitFree.f k t180 a).bind fun bt183 => ((laws_eqWaitS.f k bt183.1 ((freeB a (l.map toW)).1)).bind fun t189 => (if t189 = true then ((laws_eqIntS.f k bt183.2 ((freeB a (l.map toW)).2)).bind fun t190 => (laws_FnExactWaitFree.j2 k bt174.2 bt176.2 bt176.1 (!t190))) else (laws_FnExactWaitFree.j2 k bt174.2 bt176.2 bt176.1 true))))) else (some false))))))))) (fun k => by first | rfl | (simp only [laws_FnExactWaitFree.j1])) ?_
      refine ev_if_neg (by first | rfl | decide | omega | (simp; done) | (simp; omega) | (simp only []; omega)) ?_
      refine Ev.bind (markWaitS ((freeB a (l.map toW)).1) 1 (by omega) (by first | omega | (simp; done) | (simp; omega) | assumption)) ?_
      refine Ev.bind (markIntS ((freeB a (l.map toW)).2) (1 + 2 * (((freeB a (l.map toW)).1).length : Int)) (by omega) (by first | omega | (simp; done) | (simp; omega) | assumption)) ?_
      refine Ev.bind (heldWaitS 1 ((freeB a (l.map toW)).1).length (by omega) (by first | omega | (simp; done) | (simp; omega) | assumption)) ?_
      refine ev_if_neg (by first | rfl | decide | omega | (simp; done) | (simp; omega) | (simp only []; omega)) ?_
      refine Ev.bind (heldIntS (1 + 2 * (((freeB a (l.map toW)).1).length : Int)) ((freeB a (l.map toW)).2).length (by omega) (by first | omega | (simp; done) | (simp; omega) | assumption)) ?_
      refine ev_if_neg (by first | rfl | decide | omega | (simp; done) | (simp; omega) | (simp only []; omega)) ?_
      refine ev_if_pos (by first | rfl | decide | omega | (simp; done) | (simp; omega) | (simp only []; omega)) ?_
      refine Ev.bind (toWaitS l (by first | omega | (simp; done) | (simp; omega) | assumption)) ?_
      refine Ev.bind (implFreeE hw a) ?_
      refine Ev.bind (eqWaitS ((freeB a (l.map toW)).1) (by first | omega | (simp; done) | (simp; omega) | assumption)) ?_
      refine ev_if_pos (by first | rfl | decide | omega | (simp; done) | (simp; omega) | (simp only []; omega)) ?_
      refine Ev.bind (eqIntS ((freeB a (l.map toW)).2) (by first | omega | (simp; done) | (simp; omega) | assumption)) ?_
      refine Ev.step (f := fun k => if (!true) = true then (some false) else ((laws_heldWaitS.f k (seqW 1 ((freeB a (l.map toW)).1).length) 1).bind fun t191 => (if t191 < 0 then (some false) else ((laws_heldIntS.f k (seqI (1 + 2 * (((freeB a (l.map toW)).1).length : Int)) ((freeB a (l.map toW)).2).length) t191).bind fun t192 => (if t192 < 0 then (some false) else (if t192 = ((1 + 2 * (((freeB a (l.map toW)).1).length : Int)) + (((freeB a (l.map toW)).2).length : Int)) then (some true) else (some false))))))) (fun k => by first | rfl | (simp only [laws_FnExactWaitFree.j2])) ?_
      refine ev_if_neg (by first | rfl | decide | omega | (simp; done) | (simp; omega) | (simp only []; omega)) ?_
      refine Ev.bind (heldWaitS 1 ((freeB a (l.map toW)).1).length (by omega) (by first | omega | (simp; done) | (simp; omega) | assumption)) ?_
      refine ev_if_neg (by first | rfl | decide | omega | (simp; done) | (simp; omega) | (simp only []; omega)) ?_
      refine Ev.bind (heldIntS (1 + 2 * (((freeB a (l.map toW)).1).length : Int)) ((freeB a (l.map toW)).2).length (by omega) (by first | omega | (simp; done) | (simp; omega) | assumption)) ?_
      refine ev_if_neg (by first | rfl | decide | omega | (simp; done) | (simp; omega) | (simp only []; omega)) ?_
      refine ev_if_pos (by first | rfl | decide | omega | (simp; done) | (simp; omega) | (simp only []; omega)) ?_
      exact Ev.now _
  exact key.rounds

end Go.Proofs.Ytadbcjeelbkfcaa.Pure
