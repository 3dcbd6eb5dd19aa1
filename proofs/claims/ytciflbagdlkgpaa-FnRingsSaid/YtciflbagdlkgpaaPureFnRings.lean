/- FnRings: the pure half: what the printed functions answer, without Go and memory. No condition beside those that each theorem states. -/
import Derived.Test.YtciflbagdlkgpaaPFnRingsx
import Derived.Test.YtciflbagdlkgpaaOFnRings
namespace Go.Proofs.Ytciflbagdlkgpaa.Pure
open Go.RowKit Go.Proofs.Ytciflbagdlkgpaa.PFnRings Go.Proofs.YtciflbagdlkgpaaW.PrintWords Go.Proofs.YtciflbagdlkgpaaW.PrintLast Go.Proofs.YtciflbagdlkgpaaW.PrintMore Go.Proofs.Ytciflbagdlkgpaa.HFl Go.Proofs.Ytciflbagdlkgpaa.HMap Go.Proofs.Ytciflbagdlkgpaa.HMore
set_option linter.unusedVariables false
set_option linter.unusedSimpArgs false

theorem wrap_succ {i : Int} (h0 : 0 ≤ i) (h : i ≤ 9223372036854775806) : wrap64 (i + 1) = i + 1 := by
  unfold wrap64
  omega

theorem drop_rd (l : List Int) (i : Nat) (h : i < l.length) : l.drop i = rd l (i : Int) :: l.drop (i + 1) := by
  rw [List.drop_eq_getElem_cons h]
  simp [rd, List.getD_eq_getElem?_getD, h]

/-- A loop that is walked from its end: what it tells at i follows from what it tells at i + 1. -/
theorem ev_down {ρ : Type} (F : Nat → Int → Option ρ) (R : Nat → ρ → Prop) (n : Nat) (hend : ∀ r, R n r → Ev (fun k => F k n) r) (hstep : ∀ i, i < n → (∀ r, R (i + 1) r → Ev (fun k => F k ((i + 1 : Nat) : Int)) r) → ∀ r, R i r → Ev (fun k => F k (i : Int)) r) :
    ∀ i, i ≤ n → ∀ r, R i r → Ev (fun k => F k (i : Int)) r := by
  have key : ∀ d i, n - i = d → i ≤ n → ∀ r, R i r → Ev (fun k => F k (i : Int)) r := by
    intro d
    induction d with
    | zero =>
      intro i hd hi
      obtain rfl : i = n := by omega
      exact hend
    | succ d ih =>
      intro i hd hi
      exact hstep i (by omega) (ih (i + 1) (by omega) (by omega))
  intro i hi
  exact key _ i rfl hi

theorem ev_if_pos {ρ : Type} {c : Prop} [Decidable c] {a b : Nat → Option ρ} {r : ρ} (h : c) (k : Ev a r) : Ev (fun n => if c then a n else b n) r := by simpa only [if_pos h] using k
theorem ev_if_neg {ρ : Type} {c : Prop} [Decidable c] {a b : Nat → Option ρ} {r : ρ} (h : ¬ c) (k : Ev b r) : Ev (fun n => if c then a n else b n) r := by simpa only [if_neg h] using k

theorem set_fill {α β : Type} (l : List α) (m : List β) (g : α → β) (i : Nat) (hi : i < l.length) (h : l.length = m.length) : ((l.take i).map g ++ m.drop i).set i (g l[i]) = (l.take (i + 1)).map g ++ m.drop (i + 1) := by
  apply List.ext_getElem?
  intro j
  simp only [List.getElem?_set, List.getElem?_append, List.length_map, List.length_take, List.getElem?_map, List.getElem?_take, List.getElem?_drop, List.length_append, List.length_drop]
  rw [Nat.min_eq_left (by omega), Nat.min_eq_left (by omega)]
  by_cases h1 : i = j
  · subst h1
    simp [hi]
    omega
  · by_cases h2 : j < i
    · simp [h1, h2, show j < i + 1 by omega]
    · simp only [h1, h2, if_false, show ¬ j < i + 1 by omega]
      congr 1
      omega

/-- A loop that fills a row, element by element. -/
theorem fill_ev {α β : Type} (l : List α) (g : α → β) (z : β) (F : Nat → List β → Int → Option (List β)) (hend : ∀ out, Ev (fun k => F k out (l.length : Int)) out)
    (hstep : ∀ (i : Nat) (hi : i < l.length) (out : List β) (r : List β), out.length = l.length → Ev (fun k => F k (out.set i (g l[i])) ((i + 1 : Nat) : Int)) r → Ev (fun k => F k out (i : Int)) r) :
    Ev (fun k => F k (List.replicate l.length z) 0) (l.map g) := by
  have key : ∀ d i, l.length - i = d → i ≤ l.length → Ev (fun k => F k ((l.take i).map g ++ (List.replicate l.length z).drop i) (i : Int)) (l.map g) := by
    intro d
    induction d with
    | zero =>
      intro i hd hi
      obtain rfl : i = l.length := by omega
      have h := hend (l.map g)
      simpa using h
    | succ d ih =>
      intro i hd hi
      refine hstep i (by omega) _ _ (by simp; omega) ?_
      rw [set_fill l _ g i (by omega) (by simp)]
      exact ih (i + 1) (by omega) (by omega)
  have h := key l.length 0 (by omega) (by omega)
  simpa using h

theorem int_wf {n : Int} (h : (Lit.int .i64 n).wf = true) : -9223372036854775808 ≤ n ∧ n ≤ 9223372036854775807 := by
  simp [Lit.wf, IntKind.min, IntKind.max, IntKind.signed, IntKind.bits] at h
  omega
theorem wrap_id {i : Int} (h0 : -9223372036854775808 ≤ i) (h : i ≤ 9223372036854775807) : wrap64 i = i := by
  unfold wrap64
  omega

theorem rd_wait (l : List S47) (i : Nat) (h : i < l.length) : rd_T47 l (i : Int) = l[i] := by simp [rd_T47, h]
theorem nodup_pairs (l : List Int) : l.Nodup ↔ ∀ i k, i < l.length → k < i → l[k]? ≠ l[i]? := by
  rw [List.Nodup, List.pairwise_iff_getElem]
  constructor
  · intro h i k hi hk
    rw [List.getElem?_eq_getElem hi, List.getElem?_eq_getElem (by omega)]
    intro e
    exact h k i (by omega) hi hk (Option.some.inj e)
  · intro h i j hi hj hij e
    have := h j i hj hij
    rw [List.getElem?_eq_getElem hj, List.getElem?_eq_getElem hi] at this
    exact this (by rw [e])
theorem allDiff_iff (l : List S47) : allDiff (l.map (·.f0)) = true ↔ ∀ i' k, 0 ≤ i' → i' < l.length → k < i' → (rd_T47 l (k : Nat)).f0 ≠ (rd_T47 l (i' : Nat)).f0 := by
  unfold allDiff
  rw [decide_eq_true_iff, nodup_pairs]
  constructor
  · intro h i k _ hi hk
    have := h i k (by simpa using hi) hk
    rw [rd_wait l k (by omega), rd_wait l i hi]
    intro e
    apply this
    simp [List.getElem?_map, List.getElem?_eq_getElem (show k < l.length by omega), List.getElem?_eq_getElem hi, e]
  · intro h i k hi hk
    have hi2 : i < l.length := by simpa using hi
    have := h i k (by omega) hi2 hk
    rw [rd_wait l k (by omega), rd_wait l i hi2] at this
    simp only [List.getElem?_map, List.getElem?_eq_getElem (show k < l.length by omega), List.getElem?_eq_getElem hi2, Option.map_some]
    intro e
    exact this (Option.some.inj e)
theorem find_step {l : List S47} {who : Int} {i : Nat} (hi : i < l.length) (h : l[i].f0 = who) (hn : ∀ j, j < i → ∀ h : j < l.length, l[j].f0 ≠ who) : idxOf (fun x => x.f0 == who) l = (i : Int) :=
  idxOf_hit hi (by simp [h]) (fun j hj hjl => by simp [hn j hj hjl])
/-- For whom who waits. -/
def nx (l : List S47) (x : Int) : Option Int := if waitsOkB l = true then (l.find? (fun w => w.f0 == x)).map (·.f1) else none
theorem idxOf_find {l : List S47} {x : Int} : (0 ≤ idxOf (fun w : S47 => w.f0 == x) l ∧ l.find? (fun w => w.f0 == x) = some (rd_T47 l (idxOf (fun w : S47 => w.f0 == x) l))) ∨ (idxOf (fun w : S47 => w.f0 == x) l = -1 ∧ l.find? (fun w => w.f0 == x) = none) := by
  unfold idxOf
  cases h : l.findIdx? (fun w : S47 => w.f0 == x) with
  | none =>
    right
    refine ⟨rfl, ?_⟩
    rw [List.find?_eq_none]
    intro y hy
    rw [List.findIdx?_eq_none_iff.1 h y hy]
    simp
  | some i =>
    left
    obtain ⟨hi, hp, hn⟩ := List.findIdx?_eq_some_iff_getElem.1 h
    refine ⟨by simp, ?_⟩
    show _ = some (rd_T47 l ((i : Nat) : Int))
    rw [rd_wait l i hi, List.find?_eq_some_iff_getElem]
    exact ⟨hp, i, hi, rfl, fun j hj => by simpa using hn j hj⟩
theorem waitNextB_nx (l : List S47) (x : Int) : waitNextB l x = ((nx l x).getD 0, (nx l x).isSome) := by
  unfold waitNextB nx
  by_cases h : waitsOkB l = true
  · rw [if_pos h]
    rcases idxOf_find (l := l) (x := x) with ⟨h1, h2⟩ | ⟨h1, h2⟩
    · rw [if_pos ⟨h, h1⟩, h2]
      rfl
    · rw [if_neg (by omega), h2]
      rfl
  · rw [if_neg h, if_neg (fun hx => h hx.1)]
    rfl
def closesGo (l : List S47) (who : Int) : Nat → Int → Bool
  | 0, _ => false
  | d + 1, a => if a = who then true else match nx l a with
    | none => false
    | some y => closesGo l who d y
def ringGo (l : List S47) (who : Int) : Nat → List Int → Int → List Int
  | 0, _, _ => []
  | d + 1, out, a => match nx l a with
    | none => []
    | some y => if y = who then out else ringGo l who d (out ++ [y]) y
def closesB (l : List S47) (who holder : Int) : Bool := if (nx l who).isSome = true ∨ waitsOkB l = false then false else closesGo l who (l.length + 1) holder
def ringB (l : List S47) (who : Int) : List Int := ringGo l who (l.length + 1) [who] who

def WWf (l : List S47) : Prop := ∀ x ∈ l, (Lit.int .i64 x.f0).wf = true
theorem implNext {l : List S47} (h : WWf l) (x : Int) : impl_WaitNext.f l x = some ((nx l x).getD 0, (nx l x).isSome) := by rw [impl_WaitNext.f, if_pos (show ∀ x ∈ l, (Lit.int .i64 x.f0).wf = true from h), waitNextB_nx]
theorem implOk {l : List S47} (h : WWf l) : impl_WaitsOk.f l = some (waitsOkB l) := by rw [impl_WaitsOk.f, if_pos (show ∀ x ∈ l, (Lit.int .i64 x.f0).wf = true from h)]

theorem implCloses_l {l : List S47} (hw : WWf l) (hl : l.length ≤ 1048577) (who : Int) : ∀ (d i : Nat) (a : Int), l.length + 1 - i = d → i ≤ l.length + 1 → Ev (fun k => impl_WaitCloses.l0 k l who a ((l.length : Int) + 1) i) (closesGo l who d a) := by
  intro d
  induction d with
  | zero =>
    intro i a hd hi
    refine Ev.step (f := fun _ => some false) (fun k => ?_) (Ev.now _)
    simp only [impl_WaitCloses.l0]
    rw [if_neg (by omega)]
  | succ d ih =>
    intro i a hd hi
    unfold closesGo
    by_cases ha : a = who
    · rw [if_pos ha]
      refine Ev.step (f := fun _ => some true) (fun k => ?_) (Ev.now _)
      simp only [impl_WaitCloses.l0]
      rw [if_pos (by omega), if_pos ha]
    · rw [if_neg ha]
      cases hn : nx l a with
      | none =>
        refine Ev.step (f := fun _ => some false) (fun k => ?_) (Ev.now _)
        simp only [impl_WaitCloses.l0, implNext hw, hn]
        rw [if_pos (by omega), if_neg ha]
        rfl
      | some y =>
        refine Ev.step (fun k => ?_) (ih (i + 1) y (by omega) (by omega))
        simp only [impl_WaitCloses.l0, implNext hw, hn]
        rw [if_pos (by omega), if_neg ha, wrap_succ (by omega) (by omega)]
        rfl
theorem implCloses {l : List S47} (hw : WWf l) (hl : l.length ≤ 1048577) (who holder : Int) : Ev (fun k => impl_WaitCloses.f k l who holder) (closesB l who holder) := by
  unfold impl_WaitCloses.f closesB
  simp only [implNext hw, implOk hw, Option.bind_some]
  cases hn : nx l who with
  | some y =>
    simp only [Option.isSome_some, true_or, if_true]
    refine Ev.step (f := fun _ => some false) (fun k => ?_) (Ev.now _)
    simp only [impl_WaitCloses.j0, if_true]
  | none =>
    simp only [Option.isSome_none, Bool.false_eq_true, false_or, if_false]
    cases ho : waitsOkB l with
    | false =>
      simp only [if_true]
      refine Ev.step (f := fun _ => some false) (fun k => ?_) (Ev.now _)
      simp only [impl_WaitCloses.j0, Bool.not_false, if_true]
    | true =>
      simp only [Bool.true_eq_false, if_false]
      refine Ev.step (fun k => ?_) (implCloses_l hw hl who (l.length + 1) 0 holder (by omega) (by omega))
      simp only [impl_WaitCloses.j0, Bool.not_true, Bool.false_eq_true, if_false]
      rw [wrap_succ (by omega) (by omega)]
      rfl

theorem implRing_l {l : List S47} (hw : WWf l) (hl : l.length ≤ 1048577) (who : Int) : ∀ (d : Nat) (out : List Int) (a : Int), out.length + d = l.length + 2 → Ev (fun k => impl_WaitRing.l0 k l who out a) (ringGo l who d out a) := by
  intro d
  induction d with
  | zero =>
    intro out a hd
    refine Ev.step (f := fun _ => some []) (fun k => ?_) (Ev.now _)
    simp only [impl_WaitRing.l0]
    rw [wrap_succ (by omega) (by omega), if_neg (by omega)]
  | succ d ih =>
    intro out a hd
    unfold ringGo
    cases hn : nx l a with
    | none =>
      refine Ev.step (f := fun _ => some []) (fun k => ?_) (Ev.now _)
      simp only [impl_WaitRing.l0, implNext hw, hn]
      rw [wrap_succ (by omega) (by omega), if_pos (by omega)]
      rfl
    | some y =>
      by_cases hy : y = who
      · simp only [if_pos hy]
        refine Ev.step (f := fun _ => some out) (fun k => ?_) (Ev.now _)
        simp only [impl_WaitRing.l0, implNext hw, hn]
        rw [wrap_succ (by omega) (by omega), if_pos (by omega)]
        simp [hy]
      · simp only [if_neg hy]
        refine Ev.step (fun k => ?_) (ih (out ++ [y]) y (by simp; omega))
        simp only [impl_WaitRing.l0, implNext hw, hn]
        rw [wrap_succ (by omega) (by omega), if_pos (by omega)]
        simp only [Option.bind_some, Option.isSome_some, if_true, Option.getD_some, if_neg hy]
        rw [if_pos (by omega)]
theorem implRing {l : List S47} (hw : WWf l) (hl : l.length ≤ 1048577) (who : Int) : Ev (fun k => impl_WaitRing.f k l who) (ringB l who) := by
  unfold impl_WaitRing.f ringB
  exact implRing_l hw hl who _ _ _ (by simp; omega)

def leftOf (holder : Int) (l : List S47) : List S47 := l.filter fun w => w.f1 != holder
def freeOf (holder : Int) (l : List S47) : List Int := (l.filter fun w => w.f1 == holder).map (·.f0)
theorem implFree_l (l : List S47) (hl : l.length ≤ 64) (holder : Int) : ∀ (d i : Nat), l.length - i = d → i ≤ l.length → Ev (fun k => impl_WaitFree.l0 k holder (leftOf holder (l.take i)) (freeOf holder (l.take i)) l (l.length : Int) i) (leftOf holder l, freeOf holder l) := by
  intro d
  induction d with
  | zero =>
    intro i hd hi
    obtain rfl : i = l.length := by omega
    rw [List.take_length]
    refine Ev.step (f := fun _ => some (leftOf holder l, freeOf holder l)) (fun k => ?_) (Ev.now _)
    simp only [impl_WaitFree.l0]
    rw [if_neg (by omega)]
  | succ d ih =>
    intro i hd hi
    have hil : i < l.length := by omega
    have h1 : (leftOf holder (l.take i)).length ≤ i := Nat.le_trans (List.length_filter_le _ _) (by simp; omega)
    have h2 : (freeOf holder (l.take i)).length ≤ i := by
      unfold freeOf
      rw [List.length_map]
      exact Nat.le_trans (List.length_filter_le _ _) (by simp; omega)
    refine Ev.step (fun k => ?_) (ih (i + 1) (by omega) (by omega))
    simp only [impl_WaitFree.l0]
    rw [if_pos (by omega), if_pos (by omega), if_pos (by omega), rd_wait l i hil, wrap_succ (by omega) (by omega)]
    by_cases h : l[i].f1 = holder
    · rw [if_pos h, if_pos (by omega)]
      have e1 : leftOf holder (l.take (i + 1)) = leftOf holder (l.take i) := by
        unfold leftOf
        rw [List.take_succ_eq_append_getElem hil, List.filter_append]
        simp [h]
      have e2 : freeOf holder (l.take (i + 1)) = freeOf holder (l.take i) ++ [l[i].f0] := by
        unfold freeOf
        rw [List.take_succ_eq_append_getElem hil, List.filter_append]
        simp [h]
      rw [e1, e2]
      rfl
    · rw [if_neg h, if_pos (by omega)]
      have e1 : leftOf holder (l.take (i + 1)) = leftOf holder (l.take i) ++ [l[i]] := by
        unfold leftOf
        rw [List.take_succ_eq_append_getElem hil, List.filter_append]
        simp [h]
      have e2 : freeOf holder (l.take (i + 1)) = freeOf holder (l.take i) := by
        unfold freeOf
        rw [List.take_succ_eq_append_getElem hil, List.filter_append]
        simp [h]
      rw [e1, e2]
      rfl
theorem waitsOk_len {l : List S47} (h : waitsOkB l = true) : l.length ≤ 64 := by
  simp only [waitsOkB, Bool.and_eq_true, decide_eq_true_eq] at h
  exact h.1
theorem implFree {l : List S47} (hw : WWf l) (holder : Int) : Ev (fun k => impl_WaitFree.f k l holder) (if waitsOkB l = true then (leftOf holder l, freeOf holder l) else ([], [])) := by
  unfold impl_WaitFree.f
  simp only [implOk hw, Option.bind_some]
  by_cases h : waitsOkB l = true
  · simp only [if_pos h]
    exact implFree_l l (waitsOk_len h) holder l.length 0 (by omega) (by omega)
  · simp only [if_neg h]
    exact Ev.now _

/-- The way from x. -/
def pos (l : List S47) (x : Int) : Nat → Option Int
  | 0 => some x
  | m + 1 => (pos l x m).bind (nx l)
theorem pos_add (l : List S47) (x y : Int) (p : Nat) (h : pos l x p = some y) : ∀ q, pos l x (p + q) = pos l y q
  | 0 => by rw [Nat.add_zero, h]; rfl
  | q + 1 => by
    show (pos l x (p + q)).bind (nx l) = (pos l y q).bind (nx l)
    rw [pos_add l x y p h q]
theorem pos_prev {l : List S47} {x y : Int} {p : Nat} (h : pos l x (p + 1) = some y) : ∃ z, pos l x p = some z ∧ nx l z = some y := Option.bind_eq_some_iff.1 h
theorem pos_le {l : List S47} {x : Int} : ∀ {p q : Nat} {y : Int}, pos l x p = some y → q ≤ p → ∃ z, pos l x q = some z
  | 0, q, y, h, hq => by
    obtain rfl : q = 0 := by omega
    exact ⟨y, h⟩
  | p + 1, q, y, h, hq => by
    rcases Nat.lt_or_ge p q with h1 | h1
    · obtain rfl : q = p + 1 := by omega
      exact ⟨y, h⟩
    · obtain ⟨z, hz, _⟩ := pos_prev h
      exact pos_le hz h1
theorem least {P : Nat → Prop} (h : ∃ n, P n) : ∃ n, P n ∧ ∀ m, m < n → ¬ P m := by
  obtain ⟨n, hn⟩ := h
  induction n using Nat.strongRecOn with
  | ind n ih =>
    by_cases hx : ∃ m, m < n ∧ P m
    · obtain ⟨m, h1, h2⟩ := hx
      exact ih m h1 h2
    · exact ⟨n, hn, fun m hm hp => hx ⟨m, hm, hp⟩⟩
theorem pigeon : ∀ (ks : List Int) (f : Nat → Int) (m : Nat), (∀ i, i < m → f i ∈ ks) → (∀ i j, i < j → j < m → f i ≠ f j) → m ≤ ks.length
  | [], f, m, h, _ => by
    rcases Nat.eq_zero_or_pos m with h0 | h0
    · omega
    · have := h 0 h0
      simp at this
  | k :: ks, f, m, h, hd => by
    by_cases hx : ∃ i, i < m ∧ f i = k
    · obtain ⟨i, hi, hk⟩ := hx
      have := pigeon ks (fun j => if j < i then f j else f (j + 1)) (m - 1) (fun j hj => by
        have hne : (if j < i then f j else f (j + 1)) ≠ k := by
          split
          · rename_i h1
            rw [← hk]
            exact hd j i h1 hi
          · rename_i h1
            rw [← hk]
            exact (hd i (j + 1) (by omega) (by omega)).symm
        have hm : (if j < i then f j else f (j + 1)) ∈ k :: ks := by
          split
          · exact h j (by omega)
          · exact h (j + 1) (by omega)
        rcases List.mem_cons.1 hm with h2 | h2
        · exact absurd h2 hne
        · exact h2) (fun a b hab hb => by
        show (if a < i then f a else f (a + 1)) ≠ (if b < i then f b else f (b + 1))
        split <;> split
        · exact hd a b hab (by omega)
        · exact hd a (b + 1) (by omega) (by omega)
        · omega
        · exact hd (a + 1) (b + 1) (by omega) (by omega))
      simp only [List.length_cons]
      omega
    · have := pigeon ks f m (fun j hj => by
        rcases List.mem_cons.1 (h j hj) with h2 | h2
        · exact absurd ⟨j, hj, h2⟩ hx
        · exact h2) hd
      simp only [List.length_cons]
      omega
theorem nx_key {l : List S47} {x y : Int} (h : nx l x = some y) : x ∈ l.map (·.f0) := by
  unfold nx at h
  split at h
  · obtain ⟨w, hw, _⟩ := Option.map_eq_some_iff.1 h
    have h1 := List.find?_some hw
    have h2 := List.mem_of_find?_eq_some hw
    exact List.mem_map.2 ⟨w, h2, by simpa using h1⟩
  · cases h
/-- The least way to w is no longer than the waits. -/
theorem way_short {l : List S47} {x w : Int} {p : Nat} (h : pos l x p = some w) (hm : ∀ q, q < p → pos l x q ≠ some w) : p ≤ l.length := by
  have hz : ∀ q, q < p → ∃ z, pos l x q = some z ∧ ∃ y, nx l z = some y := fun q hq => by
    obtain ⟨y, hy⟩ := pos_le h (show q + 1 ≤ p by omega)
    obtain ⟨z, hz, hn⟩ := pos_prev hy
    exact ⟨z, hz, y, hn⟩
  have := pigeon (l.map (·.f0)) (fun q => (pos l x q).getD 0) p (fun q hq => by
    obtain ⟨z, hz1, y, hn⟩ := hz q hq
    simp only [hz1, Option.getD_some]
    exact nx_key hn) (fun a b hab hb e => by
    obtain ⟨za, ha, _⟩ := hz a (by omega)
    obtain ⟨zb, hb2, _⟩ := hz b hb
    simp only [ha, hb2, Option.getD_some] at e
    subst e
    -- the way goes on alike from a and from b
    have h1 := pos_add l x za b hb2 (p - b)
    have h2 := pos_add l x za a ha (p - b)
    rw [show b + (p - b) = p by omega, h] at h1
    rw [← h1] at h2
    exact hm (a + (p - b)) (by omega) h2)
  simpa using this
theorem closesGo_iff (l : List S47) (who : Int) : ∀ (d : Nat) (a : Int), closesGo l who d a = true ↔ ∃ p, p < d ∧ pos l a p = some who
  | 0, a => by simp [closesGo]
  | d + 1, a => by
    unfold closesGo
    by_cases ha : a = who
    · rw [if_pos ha]
      exact ⟨fun _ => ⟨0, by omega, by rw [← ha]; rfl⟩, fun _ => rfl⟩
    · rw [if_neg ha]
      cases hn : nx l a with
      | none =>
        refine ⟨fun h => by simp at h, fun ⟨p, hp, h⟩ => ?_⟩
        cases p with
        | zero => exact absurd (Option.some.inj h) ha
        | succ p =>
          have := pos_add l a a 0 rfl (p + 1)
          rw [show p + 1 = 1 + p by omega] at h
          obtain ⟨z, hz⟩ := pos_le h (show 1 ≤ 1 + p by omega)
          have h1 : pos l a 1 = none := by show (some a).bind (nx l) = none; simp [hn]
          rw [h1] at hz
          cases hz
      | some y =>
        have h1 : pos l a 1 = some y := by show (some a).bind (nx l) = some y; simp [hn]
        rw [closesGo_iff l who d y]
        constructor
        · rintro ⟨p, hp, h⟩
          exact ⟨1 + p, by omega, by rw [pos_add l a y 1 h1 p]; exact h⟩
        · rintro ⟨p, hp, h⟩
          cases p with
          | zero => exact absurd (Option.some.inj h) ha
          | succ p =>
            refine ⟨p, by omega, ?_⟩
            rw [← pos_add l a y 1 h1 p, Nat.add_comm]
            exact h
/-- What a ring's list tells: nothing, or the way round. -/
theorem ringGo_tells (l : List S47) (who : Int) : ∀ (d : Nat) (out : List Int) (a : Int), 1 ≤ out.length → pos l who (out.length - 1) = some a → (∀ i (hi : i < out.length), pos l who i = some out[i]) →
    (ringGo l who d out a = [] ∧ ∀ p, out.length ≤ p → p < out.length + d → pos l who p ≠ some who) ∨ (ringGo l who d out a ≠ [] ∧ pos l who (ringGo l who d out a).length = some who ∧ ∀ i (hi : i < (ringGo l who d out a).length), pos l who i = some (ringGo l who d out a)[i])
  | 0, out, a, h1, ha, ho => .inl ⟨rfl, fun p hp hp2 => by omega⟩
  | d + 1, out, a, h1, ha, ho => by
    have hstep : pos l who out.length = nx l a := by
      have := pos_add l who a (out.length - 1) ha 1
      rw [show out.length - 1 + 1 = out.length by omega] at this
      rw [this]
      show (some a).bind (nx l) = _
      simp
    cases hn : nx l a with
    | none =>
      have e0 : ringGo l who (d + 1) out a = [] := by rw [ringGo, hn]
      rw [e0]
      refine .inl ⟨rfl, fun p hp hp2 h => ?_⟩
      obtain ⟨z, hz⟩ := pos_le h hp
      rw [hstep, hn] at hz
      cases hz
    | some y =>
      rw [hn] at hstep
      by_cases hy : y = who
      · have e0 : ringGo l who (d + 1) out a = out := by rw [ringGo, hn]; simp [hy]
        rw [e0]
        exact .inr ⟨by intro e; rw [e] at h1; simp at h1, by rw [hstep, hy], ho⟩
      · have e0 : ringGo l who (d + 1) out a = ringGo l who d (out ++ [y]) y := by rw [ringGo, hn]; simp [hy]
        rw [e0]
        have ih := ringGo_tells l who d (out ++ [y]) y (by simp) (by simpa using hstep) (fun i hi => by
          rw [List.getElem_append]
          split
          · exact ho i (by assumption)
          · obtain rfl : i = out.length := by simp at hi; omega
            simpa using hstep)
        rcases ih with ⟨e, h⟩ | h
        · refine .inl ⟨e, fun p hp hp2 hx => ?_⟩
          rcases Nat.lt_or_ge out.length p with h3 | h3
          · exact h p (by simp; omega) (by simp; omega) hx
          · obtain rfl : p = out.length := by omega
            rw [hstep] at hx
            exact hy (Option.some.inj hx)
        · exact .inr h
theorem ringB_tells (l : List S47) (who : Int) :
    (ringB l who = [] ∧ ∀ p, 1 ≤ p → p ≤ l.length + 1 → pos l who p ≠ some who) ∨ (ringB l who ≠ [] ∧ pos l who (ringB l who).length = some who ∧ ∀ i (hi : i < (ringB l who).length), pos l who i = some (ringB l who)[i]) := by
  unfold ringB
  rcases ringGo_tells l who (l.length + 1) [who] who (by simp) rfl (fun i hi => by
    obtain rfl : i = 0 := by simp at hi; omega
    rfl) with ⟨h1, h2⟩ | h
  · exact .inl ⟨h1, fun p hp hp2 => h2 p (by simpa using hp) (by simp; omega)⟩
  · exact .inr h
def NoCyc (l : List S47) : Prop := ∀ x p, 1 ≤ p → pos l x p ≠ some x
theorem ring_none {l : List S47} (h : NoCyc l) (x : Int) : ringB l x = [] := by
  rcases ringB_tells l x with ⟨h1, _⟩ | ⟨h1, h2, _⟩
  · exact h1
  · exact absurd h2 (h x _ (by rcases Nat.eq_zero_or_pos (ringB l x).length with h0 | h0
                               · exact absurd (List.eq_nil_of_length_eq_zero h0) h1
                               · omega))
/-- One wait more. -/
theorem nx_more {l : List S47} {who holder : Int} (ho : waitsOkB l = true) (hl : l.length < 64) (hn : nx l who = none) : waitsOkB (l ++ [⟨who, holder⟩]) = true ∧ ∀ x, nx (l ++ [⟨who, holder⟩]) x = if x = who then some holder else nx l x := by
  have hf : l.find? (fun w => w.f0 == who) = none := by
    unfold nx at hn
    rw [if_pos ho] at hn
    simpa using hn
  have hk : ¬ who ∈ l.map (·.f0) := by
    intro hm
    obtain ⟨w, hw, he⟩ := List.mem_map.1 hm
    have := List.find?_eq_none.1 hf w hw
    simp [he] at this
  have ho2 : waitsOkB (l ++ [⟨who, holder⟩]) = true := by
    simp only [waitsOkB, allDiff, Bool.and_eq_true, decide_eq_true_eq] at ho ⊢
    refine ⟨by simp; omega, ?_⟩
    rw [List.map_append, List.nodup_append]
    refine ⟨ho.2, by simp, fun a ha b hb e => ?_⟩
    simp at hb
    subst hb
    exact hk (e ▸ ha)
  refine ⟨ho2, fun x => ?_⟩
  unfold nx
  rw [if_pos ho2, if_pos ho, List.find?_append]
  by_cases hx : x = who
  · subst hx
    rw [if_pos rfl, hf]
    simp
  · rw [if_neg hx]
    cases hq : l.find? (fun w => w.f0 == x) with
    | some w => simp
    | none => simp [Ne.symm hx]
section
variable {l m : List S47} {who holder : Int} (hm : ∀ x, nx m x = if x = who then some holder else nx l x)
include hm
theorem way_more : ∀ q, (∀ j, j < q → pos l holder j ≠ some who) → pos m who (q + 1) = pos l holder q
  | 0, _ => by
    show (some who).bind (nx m) = some holder
    simp [hm]
  | q + 1, h => by
    show (pos m who (q + 1)).bind (nx m) = (pos l holder q).bind (nx l)
    rw [way_more q (fun j hj => h j (by omega))]
    cases hp : pos l holder q with
    | none => rfl
    | some z =>
      have hz : z ≠ who := fun e => h q (by omega) (by rw [hp, e])
      simp [hm, hz]
theorem way_back : ∀ q, (∀ j, j < q → pos m who (j + 1) ≠ some who) → pos m who (q + 1) = pos l holder q
  | 0, _ => by
    show (some who).bind (nx m) = some holder
    simp [hm]
  | q + 1, h => by
    show (pos m who (q + 1)).bind (nx m) = (pos l holder q).bind (nx l)
    rw [← way_back q (fun j hj => h j (by omega))]
    cases hp : pos m who (q + 1) with
    | none => rfl
    | some z =>
      have hz : z ≠ who := fun e => h q (by omega) (by rw [hp, e])
      simp [hm, hz]
theorem way_else {x : Int} : ∀ q, (∀ j, j < q → pos m x j ≠ some who) → pos m x q = pos l x q
  | 0, _ => rfl
  | q + 1, h => by
    show (pos m x q).bind (nx m) = (pos l x q).bind (nx l)
    rw [← way_else q (fun j hj => h j (by omega))]
    cases hp : pos m x q with
    | none => rfl
    | some z =>
      have hz : z ≠ who := fun e => h q (by omega) (by rw [hp, e])
      simp [hm, hz]
/-- A ring through who is one that the wait closes. -/
theorem closed_of {p : Nat} (hp : 1 ≤ p) (h : pos m who p = some who) : ∃ q, q ≤ l.length ∧ pos l holder q = some who := by
  obtain ⟨p0, ⟨h1, h2⟩, hmin⟩ := least (P := fun p => 1 ≤ p ∧ pos m who p = some who) ⟨p, hp, h⟩
  obtain ⟨q, rfl⟩ : ∃ q, p0 = q + 1 := ⟨p0 - 1, by omega⟩
  have hb := way_back hm q (fun j hj hx => hmin (j + 1) (by omega) ⟨by omega, hx⟩)
  rw [h2] at hb
  refine ⟨q, way_short hb.symm (fun j hj hx => ?_), hb.symm⟩
  have := way_back hm j (fun i hi hx2 => hmin (i + 1) (by omega) ⟨by omega, hx2⟩)
  rw [hx] at this
  exact hmin (j + 1) (by omega) ⟨by omega, this⟩
theorem ring_iff (hml : m.length = l.length + 1) : (∃ q, q ≤ l.length ∧ pos l holder q = some who) ↔ ringB m who ≠ [] := by
  constructor
  · rintro ⟨q, hq, h⟩
    obtain ⟨q0, h2, hmin⟩ := least (P := fun q => pos l holder q = some who) ⟨q, h⟩
    have hq0 : q0 ≤ q := by
      rcases Nat.lt_or_ge q q0 with h3 | h3
      · exact absurd h (hmin q h3)
      · exact h3
    have hb := way_more hm q0 (fun j hj => hmin j hj)
    rw [h2] at hb
    rcases ringB_tells m who with ⟨_, h3⟩ | ⟨h3, _⟩
    · exact absurd hb (h3 (q0 + 1) (by omega) (by omega))
    · exact h3
  · intro h
    rcases ringB_tells m who with ⟨h3, _⟩ | ⟨h3, h4, _⟩
    · exact absurd h3 h
    · exact closed_of hm (by
        rcases Nat.eq_zero_or_pos (ringB m who).length with h0 | h0
        · exact absurd (List.eq_nil_of_length_eq_zero h0) h3
        · omega) h4
theorem noCyc_more (hc : NoCyc l) (hno : ¬ ∃ q, q ≤ l.length ∧ pos l holder q = some who) : NoCyc m := by
  intro x p hp h
  by_cases hx : ∃ q, q < p ∧ pos m x q = some who
  · obtain ⟨q, hq, hw⟩ := hx
    have h1 := pos_add m x who q hw p
    have h2 := pos_add m x x p h q
    rw [Nat.add_comm] at h1
    rw [h1, hw] at h2
    exact hno (closed_of hm hp h2)
  · have := way_else hm p (fun j hj hw => hx ⟨j, hj, hw⟩)
    rw [h] at this
    exact hc x p hp this.symm
end

theorem u8_wf {n : Int} (h : (Lit.int .u8 n).wf = true) : 0 ≤ n ∧ n ≤ 255 := by
  simp [Lit.wf, IntKind.min, IntKind.max, IntKind.signed, IntKind.bits] at h
  omega
def Bytes (l : List Int) : Prop := l.length ≤ 1048576 ∧ ∀ x ∈ l, (Lit.int .u8 x).wf = true
theorem at_tells {l : List Int} (h : Bytes l) (a : Int) (h0 : 0 ≤ a) (h1 : a ≤ 1048576) : ∃ t, laws_at.f l a = some t ∧ 0 ≤ t ∧ t ≤ 255 := by
  have hl := h.1
  unfold laws_at.f
  by_cases hx : a < (l.length : Int)
  · have hb : 0 ≤ rd l a ∧ rd l a ≤ 255 := by
      have hlt : a.toNat < l.length := by omega
      have : rd l a = l[a.toNat] := by simp [rd, List.getD_eq_getElem?_getD, hlt]
      rw [this]
      exact u8_wf (h.2 _ (List.getElem_mem _))
    rw [if_pos hx, if_pos h0, wrap_id (by omega) (by omega)]
    exact ⟨_, rfl, hb.1, hb.2⟩
  · rw [if_neg hx, wrap_id (i := a * 7) (by omega) (by omega), wrap_id (i := a * 7 + (l.length : Int)) (by omega) (by omega), Int.tmod_eq_emod_of_nonneg (by omega)]
    exact ⟨_, rfl, by omega, by omega⟩

structure RInv (l : List S47) (i : Nat) : Prop where
  ok : waitsOkB l = true
  len : l.length ≤ i
  rng : ∀ w ∈ l, (1 ≤ w.f0 ∧ w.f0 ≤ 9) ∧ 1 ≤ w.f1 ∧ w.f1 ≤ 9
  no : NoCyc l
theorem wf_of {n : Int} (h0 : -9223372036854775808 ≤ n) (h1 : n ≤ 9223372036854775807) : (Lit.int .i64 n).wf = true := by
  simp [Lit.wf, IntKind.min, IntKind.max, IntKind.signed, IntKind.bits]
  omega
theorem rng_wf {l : List S47} (h : ∀ w ∈ l, (1 ≤ w.f0 ∧ w.f0 ≤ 9) ∧ 1 ≤ w.f1 ∧ w.f1 ≤ 9) : WWf l := fun x hx => wf_of (by have := (h x hx).1; omega) (by have := (h x hx).1; omega)
theorem drawn9 (t : Int) (h0 : 0 ≤ t) (h1 : t ≤ 255) : 1 ≤ wrap64 (1 + Int.tmod t 9) ∧ wrap64 (1 + Int.tmod t 9) ≤ 9 := by
  rw [Int.tmod_eq_emod_of_nonneg h0, wrap_id (by omega) (by omega)]
  omega
theorem left_free (holder : Int) : ∀ l : List S47, (leftOf holder l).length + (freeOf holder l).length = l.length
  | [] => rfl
  | w :: l => by
    have := left_free holder l
    unfold leftOf freeOf at this ⊢
    by_cases h : w.f1 = holder
    · simp [h] at this ⊢
      omega
    · simp [h] at this ⊢
      omega
theorem nx_two : ∀ x, nx [(⟨1, 2⟩ : S47)] x = if x = 1 then some 2 else none := by
  intro x
  unfold nx
  rw [if_pos (by simp [waitsOkB, allDiff])]
  by_cases h : x = 1
  · subst h
    simp
  · rw [if_neg h]
    simp [Ne.symm h]
theorem closes_two : closesB [(⟨1, 2⟩ : S47)] 2 1 = true := by
  unfold closesB
  rw [if_neg (by simp [nx_two, waitsOkB, allDiff]), closesGo_iff]
  refine ⟨1, by simp, ?_⟩
  show (some 1).bind (nx [(⟨1, 2⟩ : S47)]) = some 2
  simp [nx_two]
theorem rings_end (code : List Int) (hb : Bytes code) (l : List S47) (h : RInv l 12) : ∀ d j : Nat, 10 - j = d → 1 ≤ j → j ≤ 10 → Ev (fun k => laws_FnRings.l2 k code l j) true := by
  have hw := rng_wf h.rng
  have hlen := h.len
  intro d
  induction d with
  | zero =>
    intro j hd h1 h2
    obtain rfl : j = 10 := by omega
    obtain ⟨t, ht, ht0, ht1⟩ := at_tells hb 40 (by omega) (by omega)
    have h3 := left_free (wrap64 (1 + Int.tmod t 9)) l
    have key : Ev (fun k => (impl_WaitFree.f k l (wrap64 (1 + (Int.tmod t 9)))).bind fun bt150 => ((impl_WaitsOk.f l).bind fun t156 => (if t156 = true then (if (wrap64 ((bt150.1.length : Int) + (bt150.2.length : Int))) = (l.length : Int) then ((impl_WaitCloses.f k (([(⟨1, 2⟩ : S47)] : List (S47))) 2 1).bind fun t160 => (some t160)) else (some false)) else (some false)))) true := by
      have hf := implFree hw (wrap64 (1 + (Int.tmod t 9)))
      rw [if_pos h.ok] at hf
      have hsum : wrap64 (((leftOf (wrap64 (1 + Int.tmod t 9)) l).length : Int) + ((freeOf (wrap64 (1 + Int.tmod t 9)) l).length : Int)) = (l.length : Int) := by
        rw [wrap_id (by omega) (by omega)]
        omega
      have hw2 : WWf [(⟨1, 2⟩ : S47)] := fun x hx => by
        obtain rfl : x = ⟨1, 2⟩ := by simpa using hx
        exact wf_of (by show (-9223372036854775808 : Int) ≤ 1; omega) (by show (1 : Int) ≤ 9223372036854775807; omega)
      have hc := implCloses hw2 (by simp) 2 1
      rw [closes_two] at hc
      refine Ev.bind hf (Ev.congr (fun k => ?_) (Ev.bind hc (Ev.now true)))
      rw [implOk hw, Option.bind_some, if_pos h.ok, if_pos hsum]
    refine Ev.step (fun k => ?_) key
    simp only [laws_FnRings.l2]
    rw [if_neg (by omega), ht, Option.bind_some]
  | succ d ih =>
    intro j hd h1 h2
    have hr := implRing hw (by omega) (j : Int)
    rw [ring_none h.no] at hr
    have key : Ev (fun k => (impl_WaitRing.f k l j).bind fun t146 => (if (t146.length : Int) > 0 then (some false) else (laws_FnRings.l2 k code l (wrap64 ((j : Int) + 1))))) true := by
      refine Ev.bind hr ?_
      simp only [List.length_nil]
      rw [wrap_succ (by omega) (by omega)]
      simp only [show ¬ (((0 : Nat) : Int) > 0) by omega, if_false]
      exact ih (j + 1) (by omega) (by omega) (by omega)
    refine Ev.step (fun k => ?_) key
    simp only [laws_FnRings.l2]
    rw [if_pos (by omega)]
theorem rings_ring (code : List Int) (l m : List S47) (hwm : WWf m) (who : Int) (b : Bool) (x4 : Int) (r : List Int) (hlen : r.length ≤ 1000) (ht : r = ringB m who) (hnext : Ev (fun k => if b = true then laws_FnRings.l0 k code l (wrap64 (x4 + 1)) else laws_FnRings.l0 k code m (wrap64 (x4 + 1))) true) :
    ∀ d i : Nat, r.length - i = d → i ≤ r.length → Ev (fun k => laws_FnRings.l1 k code l x4 m b r i) true := by
  intro d
  induction d with
  | zero =>
    intro i hd hi
    refine Ev.step (fun k => ?_) hnext
    simp only [laws_FnRings.l1]
    rw [if_neg (by omega)]
  | succ d ih =>
    intro i hd hi
    have hil : i < r.length := by omega
    rcases ringB_tells m who with ⟨h1, _⟩ | ⟨h1, h2, h3⟩
    · rw [← ht] at h1
      rw [h1] at hil
      simp at hil
    · rw [← ht] at h2 h3
      have hmod : Int.tmod (wrap64 ((i : Int) + 1)) (r.length : Int) = if i + 1 < r.length then (i : Int) + 1 else 0 := by
        rw [wrap_succ (by omega) (by omega), Int.tmod_eq_emod_of_nonneg (by omega)]
        split
        · exact Int.emod_eq_of_lt (by omega) (by omega)
        · rw [show (i : Int) + 1 = (r.length : Int) by omega]
          exact Int.emod_self
      have hcur : rd r i = r[i] := by simp [rd, hil]
      have hn : nx m r[i] = some (rd r (Int.tmod (wrap64 ((i : Int) + 1)) (r.length : Int))) := by
        have hp := pos_add m who r[i] i (h3 i hil) 1
        have hp1 : pos m r[i] 1 = nx m r[i] := by show (some r[i]).bind (nx m) = _; simp
        rw [hp1] at hp
        rw [← hp, hmod]
        split
        · rename_i h4
          rw [h3 (i + 1) h4]
          congr 1
          rw [show (i : Int) + 1 = ((i + 1 : Nat) : Int) by omega]
          simp [rd, h4]
        · rw [show i + 1 = r.length by omega, h2]
          congr 1
          have h0 := h3 0 (by omega)
          have h5 : pos m who 0 = some who := rfl
          rw [h5] at h0
          have h6 : rd r 0 = r[0] := by simp [rd, show 0 < r.length by omega]
          rw [h6]
          exact Option.some.inj h0
      have hin : 0 ≤ Int.tmod (wrap64 ((i : Int) + 1)) (r.length : Int) ∧ Int.tmod (wrap64 ((i : Int) + 1)) (r.length : Int) < (r.length : Int) := by
        rw [hmod]
        split <;> omega
      refine Ev.step (fun k => ?_) (ih (i + 1) (by omega) (by omega))
      simp only [laws_FnRings.l1, hcur, implNext hwm, hn, Option.bind_some, Option.isSome_some, if_true, Option.getD_some]
      rw [if_pos (by omega), if_pos (by omega), if_neg (by omega), if_pos hin.1, if_pos hin.2, wrap_succ (by omega) (by omega)]
      rfl
theorem rings_main (code : List Int) (hb : Bytes code) : ∀ d i : Nat, 12 - i = d → i ≤ 12 → ∀ l : List S47, RInv l i → Ev (fun k => laws_FnRings.l0 k code l i) true := by
  intro d
  induction d with
  | zero =>
    intro i hd hi l h
    obtain rfl : i = 12 := by omega
    refine Ev.step (fun k => ?_) (rings_end code hb l h 9 1 (by omega) (by omega) (by omega))
    simp only [laws_FnRings.l0]
    rw [if_neg (by omega)]
    rfl
  | succ d ih =>
    intro i hd hi l h
    have hw := rng_wf h.rng
    have hlen := h.len
    obtain ⟨t, ht, ht0, ht1⟩ := at_tells hb (2 * (i : Int)) (by omega) (by omega)
    obtain ⟨u, hu, hu0, hu1⟩ := at_tells hb (2 * (i : Int) + 1) (by omega) (by omega)
    have dw := drawn9 t ht0 ht1
    have dh := drawn9 u hu0 hu1
    have hG : wrap64 ((i : Int) + 1) = (i : Int) + 1 := wrap_succ (by omega) (by omega)
    have hI : (i : Int) < 12 := by omega
    have hJ : wrap64 (2 * (i : Int)) = 2 * (i : Int) := wrap_id (by omega) (by omega)
    have hK : wrap64 (2 * (i : Int) + 1) = 2 * (i : Int) + 1 := wrap_id (by omega) (by omega)
    generalize hwho : wrap64 (1 + Int.tmod t 9) = who at dw
    generalize hhold : wrap64 (1 + Int.tmod u 9) = holder at dh
    have hstep : RInv l (i + 1) := ⟨h.ok, by omega, h.rng, h.no⟩
    cases hn : nx l who with
    | some y =>
      refine Ev.step (fun k => ?_) (ih (i + 1) (by omega) (by omega) l hstep)
      simp only [laws_FnRings.l0]
      rw [if_pos (by omega), wrap_id (i := 2 * (i : Int)) (by omega) (by omega), ht, Option.bind_some, wrap_id (i := 2 * (i : Int) + 1) (by omega) (by omega), hu, Option.bind_some, hwho, implNext hw, hn, wrap_succ (i := (i : Int)) (by omega) (by omega)]
      simp
    | none =>
      obtain ⟨hok2, hmore⟩ := nx_more (holder := holder) h.ok (by omega) hn
      have hrng2 : ∀ w ∈ l ++ [⟨who, holder⟩], (1 ≤ w.f0 ∧ w.f0 ≤ 9) ∧ 1 ≤ w.f1 ∧ w.f1 ≤ 9 := by
        intro w hw
        rcases List.mem_append.1 hw with h1 | h1
        · exact h.rng w h1
        · obtain rfl : w = ⟨who, holder⟩ := by simpa using h1
          exact ⟨dw, dh⟩
      have hw2 := rng_wf hrng2
      have hA : 12 - (i + 1) = d := by omega
      have hB : i + 1 ≤ 12 := by omega
      have hC : (l ++ [(⟨who, holder⟩ : S47)]).length ≤ i + 1 := by simp; omega
      have hD : (l ++ [(⟨who, holder⟩ : S47)]).length ≤ 1048577 := by simp; omega
      have hE : l.length ≤ 1048577 := by omega
      have hL : 0 + l.length < 8796093022208 := by omega
      have hM : l.length < 8796093022208 := by omega
      have hri := ring_iff hmore (by simp)
      have hcl : closesB l who holder = true ↔ ∃ q, q ≤ l.length ∧ pos l holder q = some who := by
        unfold closesB
        rw [if_neg (by simp [hn, h.ok]), closesGo_iff]
        constructor
        · rintro ⟨p, h1, h2⟩
          exact ⟨p, by omega, h2⟩
        · rintro ⟨p, h1, h2⟩
          exact ⟨p, by omega, h2⟩
      have hrl : (ringB (l ++ [⟨who, holder⟩]) who).length ≤ 1000 := by
        rcases ringB_tells (l ++ [⟨who, holder⟩]) who with ⟨h1, _⟩ | ⟨h1, h2, h3⟩
        · rw [h1]; simp
        · -- each round adds one
          have : ∀ d out a, (ringGo (l ++ [(⟨who, holder⟩ : S47)]) who d out a).length ≤ out.length + d := by
            intro d
            induction d with
            | zero => intro out a; simp [ringGo]
            | succ d ih2 =>
              intro out a
              rw [ringGo]
              split
              · simp
              · split
                · omega
                · rename_i y _ _
                  have := ih2 (out ++ [y]) y
                  simp at this
                  omega
          have := this (l.length + 2) [who] who
          unfold ringB
          rw [List.length_append, List.length_singleton]
          have h9 : [who].length + (l.length + 2) ≤ 1000 := by simp; omega
          exact Nat.le_trans this h9
      have hsame : (closesB l who holder != decide (((ringB (l ++ [⟨who, holder⟩]) who).length : Int) > 0)) = false := by
        cases hc : closesB l who holder with
        | true =>
          have := hri.1 (hcl.1 hc)
          have : 0 < (ringB (l ++ [⟨who, holder⟩]) who).length := List.length_pos_iff.2 this
          rw [decide_eq_true (by omega)]
          rfl
        | false =>
          have : ¬ (ringB (l ++ [⟨who, holder⟩]) who ≠ []) := fun hx => by
            rw [hcl.2 (hri.2 hx)] at hc
            cases hc
          have : ringB (l ++ [⟨who, holder⟩]) who = [] := Classical.not_not.1 this
          rw [this]
          simp
      have hnext : Ev (fun k => if closesB l who holder = true then laws_FnRings.l0 k code l (wrap64 ((i : Int) + 1)) else laws_FnRings.l0 k code (l ++ [⟨who, holder⟩]) (wrap64 ((i : Int) + 1))) true := by
        rw [hG]
        cases hc : closesB l who holder with
        | true =>
          simp only [if_true]
          exact ih (i + 1) hA hB l hstep
        | false =>
          simp only [Bool.false_eq_true, if_false]
          exact ih (i + 1) hA hB _ ⟨hok2, hC, hrng2, noCyc_more hmore h.no (fun hx => by rw [hcl.2 hx] at hc; cases hc)⟩
      have hring := rings_ring code l _ hw2 who (closesB l who holder) i _ hrl rfl hnext _ 0 rfl (Nat.zero_le _)
      have key : Ev (fun k => (impl_WaitCloses.f k l who holder).bind fun t138 => ((impl_WaitRing.f k (l ++ [⟨who, holder⟩]) who).bind fun t139 => (if (t138 != (decide ((t139.length : Int) > 0))) = true then (some false) else (laws_FnRings.l1 k code l i (l ++ [⟨who, holder⟩]) t138 t139 0)))) true := by
        refine Ev.bind (implCloses hw hE who holder) ?_
        refine Ev.bind (implRing hw2 hD who) ?_
        simp only [hsame, Bool.false_eq_true, if_false]
        exact hring
      refine Ev.step (fun k => ?_) key
      simp only [laws_FnRings.l0]
      rw [if_pos hI, hJ, ht, Option.bind_some, hK, hu, Option.bind_some, hwho, hhold, implNext hw, hn]
      simp only [Option.bind_some, Option.isSome_none, Bool.false_eq_true, if_false, List.nil_append, List.length_nil]
      rw [if_pos hL, if_pos hM]
theorem FnRings (l : List Int) (h : l.length ≤ 9223372036854775807 ∧ ∀ x ∈ l, (Lit.int .u8 x).wf = true) : ∃ k, laws_FnRings.f k l = some true := by
  have key : Ev (fun k => laws_FnRings.f k l) true := by
    unfold laws_FnRings.f laws_big.f
    simp only [Option.bind_some, decide_eq_true_eq]
    by_cases hs : (l.length : Int) > 1048576
    · simp only [if_pos hs]
      exact Ev.now _
    · simp only [if_neg hs]
      have h0 : RInv [] 0 := ⟨by decide, by simp, by simp, fun x p hp hx => by
        obtain ⟨z, hz⟩ := pos_le hx hp
        have : pos [] x 1 = none := by
          show (some x).bind (nx []) = none
          simp [nx]
        rw [this] at hz
        cases hz⟩
      exact rings_main l ⟨by omega, h.2⟩ 12 0 (by omega) (by omega) [] h0
  exact key.rounds

end Go.Proofs.Ytciflbagdlkgpaa.Pure
