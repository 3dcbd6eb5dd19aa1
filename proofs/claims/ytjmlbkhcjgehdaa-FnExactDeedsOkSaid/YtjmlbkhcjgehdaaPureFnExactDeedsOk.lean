/- FnExactDeedsOk: the pure half: what the printed functions answer, without Go and memory. No condition beside those that each theorem states. -/
import Derived.Test.YtjmlbkhcjgehdaaPFnExactDeedsOkx
import Derived.Test.YtjmlbkhcjgehdaaOFnExactDeedsOk
namespace Go.Proofs.Ytjmlbkhcjgehdaa.Pure
open Go.RowKit Go.Proofs.Ytjmlbkhcjgehdaa.PFnExactDeedsOk Go.Proofs.YtjmlbkhcjgehdaaW.PrintWords Go.Proofs.YtjmlbkhcjgehdaaW.PrintLast Go.Proofs.YtjmlbkhcjgehdaaW.PrintMore Go.Proofs.Ytjmlbkhcjgehdaa.HFl Go.Proofs.Ytjmlbkhcjgehdaa.HMap Go.Proofs.Ytjmlbkhcjgehdaa.HMore
set_option linter.unusedVariables false
set_option linter.unusedSimpArgs false

theorem pAllO_some {α : Type} {g : α → Option Bool} {p : α → Bool} : ∀ {l : List α}, (∀ x ∈ l, g x = some (p x)) → allO g l = some (l.all p)
  | [], _ => rfl
  | x :: xs, h => by
    have h2 : allO g xs = some (xs.all p) := pAllO_some fun y hy => h y (List.mem_cons_of_mem _ hy)
    simp only [allO, h x (List.mem_cons_self), h2, Option.bind_some, List.all_cons]

theorem pDiffO_some {α : Type} {g : α → Option Int} {p : α → Int} {l : List α} (h : ∀ x ∈ l, g x = some (p x)) (hw : ∀ x ∈ l, (Lit.int .i64 (p x)).wf = true) : diffO g l = some (decide (l.map p).Nodup) := by
  unfold diffO
  rw [listO_some h, Option.bind_some, if_pos]
  rw [List.all_eq_true]
  intro y hy
  obtain ⟨x, hx, rfl⟩ := List.mem_map.1 hy
  exact hw x hx

theorem wrap_succ {i : Int} (h0 : 0 ≤ i) (h : i ≤ 9223372036854775806) : wrap64 (i + 1) = i + 1 := by
  unfold wrap64
  omega

theorem drop_rd (l : List Int) (i : Nat) (h : i < l.length) : l.drop i = rd l (i : Int) :: l.drop (i + 1) := by
  rw [List.drop_eq_getElem_cons h]
  simp [rd, List.getD_eq_getElem?_getD, h]

/-- A loop that is walked from its end: what it tells at i follows from what it tells at i + 1. -/
theorem ev_down {ρ : Type} (F : Nat → Int → Option ρ) (R : Nat → ρ → Prop) (n : Nat) (hend : ∀ r, R n r → Ev (fun k => F k n) r) (hstep : ∀ i, i < n → (∀ r, R (i + 1) r → Ev (fun k => F k ((i + 1 : Nat) : Int)) r) → ∀ r, R i r → Ev (fun k => F k (i : Int)) r) :
    ∀ i, i ≤ n → ∀ r, R i r → Ev (fun k => F k (i : Int)) r := by
  have key : ∀ d i, n - i = d → i ≤ n → ∀ r, R i r → Ev (fun k => F k (i : Int)) r := by
    intro d
    induction d with
    | zero =>
      intro i hd hi
      obtain rfl : i = n := by omega
      exact hend
    | succ d ih =>
      intro i hd hi
      exact hstep i (by omega) (ih (i + 1) (by omega) (by omega))
  intro i hi
  exact key _ i rfl hi

theorem ev_if_pos {ρ : Type} {c : Prop} [Decidable c] {a b : Nat → Option ρ} {r : ρ} (h : c) (k : Ev a r) : Ev (fun n => if c then a n else b n) r := by simpa only [if_pos h] using k
theorem ev_if_neg {ρ : Type} {c : Prop} [Decidable c] {a b : Nat → Option ρ} {r : ρ} (h : ¬ c) (k : Ev b r) : Ev (fun n => if c then a n else b n) r := by simpa only [if_neg h] using k

theorem set_fill {α β : Type} (l : List α) (m : List β) (g : α → β) (i : Nat) (hi : i < l.length) (h : l.length = m.length) : ((l.take i).map g ++ m.drop i).set i (g l[i]) = (l.take (i + 1)).map g ++ m.drop (i + 1) := by
  apply List.ext_getElem?
  intro j
  simp only [List.getElem?_set, List.getElem?_append, List.length_map, List.length_take, List.getElem?_map, List.getElem?_take, List.getElem?_drop, List.length_append, List.length_drop]
  rw [Nat.min_eq_left (by omega), Nat.min_eq_left (by omega)]
  by_cases h1 : i = j
  · subst h1
    simp [hi]
    omega
  · by_cases h2 : j < i
    · simp [h1, h2, show j < i + 1 by omega]
    · simp only [h1, h2, if_false, show ¬ j < i + 1 by omega]
      congr 1
      omega

/-- A loop that fills a row, element by element. -/
theorem fill_ev {α β : Type} (l : List α) (g : α → β) (z : β) (F : Nat → List β → Int → Option (List β)) (hend : ∀ out, Ev (fun k => F k out (l.length : Int)) out)
    (hstep : ∀ (i : Nat) (hi : i < l.length) (out : List β) (r : List β), out.length = l.length → Ev (fun k => F k (out.set i (g l[i])) ((i + 1 : Nat) : Int)) r → Ev (fun k => F k out (i : Int)) r) :
    Ev (fun k => F k (List.replicate l.length z) 0) (l.map g) := by
  have key : ∀ d i, l.length - i = d → i ≤ l.length → Ev (fun k => F k ((l.take i).map g ++ (List.replicate l.length z).drop i) (i : Int)) (l.map g) := by
    intro d
    induction d with
    | zero =>
      intro i hd hi
      obtain rfl : i = l.length := by omega
      have h := hend (l.map g)
      simpa using h
    | succ d ih =>
      intro i hd hi
      refine hstep i (by omega) _ _ (by simp; omega) ?_
      rw [set_fill l _ g i (by omega) (by simp)]
      exact ih (i + 1) (by omega) (by omega)
  have h := key l.length 0 (by omega) (by omega)
  simpa using h
theorem ev_eq {ρ : Type} {x : Option ρ} {r : ρ} (h : x = some r) : Ev (fun _ => x) r := ⟨0, fun _ _ => h⟩
/-- A loop that turns a row, element by element, whatever stood there. -/
theorem turn_ev {β ρ : Type} (m : List β) (l : List β) (hm : m.length = l.length) (F : Nat → List β → Int → Option ρ) (r : ρ) (hend : Ev (fun k => F k l (l.length : Int)) r)
    (hstep : ∀ (i : Nat) (hi : i < l.length) (out : List β), out.length = l.length → Ev (fun k => F k (out.set i l[i]) ((i + 1 : Nat) : Int)) r → Ev (fun k => F k out (i : Int)) r) : Ev (fun k => F k m 0) r := by
  have key : ∀ d i, l.length - i = d → i ≤ l.length → Ev (fun k => F k ((l.take i).map id ++ m.drop i) (i : Int)) r := by
    intro d
    induction d with
    | zero =>
      intro i hd hi
      obtain rfl : i = l.length := by omega
      simpa [List.drop_eq_nil_of_le (show m.length ≤ l.length by omega)] using hend
    | succ d ih =>
      intro i hd hi
      refine hstep i (by omega) _ (by simp; omega) ?_
      have := set_fill l m id i (by omega) hm.symm
      simp only [id] at this ⊢
      rw [this]
      have h2 := ih (i + 1) (by omega) (by omega)
      simpa using h2
  have h := key l.length 0 (by omega) (by omega)
  simpa using h

theorem int_wf {n : Int} (h : (Lit.int .i64 n).wf = true) : -9223372036854775808 ≤ n ∧ n ≤ 9223372036854775807 := by
  simp [Lit.wf, IntKind.min, IntKind.max, IntKind.signed, IntKind.bits] at h
  omega
theorem wrap_id {i : Int} (h0 : -9223372036854775808 ≤ i) (h : i ≤ 9223372036854775807) : wrap64 i = i := by
  unfold wrap64
  omega

theorem within_eq (a lo hi : Int) : impl_within.f a lo hi = some (decide (lo ≤ a ∧ a ≤ hi)) := by
  unfold impl_within.f
  by_cases h : lo ≤ a
  · rw [if_pos h]; simp [h]
  · rw [if_neg h]; simp [h]

theorem canon_zero (F : Nat) : HFloat.canon F = 0 ↔ F = 0 := by
  unfold HFloat.canon HFloat.isN
  split
  · rename_i h
    rw [decide_eq_true_eq] at h
    constructor
    · intro e; omega
    · intro e; omega
  · rfl
theorem floatBits_eq {F : Nat} (h : F < 18446744073709551616) : spec_FloatBits.f F = some ((HFloat.canon F : Nat) : Int) := by
  unfold spec_FloatBits.f
  rw [if_pos h]
/-- Whether an item is in its form. -/
def okItem (K N : Int) (F : Nat) (T : List Int) : Bool := decide (0 ≤ K ∧ K ≤ 3) && (decide (N = 0) || decide (K = 1)) && (decide (F = 0) || decide (K = 2)) && (decide (T.length = 0) || (decide (K = 3) && decide (T.length ≤ 40)))
theorem implItemOk (K N : Int) (F : Nat) (T : List Int) : impl_ItemOk.f K N F T = some (okItem K N F T) := by
  unfold impl_ItemOk.f okItem
  rw [within_eq, Option.bind_some]
  by_cases h0 : 0 ≤ K ∧ K ≤ 3
  · rw [if_pos (decide_eq_true h0), decide_eq_true h0]
    have e1 : ((F : Int) = 0) ↔ F = 0 := by omega
    have e2 : ((T.length : Int) = 0) ↔ T.length = 0 := by omega
    have e3 : ((T.length : Int) ≤ 40) ↔ T.length ≤ 40 := by omega
    simp only [e1, e2, e3]
    by_cases h1 : N = 0 <;> by_cases h2 : F = 0 <;> by_cases h3 : T.length = 0 <;> by_cases h5 : K = 1 <;> by_cases h6 : K = 2 <;> by_cases h7 : K = 3 <;> simp [h1, h2, h3, h5, h6, h7]
  · rw [if_neg (by rw [decide_eq_false h0]; decide), decide_eq_false h0]
    rfl
theorem specItemOk (K N : Int) (F : Nat) (T : List Int) (hF : F < 18446744073709551616) : Ev (fun k => spec_ItemOk.f k K N F T) (okItem K N F T) := by
  refine ⟨2, fun k hk => ?_⟩
  obtain ⟨m, rfl⟩ : ∃ m, k = m + 2 := ⟨k - 2, by omega⟩
  simp only [spec_ItemOk.f, spec_ItemOk.j0, spec_ItemOk.j1, floatBits_eq hF, Option.bind_some]
  unfold okItem
  have e1 : (((HFloat.canon F : Nat) : Int) = 0) ↔ F = 0 := by rw [← canon_zero F]; omega
  have e2 : ((T.length : Int) = 0) ↔ T.length = 0 := by omega
  have e3 : ((T.length : Int) > 40) ↔ ¬ T.length ≤ 40 := by omega
  simp only [e1, e3]
  have e4 : ((T.length : Int) == 0) = decide (T.length = 0) := by rw [Bool.eq_iff_iff]; simp
  simp only [e4]
  by_cases h0 : K < 0
  · rw [if_pos h0, if_pos trivial, decide_eq_false (show ¬ (0 ≤ K ∧ K ≤ 3) by omega)]
    rfl
  · rw [if_neg h0]
    by_cases h9 : K > 3
    · rw [if_pos h9, if_pos trivial, decide_eq_false (show ¬ (0 ≤ K ∧ K ≤ 3) by omega)]
      rfl
    · rw [if_neg h9, decide_eq_true (show 0 ≤ K ∧ K ≤ 3 by omega)]
      by_cases h1 : N = 0 <;> by_cases h2 : F = 0 <;> by_cases h3 : T.length = 0 <;> by_cases h4 : T.length ≤ 40 <;> by_cases h5 : K = 1 <;> by_cases h6 : K = 2 <;> by_cases h7 : K = 3 <;> (first | omega | simp [h1, h2, h3, h4, h5, h6, h7])

theorem ord_self {F : Nat} : HFloat.feq F F = !HFloat.isN F := by
  rw [HFloat.feq_eq]
  unfold HFloat.isN
  by_cases h : 9218868437227405312 < F % 9223372036854775808
  · rw [show FloatKind.f64.format.order F F = none from HFloat.order_eq_nan h F, decide_eq_true h]
    rfl
  · rw [show FloatKind.f64.format.order F F = _ from HFloat.order_self (by omega), decide_eq_false h]
    rfl
theorem ord_zero {F : Nat} (hF : F < 18446744073709551616) : HFloat.feq F 0 = decide (F % 9223372036854775808 = 0) := by
  rw [HFloat.feq_eq]
  by_cases h : 9218868437227405312 < F % 9223372036854775808
  · rw [show FloatKind.f64.format.order F 0 = none from HFloat.order_eq_nan h 0, decide_eq_false (by omega)]
    rfl
  · rw [show FloatKind.f64.format.order F 0 = _ from HFloat.order_zero hF (by omega)]
    by_cases h0 : F % 9223372036854775808 = 0
    · rw [if_pos h0, decide_eq_true h0]; rfl
    · rw [if_neg h0, decide_eq_false h0]
      split <;> rfl
theorem ord_gt {F : Nat} (hF : F < 18446744073709551616) (hN : HFloat.isN F = false) (h0 : F % 9223372036854775808 ≠ 0) : HFloat.fgt F 0 = decide (F < 9223372036854775808) := by
  rw [HFloat.fgt_eq]
  unfold HFloat.isN at hN
  rw [decide_eq_false_iff_not] at hN
  rw [show FloatKind.f64.format.order F 0 = _ from HFloat.order_zero hF (by omega), if_neg h0]
  by_cases h1 : F < 9223372036854775808
  · rw [if_pos h1, decide_eq_true h1]; rfl
  · rw [if_neg h1, decide_eq_false h1]; rfl
theorem or_top {F : Nat} (h : F < 9223372036854775808) : Go.bits .or .u64 (F : Int) 9223372036854775808 = ((F + 9223372036854775808 : Nat) : Int) := by
  have := bits_or_u64_nat F 9223372036854775808 (by omega) (by omega)
  rw [show (9223372036854775808 : Int) = ((9223372036854775808 : Nat) : Int) from rfl, this, Nat.or_comm]
  congr 1
  have e := Nat.two_pow_add_eq_or_of_lt (show F < 2 ^ 63 by omega) 1
  rw [Nat.mul_one] at e
  rw [show (9223372036854775808 : Nat) = 2 ^ 63 by decide, ← e]
  omega
theorem xor_all {F : Nat} (h : F < 18446744073709551616) : Go.bits .xor .u64 18446744073709551615 (F : Int) = ((18446744073709551615 - F : Nat) : Int) := by
  show IntKind.u64.wrap ((BitVec.ofInt 64 (18446744073709551615 : Int) ^^^ BitVec.ofInt 64 (F : Int)).toNat : Int) = _
  rw [show BitVec.ofInt 64 (18446744073709551615 : Int) = BitVec.allOnes 64 from rfl, BitVec.allOnes_xor, BitVec.ofInt_natCast, BitVec.toNat_not, BitVec.toNat_ofNat, IntKind.wrap_u64, Nat.mod_eq_of_lt h]
  omega
/-- A float's place among all floats. -/
def rkF (F : Nat) : Int := if HFloat.isN F = true then 18446744073709551615 else if F % 9223372036854775808 = 0 then 9223372036854775808 else if F < 9223372036854775808 then ((F + 9223372036854775808 : Nat) : Int) else ((18446744073709551615 - F : Nat) : Int)
theorem implRank {F : Nat} (hF : F < 18446744073709551616) : impl_FloatRank.f F = some (rkF F) := by
  unfold impl_FloatRank.f rkF
  rw [ord_self]
  cases hN : HFloat.isN F with
  | true => rfl
  | false =>
    rw [if_pos (show (!false) = true from rfl), if_neg (show ¬ (false = true) by decide), ord_zero hF]
    by_cases h0 : F % 9223372036854775808 = 0
    · rw [if_pos (decide_eq_true h0), if_pos h0]
    · rw [if_neg (by rw [decide_eq_false h0]; decide), if_neg h0, ord_gt hF hN h0]
      by_cases h1 : F < 9223372036854775808
      · rw [if_pos (decide_eq_true h1), if_pos h1, or_top h1]
      · rw [if_neg (by rw [decide_eq_false h1]; decide), if_neg h1, xor_all hF]
theorem specRank {F : Nat} (hF : F < 18446744073709551616) : spec_FloatRank.f F = some (rkF F) := by
  unfold spec_FloatRank.f rkF
  rw [floatBits_eq hF, Option.bind_some]
  cases hN : HFloat.isN F with
  | true =>
    rw [show HFloat.canon F = 9221120237041090560 by unfold HFloat.canon; rw [if_pos hN]]
    rfl
  | false =>
    rw [show HFloat.canon F = F by unfold HFloat.canon; rw [if_neg (by rw [hN]; decide)]]
    unfold HFloat.isN at hN
    rw [decide_eq_false_iff_not] at hN
    rw [if_neg (by omega)]
    simp only [Bool.false_eq_true, if_false]
    rw [ord_zero hF]
    by_cases h0 : F % 9223372036854775808 = 0
    · rw [if_pos (decide_eq_true h0), if_pos h0]
    · rw [if_neg (by rw [decide_eq_false h0]; decide), if_neg h0]
      by_cases h1 : F < 9223372036854775808
      · rw [if_neg (by omega), if_pos h1, or_top h1]
      · rw [if_pos (by omega), if_neg h1, xor_all hF]
def cmpI (x y : Int) : Int := if x < y then -1 else if x > y then 1 else 0
theorem implFCompare {F G : Nat} (hF : F < 18446744073709551616) (hG : G < 18446744073709551616) : impl_FloatCompare.f F G = some (cmpI (rkF F) (rkF G)) := by
  unfold impl_FloatCompare.f
  rw [implRank hF, Option.bind_some, implRank hG, Option.bind_some]
  unfold cmp_Compare_uint64.f cmp_isNaN_uint64.f cmpI
  simp only [bne_self_eq_false, Option.bind_some, Bool.false_eq_true, if_false]
  split
  · rfl
  · split <;> rfl
theorem specFCompare {F G : Nat} (hF : F < 18446744073709551616) (hG : G < 18446744073709551616) : spec_FloatCompare.f F G = some (cmpI (rkF F) (rkF G)) := by
  unfold spec_FloatCompare.f cmpI
  rw [specRank hF, Option.bind_some, specRank hG, Option.bind_some]
  split
  · rfl
  · split <;> rfl
theorem cmpInt_eq (x y : Int) : cmp_Compare_int.f x y = some (cmpI x y) := by
  unfold cmp_Compare_int.f cmp_isNaN_int.f cmpI
  simp only [bne_self_eq_false, Option.bind_some, Bool.false_eq_true, if_false]
  split
  · rfl
  · split <;> rfl

def okKey (K N : Int) (F : Nat) (T : List Int) : Bool := okItem K N F T && !decide (K = 0) && (!decide (F % 9223372036854775808 = 0) || decide (F = 0))
theorem implKeyOk (K N : Int) (F : Nat) (T : List Int) (hF : F < 18446744073709551616) : impl_KeyOk.f K N F T = some (okKey K N F T) := by
  unfold impl_KeyOk.f okKey
  rw [implItemOk, Option.bind_some, ord_zero hF]
  cases okItem K N F T with
  | false => rfl
  | true =>
    rw [if_pos rfl]
    by_cases h0 : K = 0
    · rw [if_pos h0, decide_eq_true h0]; rfl
    · rw [if_neg h0, decide_eq_false h0]
      by_cases h1 : F % 9223372036854775808 = 0
      · rw [decide_eq_true h1, if_pos rfl]
        have : ((F : Int) == 0) = decide (F = 0) := by rw [Bool.eq_iff_iff]; simp
        rw [this]
        simp
      · rw [decide_eq_false h1, if_neg (by decide)]
        rfl
theorem specKeyOk (K N : Int) (F : Nat) (T : List Int) (hF : F < 18446744073709551616) : Ev (fun k => spec_KeyOk.f k K N F T) (okKey K N F T) := by
  unfold spec_KeyOk.f okKey
  refine Ev.bind (specItemOk K N F T hF) ?_
  cases okItem K N F T with
  | false => exact ev_if_neg (by decide) (Ev.now _)
  | true =>
    refine ev_if_pos rfl ?_
    by_cases h0 : K = 0
    · refine ev_if_pos h0 ?_
      rw [decide_eq_true h0]
      exact Ev.now _
    · refine ev_if_neg h0 ?_
      rw [decide_eq_false h0, ord_zero hF]
      by_cases h1 : F % 9223372036854775808 = 0
      · refine ev_if_pos (decide_eq_true h1) ?_
        rw [decide_eq_true h1, floatBits_eq hF]
        have : (!(((HFloat.canon F : Nat) : Int) != 0)) = decide (F = 0) := by
          rw [Bool.eq_iff_iff]
          simp [canon_zero]
        refine Ev.bind (Ev.now _) ?_
        rw [this]
        simpa using Ev.now _
      · refine ev_if_neg (by rw [decide_eq_false h1]; decide) ?_
        rw [decide_eq_false h1]
        exact Ev.now _

def orL : List Int → Int
  | [] => 0
  | x :: xs => if x = 0 then orL xs else x
theorem cmpOr (l : List Int) (hl : l.length ≤ 1000) : Ev (fun k => cmp_Or_int.f k l) (orL l) := by
  unfold cmp_Or_int.f
  have key := ev_down (fun k i => cmp_Or_int.l0 k 0 l (l.length : Int) i) (fun i r => r = orL (l.drop i)) l.length ?_ ?_ 0 (by omega) (orL l) rfl
  · exact key
  · rintro r rfl
    refine Ev.step (f := fun _ => some (orL (l.drop l.length))) (fun k => ?_) (Ev.now _)
    simp only [cmp_Or_int.l0]
    rw [if_neg (by omega), List.drop_length]
    rfl
  · rintro i hi h r rfl
    rw [drop_rd l i hi]
    by_cases h0 : rd l (i : Int) = 0
    · rw [orL, if_pos h0]
      refine Ev.step (fun k => ?_) (h _ rfl)
      simp only [cmp_Or_int.l0]
      rw [if_pos (by omega), if_pos (by omega), if_pos (by omega), if_pos h0, wrap_succ (by omega) (by omega)]
      rfl
    · refine Ev.step (f := fun _ => some (rd l (i : Int))) (fun k => ?_) ?_
      · simp only [cmp_Or_int.l0]
        rw [if_pos (by omega), if_pos (by omega), if_pos (by omega), if_neg h0]
      · rw [orL, if_neg h0]
        exact Ev.now _
/-- Two items, one behind the other. -/
def cmpIt (K N : Int) (F : Nat) (T : List Int) (K' N' : Int) (F' : Nat) (T' : List Int) : Int := orL [cmpI K K', cmpI N N', cmpI (rkF F) (rkF F'), cmpB T T']
theorem implCmpItems (K N : Int) (F : Nat) (T : List Int) (K' N' : Int) (F' : Nat) (T' : List Int) (hF : F < 18446744073709551616) (hF' : F' < 18446744073709551616) (hT : isBytes T = true) (hT' : isBytes T' = true) :
    Ev (fun k => impl_compareItems.f k K N F T K' N' F' T') (cmpIt K N F T K' N' F' T') := by
  unfold impl_compareItems.f
  refine Ev.bind (ev_eq (cmpInt_eq K K')) ?_
  refine Ev.bind (ev_eq (cmpInt_eq N N')) ?_
  refine Ev.bind (ev_eq (implFCompare hF hF')) ?_
  refine Ev.bind (ev_eq (show bytes_Compare.f T T' = some (cmpB T T') by unfold bytes_Compare.f; rw [if_pos ⟨hT, hT'⟩])) ?_
  exact Ev.bind (cmpOr _ (by simp)) (Ev.now _)
theorem cmpB_nil_l (l : List Int) : cmpB [] l = if l.length = 0 then 0 else -1 := by cases l <;> rfl
theorem cmpB_nil_r (l : List Int) : cmpB l [] = if l.length = 0 then 0 else 1 := by cases l <;> rfl
theorem specTexts (a b : List Int) (ha : a.length ≤ 9223372036854775806) (hb : b.length ≤ 9223372036854775806) : Ev (fun k => spec_l3texts.f k a b) (cmpB a b) := by
  unfold spec_l3texts.f
  have key := ev_down (fun k i => spec_l3texts.l0 k a b i) (fun i r => r = cmpB (a.drop i) (b.drop i)) (min a.length b.length) ?_ ?_ 0 (by omega) (cmpB a b) rfl
  · exact key
  · rintro r rfl
    refine ⟨2, fun k hk => ?_⟩
    obtain ⟨m, rfl⟩ : ∃ m, k = m + 2 := ⟨k - 2, by omega⟩
    rcases Nat.lt_trichotomy a.length b.length with h | h | h
    · have e : min a.length b.length = a.length := by omega
      rw [e, List.drop_length, cmpB_nil_l, List.length_drop, if_neg (by omega)]
      simp only [spec_l3texts.l0, spec_l3texts.j1]
      rw [if_neg (by omega), if_neg (by decide), if_pos (by omega)]
    · have e : min a.length b.length = a.length := by omega
      rw [e, List.drop_length, cmpB_nil_l, List.length_drop, if_pos (by omega)]
      simp only [spec_l3texts.l0, spec_l3texts.j1]
      rw [if_neg (by omega), if_neg (by decide), if_neg (by omega), if_neg (by omega)]
    · have e : min a.length b.length = b.length := by omega
      rw [e, List.drop_length, cmpB_nil_r, List.length_drop, if_neg (by omega)]
      simp only [spec_l3texts.l0, spec_l3texts.j1]
      rw [if_pos (by omega), if_neg (by simp), if_neg (by omega), if_pos (by omega)]
  · rintro i hi h r rfl
    obtain ⟨m, hm⟩ := h _ rfl
    refine ⟨m + 2, fun k hk => ?_⟩
    obtain ⟨j, rfl⟩ : ∃ j, k = j + 2 := ⟨k - 2, by omega⟩
    have hm := hm j (by omega)
    rw [drop_rd a i (by omega), drop_rd b i (by omega)]
    simp only [spec_l3texts.l0, spec_l3texts.j1]
    rw [if_pos (by omega), if_pos (by simp; omega), if_pos (by omega), if_pos (by omega), if_pos (by omega)]
    rw [cmpB]
    by_cases h1 : rd a (i : Int) < rd b (i : Int)
    · rw [if_pos h1, if_pos h1]
    · rw [if_neg h1, if_neg h1]
      by_cases h2 : rd b (i : Int) < rd a (i : Int)
      · rw [if_pos h2, if_pos h2]
      · rw [if_neg h2, if_neg h2, wrap_succ (by omega) (by omega)]
        exact hm
theorem cmpI_zero (x y : Int) : cmpI x y = 0 ↔ x = y := by
  unfold cmpI
  split
  · constructor <;> intro h <;> omega
  · split
    · constructor <;> intro h <;> omega
    · constructor <;> intro h <;> omega
theorem specCompare (K N : Int) (F : Nat) (T : List Int) (K' N' : Int) (F' : Nat) (T' : List Int) (hF : F < 18446744073709551616) (hF' : F' < 18446744073709551616) (ha : T.length ≤ 9223372036854775806) (hb : T'.length ≤ 9223372036854775806) :
    Ev (fun k => spec_ItemCompare.f k K N F T K' N' F' T') (if okItem K N F T = true ∧ okItem K' N' F' T' = true then cmpIt K N F T K' N' F' T' else -2) := by
  unfold spec_ItemCompare.f
  refine Ev.bind (specItemOk K N F T hF) ?_
  cases h1 : okItem K N F T with
  | false =>
    refine ev_if_neg (by decide) ?_
    refine Ev.step (f := fun _ => some (-2)) (fun k => ?_) ?_
    · simp only [spec_ItemCompare.j0]
      rw [if_pos trivial]
    · rw [if_neg (by simp)]
      exact Ev.now _
  | true =>
    refine ev_if_pos rfl ?_
    refine Ev.bind (specItemOk K' N' F' T' hF') ?_
    cases h2 : okItem K' N' F' T' with
    | false =>
      refine Ev.step (f := fun _ => some (-2)) (fun k => ?_) ?_
      · simp only [spec_ItemCompare.j0]
        rw [if_pos (by rfl)]
      · rw [if_neg (by simp)]
        exact Ev.now _
    | true =>
      rw [if_pos ⟨rfl, rfl⟩]
      refine Ev.step (fun k => by simp only [spec_ItemCompare.j0]; rfl) ?_
      refine ev_if_neg (by decide) ?_
      unfold cmpIt
      by_cases hK : K = K'
      · refine ev_if_pos hK ?_
        rw [orL, if_pos ((cmpI_zero K K').2 hK)]
        by_cases hN : N = N'
        · refine ev_if_pos hN ?_
          rw [orL, if_pos ((cmpI_zero N N').2 hN)]
          refine Ev.bind (ev_eq (specFCompare hF hF')) ?_
          rw [orL]
          by_cases hR : cmpI (rkF F) (rkF F') = 0
          · refine ev_if_pos hR ?_
            rw [if_pos hR]
            refine Ev.bind (specTexts T T' ha hb) ?_
            rw [orL]
            split
            · rename_i h
              rw [h]
              exact Ev.now _
            · exact Ev.now _
          · refine ev_if_neg hR ?_
            rw [if_neg hR]
            exact Ev.now _
        · refine ev_if_neg hN ?_
          rw [orL, if_neg (fun h => hN ((cmpI_zero N N').1 h))]
          unfold cmpI
          by_cases h : N < N'
          · refine ev_if_pos h ?_
            rw [if_pos h]
            exact Ev.now _
          · refine ev_if_neg h ?_
            rw [if_neg h, if_pos (by omega)]
            exact Ev.now _
      · refine ev_if_neg hK ?_
        rw [orL, if_neg (fun h => hK ((cmpI_zero K K').1 h))]
        unfold cmpI
        by_cases h : K < K'
        · refine ev_if_pos h ?_
          rw [if_pos h]
          exact Ev.now _
        · refine ev_if_neg h ?_
          rw [if_neg h, if_pos (by omega)]
          exact Ev.now _

theorem szBytes (l : List Int) (n : Int) (h0 : 0 ≤ n) (h1 : n ≤ 1048576) (hl : l.length ≤ 9223372036854775807) : (laws_szByteS.f l n = some (-1) ∧ n - (l.length : Int) < 0) ∨ (laws_szByteS.f l n = some (n - (l.length : Int)) ∧ 0 ≤ n - (l.length : Int)) := by
  unfold laws_szByteS.f
  rw [wrap_id (by omega) (by omega)]
  by_cases h : n - (l.length : Int) < 0
  · rw [if_pos h]
    exact .inl ⟨rfl, h⟩
  · rw [if_neg h]
    exact .inr ⟨rfl, by omega⟩
theorem szItem (K N : Int) (F : Nat) (T : List Int) (n : Int) (h0 : 0 ≤ n) (h1 : n ≤ 1048576) (hl : T.length ≤ 9223372036854775807) : (∃ r, laws_szItem.f K N F T n = some r ∧ r < 0) ∨ (laws_szItem.f K N F T n = some (n - (T.length : Int)) ∧ 0 ≤ n - (T.length : Int)) := by
  unfold laws_szItem.f
  rcases szBytes T n h0 h1 hl with ⟨h, h2⟩ | ⟨h, h2⟩
  · refine .inl ⟨-1, ?_, by omega⟩
    rw [h]
    rfl
  · refine .inr ⟨?_, h2⟩
    rw [h]
    simp only [Option.bind_some]
    rw [if_neg (by omega)]

theorem set_at (l m : List Int) (i : Nat) (hi : i < l.length) (h : l.length = m.length) : (l.take i ++ m.drop i).set i (rd l i) = l.take (i + 1) ++ m.drop (i + 1) := by
  have hr : rd l (i : Int) = l[i] := by simp [rd, List.getD_eq_getElem?_getD, hi]
  rw [hr]
  apply List.ext_getElem?
  intro j
  simp only [List.getElem?_set, List.getElem?_append, List.length_take, List.getElem?_take, List.getElem?_drop, List.length_append, List.length_drop]
  rw [Nat.min_eq_left (by omega), Nat.min_eq_left (by omega)]
  by_cases h1 : i = j
  · subst h1
    simp [hi]
    omega
  · by_cases h2 : j < i
    · simp [h1, h2, show j < i + 1 by omega]
    · simp only [h1, h2, if_false, show ¬ j < i + 1 by omega]
      congr 1
      omega

theorem toByteS_l (l : List Int) (hl : l.length ≤ 9223372036854775806) : ∀ (d i : Nat), l.length - i = d → i ≤ l.length → Ev (fun k => laws_toByteS.l0 k l (l.take i ++ (List.replicate l.length 0).drop i) i) l := by
  intro d
  induction d with
  | zero =>
    intro i hd h0
    obtain rfl : i = l.length := by omega
    refine Ev.step (f := fun _ => some l) (fun k => ?_) (Ev.now _)
    simp only [laws_toByteS.l0]
    rw [if_neg (by omega)]
    simp
  | succ d ih =>
    intro i hd h0
    refine Ev.step (f := fun k => laws_toByteS.l0 k l (l.take (i + 1) ++ (List.replicate l.length 0).drop (i + 1)) ((i + 1 : Nat) : Int)) (fun k => ?_) (ih (i + 1) (by omega) (by omega))
    simp only [laws_toByteS.l0]
    rw [if_pos (by omega), if_pos (by omega), if_pos (by simp; omega), wrap_succ (by omega) (by omega), Int.toNat_natCast, set_at l _ i (by omega) (by simp)]
    rfl

theorem toByteS (l : List Int) (hl : l.length ≤ 1048576) : Ev (fun k => laws_toByteS.f k l) l := by
  unfold laws_toByteS.f
  simp only [Int.toNat_natCast]
  simp only [show (0 : Int) ≤ (l.length : Int) by omega, show l.length ≤ 281474976710656 by omega, if_true]
  have := toByteS_l l (by omega) l.length 0 (by omega) (by omega)
  simpa using this

theorem eqByteS_l (l : List Int) (hl : l.length ≤ 9223372036854775806) : ∀ (d : Nat) (i : Int), 0 ≤ i → (l.length : Int) - i = d → Ev (fun k => laws_eqByteS.l0 k l l i) true := by
  intro d
  induction d with
  | zero =>
    intro i h0 hd
    refine Ev.step (f := fun _ => some true) (fun k => ?_) (Ev.now _)
    simp only [laws_eqByteS.l0]
    rw [if_neg (by omega)]
  | succ d ih =>
    intro i h0 hd
    refine Ev.step (f := fun k => laws_eqByteS.l0 k l l (i + 1)) (fun k => ?_) (ih (i + 1) (by omega) (by omega))
    simp only [laws_eqByteS.l0]
    rw [if_pos (by omega), if_pos h0, if_pos (by omega), if_pos trivial, wrap_succ h0 (by omega)]

theorem eqByteS (l : List Int) (hl : l.length ≤ 9223372036854775806) : Ev (fun k => laws_eqByteS.f k l l) true := by
  unfold laws_eqByteS.f
  simp only [if_true]
  exact eqByteS_l l hl l.length 0 (by omega) (by omega)

def seqB (n : Int) (len : Nat) : List Int := (List.range len).map fun i : Nat => (n + (i : Int)) % 256
@[simp] theorem seqB_length (n : Int) (len : Nat) : (seqB n len).length = len := by simp [seqB]
theorem seqB_at (n : Int) (len i : Nat) (h : i < (seqB n len).length) : (seqB n len)[i] = (n + (i : Int)) % 256 := by simp [seqB]
theorem toItem (K N : Int) (F : Nat) (T : List Int) (hl : T.length ≤ 1048576) : Ev (fun k => laws_toItem.f k K N F T) (K, N, F, T) := by
  unfold laws_toItem.f
  exact Ev.bind (toByteS T hl) (Ev.now _)

theorem sameF (F : Nat) (hF : F < 18446744073709551616) : laws_sameFloat.f F F = some true := by
  unfold laws_sameFloat.f
  rw [if_pos]
  refine ⟨rfl, fun h => ?_⟩
  have h1 := ord_zero hF
  rw [HFloat.feq_eq, h] at h1
  have h2 : F % 9223372036854775808 = 0 := by
    have h3 : (some Ordering.eq == some Ordering.eq) = true := rfl
    rw [h3] at h1
    exact of_decide_eq_true h1.symm
  rcases (show F = 0 ∨ F = 9223372036854775808 by omega) with rfl | rfl
  · rw [show FloatKind.f64.format.div 4607182418800017408 0 = _ from HFloat.div_zero]; rfl
  · rw [show FloatKind.f64.format.div 4607182418800017408 9223372036854775808 = _ from HFloat.div_zeroN]; rfl
theorem eqItem (K N : Int) (F : Nat) (T : List Int) (hF : F < 18446744073709551616) (hl : T.length ≤ 1048576) : Ev (fun k => laws_eqItem.f k K N F T K N F T) true := by
  unfold laws_eqItem.f
  refine ev_if_pos rfl (ev_if_pos rfl ?_)
  refine Ev.bind (ev_eq (sameF F hF)) (ev_if_pos rfl ?_)
  exact Ev.bind (eqByteS T (by omega)) (ev_if_pos rfl (Ev.now _))

theorem szSpan (K N : Int) (F : Nat) (T : List Int) (K' N' : Int) (F' : Nat) (T' : List Int) (n : Int) (h0 : 0 ≤ n) (h1 : n ≤ 1048576) (hl : T.length ≤ 9223372036854775807) (hl' : T'.length ≤ 9223372036854775807) :
    (∃ r, laws_szSpan.f K N F T K' N' F' T' n = some r ∧ r < 0) ∨ (laws_szSpan.f K N F T K' N' F' T' n = some (n - (T.length : Int) - (T'.length : Int)) ∧ 0 ≤ n - (T.length : Int) - (T'.length : Int)) := by
  unfold laws_szSpan.f
  rcases szItem K N F T n h0 h1 hl with ⟨r, h, h2⟩ | ⟨h, h2⟩
  · refine .inl ⟨-1, ?_, by omega⟩
    rw [h, Option.bind_some, if_pos h2]
  · rw [h, Option.bind_some, if_neg (by omega)]
    rcases szItem K' N' F' T' (n - (T.length : Int)) h2 (by omega) hl' with ⟨r, h3, h4⟩ | ⟨h3, h4⟩
    · refine .inl ⟨-1, ?_, by omega⟩
      rw [h3, Option.bind_some, if_pos h4]
    · refine .inr ⟨?_, h4⟩
      rw [h3, Option.bind_some, if_neg (by omega)]
theorem toSpan (K N : Int) (F : Nat) (T : List Int) (K' N' : Int) (F' : Nat) (T' : List Int) (hl : T.length ≤ 1048576) (hl' : T'.length ≤ 1048576) : Ev (fun k => laws_toSpan.f k K N F T K' N' F' T') (K, N, F, T, K', N', F', T') := by
  unfold laws_toSpan.f
  exact Ev.bind (toItem K N F T hl) (Ev.bind (toItem K' N' F' T' hl') (Ev.now _))
theorem eqSpan (K N : Int) (F : Nat) (T : List Int) (K' N' : Int) (F' : Nat) (T' : List Int) (hF : F < 18446744073709551616) (hF' : F' < 18446744073709551616) (hl : T.length ≤ 1048576) (hl' : T'.length ≤ 1048576) : Ev (fun k => laws_eqSpan.f k K N F T K' N' F' T' K N F T K' N' F' T') true := by
  unfold laws_eqSpan.f
  exact Ev.bind (eqItem K N F T hF hl) (ev_if_pos rfl (Ev.bind (eqItem K' N' F' T' hF' hl') (ev_if_pos rfl (Ev.now _))))

def isB (l : List Int) : Bool := l.all fun x => decide (0 ≤ x ∧ x < 256)
theorem isB_of {T : List Int} (h : ∀ y ∈ T, (Lit.int .u8 y).wf = true) : isB T = true := by
  unfold isB
  rw [List.all_eq_true]
  intro y hy
  have := h y hy
  rw [decide_eq_true_eq]
  simp [Lit.wf, IntKind.min, IntKind.max, IntKind.signed, IntKind.bits] at this
  omega

def okSpan (K N : Int) (F : Nat) (T : List Int) (K' N' : Int) (F' : Nat) (T' : List Int) : Bool := okKey K N F T && (okKey K' N' F' T' && decide (cmpIt K N F T K' N' F' T' ≤ 0))
theorem okKey_item {K N : Int} {F : Nat} {T : List Int} (h : okKey K N F T = true) : okItem K N F T = true := by
  unfold okKey at h
  rw [Bool.and_eq_true, Bool.and_eq_true] at h
  exact h.1.1
theorem implSpanOk (K N : Int) (F : Nat) (T : List Int) (K' N' : Int) (F' : Nat) (T' : List Int) (hF : F < 18446744073709551616) (hF' : F' < 18446744073709551616) (hT : isBytes T = true) (hT' : isBytes T' = true) :
    Ev (fun k => impl_SpanOk.f k K N F T K' N' F' T') (okSpan K N F T K' N' F' T') := by
  unfold impl_SpanOk.f okSpan
  refine Ev.bind (ev_eq (implKeyOk K N F T hF)) ?_
  cases okKey K N F T with
  | false => exact ev_if_neg (by decide) (Ev.now _)
  | true =>
    refine ev_if_pos rfl ?_
    refine Ev.bind (ev_eq (implKeyOk K' N' F' T' hF')) ?_
    cases okKey K' N' F' T' with
    | false => exact ev_if_neg (by decide) (Ev.now _)
    | true =>
      refine ev_if_pos rfl ?_
      exact Ev.bind (implCmpItems K N F T K' N' F' T' hF hF' hT hT') (Ev.now _)
theorem specSpanOk (K N : Int) (F : Nat) (T : List Int) (K' N' : Int) (F' : Nat) (T' : List Int) (hF : F < 18446744073709551616) (hF' : F' < 18446744073709551616) (ha : T.length ≤ 9223372036854775806) (hb : T'.length ≤ 9223372036854775806) :
    Ev (fun k => spec_SpanOk.f k K N F T K' N' F' T') (okSpan K N F T K' N' F' T') := by
  unfold spec_SpanOk.f okSpan
  refine Ev.bind (specKeyOk K N F T hF) ?_
  cases h1 : okKey K N F T with
  | false => exact ev_if_neg (by decide) (Ev.now _)
  | true =>
    refine ev_if_pos rfl ?_
    refine Ev.bind (specKeyOk K' N' F' T' hF') ?_
    cases h2 : okKey K' N' F' T' with
    | false => exact ev_if_neg (by decide) (Ev.now _)
    | true =>
      refine ev_if_pos rfl ?_
      refine Ev.bind (specCompare K N F T K' N' F' T' hF hF' ha hb) ?_
      rw [if_pos ⟨okKey_item h1, okKey_item h2⟩]
      exact Ev.now _
theorem isBytes_of {T : List Int} (h : ∀ y ∈ T, (Lit.int .u8 y).wf = true) : isBytes T = true := isB_of h

def lnItem (x : S25) : Prop := x.f3.length ≤ 9223372036854775807
def smItem (x : S25) : Prop := x.f3.length ≤ 1048576
def tItem (x : S25) : S27 := ⟨x.f0, x.f1, x.f2, x.f3⟩
/-- What is known of an item: its float has 64 bits, its text is of bytes, and not too long. -/
def gdItem (x : S27) : Prop := x.f2 < 18446744073709551616 ∧ x.f3.length ≤ 1048576 ∧ isB x.f3 = true
theorem okItem_ln {x : S25} (h : ok25 x) : lnItem x := h.2.2.2.1
theorem okItem_gd {x : S25} (h : ok25 x) (hs : smItem x) : gdItem (tItem x) := ⟨h.2.2.1, hs, isB_of h.2.2.2.2⟩
theorem rdL_Item (l : List S25) (i : Nat) (h : i < l.length) : rd_T25 l (i : Int) = l[i] := by simp [rd_T25, h]
theorem rdI_Item (l : List S27) (i : Nat) (h : i < l.length) : rd_T27 l (i : Int) = l[i] := by simp [rd_T27, h]
theorem szItem_ev (x : S25) (n : Int) (h0 : 0 ≤ n) (h1 : n ≤ 1048576) (hx : lnItem x) : ∃ r, Ev (fun k => laws_szItem.f x.f0 x.f1 x.f2 x.f3 n) r ∧ r ≤ n ∧ (0 ≤ r → smItem x) := by
  rcases szItem x.f0 x.f1 x.f2 x.f3 n h0 h1 hx with ⟨r, h, h2⟩ | ⟨h, h2⟩
  · exact ⟨r, ev_eq h, by omega, fun h3 => by omega⟩
  · exact ⟨_, ev_eq h, by omega, fun _ => by unfold smItem; omega⟩
theorem szItemS (l : List S25) (n : Int) (h0 : 0 ≤ n) (h1 : n ≤ 1048576) (hl : l.length ≤ 9223372036854775807) (hx : ∀ x ∈ l, lnItem x) : ∃ r, Ev (fun k => laws_szItemS.f k l n) r ∧ r ≤ n ∧ (0 ≤ r → l.length ≤ 1048576 ∧ ∀ x ∈ l, smItem x) := by
  unfold laws_szItemS.f
  rw [wrap_id (by omega) (by omega)]
  by_cases h : n - (l.length : Int) < 0
  · exact ⟨-1, by simp only [if_pos h]; exact Ev.now _, by omega, fun h2 => by omega⟩
  · simp only [if_neg h]
    have key : ∀ d i : Nat, l.length - i = d → i ≤ l.length → ∀ m : Int, 0 ≤ m → m ≤ 1048576 → (∀ x ∈ l.take i, smItem x) → ∃ r, Ev (fun k => laws_szItemS.l0 k l m i) r ∧ r ≤ m ∧ (0 ≤ r → ∀ x ∈ l, smItem x) := by
      intro d
      induction d with
      | zero =>
        intro i hd hi m hm0 hm1 hp
        obtain rfl : i = l.length := by omega
        refine ⟨m, Ev.step (f := fun _ => some m) (fun k => ?_) (Ev.now _), by omega, fun _ => by simpa using hp⟩
        simp only [laws_szItemS.l0]
        rw [if_neg (by omega)]
      | succ d ih =>
        intro i hd hi m hm0 hm1 hp
        have hil : i < l.length := by omega
        obtain ⟨q, hq, hqm, hq0⟩ := szItem_ev l[i] m hm0 hm1 (hx _ (List.getElem_mem _))
        by_cases hneg : q < 0
        · refine ⟨-1, Ev.step (fun k => ?_) (Ev.bind hq (r := -1) (f := fun k t => if t < 0 then some (-1) else laws_szItemS.l0 k l t ((i + 1 : Nat) : Int)) (ev_if_pos hneg (Ev.now _))), by omega, fun h => by omega⟩
          simp only [laws_szItemS.l0, rdL_Item l i hil]
          rw [if_pos (by omega), if_pos (by omega), wrap_succ (by omega) (by omega)]
          rfl
        · obtain ⟨r, h3, h4, h5⟩ := ih (i + 1) (by omega) (by omega) q (by omega) (by omega) (fun x hx2 => by
            rw [List.take_succ_eq_append_getElem hil] at hx2
            rcases List.mem_append.1 hx2 with h5 | h5
            · exact hp x h5
            · obtain rfl : x = l[i] := by simpa using h5
              exact hq0 (by omega))
          refine ⟨r, Ev.step (fun k => ?_) (Ev.bind hq (f := fun k t => if t < 0 then some (-1) else laws_szItemS.l0 k l t ((i + 1 : Nat) : Int)) (ev_if_neg hneg h3)), by omega, h5⟩
          simp only [laws_szItemS.l0, rdL_Item l i hil]
          rw [if_pos (by omega), if_pos (by omega), wrap_succ (by omega) (by omega)]
          rfl
    obtain ⟨r, h2, h3, h4⟩ := key l.length 0 (by omega) (by omega) (n - (l.length : Int)) (by omega) (by omega) (by simp)
    exact ⟨r, h2, by omega, fun h5 => ⟨by omega, h4 h5⟩⟩
theorem toItem_ev (x : S25) (hs : smItem x) : Ev (fun k => laws_toItem.f k x.f0 x.f1 x.f2 x.f3) (x.f0, x.f1, x.f2, x.f3) := toItem _ _ _ _ hs
theorem toItemS (l : List S25) (hs : l.length ≤ 1048576 ∧ ∀ x ∈ l, smItem x) : Ev (fun k => laws_toItemS.f k l) (l.map tItem) := by
  have hl := hs.1
  unfold laws_toItemS.f
  simp only [Int.toNat_natCast]
  refine ev_if_pos (by omega) (ev_if_pos (by omega) ?_)
  refine fill_ev l tItem z27 (fun k out i => laws_toItemS.l0 k l out i) (fun out => ?_) (fun i hi out r ho h => ?_)
  · refine Ev.step (f := fun _ => some out) (fun k => ?_) (Ev.now _)
    simp only [laws_toItemS.l0]
    rw [if_neg (by omega)]
  · have h2 := Ev.bind (f := fun k (bt : Int × Int × Nat × List Int) => laws_toItemS.l0 k l (out.set i (⟨bt.1, bt.2.1, bt.2.2.1, bt.2.2.2⟩ : S27)) ((i + 1 : Nat) : Int)) (toItem_ev l[i] (hs.2 _ (List.getElem_mem _))) h
    refine Ev.step (fun k => ?_) h2
    simp only [laws_toItemS.l0, rdL_Item l i hi]
    rw [if_pos (by omega), if_pos (by omega), wrap_succ (by omega) (by omega), Int.toNat_natCast]
    simp only [if_pos (show (i : Int) < (out.length : Int) by omega)]
    rfl
theorem eqItem_ev (x : S27) (hg : gdItem x) : Ev (fun k => laws_eqItem.f k x.f0 x.f1 x.f2 x.f3 x.f0 x.f1 x.f2 x.f3) true := eqItem _ _ _ _ hg.1 hg.2.1
theorem eqItemS (l : List S27) (hs : l.length ≤ 1048576) (hg : ∀ x ∈ l, gdItem x) : Ev (fun k => laws_eqItemS.f k l l) true := by
  unfold laws_eqItemS.f
  simp only [if_true]
  refine ev_down (fun k i => laws_eqItemS.l0 k l l i) (fun _ r => r = true) l.length (fun r hr => ?_) (fun i hi ih r hr => ?_) 0 (by omega) true rfl
  · subst hr
    refine Ev.step (f := fun _ => some true) (fun k => ?_) (Ev.now _)
    simp only [laws_eqItemS.l0]
    rw [if_neg (by omega)]
  · subst hr
    refine Ev.step (fun k => ?_) (Ev.bind (eqItem_ev l[i] (hg _ (List.getElem_mem _))) (f := fun k t => if t = true then laws_eqItemS.l0 k l l ((i + 1 : Nat) : Int) else some false) (ev_if_pos rfl (ih true rfl)))
    simp only [laws_eqItemS.l0, rdI_Item l i hi]
    rw [if_pos (by omega), if_pos (by omega), if_pos (by omega), wrap_succ (by omega) (by omega)]
    rfl

def lnSpan (x : S34) : Prop := lnItem x.f0 ∧ lnItem x.f1
def smSpan (x : S34) : Prop := smItem x.f0 ∧ smItem x.f1
def tSpan (x : S34) : S38 := ⟨tItem x.f0, tItem x.f1⟩
def gdSpan (x : S38) : Prop := gdItem x.f0 ∧ gdItem x.f1
theorem okSpan_ln {x : S34} (h : ok34 x) : lnSpan x := ⟨okItem_ln h.1, okItem_ln h.2⟩
theorem okSpan_gd {x : S34} (h : ok34 x) (hs : smSpan x) : gdSpan (tSpan x) := ⟨okItem_gd h.1 hs.1, okItem_gd h.2 hs.2⟩
theorem rdL_Span (l : List S34) (i : Nat) (h : i < l.length) : rd_T34 l (i : Int) = l[i] := by simp [rd_T34, h]
theorem rdI_Span (l : List S38) (i : Nat) (h : i < l.length) : rd_T38 l (i : Int) = l[i] := by simp [rd_T38, h]
theorem szSpan_ev (x : S34) (n : Int) (h0 : 0 ≤ n) (h1 : n ≤ 1048576) (hx : lnSpan x) : ∃ r, Ev (fun k => laws_szSpan.f x.f0.f0 x.f0.f1 x.f0.f2 x.f0.f3 x.f1.f0 x.f1.f1 x.f1.f2 x.f1.f3 n) r ∧ r ≤ n ∧ (0 ≤ r → smSpan x) := by
  rcases szSpan x.f0.f0 x.f0.f1 x.f0.f2 x.f0.f3 x.f1.f0 x.f1.f1 x.f1.f2 x.f1.f3 n h0 h1 hx.1 hx.2 with ⟨r, h, h2⟩ | ⟨h, h2⟩
  · exact ⟨r, ev_eq h, by omega, fun h3 => by omega⟩
  · exact ⟨_, ev_eq h, by omega, fun _ => by unfold smSpan smItem; omega⟩
theorem szSpanS (l : List S34) (n : Int) (h0 : 0 ≤ n) (h1 : n ≤ 1048576) (hl : l.length ≤ 9223372036854775807) (hx : ∀ x ∈ l, lnSpan x) : ∃ r, Ev (fun k => laws_szSpanS.f k l n) r ∧ r ≤ n ∧ (0 ≤ r → l.length ≤ 1048576 ∧ ∀ x ∈ l, smSpan x) := by
  unfold laws_szSpanS.f
  rw [wrap_id (by omega) (by omega)]
  by_cases h : n - (l.length : Int) < 0
  · exact ⟨-1, by simp only [if_pos h]; exact Ev.now _, by omega, fun h2 => by omega⟩
  · simp only [if_neg h]
    have key : ∀ d i : Nat, l.length - i = d → i ≤ l.length → ∀ m : Int, 0 ≤ m → m ≤ 1048576 → (∀ x ∈ l.take i, smSpan x) → ∃ r, Ev (fun k => laws_szSpanS.l0 k l m i) r ∧ r ≤ m ∧ (0 ≤ r → ∀ x ∈ l, smSpan x) := by
      intro d
      induction d with
      | zero =>
        intro i hd hi m hm0 hm1 hp
        obtain rfl : i = l.length := by omega
        refine ⟨m, Ev.step (f := fun _ => some m) (fun k => ?_) (Ev.now _), by omega, fun _ => by simpa using hp⟩
        simp only [laws_szSpanS.l0]
        rw [if_neg (by omega)]
      | succ d ih =>
        intro i hd hi m hm0 hm1 hp
        have hil : i < l.length := by omega
        obtain ⟨q, hq, hqm, hq0⟩ := szSpan_ev l[i] m hm0 hm1 (hx _ (List.getElem_mem _))
        by_cases hneg : q < 0
        · refine ⟨-1, Ev.step (fun k => ?_) (Ev.bind hq (r := -1) (f := fun k t => if t < 0 then some (-1) else laws_szSpanS.l0 k l t ((i + 1 : Nat) : Int)) (ev_if_pos hneg (Ev.now _))), by omega, fun h => by omega⟩
          simp only [laws_szSpanS.l0, rdL_Span l i hil]
          rw [if_pos (by omega), if_pos (by omega), wrap_succ (by omega) (by omega)]
          rfl
        · obtain ⟨r, h3, h4, h5⟩ := ih (i + 1) (by omega) (by omega) q (by omega) (by omega) (fun x hx2 => by
            rw [List.take_succ_eq_append_getElem hil] at hx2
            rcases List.mem_append.1 hx2 with h5 | h5
            · exact hp x h5
            · obtain rfl : x = l[i] := by simpa using h5
              exact hq0 (by omega))
          refine ⟨r, Ev.step (fun k => ?_) (Ev.bind hq (f := fun k t => if t < 0 then some (-1) else laws_szSpanS.l0 k l t ((i + 1 : Nat) : Int)) (ev_if_neg hneg h3)), by omega, h5⟩
          simp only [laws_szSpanS.l0, rdL_Span l i hil]
          rw [if_pos (by omega), if_pos (by omega), wrap_succ (by omega) (by omega)]
          rfl
    obtain ⟨r, h2, h3, h4⟩ := key l.length 0 (by omega) (by omega) (n - (l.length : Int)) (by omega) (by omega) (by simp)
    exact ⟨r, h2, by omega, fun h5 => ⟨by omega, h4 h5⟩⟩
theorem toSpan_ev (x : S34) (hs : smSpan x) : Ev (fun k => laws_toSpan.f k x.f0.f0 x.f0.f1 x.f0.f2 x.f0.f3 x.f1.f0 x.f1.f1 x.f1.f2 x.f1.f3) (x.f0.f0, x.f0.f1, x.f0.f2, x.f0.f3, x.f1.f0, x.f1.f1, x.f1.f2, x.f1.f3) := toSpan _ _ _ _ _ _ _ _ hs.1 hs.2
theorem toSpanS (l : List S34) (hs : l.length ≤ 1048576 ∧ ∀ x ∈ l, smSpan x) : Ev (fun k => laws_toSpanS.f k l) (l.map tSpan) := by
  have hl := hs.1
  unfold laws_toSpanS.f
  simp only [Int.toNat_natCast]
  refine ev_if_pos (by omega) (ev_if_pos (by omega) ?_)
  refine fill_ev l tSpan z38 (fun k out i => laws_toSpanS.l0 k l out i) (fun out => ?_) (fun i hi out r ho h => ?_)
  · refine Ev.step (f := fun _ => some out) (fun k => ?_) (Ev.now _)
    simp only [laws_toSpanS.l0]
    rw [if_neg (by omega)]
  · have h2 := Ev.bind (f := fun k (bt : Int × Int × Nat × List Int × Int × Int × Nat × List Int) => laws_toSpanS.l0 k l (out.set i (⟨(⟨bt.1, bt.2.1, bt.2.2.1, bt.2.2.2.1⟩ : S27), (⟨bt.2.2.2.2.1, bt.2.2.2.2.2.1, bt.2.2.2.2.2.2.1, bt.2.2.2.2.2.2.2⟩ : S27)⟩ : S38)) ((i + 1 : Nat) : Int)) (toSpan_ev l[i] (hs.2 _ (List.getElem_mem _))) h
    refine Ev.step (fun k => ?_) h2
    simp only [laws_toSpanS.l0, rdL_Span l i hi]
    rw [if_pos (by omega), if_pos (by omega), wrap_succ (by omega) (by omega), Int.toNat_natCast]
    simp only [if_pos (show (i : Int) < (out.length : Int) by omega)]
    rfl
theorem eqSpan_ev (x : S38) (hg : gdSpan x) : Ev (fun k => laws_eqSpan.f k x.f0.f0 x.f0.f1 x.f0.f2 x.f0.f3 x.f1.f0 x.f1.f1 x.f1.f2 x.f1.f3 x.f0.f0 x.f0.f1 x.f0.f2 x.f0.f3 x.f1.f0 x.f1.f1 x.f1.f2 x.f1.f3) true := eqSpan _ _ _ _ _ _ _ _ hg.1.1 hg.2.1 hg.1.2.1 hg.2.2.1
theorem eqSpanS (l : List S38) (hs : l.length ≤ 1048576) (hg : ∀ x ∈ l, gdSpan x) : Ev (fun k => laws_eqSpanS.f k l l) true := by
  unfold laws_eqSpanS.f
  simp only [if_true]
  refine ev_down (fun k i => laws_eqSpanS.l0 k l l i) (fun _ r => r = true) l.length (fun r hr => ?_) (fun i hi ih r hr => ?_) 0 (by omega) true rfl
  · subst hr
    refine Ev.step (f := fun _ => some true) (fun k => ?_) (Ev.now _)
    simp only [laws_eqSpanS.l0]
    rw [if_neg (by omega)]
  · subst hr
    refine Ev.step (fun k => ?_) (Ev.bind (eqSpan_ev l[i] (hg _ (List.getElem_mem _))) (f := fun k t => if t = true then laws_eqSpanS.l0 k l l ((i + 1 : Nat) : Int) else some false) (ev_if_pos rfl (ih true rfl)))
    simp only [laws_eqSpanS.l0, rdI_Span l i hi]
    rw [if_pos (by omega), if_pos (by omega), if_pos (by omega), wrap_succ (by omega) (by omega)]
    rfl

theorem ev_anyO' {α : Type} (g : Nat → α → Option Bool) (p : α → Bool) : ∀ l : List α, (∀ x ∈ l, Ev (fun k => g k x) (p x)) → Ev (fun k => anyO (g k) l) (l.any p)
  | [], _ => Ev.now _
  | x :: xs, h => by
    simp only [anyO, List.any_cons]
    exact Ev.bind (h x List.mem_cons_self) (Ev.bind (ev_anyO' g p xs (fun y hy => h y (List.mem_cons_of_mem _ hy))) (Ev.now _))
theorem ev_allO' {α : Type} (g : Nat → α → Option Bool) (p : α → Bool) : ∀ l : List α, (∀ x ∈ l, Ev (fun k => g k x) (p x)) → Ev (fun k => allO (g k) l) (l.all p)
  | [], _ => Ev.now _
  | x :: xs, h => by
    simp only [allO, List.all_cons]
    exact Ev.bind (h x List.mem_cons_self) (Ev.bind (ev_allO' g p xs (fun y hy => h y (List.mem_cons_of_mem _ hy))) (Ev.now _))

theorem ev_down' {ρ : Type} (F : Nat → Int → Option ρ) (n : Nat) (v : Nat → ρ) (hend : Ev (fun k => F k n) (v n)) (hstep : ∀ i, i < n → Ev (fun k => F k ((i + 1 : Nat) : Int)) (v (i + 1)) → Ev (fun k => F k (i : Int)) (v i)) : Ev (fun k => F k 0) (v 0) := by
  have := ev_down F (fun i r => r = v i) n (fun r hr => by subst hr; exact hend) (fun i hi ih r hr => by subst hr; exact hstep i hi (ih _ rfl)) 0 (by omega) (v 0) rfl
  exact this
/-- A loop over a list that asks each element, and goes on behind the last. -/
theorem loop_list {α : Type} (l : List α) (p : α → Bool) (F : Nat → Int → Option Bool) (q : Bool) (hend : Ev (fun k => F k l.length) q) (hround : ∀ i (hi : i < l.length), ∀ r, Ev (fun k => F k ((i + 1 : Nat) : Int)) r → Ev (fun k => F k (i : Int)) (p l[i] && r)) : Ev (fun k => F k 0) (l.all p && q) := by
  have := ev_down' F l.length (fun i => (l.drop i).all p && q) (by simpa using hend) (fun i hi ih => by
    rw [List.drop_eq_getElem_cons hi, List.all_cons, Bool.and_assoc]
    exact hround i hi _ ih)
  simpa using this
/-- The same by places. -/
theorem loop_idx (n : Nat) (c : Nat → Bool) (F : Nat → Int → Option Bool) (hend : Ev (fun k => F k n) true) (hround : ∀ i, i < n → ∀ r, Ev (fun k => F k ((i + 1 : Nat) : Int)) r → Ev (fun k => F k (i : Int)) (c i && r)) : Ev (fun k => F k 0) ((List.range n).all c) := by
  have := ev_down' F n (fun i => ((List.range n).drop i).all c) (by rw [List.drop_eq_nil_of_le (by simp)]; exact hend) (fun i hi ih => by
    have e : (List.range n).drop i = i :: (List.range n).drop (i + 1) := by
      rw [List.drop_eq_getElem_cons (by simpa using hi), List.getElem_range]
    simp only [e, List.all_cons]
    exact hround i hi _ ih)
  simpa using this
/-- No two have one number: asked of each against those ahead of it. -/
theorem nodup_ahead {α : Type} (l : List α) (g : α → Int) (z : α) : decide ((l.map g).Nodup) = (List.range l.length).all fun i => (l.take i).all fun x => !decide (g x = g (l.getD i z)) := by
  rw [Bool.eq_iff_iff, decide_eq_true_eq, List.all_eq_true, List.Nodup, List.pairwise_iff_getElem]
  constructor
  · intro h i hi
    rw [List.mem_range] at hi
    rw [List.all_eq_true]
    intro x hx
    obtain ⟨j, hj, rfl⟩ := List.mem_iff_getElem.1 hx
    rw [List.length_take] at hj
    have := h j i (by simp; omega) (by simpa using hi) (by omega)
    simp only [List.getElem_map] at this
    rw [List.getElem_take, show l.getD i z = l[i] by simp [hi]]
    simpa using this
  · intro h i j hi hj hij
    rw [List.length_map] at hi hj
    have h2 := h j (by simpa using hj)
    rw [List.all_eq_true] at h2
    have h3 := h2 l[i] (by rw [List.mem_iff_getElem]; exact ⟨i, by simp; omega, by simp⟩)
    rw [show l.getD j z = l[j] by simp [hj]] at h3
    simp only [List.getElem_map]
    simpa using h3

def spanB (s : S38) : Bool := okSpan s.f0.f0 s.f0.f1 s.f0.f2 s.f0.f3 s.f1.f0 s.f1.f1 s.f1.f2 s.f1.f3
def keyB' (a : S27) : Bool := okKey a.f0 a.f1 a.f2 a.f3
theorem implSpanB (s : S38) (h : gdSpan s) : Ev (fun k => impl_SpanOk.f k s.f0.f0 s.f0.f1 s.f0.f2 s.f0.f3 s.f1.f0 s.f1.f1 s.f1.f2 s.f1.f3) (spanB s) := implSpanOk _ _ _ _ _ _ _ _ h.1.1 h.2.1 h.1.2.2 h.2.2.2
theorem specSpanB (s : S38) (h : gdSpan s) : Ev (fun k => spec_SpanOk.f k s.f0.f0 s.f0.f1 s.f0.f2 s.f0.f3 s.f1.f0 s.f1.f1 s.f1.f2 s.f1.f3) (spanB s) := specSpanOk _ _ _ _ _ _ _ _ h.1.1 h.2.1 (by have := h.1.2.1; omega) (by have := h.2.2.1; omega)
theorem allSpans (l : List S38) (h : ∀ s ∈ l, gdSpan s) : Ev (fun k => areAll_Span_impl_SpanOk.f k l) (l.all spanB) := ev_allO' _ spanB l (fun s hs => implSpanB s (h s hs))
theorem allKeys (l : List S27) (h : ∀ s ∈ l, gdItem s) : areAll_Item_impl_KeyOk.f l = some (l.all keyB') := pAllO_some (fun s hs => implKeyOk s.f0 s.f1 s.f2 s.f3 (h s hs).1)

def lnDeed (x : S117) : Prop := (x.f3.length ≤ 9223372036854775807 ∧ ∀ y ∈ x.f3, lnSpan y) ∧ (x.f4.length ≤ 9223372036854775807 ∧ ∀ y ∈ x.f4, lnItem y)
def smDeed (x : S117) : Prop := (x.f3.length ≤ 1048576 ∧ ∀ y ∈ x.f3, smSpan y) ∧ (x.f4.length ≤ 1048576 ∧ ∀ y ∈ x.f4, smItem y)
def tDeed (x : S117) : S119 := ⟨x.f0, x.f1, x.f2, x.f3.map tSpan, x.f4.map tItem⟩
def gdDeed (x : S119) : Prop := x.f3.length ≤ 1048576 ∧ (∀ y ∈ x.f3, gdSpan y) ∧ x.f4.length ≤ 1048576 ∧ ∀ y ∈ x.f4, gdItem y
theorem okDeed_ln {x : S117} (h : ok117 x) : lnDeed x := ⟨⟨h.2.2.2.1.1, fun y hy => okSpan_ln (h.2.2.2.1.2 y hy)⟩, ⟨h.2.2.2.2.1, fun y hy => okItem_ln (h.2.2.2.2.2 y hy)⟩⟩
theorem okDeed_gdF {x : S117} (h : ok117 x) (hs : smDeed x) : (x.f3.map tSpan).length ≤ 1048576 ∧ (∀ y ∈ x.f3.map tSpan, gdSpan y) ∧ (x.f4.map tItem).length ≤ 1048576 ∧ ∀ y ∈ x.f4.map tItem, gdItem y := by
  refine ⟨by rw [List.length_map]; exact hs.1.1, fun y hy => ?_, by rw [List.length_map]; exact hs.2.1, fun y hy => ?_⟩
  · obtain ⟨q, hq, rfl⟩ := List.mem_map.1 (show y ∈ x.f3.map tSpan from hy)
    exact okSpan_gd (h.2.2.2.1.2 q hq) (hs.1.2 q hq)
  · obtain ⟨q, hq, rfl⟩ := List.mem_map.1 (show y ∈ x.f4.map tItem from hy)
    exact okItem_gd (h.2.2.2.2.2 q hq) (hs.2.2 q hq)
theorem okDeed_gd {x : S117} (h : ok117 x) (hs : smDeed x) : gdDeed (tDeed x) := okDeed_gdF h hs
theorem rdL_Deed (l : List S117) (i : Nat) (h : i < l.length) : rd_T117 l (i : Int) = l[i] := by simp [rd_T117, h]
theorem rdI_Deed (l : List S119) (i : Nat) (h : i < l.length) : rd_T119 l (i : Int) = l[i] := by simp [rd_T119, h]
theorem szDeed_ev (x : S117) (n : Int) (h0 : 0 ≤ n) (h1 : n ≤ 1048576) (hx : lnDeed x) : ∃ r, Ev (fun k => laws_szDeed.f k x.f0 x.f1 x.f2 x.f3 x.f4 n) r ∧ r ≤ n ∧ (0 ≤ r → smDeed x) := by
  unfold laws_szDeed.f
  obtain ⟨q, h2, h3, h4⟩ := szSpanS x.f3 n h0 h1 hx.1.1 hx.1.2
  by_cases hq : q < 0
  · exact ⟨-1, Ev.bind h2 (ev_if_pos hq (Ev.now _)), by omega, fun h => by omega⟩
  · obtain ⟨r, h5, h6, h7⟩ := szItemS x.f4 q (by omega) (by omega) hx.2.1 hx.2.2
    by_cases hr : r < 0
    · exact ⟨-1, Ev.bind h2 (ev_if_neg hq (Ev.bind h5 (ev_if_pos hr (Ev.now _)))), by omega, fun h => by omega⟩
    · exact ⟨r, Ev.bind h2 (ev_if_neg hq (Ev.bind h5 (ev_if_neg hr (Ev.now _)))), by omega, fun h => ⟨h4 (by omega), h7 h⟩⟩
theorem szDeedS (l : List S117) (n : Int) (h0 : 0 ≤ n) (h1 : n ≤ 1048576) (hl : l.length ≤ 9223372036854775807) (hx : ∀ x ∈ l, lnDeed x) : ∃ r, Ev (fun k => laws_szDeedS.f k l n) r ∧ r ≤ n ∧ (0 ≤ r → l.length ≤ 1048576 ∧ ∀ x ∈ l, smDeed x) := by
  unfold laws_szDeedS.f
  rw [wrap_id (by omega) (by omega)]
  by_cases h : n - (l.length : Int) < 0
  · exact ⟨-1, by simp only [if_pos h]; exact Ev.now _, by omega, fun h2 => by omega⟩
  · simp only [if_neg h]
    have key : ∀ d i : Nat, l.length - i = d → i ≤ l.length → ∀ m : Int, 0 ≤ m → m ≤ 1048576 → (∀ x ∈ l.take i, smDeed x) → ∃ r, Ev (fun k => laws_szDeedS.l0 k l m i) r ∧ r ≤ m ∧ (0 ≤ r → ∀ x ∈ l, smDeed x) := by
      intro d
      induction d with
      | zero =>
        intro i hd hi m hm0 hm1 hp
        obtain rfl : i = l.length := by omega
        refine ⟨m, Ev.step (f := fun _ => some m) (fun k => ?_) (Ev.now _), by omega, fun _ => by simpa using hp⟩
        simp only [laws_szDeedS.l0]
        rw [if_neg (by omega)]
      | succ d ih =>
        intro i hd hi m hm0 hm1 hp
        have hil : i < l.length := by omega
        obtain ⟨q, hq, hqm, hq0⟩ := szDeed_ev l[i] m hm0 hm1 (hx _ (List.getElem_mem _))
        by_cases hneg : q < 0
        · refine ⟨-1, Ev.step (fun k => ?_) (Ev.bind hq (r := -1) (f := fun k t => if t < 0 then some (-1) else laws_szDeedS.l0 k l t ((i + 1 : Nat) : Int)) (ev_if_pos hneg (Ev.now _))), by omega, fun h => by omega⟩
          simp only [laws_szDeedS.l0, rdL_Deed l i hil]
          rw [if_pos (by omega), if_pos (by omega), wrap_succ (by omega) (by omega)]
          rfl
        · obtain ⟨r, h3, h4, h5⟩ := ih (i + 1) (by omega) (by omega) q (by omega) (by omega) (fun x hx2 => by
            rw [List.take_succ_eq_append_getElem hil] at hx2
            rcases List.mem_append.1 hx2 with h5 | h5
            · exact hp x h5
            · obtain rfl : x = l[i] := by simpa using h5
              exact hq0 (by omega))
          refine ⟨r, Ev.step (fun k => ?_) (Ev.bind hq (f := fun k t => if t < 0 then some (-1) else laws_szDeedS.l0 k l t ((i + 1 : Nat) : Int)) (ev_if_neg hneg h3)), by omega, h5⟩
          simp only [laws_szDeedS.l0, rdL_Deed l i hil]
          rw [if_pos (by omega), if_pos (by omega), wrap_succ (by omega) (by omega)]
          rfl
    obtain ⟨r, h2, h3, h4⟩ := key l.length 0 (by omega) (by omega) (n - (l.length : Int)) (by omega) (by omega) (by simp)
    exact ⟨r, h2, by omega, fun h5 => ⟨by omega, h4 h5⟩⟩
theorem toDeed_ev (x : S117) (hs : smDeed x) : Ev (fun k => laws_toDeed.f k x.f0 x.f1 x.f2 x.f3 x.f4) (x.f0, x.f1, x.f2, x.f3.map tSpan, x.f4.map tItem) := by
  unfold laws_toDeed.f
  exact Ev.bind (toSpanS _ hs.1) (Ev.bind (toItemS _ hs.2) (Ev.now _))
theorem toDeedS (l : List S117) (hs : l.length ≤ 1048576 ∧ ∀ x ∈ l, smDeed x) : Ev (fun k => laws_toDeedS.f k l) (l.map tDeed) := by
  have hl := hs.1
  unfold laws_toDeedS.f
  simp only [Int.toNat_natCast]
  refine ev_if_pos (by omega) (ev_if_pos (by omega) ?_)
  refine fill_ev l tDeed z119 (fun k out i => laws_toDeedS.l0 k l out i) (fun out => ?_) (fun i hi out r ho h => ?_)
  · refine Ev.step (f := fun _ => some out) (fun k => ?_) (Ev.now _)
    simp only [laws_toDeedS.l0]
    rw [if_neg (by omega)]
  · have h2 := Ev.bind (f := fun k (bt : Int × Int × Int × List S38 × List S27) => laws_toDeedS.l0 k l (out.set i (⟨bt.1, bt.2.1, bt.2.2.1, bt.2.2.2.1, bt.2.2.2.2⟩ : S119)) ((i + 1 : Nat) : Int)) (toDeed_ev l[i] (hs.2 _ (List.getElem_mem _))) h
    refine Ev.step (fun k => ?_) h2
    simp only [laws_toDeedS.l0, rdL_Deed l i hi]
    rw [if_pos (by omega), if_pos (by omega), wrap_succ (by omega) (by omega), Int.toNat_natCast]
    simp only [if_pos (show (i : Int) < (out.length : Int) by omega)]
    rfl
theorem eqDeedF (u0 : Int) (u1 : Int) (u2 : Int) (u3 : List S38) (u4 : List S27) (hg : u3.length ≤ 1048576 ∧ (∀ y ∈ u3, gdSpan y) ∧ u4.length ≤ 1048576 ∧ ∀ y ∈ u4, gdItem y) : Ev (fun k => laws_eqDeed.f k u0 u1 u2 u3 u4 u0 u1 u2 u3 u4) true := by
  unfold laws_eqDeed.f
  refine ev_if_pos rfl (ev_if_pos rfl (ev_if_pos rfl ?_))
  exact Ev.bind (eqSpanS _ hg.1 hg.2.1) (ev_if_pos rfl (Ev.bind (eqItemS _ hg.2.2.1 hg.2.2.2) (ev_if_pos rfl (Ev.now _))))
theorem eqDeed_ev (x : S119) (hg : gdDeed x) : Ev (fun k => laws_eqDeed.f k x.f0 x.f1 x.f2 x.f3 x.f4 x.f0 x.f1 x.f2 x.f3 x.f4) true := eqDeedF x.f0 x.f1 x.f2 x.f3 x.f4 hg
theorem eqDeedS (l : List S119) (hs : l.length ≤ 1048576) (hg : ∀ x ∈ l, gdDeed x) : Ev (fun k => laws_eqDeedS.f k l l) true := by
  unfold laws_eqDeedS.f
  simp only [if_true]
  refine ev_down (fun k i => laws_eqDeedS.l0 k l l i) (fun _ r => r = true) l.length (fun r hr => ?_) (fun i hi ih r hr => ?_) 0 (by omega) true rfl
  · subst hr
    refine Ev.step (f := fun _ => some true) (fun k => ?_) (Ev.now _)
    simp only [laws_eqDeedS.l0]
    rw [if_neg (by omega)]
  · subst hr
    refine Ev.step (fun k => ?_) (Ev.bind (eqDeed_ev l[i] (hg _ (List.getElem_mem _))) (f := fun k t => if t = true then laws_eqDeedS.l0 k l l ((i + 1 : Nat) : Int) else some false) (ev_if_pos rfl (ih true rfl)))
    simp only [laws_eqDeedS.l0, rdI_Deed l i hi]
    rw [if_pos (by omega), if_pos (by omega), if_pos (by omega), wrap_succ (by omega) (by omega)]
    rfl

def headD (d : S119) : Bool := decide (d.f1 ≥ 1) && decide (d.f2 > d.f1) && decide (d.f3.length ≤ 200) && decide (d.f4.length ≤ 200)
def okDe (d : S119) : Bool := headD d && (d.f3.all spanB && d.f4.all keyB')
def timesD (l : List S119) : List Int := l.flatMap fun d => [d.f1, d.f2]
def deedsB (l : List S119) : Bool := decide (l.length ≤ 100) && (l.all okDe && decide ((timesD l).Nodup))
theorem timesD_take (l : List S119) (i : Nat) (h : i < l.length) : timesD (l.take (i + 1)) = timesD (l.take i) ++ [l[i].f1, l[i].f2] := by
  unfold timesD
  rw [List.take_succ_eq_append_getElem h, List.flatMap_append]
  simp
theorem timesD_length : ∀ l : List S119, (timesD l).length = 2 * l.length
  | [] => rfl
  | d :: l => by
    have := timesD_length l
    unfold timesD at this ⊢
    rw [List.flatMap_cons, List.length_append, this]
    simp only [List.length_cons, List.length_nil]
    omega
theorem implIsDeed (d : S119) (h : gdDeed d) : Ev (fun k => impl_isDeed.f k d.f0 d.f1 d.f2 d.f3 d.f4) (okDe d) := by
  unfold impl_isDeed.f
  have hs := allSpans d.f3 h.2.1
  have hk := allKeys d.f4 h.2.2.2
  unfold okDe headD
  by_cases h1 : d.f1 ≥ 1
  · refine ev_if_pos h1 ?_
    by_cases h2 : d.f2 > d.f1
    · refine ev_if_pos h2 ?_
      by_cases h3 : d.f3.length ≤ 200
      · refine ev_if_pos (by omega) (Ev.bind hs ?_)
        cases hb : d.f3.all spanB with
        | false => exact ev_if_neg (by decide) (by simpa using Ev.now _)
        | true =>
          refine ev_if_pos rfl ?_
          by_cases h4 : d.f4.length ≤ 200
          · refine ev_if_pos (by omega) (Ev.bind (ev_eq hk) ?_)
            simpa [h1, h2, h3, h4] using Ev.now _
          · refine ev_if_neg (by omega) ?_
            simpa [h4] using Ev.now _
      · refine ev_if_neg (by omega) ?_
        simpa [h3] using Ev.now _
    · refine ev_if_neg h2 ?_
      simpa [h2] using Ev.now _
  · refine ev_if_neg h1 ?_
    simpa [h1] using Ev.now _
theorem implDeedsOk (l : List S119) (h : ∀ d ∈ l, gdDeed d) (hw : ∀ d ∈ l, (Lit.int .i64 d.f1).wf = true ∧ (Lit.int .i64 d.f2).wf = true) : Ev (fun k => impl_DeedsOk.f k l) (deedsB l) := by
  unfold impl_DeedsOk.f deedsB
  by_cases hl : l.length ≤ 100
  · refine ev_if_neg (by omega) ?_
    refine Ev.bind (ev_allO' _ okDe l (fun d hd => implIsDeed d (h d hd))) ?_
    refine Ev.step (fun k => by simp only [impl_DeedsOk.j0]; rfl) ?_
    rw [decide_eq_true hl, Bool.true_and]
    cases l.all okDe with
    | false => exact ev_if_pos rfl (Ev.now _)
    | true =>
      refine ev_if_neg (by decide) ?_
      rw [Bool.true_and]
      have key := ev_down' (fun k i => impl_DeedsOk.l0 k (timesD (l.take i.toNat)) l (l.length : Int) i) l.length (fun _ => decide ((timesD l).Nodup)) ?_ (fun i hi ih => ?_)
      · simpa [timesD] using key
      · have hd : areDifferent_int_impl_DeedsOk_1.f (timesD l) = some (decide (((timesD l).map id).Nodup)) := pDiffO_some (fun t _ => rfl) (fun t ht => by
          obtain ⟨d, hd, he⟩ := List.mem_flatMap.1 ht
          rcases List.mem_cons.1 he with rfl | he
          · exact (hw d hd).1
          · obtain rfl : t = d.f2 := by simpa using he
            exact (hw d hd).2)
        rw [List.map_id] at hd
        refine Ev.step (fun k => ?_) (Ev.bind (ev_eq hd) (f := fun _ t => some t) (Ev.now _))
        simp only [impl_DeedsOk.l0, Int.toNat_natCast, List.take_length]
        rw [if_neg (by omega)]
      · refine Ev.step (fun k => ?_) ih
        have hlen := timesD_length (l.take i)
        rw [List.length_take] at hlen
        simp only [impl_DeedsOk.l0, Int.toNat_natCast, rdI_Deed l i hi]
        rw [if_pos (by omega), if_pos (by omega), if_pos (by omega), Option.bind_some, if_pos (by simp only [List.length_cons, List.length_nil]; omega), wrap_succ (by omega) (by omega), ← timesD_take l i hi]
        rfl
  · refine ev_if_pos (by omega) ?_
    refine Ev.step (fun k => by simp only [impl_DeedsOk.j0]; rfl) ?_
    rw [decide_eq_false hl]
    exact ev_if_pos (by simp) (Ev.now _)
def cD (l : List S119) (i : Nat) : Bool := okDe (l.getD i z119) && (timesD (l.take i)).all fun t => !decide (t = (l.getD i z119).f1) && !decide (t = (l.getD i z119).f2)
theorem okDe_lt {d : S119} (h : okDe d = true) : d.f1 < d.f2 := by
  unfold okDe headD at h
  simp only [Bool.and_eq_true, decide_eq_true_eq] at h
  exact h.1.1.1.2
theorem cD_all (l : List S119) : ∀ n, n ≤ l.length → (List.range n).all (cD l) = ((l.take n).all okDe && decide ((timesD (l.take n)).Nodup))
  | 0, _ => by simp [timesD]
  | n + 1, h => by
    rw [List.range_succ, List.all_append, cD_all l n (by omega), timesD_take l n (by omega), List.take_succ_eq_append_getElem (show n < l.length by omega), List.all_append]
    have e : l.getD n z119 = l[n] := by simp [show n < l.length by omega]
    rw [Bool.eq_iff_iff]
    simp only [List.all_cons, List.all_nil, Bool.and_true, Bool.and_eq_true, decide_eq_true_eq, cD, e, List.all_eq_true, Bool.not_eq_true', decide_eq_false_iff_not, List.nodup_append]
    constructor
    · rintro ⟨⟨h1, h2⟩, h3, h4⟩
      have := okDe_lt h3
      refine ⟨⟨h1, h3⟩, h2, ?_, ?_⟩
      · simp; omega
      · intro a ha b hb
        rcases List.mem_cons.1 hb with rfl | hb
        · exact (h4 a ha).1
        · obtain rfl : b = l[n].f2 := by simpa using hb
          exact (h4 a ha).2
    · rintro ⟨⟨h1, h3⟩, h2, _, h5⟩
      exact ⟨⟨h1, h2⟩, h3, fun t ht => ⟨h5 t ht _ (by simp), h5 t ht _ (by simp)⟩⟩
theorem specHeadD (l : List S119) (ts : List Int) (i : Nat) (hi : i < l.length) (k : Nat) : spec_DeedsOk.l0 (k + 1) l ts i = spec_DeedsOk.j1 k l ts i (!headD l[i]) l[i].f0 l[i].f1 l[i].f2 l[i].f3 l[i].f4 := by
  simp only [spec_DeedsOk.l0, rdI_Deed l i hi]
  generalize l[i] = t
  rw [if_pos (by omega), if_pos (by omega)]
  unfold headD
  have e6 : ((t.f3.length : Int) > 200) ↔ ¬ t.f3.length ≤ 200 := by omega
  have e2 : ((t.f4.length : Int) > 200) ↔ ¬ t.f4.length ≤ 200 := by omega
  have e1 : (t.f1 < 1) ↔ ¬ t.f1 ≥ 1 := by omega
  have e3 : (t.f2 ≤ t.f1) ↔ ¬ t.f2 > t.f1 := by omega
  simp only [e6, e2, e1, e3]
  by_cases h2 : t.f1 ≥ 1 <;> by_cases h4 : t.f2 > t.f1 <;> by_cases h5 : t.f3.length ≤ 200 <;> by_cases h8 : t.f4.length ≤ 200 <;> simp only [h2, h4, h5, h8, decide_true, decide_false, if_true, if_false, not_true_eq_false, not_false_eq_true, Bool.false_eq_true, Bool.and_true, Bool.true_and, Bool.and_false, Bool.false_and, Bool.not_true, Bool.not_false, Bool.and_self]
theorem specDeedsOk (l : List S119) (h : ∀ d ∈ l, gdDeed d) : Ev (fun k => spec_DeedsOk.f k l) (deedsB l) := by
  unfold spec_DeedsOk.f deedsB
  by_cases hl : l.length ≤ 100
  · refine ev_if_neg (by omega) ?_
    rw [decide_eq_true hl, Bool.true_and]
    have e := cD_all l l.length (by omega)
    rw [List.take_length] at e
    rw [← e]
    have key := loop_idx l.length (cD l) (fun k i => spec_DeedsOk.l0 k l (timesD (l.take i.toNat)) i) ?_ (fun i hi r hr => ?_)
    · simpa [timesD] using key
    · refine Ev.step (f := fun _ => some true) (fun k => ?_) (Ev.now _)
      simp only [spec_DeedsOk.l0]
      rw [if_neg (by omega)]
    · unfold cD
      rw [show l.getD i z119 = l[i] by simp [hi]]
      have hg := h l[i] (List.getElem_mem _)
      have hlen2 := timesD_length (l.take i)
      rw [List.length_take] at hlen2
      simp only [Int.toNat_natCast] at hr ⊢
      rw [timesD_take l i hi] at hr
      refine Ev.step (specHeadD l _ i hi) ?_
      unfold okDe
      generalize l[i] = t at hg hr ⊢
      generalize timesD (l.take i) = ts at hr hlen2 ⊢
      refine Ev.step (fun k => by simp only [spec_DeedsOk.j1]; rfl) ?_
      cases headD t with
      | false =>
        refine ev_if_pos rfl ?_
        simpa using Ev.now _
      | true =>
        refine ev_if_neg (by decide) ?_
        have h3 : Ev (fun k => spec_DeedsOk.l3 k l ts i 0 t.f0 t.f1 t.f2 t.f3 t.f4) (ts.all (fun x => !decide (x = t.f1) && !decide (x = t.f2)) && r) := by
          refine loop_list ts _ (fun k m => spec_DeedsOk.l3 k l ts i m t.f0 t.f1 t.f2 t.f3 t.f4) r ?_ (fun m hm q hq => ?_)
          · refine Ev.step (fun k => ?_) hr
            simp only [spec_DeedsOk.l3]
            rw [if_neg (by omega), if_pos (by omega), Option.bind_some, if_pos (by simp; omega), wrap_succ (by omega) (by omega)]
            simp only [List.append_assoc, List.cons_append, List.nil_append]
            rfl
          · have er : rd ts (m : Int) = ts[m] := by simp [rd, hm]
            by_cases he : ts[m] = t.f1
            · refine Ev.step (f := fun _ => some false) (fun k => ?_) (by simpa [he] using Ev.now _)
              simp only [spec_DeedsOk.l3, er]
              rw [if_pos (by omega), if_pos (by omega), if_pos he]
            · by_cases he2 : ts[m] = t.f2
              · refine Ev.step (f := fun _ => some false) (fun k => ?_) (by simpa [he2] using Ev.now _)
                simp only [spec_DeedsOk.l3, er]
                rw [if_pos (by omega), if_pos (by omega), if_neg he, if_pos he2]
              · refine Ev.step (fun k => ?_) (by simpa [he, he2] using hq)
                simp only [spec_DeedsOk.l3, er]
                rw [if_pos (by omega), if_pos (by omega), if_neg he, if_neg he2, wrap_succ (by omega) (by omega)]
        have h2 : Ev (fun k => spec_DeedsOk.l2 k l ts i 0 t.f0 t.f1 t.f2 t.f3 t.f4) (t.f4.all keyB' && (ts.all (fun x => !decide (x = t.f1) && !decide (x = t.f2)) && r)) := by
          have hlen := hg.2.2.1
          refine loop_list t.f4 _ (fun k m => spec_DeedsOk.l2 k l ts i m t.f0 t.f1 t.f2 t.f3 t.f4) _ ?_ (fun m hm q hq => ?_)
          · refine Ev.step (fun k => ?_) h3
            simp only [spec_DeedsOk.l2]
            rw [if_neg (by omega)]
          · have hk := hg.2.2.2 t.f4[m] (List.getElem_mem _)
            refine Ev.step (fun k => ?_) (Ev.bind (specKeyOk t.f4[m].f0 t.f4[m].f1 t.f4[m].f2 t.f4[m].f3 hk.1) (f := fun k b => if b = true then spec_DeedsOk.l2 k l ts i ((m + 1 : Nat) : Int) t.f0 t.f1 t.f2 t.f3 t.f4 else some false) ?_)
            · simp only [spec_DeedsOk.l2, rdI_Item t.f4 m hm]
              rw [if_pos (by omega), if_pos (by omega), wrap_succ (by omega) (by omega)]
              rfl
            · unfold keyB'
              cases okKey t.f4[m].f0 t.f4[m].f1 t.f4[m].f2 t.f4[m].f3 with
              | false => exact ev_if_neg (by decide) (Ev.now _)
              | true => exact ev_if_pos rfl (by simpa using hq)
        have hlen := hg.1
        have h1 := loop_list t.f3 spanB (fun k m => spec_DeedsOk.l1 k l ts i m t.f0 t.f1 t.f2 t.f3 t.f4) _ (Ev.step (fun k => by simp only [spec_DeedsOk.l1]; rw [if_neg (by omega)]) h2) (fun m hm q hq => by
            have hk := hg.2.1 t.f3[m] (List.getElem_mem _)
            refine Ev.step (fun k => ?_) (Ev.bind (specSpanB t.f3[m] hk) (f := fun k b => if b = true then spec_DeedsOk.l1 k l ts i ((m + 1 : Nat) : Int) t.f0 t.f1 t.f2 t.f3 t.f4 else some false) ?_)
            · simp only [spec_DeedsOk.l1, rdI_Span t.f3 m hm]
              rw [if_pos (by omega), if_pos (by omega), wrap_succ (by omega) (by omega)]
              rfl
            · cases spanB t.f3[m] with
              | false => exact ev_if_neg (by decide) (Ev.now _)
              | true => exact ev_if_pos rfl (by simpa using hq))
        simpa [Bool.and_assoc] using h1
  · refine ev_if_pos (by omega) ?_
    rw [decide_eq_false hl]
    exact Ev.now _

theorem FnExactDeedsOk (a : List S117) (h : a.length ≤ 9223372036854775807 ∧ ∀ x ∈ a, ok117 x) : ∃ k, laws_FnExactDeedsOk.f k a = some true := by
  have key : Ev (fun k => laws_FnExactDeedsOk.f k a) true := by
    unfold laws_FnExactDeedsOk.f
    obtain ⟨q, h2, h3, h4⟩ := szDeedS a 1048576 (by omega) (by omega) h.1 (fun x hx => okDeed_ln (h.2 x hx))
    refine Ev.bind h2 ?_
    by_cases hq : q < 0
    · exact ev_if_pos hq (Ev.now _)
    refine ev_if_neg hq ?_
    have sa := h4 (by omega)
    have ga : ∀ t ∈ a.map tDeed, gdDeed t := fun t ht => by
      obtain ⟨x, hx, rfl⟩ := List.mem_map.1 ht
      exact okDeed_gd (h.2 x hx) (sa.2 x hx)
    have wa : ∀ t ∈ a.map tDeed, (Lit.int .i64 t.f1).wf = true ∧ (Lit.int .i64 t.f2).wf = true := fun t ht => by
      obtain ⟨x, hx, rfl⟩ := List.mem_map.1 ht
      exact ⟨(h.2 x hx).2.1, (h.2 x hx).2.2.1⟩
    refine Ev.bind (toDeedS a sa) (Ev.bind (specDeedsOk _ ga) ?_)
    refine Ev.bind (toDeedS a sa) (Ev.bind (implDeedsOk _ ga wa) ?_)
    refine ev_if_neg (by simp) ?_
    refine Ev.bind (toDeedS a sa) ?_
    exact Ev.bind (eqDeedS _ (by rw [List.length_map]; exact sa.1) ga) (ev_if_pos rfl (Ev.now _))
  exact key.rounds

end Go.Proofs.Ytjmlbkhcjgehdaa.Pure
