/- FnExactItemClean: the pure half: what the printed functions answer, without Go and memory. No condition beside those that each theorem states. -/
import Derived.Test.YtjmlbkhcjgehdaaPFnExactItemCleanx
import Derived.Test.YtjmlbkhcjgehdaaOFnExactItemClean
namespace Go.Proofs.Ytjmlbkhcjgehdaa.Pure
open Go.RowKit Go.Proofs.Ytjmlbkhcjgehdaa.PFnExactItemClean Go.Proofs.YtjmlbkhcjgehdaaW.PrintWords Go.Proofs.YtjmlbkhcjgehdaaW.PrintLast Go.Proofs.YtjmlbkhcjgehdaaW.PrintMore Go.Proofs.Ytjmlbkhcjgehdaa.HFl Go.Proofs.Ytjmlbkhcjgehdaa.HMap Go.Proofs.Ytjmlbkhcjgehdaa.HMore
set_option linter.unusedVariables false
set_option linter.unusedSimpArgs false

theorem wrap_succ {i : Int} (h0 : 0 ≤ i) (h : i ≤ 9223372036854775806) : wrap64 (i + 1) = i + 1 := by
  unfold wrap64
  omega

theorem drop_rd (l : List Int) (i : Nat) (h : i < l.length) : l.drop i = rd l (i : Int) :: l.drop (i + 1) := by
  rw [List.drop_eq_getElem_cons h]
  simp [rd, List.getD_eq_getElem?_getD, h]

/-- A loop that is walked from its end: what it tells at i follows from what it tells at i + 1. -/
theorem ev_down {ρ : Type} (F : Nat → Int → Option ρ) (R : Nat → ρ → Prop) (n : Nat) (hend : ∀ r, R n r → Ev (fun k => F k n) r) (hstep : ∀ i, i < n → (∀ r, R (i + 1) r → Ev (fun k => F k ((i + 1 : Nat) : Int)) r) → ∀ r, R i r → Ev (fun k => F k (i : Int)) r) :
    ∀ i, i ≤ n → ∀ r, R i r → Ev (fun k => F k (i : Int)) r := by
  have key : ∀ d i, n - i = d → i ≤ n → ∀ r, R i r → Ev (fun k => F k (i : Int)) r := by
    intro d
    induction d with
    | zero =>
      intro i hd hi
      obtain rfl : i = n := by omega
      exact hend
    | succ d ih =>
      intro i hd hi
      exact hstep i (by omega) (ih (i + 1) (by omega) (by omega))
  intro i hi
  exact key _ i rfl hi

theorem ev_if_pos {ρ : Type} {c : Prop} [Decidable c] {a b : Nat → Option ρ} {r : ρ} (h : c) (k : Ev a r) : Ev (fun n => if c then a n else b n) r := by simpa only [if_pos h] using k
theorem ev_if_neg {ρ : Type} {c : Prop} [Decidable c] {a b : Nat → Option ρ} {r : ρ} (h : ¬ c) (k : Ev b r) : Ev (fun n => if c then a n else b n) r := by simpa only [if_neg h] using k

theorem set_fill {α β : Type} (l : List α) (m : List β) (g : α → β) (i : Nat) (hi : i < l.length) (h : l.length = m.length) : ((l.take i).map g ++ m.drop i).set i (g l[i]) = (l.take (i + 1)).map g ++ m.drop (i + 1) := by
  apply List.ext_getElem?
  intro j
  simp only [List.getElem?_set, List.getElem?_append, List.length_map, List.length_take, List.getElem?_map, List.getElem?_take, List.getElem?_drop, List.length_append, List.length_drop]
  rw [Nat.min_eq_left (by omega), Nat.min_eq_left (by omega)]
  by_cases h1 : i = j
  · subst h1
    simp [hi]
    omega
  · by_cases h2 : j < i
    · simp [h1, h2, show j < i + 1 by omega]
    · simp only [h1, h2, if_false, show ¬ j < i + 1 by omega]
      congr 1
      omega

/-- A loop that fills a row, element by element. -/
theorem fill_ev {α β : Type} (l : List α) (g : α → β) (z : β) (F : Nat → List β → Int → Option (List β)) (hend : ∀ out, Ev (fun k => F k out (l.length : Int)) out)
    (hstep : ∀ (i : Nat) (hi : i < l.length) (out : List β) (r : List β), out.length = l.length → Ev (fun k => F k (out.set i (g l[i])) ((i + 1 : Nat) : Int)) r → Ev (fun k => F k out (i : Int)) r) :
    Ev (fun k => F k (List.replicate l.length z) 0) (l.map g) := by
  have key : ∀ d i, l.length - i = d → i ≤ l.length → Ev (fun k => F k ((l.take i).map g ++ (List.replicate l.length z).drop i) (i : Int)) (l.map g) := by
    intro d
    induction d with
    | zero =>
      intro i hd hi
      obtain rfl : i = l.length := by omega
      have h := hend (l.map g)
      simpa using h
    | succ d ih =>
      intro i hd hi
      refine hstep i (by omega) _ _ (by simp; omega) ?_
      rw [set_fill l _ g i (by omega) (by simp)]
      exact ih (i + 1) (by omega) (by omega)
  have h := key l.length 0 (by omega) (by omega)
  simpa using h
theorem ev_eq {ρ : Type} {x : Option ρ} {r : ρ} (h : x = some r) : Ev (fun _ => x) r := ⟨0, fun _ _ => h⟩
/-- A loop that turns a row, element by element, whatever stood there. -/
theorem turn_ev {β ρ : Type} (m : List β) (l : List β) (hm : m.length = l.length) (F : Nat → List β → Int → Option ρ) (r : ρ) (hend : Ev (fun k => F k l (l.length : Int)) r)
    (hstep : ∀ (i : Nat) (hi : i < l.length) (out : List β), out.length = l.length → Ev (fun k => F k (out.set i l[i]) ((i + 1 : Nat) : Int)) r → Ev (fun k => F k out (i : Int)) r) : Ev (fun k => F k m 0) r := by
  have key : ∀ d i, l.length - i = d → i ≤ l.length → Ev (fun k => F k ((l.take i).map id ++ m.drop i) (i : Int)) r := by
    intro d
    induction d with
    | zero =>
      intro i hd hi
      obtain rfl : i = l.length := by omega
      simpa [List.drop_eq_nil_of_le (show m.length ≤ l.length by omega)] using hend
    | succ d ih =>
      intro i hd hi
      refine hstep i (by omega) _ (by simp; omega) ?_
      have := set_fill l m id i (by omega) hm.symm
      simp only [id] at this ⊢
      rw [this]
      have h2 := ih (i + 1) (by omega) (by omega)
      simpa using h2
  have h := key l.length 0 (by omega) (by omega)
  simpa using h

theorem int_wf {n : Int} (h : (Lit.int .i64 n).wf = true) : -9223372036854775808 ≤ n ∧ n ≤ 9223372036854775807 := by
  simp [Lit.wf, IntKind.min, IntKind.max, IntKind.signed, IntKind.bits] at h
  omega
theorem wrap_id {i : Int} (h0 : -9223372036854775808 ≤ i) (h : i ≤ 9223372036854775807) : wrap64 i = i := by
  unfold wrap64
  omega

theorem within_eq (a lo hi : Int) : impl_within.f a lo hi = some (decide (lo ≤ a ∧ a ≤ hi)) := by
  unfold impl_within.f
  by_cases h : lo ≤ a
  · rw [if_pos h]; simp [h]
  · rw [if_neg h]; simp [h]

theorem canon_zero (F : Nat) : HFloat.canon F = 0 ↔ F = 0 := by
  unfold HFloat.canon HFloat.isN
  split
  · rename_i h
    rw [decide_eq_true_eq] at h
    constructor
    · intro e; omega
    · intro e; omega
  · rfl
theorem floatBits_eq {F : Nat} (h : F < 18446744073709551616) : spec_FloatBits.f F = some ((HFloat.canon F : Nat) : Int) := by
  unfold spec_FloatBits.f
  rw [if_pos h]
/-- Whether an item is in its form. -/
def okItem (K N : Int) (F : Nat) (T : List Int) : Bool := decide (0 ≤ K ∧ K ≤ 3) && (decide (N = 0) || decide (K = 1)) && (decide (F = 0) || decide (K = 2)) && (decide (T.length = 0) || (decide (K = 3) && decide (T.length ≤ 40)))
theorem implItemOk (K N : Int) (F : Nat) (T : List Int) : impl_ItemOk.f K N F T = some (okItem K N F T) := by
  unfold impl_ItemOk.f okItem
  rw [within_eq, Option.bind_some]
  by_cases h0 : 0 ≤ K ∧ K ≤ 3
  · rw [if_pos (decide_eq_true h0), decide_eq_true h0]
    have e1 : ((F : Int) = 0) ↔ F = 0 := by omega
    have e2 : ((T.length : Int) = 0) ↔ T.length = 0 := by omega
    have e3 : ((T.length : Int) ≤ 40) ↔ T.length ≤ 40 := by omega
    simp only [e1, e2, e3]
    by_cases h1 : N = 0 <;> by_cases h2 : F = 0 <;> by_cases h3 : T.length = 0 <;> by_cases h5 : K = 1 <;> by_cases h6 : K = 2 <;> by_cases h7 : K = 3 <;> simp [h1, h2, h3, h5, h6, h7]
  · rw [if_neg (by rw [decide_eq_false h0]; decide), decide_eq_false h0]
    rfl
theorem specItemOk (K N : Int) (F : Nat) (T : List Int) (hF : F < 18446744073709551616) : Ev (fun k => spec_ItemOk.f k K N F T) (okItem K N F T) := by
  refine ⟨2, fun k hk => ?_⟩
  obtain ⟨m, rfl⟩ : ∃ m, k = m + 2 := ⟨k - 2, by omega⟩
  simp only [spec_ItemOk.f, spec_ItemOk.j0, spec_ItemOk.j1, floatBits_eq hF, Option.bind_some]
  unfold okItem
  have e1 : (((HFloat.canon F : Nat) : Int) = 0) ↔ F = 0 := by rw [← canon_zero F]; omega
  have e2 : ((T.length : Int) = 0) ↔ T.length = 0 := by omega
  have e3 : ((T.length : Int) > 40) ↔ ¬ T.length ≤ 40 := by omega
  simp only [e1, e3]
  have e4 : ((T.length : Int) == 0) = decide (T.length = 0) := by rw [Bool.eq_iff_iff]; simp
  simp only [e4]
  by_cases h0 : K < 0
  · rw [if_pos h0, if_pos trivial, decide_eq_false (show ¬ (0 ≤ K ∧ K ≤ 3) by omega)]
    rfl
  · rw [if_neg h0]
    by_cases h9 : K > 3
    · rw [if_pos h9, if_pos trivial, decide_eq_false (show ¬ (0 ≤ K ∧ K ≤ 3) by omega)]
      rfl
    · rw [if_neg h9, decide_eq_true (show 0 ≤ K ∧ K ≤ 3 by omega)]
      by_cases h1 : N = 0 <;> by_cases h2 : F = 0 <;> by_cases h3 : T.length = 0 <;> by_cases h4 : T.length ≤ 40 <;> by_cases h5 : K = 1 <;> by_cases h6 : K = 2 <;> by_cases h7 : K = 3 <;> (first | omega | simp [h1, h2, h3, h4, h5, h6, h7])

theorem ord_self {F : Nat} : HFloat.feq F F = !HFloat.isN F := by
  rw [HFloat.feq_eq]
  unfold HFloat.isN
  by_cases h : 9218868437227405312 < F % 9223372036854775808
  · rw [show FloatKind.f64.format.order F F = none from HFloat.order_eq_nan h F, decide_eq_true h]
    rfl
  · rw [show FloatKind.f64.format.order F F = _ from HFloat.order_self (by omega), decide_eq_false h]
    rfl
theorem ord_zero {F : Nat} (hF : F < 18446744073709551616) : HFloat.feq F 0 = decide (F % 9223372036854775808 = 0) := by
  rw [HFloat.feq_eq]
  by_cases h : 9218868437227405312 < F % 9223372036854775808
  · rw [show FloatKind.f64.format.order F 0 = none from HFloat.order_eq_nan h 0, decide_eq_false (by omega)]
    rfl
  · rw [show FloatKind.f64.format.order F 0 = _ from HFloat.order_zero hF (by omega)]
    by_cases h0 : F % 9223372036854775808 = 0
    · rw [if_pos h0, decide_eq_true h0]; rfl
    · rw [if_neg h0, decide_eq_false h0]
      split <;> rfl
theorem ord_gt {F : Nat} (hF : F < 18446744073709551616) (hN : HFloat.isN F = false) (h0 : F % 9223372036854775808 ≠ 0) : HFloat.fgt F 0 = decide (F < 9223372036854775808) := by
  rw [HFloat.fgt_eq]
  unfold HFloat.isN at hN
  rw [decide_eq_false_iff_not] at hN
  rw [show FloatKind.f64.format.order F 0 = _ from HFloat.order_zero hF (by omega), if_neg h0]
  by_cases h1 : F < 9223372036854775808
  · rw [if_pos h1, decide_eq_true h1]; rfl
  · rw [if_neg h1, decide_eq_false h1]; rfl
theorem or_top {F : Nat} (h : F < 9223372036854775808) : Go.bits .or .u64 (F : Int) 9223372036854775808 = ((F + 9223372036854775808 : Nat) : Int) := by
  have := bits_or_u64_nat F 9223372036854775808 (by omega) (by omega)
  rw [show (9223372036854775808 : Int) = ((9223372036854775808 : Nat) : Int) from rfl, this, Nat.or_comm]
  congr 1
  have e := Nat.two_pow_add_eq_or_of_lt (show F < 2 ^ 63 by omega) 1
  rw [Nat.mul_one] at e
  rw [show (9223372036854775808 : Nat) = 2 ^ 63 by decide, ← e]
  omega
theorem xor_all {F : Nat} (h : F < 18446744073709551616) : Go.bits .xor .u64 18446744073709551615 (F : Int) = ((18446744073709551615 - F : Nat) : Int) := by
  show IntKind.u64.wrap ((BitVec.ofInt 64 (18446744073709551615 : Int) ^^^ BitVec.ofInt 64 (F : Int)).toNat : Int) = _
  rw [show BitVec.ofInt 64 (18446744073709551615 : Int) = BitVec.allOnes 64 from rfl, BitVec.allOnes_xor, BitVec.ofInt_natCast, BitVec.toNat_not, BitVec.toNat_ofNat, IntKind.wrap_u64, Nat.mod_eq_of_lt h]
  omega
/-- A float's place among all floats. -/
def rkF (F : Nat) : Int := if HFloat.isN F = true then 18446744073709551615 else if F % 9223372036854775808 = 0 then 9223372036854775808 else if F < 9223372036854775808 then ((F + 9223372036854775808 : Nat) : Int) else ((18446744073709551615 - F : Nat) : Int)
def cmpI (x y : Int) : Int := if x < y then -1 else if x > y then 1 else 0
/-- An item without -0. -/
def cleanF (F : Nat) : Nat := if F % 9223372036854775808 = 0 then 0 else F
def cleanIt (K N : Int) (F : Nat) (T : List Int) : Int × Int × Nat × List Int := if okItem K N F T = true then (K, N, cleanF F, T) else (0, 0, 0, [])
theorem implClean (K N : Int) (F : Nat) (T : List Int) (hF : F < 18446744073709551616) (hT : T.length ≤ 1048576) : impl_ItemClean.f K N F T = some (cleanIt K N F T) := by
  unfold impl_ItemClean.f cleanIt
  rw [implItemOk, Option.bind_some, ord_zero hF]
  cases okItem K N F T with
  | false => rfl
  | true =>
    rw [if_pos rfl, if_pos rfl]
    unfold impl_Item_own.f slices_Clone_byte_byte.f cleanF
    rw [if_pos (show T.length < 140737488355328 by omega)]
    by_cases h1 : F % 9223372036854775808 = 0
    · rw [decide_eq_true h1, if_pos rfl, if_pos h1]; rfl
    · rw [decide_eq_false h1, if_neg (by decide), if_neg h1]; rfl
theorem specClean (K N : Int) (F : Nat) (T : List Int) (hF : F < 18446744073709551616) (hT : T.length ≤ 1048576) : Ev (fun k => spec_ItemClean.f k K N F T) (cleanIt K N F T) := by
  unfold spec_ItemClean.f cleanIt
  refine Ev.bind (specItemOk K N F T hF) ?_
  cases okItem K N F T with
  | false => exact ev_if_neg (by decide) (Ev.now _)
  | true =>
    refine ev_if_pos rfl ?_
    rw [if_pos rfl, ord_zero hF]
    have hc : spec_l3copy.f K N F T = some (K, N, F, T) := by
      unfold spec_l3copy.f
      simp only [Option.bind_some, List.length_nil, List.nil_append]
      rw [if_pos (by omega)]
    rw [hc]
    unfold cleanF
    by_cases h1 : F % 9223372036854775808 = 0
    · rw [decide_eq_true h1, if_pos h1]; exact Ev.now _
    · rw [decide_eq_false h1, if_neg h1]; exact Ev.now _
theorem cleanF_lt {F : Nat} (h : F < 18446744073709551616) : cleanF F < 18446744073709551616 := by
  unfold cleanF
  split <;> omega

theorem set_at (l m : List Int) (i : Nat) (hi : i < l.length) (h : l.length = m.length) : (l.take i ++ m.drop i).set i (rd l i) = l.take (i + 1) ++ m.drop (i + 1) := by
  have hr : rd l (i : Int) = l[i] := by simp [rd, List.getD_eq_getElem?_getD, hi]
  rw [hr]
  apply List.ext_getElem?
  intro j
  simp only [List.getElem?_set, List.getElem?_append, List.length_take, List.getElem?_take, List.getElem?_drop, List.length_append, List.length_drop]
  rw [Nat.min_eq_left (by omega), Nat.min_eq_left (by omega)]
  by_cases h1 : i = j
  · subst h1
    simp [hi]
    omega
  · by_cases h2 : j < i
    · simp [h1, h2, show j < i + 1 by omega]
    · simp only [h1, h2, if_false, show ¬ j < i + 1 by omega]
      congr 1
      omega

theorem toByteS_l (l : List Int) (hl : l.length ≤ 9223372036854775806) : ∀ (d i : Nat), l.length - i = d → i ≤ l.length → Ev (fun k => laws_toByteS.l0 k l (l.take i ++ (List.replicate l.length 0).drop i) i) l := by
  intro d
  induction d with
  | zero =>
    intro i hd h0
    obtain rfl : i = l.length := by omega
    refine Ev.step (f := fun _ => some l) (fun k => ?_) (Ev.now _)
    simp only [laws_toByteS.l0]
    rw [if_neg (by omega)]
    simp
  | succ d ih =>
    intro i hd h0
    refine Ev.step (f := fun k => laws_toByteS.l0 k l (l.take (i + 1) ++ (List.replicate l.length 0).drop (i + 1)) ((i + 1 : Nat) : Int)) (fun k => ?_) (ih (i + 1) (by omega) (by omega))
    simp only [laws_toByteS.l0]
    rw [if_pos (by omega), if_pos (by omega), if_pos (by simp; omega), wrap_succ (by omega) (by omega), Int.toNat_natCast, set_at l _ i (by omega) (by simp)]
    rfl

theorem toByteS (l : List Int) (hl : l.length ≤ 1048576) : Ev (fun k => laws_toByteS.f k l) l := by
  unfold laws_toByteS.f
  simp only [Int.toNat_natCast]
  simp only [show (0 : Int) ≤ (l.length : Int) by omega, show l.length ≤ 281474976710656 by omega, if_true]
  have := toByteS_l l (by omega) l.length 0 (by omega) (by omega)
  simpa using this

theorem eqByteS_l (l : List Int) (hl : l.length ≤ 9223372036854775806) : ∀ (d : Nat) (i : Int), 0 ≤ i → (l.length : Int) - i = d → Ev (fun k => laws_eqByteS.l0 k l l i) true := by
  intro d
  induction d with
  | zero =>
    intro i h0 hd
    refine Ev.step (f := fun _ => some true) (fun k => ?_) (Ev.now _)
    simp only [laws_eqByteS.l0]
    rw [if_neg (by omega)]
  | succ d ih =>
    intro i h0 hd
    refine Ev.step (f := fun k => laws_eqByteS.l0 k l l (i + 1)) (fun k => ?_) (ih (i + 1) (by omega) (by omega))
    simp only [laws_eqByteS.l0]
    rw [if_pos (by omega), if_pos h0, if_pos (by omega), if_pos trivial, wrap_succ h0 (by omega)]

theorem eqByteS (l : List Int) (hl : l.length ≤ 9223372036854775806) : Ev (fun k => laws_eqByteS.f k l l) true := by
  unfold laws_eqByteS.f
  simp only [if_true]
  exact eqByteS_l l hl l.length 0 (by omega) (by omega)

def seqB (n : Int) (len : Nat) : List Int := (List.range len).map fun i : Nat => (n + (i : Int)) % 256
@[simp] theorem seqB_length (n : Int) (len : Nat) : (seqB n len).length = len := by simp [seqB]
theorem seqB_at (n : Int) (len i : Nat) (h : i < (seqB n len).length) : (seqB n len)[i] = (n + (i : Int)) % 256 := by simp [seqB]
theorem markByteS (l : List Int) (n : Int) (h0 : 0 ≤ n ∧ n ≤ 1048576000) (hl : l.length ≤ 9223372035000000000) : Ev (fun k => laws_markByteS.f k l n) (n + (l.length : Int), seqB n l.length) := by
  unfold laws_markByteS.f
  have key := turn_ev l (seqB n l.length) (by simp) (fun k out i => laws_markByteS.l0 k out (n + i) i) (n + (l.length : Int), seqB n l.length) ?_ (fun i hi out ho h => ?_)
  · simpa using key
  · refine Ev.step (f := fun _ => some (n + (l.length : Int), seqB n l.length)) (fun k => ?_) (Ev.now _)
    simp only [laws_markByteS.l0, seqB_length]
    rw [if_neg (by omega)]
  · rw [seqB_length] at hi ho
    refine Ev.step (fun k => ?_) h
    simp only [laws_markByteS.l0]
    rw [if_pos (by omega), if_pos (by omega), wrap_succ (i := (i : Int)) (by omega) (by omega), wrap_succ (i := n + (i : Int)) (by omega) (by omega), seqB_at, Int.toNat_natCast]
    rw [show n + (i : Int) + 1 = n + ((i + 1 : Nat) : Int) by omega]
    rfl

theorem szBytes (l : List Int) (n : Int) (h0 : 0 ≤ n) (h1 : n ≤ 1048576) (hl : l.length ≤ 9223372036854775807) : (laws_szByteS.f l n = some (-1) ∧ n - (l.length : Int) < 0) ∨ (laws_szByteS.f l n = some (n - (l.length : Int)) ∧ 0 ≤ n - (l.length : Int)) := by
  unfold laws_szByteS.f
  rw [wrap_id (by omega) (by omega)]
  by_cases h : n - (l.length : Int) < 0
  · rw [if_pos h]
    exact .inl ⟨rfl, h⟩
  · rw [if_neg h]
    exact .inr ⟨rfl, by omega⟩
theorem szItem (K N : Int) (F : Nat) (T : List Int) (n : Int) (h0 : 0 ≤ n) (h1 : n ≤ 1048576) (hl : T.length ≤ 9223372036854775807) : (∃ r, laws_szItem.f K N F T n = some r ∧ r < 0) ∨ (laws_szItem.f K N F T n = some (n - (T.length : Int)) ∧ 0 ≤ n - (T.length : Int)) := by
  unfold laws_szItem.f
  rcases szBytes T n h0 h1 hl with ⟨h, h2⟩ | ⟨h, h2⟩
  · refine .inl ⟨-1, ?_, by omega⟩
    rw [h]
    rfl
  · refine .inr ⟨?_, h2⟩
    rw [h]
    simp only [Option.bind_some]
    rw [if_neg (by omega)]

theorem toItem (K N : Int) (F : Nat) (T : List Int) (hl : T.length ≤ 1048576) : Ev (fun k => laws_toItem.f k K N F T) (K, N, F, T) := by
  unfold laws_toItem.f
  exact Ev.bind (toByteS T hl) (Ev.now _)

theorem sameF (F : Nat) (hF : F < 18446744073709551616) : laws_sameFloat.f F F = some true := by
  unfold laws_sameFloat.f
  rw [if_pos]
  refine ⟨rfl, fun h => ?_⟩
  have h1 := ord_zero hF
  rw [HFloat.feq_eq, h] at h1
  have h2 : F % 9223372036854775808 = 0 := by
    have h3 : (some Ordering.eq == some Ordering.eq) = true := rfl
    rw [h3] at h1
    exact of_decide_eq_true h1.symm
  rcases (show F = 0 ∨ F = 9223372036854775808 by omega) with rfl | rfl
  · rw [show FloatKind.f64.format.div 4607182418800017408 0 = _ from HFloat.div_zero]; rfl
  · rw [show FloatKind.f64.format.div 4607182418800017408 9223372036854775808 = _ from HFloat.div_zeroN]; rfl
theorem eqItem (K N : Int) (F : Nat) (T : List Int) (hF : F < 18446744073709551616) (hl : T.length ≤ 1048576) : Ev (fun k => laws_eqItem.f k K N F T K N F T) true := by
  unfold laws_eqItem.f
  refine ev_if_pos rfl (ev_if_pos rfl ?_)
  refine Ev.bind (ev_eq (sameF F hF)) (ev_if_pos rfl ?_)
  exact Ev.bind (eqByteS T (by omega)) (ev_if_pos rfl (Ev.now _))

theorem heldByteS (n : Int) (len : Nat) (h0 : 0 ≤ n ∧ n ≤ 1048576000) (hl : len ≤ 9223372035000000000) : Ev (fun k => laws_heldByteS.f k (seqB n len) n) (n + (len : Int)) := by
  unfold laws_heldByteS.f
  have key := ev_down (fun k i => laws_heldByteS.l0 k (seqB n len) (n + i) i) (fun _ r => r = n + (len : Int)) len (fun r hr => ?_) (fun i hi ih r hr => ?_) 0 (by omega) _ rfl
  · simpa using key
  · subst hr
    refine Ev.step (f := fun _ => some (n + (len : Int))) (fun k => ?_) (Ev.now _)
    simp only [laws_heldByteS.l0, seqB_length]
    rw [if_neg (by omega)]
  · refine Ev.step (fun k => ?_) (ih r hr)
    have he : rd (seqB n len) (i : Int) = (n + (i : Int)) % 256 := by simp [rd, seqB, hi]
    simp only [laws_heldByteS.l0, seqB_length, he]
    rw [if_pos (by omega), if_pos (by omega), if_pos trivial, wrap_succ (i := (i : Int)) (by omega) (by omega), wrap_succ (i := n + (i : Int)) (by omega) (by omega)]
    rw [show n + (i : Int) + 1 = n + ((i + 1 : Nat) : Int) by omega]
    rfl
theorem markItem (K N : Int) (F : Nat) (T : List Int) (hl : T.length ≤ 1048576) : Ev (fun k => laws_markItem.f k K N F T 1) (1 + (T.length : Int), seqB 1 T.length) := by
  unfold laws_markItem.f
  exact Ev.bind (markByteS T 1 (by omega) (by omega)) (Ev.now _)
theorem heldItem (K N : Int) (F : Nat) (len : Nat) (hl : len ≤ 1048576) : Ev (fun k => laws_heldItem.f k K N F (seqB 1 len) 1) (1 + (len : Int)) := by
  unfold laws_heldItem.f
  exact Ev.bind (heldByteS 1 len (by omega) (by omega)) (ev_if_neg (by omega) (Ev.now _))
theorem cleanIt_ok (K N : Int) (F : Nat) (T : List Int) (hF : F < 18446744073709551616) (hT : T.length ≤ 1048576) : (cleanIt K N F T).2.2.1 < 18446744073709551616 ∧ (cleanIt K N F T).2.2.2.length ≤ 1048576 := by
  unfold cleanIt
  split
  · exact ⟨cleanF_lt hF, hT⟩
  · exact ⟨by show (0 : Nat) < _; omega, by simp⟩
theorem itemCleanLaw (K N : Int) (F : Nat) (T : List Int) (hF : F < 18446744073709551616) (hT : T.length ≤ 9223372036854775807) : ∃ k, laws_FnExactItemClean.f k K N F T = some true := by
  have key : Ev (fun k => laws_FnExactItemClean.f k K N F T) true := by
    unfold laws_FnExactItemClean.f
    rcases szItem K N F T 1048576 (by omega) (by omega) hT with ⟨r, h, h2⟩ | ⟨h, h2⟩
    · refine Ev.bind (ev_eq h) ?_
      exact ev_if_pos h2 (Ev.now _)
    refine Ev.bind (ev_eq h) (ev_if_neg (by omega) ?_)
    have hl : T.length ≤ 1048576 := by omega
    obtain ⟨hF2, hT2⟩ := cleanIt_ok K N F T hF hl
    have hto := toItem K N F T hl
    have him := implClean K N F T hF hl
    generalize hc : cleanIt K N F T = c at hF2 hT2 him
    obtain ⟨K2, N2, F2, T2⟩ := c
    have heq := eqItem K2 N2 F2 T2 hF2 hT2
    refine Ev.bind hto (Ev.bind (specClean K N F T hF hl) ?_)
    refine Ev.bind hto (Ev.bind (ev_eq him) ?_)
    rw [hc]
    refine Ev.bind heq (ev_if_pos rfl ?_)
    refine Ev.bind hto (Ev.bind (eqItem K N F T hF hl) (ev_if_pos rfl ?_))
    refine Ev.bind (markItem K N F T hl) (ev_if_neg (by omega) ?_)
    refine Ev.bind heq ?_
    refine Ev.step (fun k => by simp only [laws_FnExactItemClean.j0]; rfl) ?_
    refine ev_if_neg (by decide) ?_
    refine Ev.bind (markItem K2 N2 F2 T2 hT2) ?_
    refine Ev.bind (heldItem K2 N2 F2 T2.length hT2) (ev_if_neg (by omega) (ev_if_pos rfl ?_))
    refine Ev.bind hto (Ev.bind (ev_eq him) ?_)
    refine Ev.bind heq (ev_if_pos rfl ?_)
    exact Ev.bind (heldItem K2 N2 F2 T2.length hT2) (ev_if_neg (by omega) (ev_if_pos rfl (Ev.now _)))
  exact key.rounds
theorem FnExactItemClean (a : S25) (h : ok25 a) : ∃ k, laws_FnExactItemClean.f k a.f0 a.f1 a.f2 a.f3 = some true := itemCleanLaw a.f0 a.f1 a.f2 a.f3 h.2.2.1 h.2.2.2.1

end Go.Proofs.Ytjmlbkhcjgehdaa.Pure
