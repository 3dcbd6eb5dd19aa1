/- FnExactStatusRead: the pure half: what the printed functions answer, without Go and memory. No condition beside those that each theorem states. -/
import Derived.Test.YtadbcjeelbkfcaaPFnExactStatusReadx
import Derived.Test.YtadbcjeelbkfcaaOFnExactStatusRead
namespace Go.Proofs.Ytadbcjeelbkfcaa.Pure
open Go.RowKit Go.Proofs.Ytadbcjeelbkfcaa.PFnExactStatusRead Go.Proofs.YtadbcjeelbkfcaaW.PrintWords Go.Proofs.YtadbcjeelbkfcaaW.PrintLast Go.Proofs.YtadbcjeelbkfcaaW.PrintMore Go.Proofs.Ytadbcjeelbkfcaa.HFl Go.Proofs.Ytadbcjeelbkfcaa.HMap Go.Proofs.Ytadbcjeelbkfcaa.HMore
set_option linter.unusedVariables false
set_option linter.unusedSimpArgs false

theorem wrap_succ {i : Int} (h0 : 0 ≤ i) (h : i ≤ 9223372036854775806) : wrap64 (i + 1) = i + 1 := by
  unfold wrap64
  omega

theorem drop_rd (l : List Int) (i : Nat) (h : i < l.length) : l.drop i = rd l (i : Int) :: l.drop (i + 1) := by
  rw [List.drop_eq_getElem_cons h]
  simp [rd, List.getD_eq_getElem?_getD, h]

/-- A loop that is walked from its end: what it tells at i follows from what it tells at i + 1. -/
theorem ev_down {ρ : Type} (F : Nat → Int → Option ρ) (R : Nat → ρ → Prop) (n : Nat) (hend : ∀ r, R n r → Ev (fun k => F k n) r) (hstep : ∀ i, i < n → (∀ r, R (i + 1) r → Ev (fun k => F k ((i + 1 : Nat) : Int)) r) → ∀ r, R i r → Ev (fun k => F k (i : Int)) r) :
    ∀ i, i ≤ n → ∀ r, R i r → Ev (fun k => F k (i : Int)) r := by
  have key : ∀ d i, n - i = d → i ≤ n → ∀ r, R i r → Ev (fun k => F k (i : Int)) r := by
    intro d
    induction d with
    | zero =>
      intro i hd hi
      obtain rfl : i = n := by omega
      exact hend
    | succ d ih =>
      intro i hd hi
      exact hstep i (by omega) (ih (i + 1) (by omega) (by omega))
  intro i hi
  exact key _ i rfl hi

theorem ev_if_pos {ρ : Type} {c : Prop} [Decidable c] {a b : Nat → Option ρ} {r : ρ} (h : c) (k : Ev a r) : Ev (fun n => if c then a n else b n) r := by simpa only [if_pos h] using k
theorem ev_if_neg {ρ : Type} {c : Prop} [Decidable c] {a b : Nat → Option ρ} {r : ρ} (h : ¬ c) (k : Ev b r) : Ev (fun n => if c then a n else b n) r := by simpa only [if_neg h] using k

theorem set_fill {α β : Type} (l : List α) (m : List β) (g : α → β) (i : Nat) (hi : i < l.length) (h : l.length = m.length) : ((l.take i).map g ++ m.drop i).set i (g l[i]) = (l.take (i + 1)).map g ++ m.drop (i + 1) := by
  apply List.ext_getElem?
  intro j
  simp only [List.getElem?_set, List.getElem?_append, List.length_map, List.length_take, List.getElem?_map, List.getElem?_take, List.getElem?_drop, List.length_append, List.length_drop]
  rw [Nat.min_eq_left (by omega), Nat.min_eq_left (by omega)]
  by_cases h1 : i = j
  · subst h1
    simp [hi]
    omega
  · by_cases h2 : j < i
    · simp [h1, h2, show j < i + 1 by omega]
    · simp only [h1, h2, if_false, show ¬ j < i + 1 by omega]
      congr 1
      omega

/-- A loop that fills a row, element by element. -/
theorem fill_ev {α β : Type} (l : List α) (g : α → β) (z : β) (F : Nat → List β → Int → Option (List β)) (hend : ∀ out, Ev (fun k => F k out (l.length : Int)) out)
    (hstep : ∀ (i : Nat) (hi : i < l.length) (out : List β) (r : List β), out.length = l.length → Ev (fun k => F k (out.set i (g l[i])) ((i + 1 : Nat) : Int)) r → Ev (fun k => F k out (i : Int)) r) :
    Ev (fun k => F k (List.replicate l.length z) 0) (l.map g) := by
  have key : ∀ d i, l.length - i = d → i ≤ l.length → Ev (fun k => F k ((l.take i).map g ++ (List.replicate l.length z).drop i) (i : Int)) (l.map g) := by
    intro d
    induction d with
    | zero =>
      intro i hd hi
      obtain rfl : i = l.length := by omega
      have h := hend (l.map g)
      simpa using h
    | succ d ih =>
      intro i hd hi
      refine hstep i (by omega) _ _ (by simp; omega) ?_
      rw [set_fill l _ g i (by omega) (by simp)]
      exact ih (i + 1) (by omega) (by omega)
  have h := key l.length 0 (by omega) (by omega)
  simpa using h
theorem ev_eq {ρ : Type} {x : Option ρ} {r : ρ} (h : x = some r) : Ev (fun _ => x) r := ⟨0, fun _ _ => h⟩
/-- A loop that turns a row, element by element, whatever stood there. -/
theorem turn_ev {β ρ : Type} (m : List β) (l : List β) (hm : m.length = l.length) (F : Nat → List β → Int → Option ρ) (r : ρ) (hend : Ev (fun k => F k l (l.length : Int)) r)
    (hstep : ∀ (i : Nat) (hi : i < l.length) (out : List β), out.length = l.length → Ev (fun k => F k (out.set i l[i]) ((i + 1 : Nat) : Int)) r → Ev (fun k => F k out (i : Int)) r) : Ev (fun k => F k m 0) r := by
  have key : ∀ d i, l.length - i = d → i ≤ l.length → Ev (fun k => F k ((l.take i).map id ++ m.drop i) (i : Int)) r := by
    intro d
    induction d with
    | zero =>
      intro i hd hi
      obtain rfl : i = l.length := by omega
      simpa [List.drop_eq_nil_of_le (show m.length ≤ l.length by omega)] using hend
    | succ d ih =>
      intro i hd hi
      refine hstep i (by omega) _ (by simp; omega) ?_
      have := set_fill l m id i (by omega) hm.symm
      simp only [id] at this ⊢
      rw [this]
      have h2 := ih (i + 1) (by omega) (by omega)
      simpa using h2
  have h := key l.length 0 (by omega) (by omega)
  simpa using h

theorem int_wf {n : Int} (h : (Lit.int .i64 n).wf = true) : -9223372036854775808 ≤ n ∧ n ≤ 9223372036854775807 := by
  simp [Lit.wf, IntKind.min, IntKind.max, IntKind.signed, IntKind.bits] at h
  omega
theorem wrap_id {i : Int} (h0 : -9223372036854775808 ≤ i) (h : i ≤ 9223372036854775807) : wrap64 i = i := by
  unfold wrap64
  omega

theorem l5in_eq (a lo hi : Int) : spec_l5in.f a lo hi = some (decide (lo ≤ a ∧ a ≤ hi)) := by
  unfold spec_l5in.f
  by_cases h : lo ≤ a
  · rw [if_pos h]; simp [h]
  · rw [if_neg (by omega)]; simp [h]

theorem and3 (n : Int) : Go.bits .and .i64 n 3 = n % 4 := by
  have h3 : (BitVec.ofInt 64 3).toNat = 2 ^ 2 - 1 := by decide
  have key : (BitVec.ofInt 64 n &&& BitVec.ofInt 64 3).toNat = (n % ((2 ^ 64 : Nat) : Int)).toNat % 2 ^ 2 := by
    rw [BitVec.toNat_and, BitVec.toNat_ofInt, h3, Nat.and_two_pow_sub_one_eq_mod]
  show IntKind.i64.wrap ((BitVec.ofInt 64 n &&& BitVec.ofInt 64 3).toNat : Nat) = n % 4
  rw [key, IntKind.wrap_i64]
  omega
theorem and3b (n : Int) (h0 : 0 ≤ n) (h1 : n < 256) : Go.bits .and .u8 n 3 = n % 4 := by
  have := bits_mask .u8 8 (by decide) (fun n h0 h1 => by simp [IntKind.wrap, IntKind.bits, IntKind.signed]; omega) 2 (by decide) n h0 (by omega)
  simpa using this

def qd (b : List Int) (i : Nat) : Int := rd b ((i / 4 : Nat) : Int) / 2 ^ (i % 4 * 2) % 4
def Bytes (b : List Int) : Prop := ∀ x ∈ b, 0 ≤ x ∧ x ≤ 255
theorem rd_byte {b : List Int} (h : Bytes b) (j : Nat) (hj : j < b.length) : 0 ≤ rd b (j : Int) ∧ rd b (j : Int) ≤ 255 := h _ (by simp [rd, hj])
theorem qd_range (b : List Int) (i : Nat) : 0 ≤ qd b i ∧ qd b i ≤ 3 := by
  unfold qd
  omega
theorem shr_q (b : List Int) (hb : Bytes b) (i : Nat) (hi : i / 4 < b.length) (k : IntKind) (hk : k = .i64 ∨ k = .u8) (y : Int) (hy : y = ((i % 4 * 2 : Nat) : Int)) : shr k (rd b ((i / 4 : Nat) : Int)) y = rd b ((i / 4 : Nat) : Int) / 2 ^ (i % 4 * 2) := by
  subst hy
  unfold shr
  congr 2
  rcases hk with rfl | rfl <;> simp only [IntKind.bits] <;> omega
theorem div_pow_range (x : Int) (h0 : 0 ≤ x) (h1 : x ≤ 255) (e : Nat) : 0 ≤ x / 2 ^ e ∧ x / 2 ^ e ≤ 255 := by
  have hp : (0 : Int) < 2 ^ e := Int.pow_pos (by decide)
  exact ⟨Int.ediv_nonneg h0 (by omega), Int.le_trans (Int.ediv_le_self _ h0) h1⟩

def badQ (b : List Int) (n : Int) (i : Nat) : Prop := qd b i = 3 ∨ (0 < qd b i ∧ (i = 0 ∨ n ≤ (i : Int)))
instance (b : List Int) (n : Int) (i : Nat) : Decidable (badQ b n i) := by unfold badQ; infer_instance
def digsOf (b : List Int) (m : Nat) : List Int := (List.range m).map (qd b)
open Classical in
noncomputable def statusRead (b : List Int) (n : Int) : List Int × Bool :=
  if 0 ≤ n ∧ n ≤ 401 ∧ (b.length : Int) = (n + 3) / 4 ∧ ∀ i, i < 4 * b.length → ¬ badQ b n i then (digsOf b n.toNat, true) else ([], false)

theorem specRead_l (b : List Int) (hb : Bytes b) (hl : b.length ≤ 1000) (n : Int) (h0 : 0 ≤ n) (h1 : n ≤ 401) (hn : n ≤ 4 * (b.length : Int)) :
    ∀ (d i : Nat), 4 * b.length - i = d → i ≤ 4 * b.length → ((∀ j, i ≤ j → j < 4 * b.length → ¬ badQ b n j) → Ev (fun k => spec_StatusRead.l0 k b n (digsOf b (min i n.toNat)) (i : Int)) (digsOf b n.toNat, true)) ∧ ((∃ j, i ≤ j ∧ j < 4 * b.length ∧ badQ b n j) → Ev (fun k => spec_StatusRead.l0 k b n (digsOf b (min i n.toNat)) (i : Int)) ([], false)) := by
  have w4 : wrap64 (4 * (b.length : Int)) = 4 * (b.length : Int) := wrap_id (by omega) (by omega)
  intro d
  induction d with
  | zero =>
    intro i hd hi
    refine ⟨fun _ => ?_, fun ⟨j, h2, h3, _⟩ => by omega⟩
    refine Ev.step (f := fun _ => some (digsOf b n.toNat, true)) (fun k => ?_) (Ev.now _)
    simp only [spec_StatusRead.l0, w4]
    rw [if_neg (by omega), show min i n.toNat = n.toNat by omega]
  | succ d ih =>
    intro i hd hi
    obtain ⟨ih1, ih2⟩ := ih (i + 1) (by omega) (by omega)
    have hj : i / 4 < b.length := by omega
    have t1 : wrap64 (Int.tdiv (i : Int) 4) = ((i / 4 : Nat) : Int) := by
      rw [Int.tdiv_eq_ediv_of_nonneg (by omega), wrap_id (by omega) (by omega)]; omega
    have t2 : wrap64 ((Int.tmod (i : Int) 4) * 2) = ((i % 4 * 2 : Nat) : Int) := by
      rw [Int.tmod_eq_emod_of_nonneg (by omega), wrap_id (by omega) (by omega)]; omega
    have t3 : IntKind.u64.wrap ((i % 4 * 2 : Nat) : Int) = ((i % 4 * 2 : Nat) : Int) := by
      simp only [IntKind.wrap, IntKind.bits, IntKind.signed]
      have : i % 4 < 4 := Nat.mod_lt _ (by decide)
      simp
      omega
    have hr := rd_byte hb (i / 4) hj
    have t4 : wrap64 (rd b ((i / 4 : Nat) : Int)) = rd b ((i / 4 : Nat) : Int) := wrap_id (by omega) (by omega)
    have t5 : Go.bits .and .i64 (shr .i64 (rd b ((i / 4 : Nat) : Int)) ((i % 4 * 2 : Nat) : Int)) 3 = qd b i := by
      rw [and3, shr_q b hb i hj .i64 (Or.inl rfl) _ rfl]; rfl
    have hq := qd_range b i
    have hnext : Ev (fun k => if (i : Int) < n then (if (digsOf b (min i n.toNat)).length < 17592186044416 then spec_StatusRead.l0 k b n (digsOf b (min i n.toNat) ++ [qd b i]) (wrap64 ((i : Int) + 1)) else none) else spec_StatusRead.l0 k b n (digsOf b (min i n.toNat)) (wrap64 ((i : Int) + 1))) = Ev (fun k => spec_StatusRead.l0 k b n (digsOf b (min (i + 1) n.toNat)) ((i + 1 : Nat) : Int)) := by
      congr 1
      funext k
      rw [wrap_succ (by omega) (by omega)]
      by_cases hin : (i : Int) < n
      · rw [if_pos hin, if_pos (by simp [digsOf]; omega), show min (i + 1) n.toNat = i + 1 by omega, show min i n.toNat = i by omega]
        simp [digsOf, List.range_succ]
      · rw [if_neg hin, show min (i + 1) n.toNat = min i n.toNat by omega]
        rfl
    have hgood : ∀ r, ¬ badQ b n i → Ev (fun k => spec_StatusRead.l0 k b n (digsOf b (min (i + 1) n.toNat)) ((i + 1 : Nat) : Int)) r → Ev (fun k => spec_StatusRead.l0 k b n (digsOf b (min i n.toNat)) (i : Int)) r := by
      intro r hg h
      rw [← hnext] at h
      have hJ : Ev (fun k => spec_StatusRead.j2 k b n (digsOf b (min i n.toNat)) (i : Int) (qd b i) false) r := by
        refine Ev.step (fun k => ?_) h
        simp only [spec_StatusRead.j2, Bool.false_eq_true, if_false]
      refine Ev.step (f := fun k => spec_StatusRead.j2 k b n (digsOf b (min i n.toNat)) (i : Int) (qd b i) false) (fun k => ?_) hJ
      simp only [spec_StatusRead.l0, w4, t1, t2, t3, t4, t5]
      unfold badQ at hg
      rw [if_pos (by omega), if_pos (by omega), if_pos (by omega), if_pos (by omega), if_neg (by omega)]
      by_cases hq0 : qd b i > 0
      · rw [if_pos hq0, if_neg (by omega), decide_eq_false (by omega)]
      · rw [if_neg hq0]
    have hbad : badQ b n i → Ev (fun k => spec_StatusRead.l0 k b n (digsOf b (min i n.toNat)) (i : Int)) ([], false) := by
      intro hg
      have hJ : Ev (fun k => spec_StatusRead.j2 k b n (digsOf b (min i n.toNat)) (i : Int) (qd b i) true) ([], false) := by
        refine Ev.step (f := fun _ => some ([], false)) (fun k => ?_) (Ev.now _)
        simp only [spec_StatusRead.j2, if_true]
      refine Ev.step (f := fun k => spec_StatusRead.j2 k b n (digsOf b (min i n.toNat)) (i : Int) (qd b i) true) (fun k => ?_) hJ
      simp only [spec_StatusRead.l0, w4, t1, t2, t3, t4, t5]
      unfold badQ at hg
      rw [if_pos (by omega), if_pos (by omega), if_pos (by omega), if_pos (by omega)]
      by_cases h3 : qd b i = 3
      · rw [if_pos h3]
      · rw [if_neg h3, if_pos (by omega)]
        by_cases hz : (i : Int) = 0
        · rw [if_pos hz]
        · rw [if_neg hz, decide_eq_true (by omega)]
    refine ⟨fun h => hgood _ (h i (Nat.le_refl _) (by omega)) (ih1 (fun j h2 h3 => h j (by omega) h3)), fun ⟨j, h2, h3, h4⟩ => ?_⟩
    by_cases hbi : badQ b n i
    · exact hbad hbi
    · refine hgood _ hbi (ih2 ⟨j, ?_, h3, h4⟩)
      rcases Nat.lt_or_ge i j with h5 | h5
      · omega
      · obtain rfl : j = i := by omega
        exact absurd h4 hbi

theorem specRead (b : List Int) (hb : Bytes b) (hl : b.length ≤ 1048576) (n : Int) (hn : -9223372036854775808 ≤ n ∧ n ≤ 9223372036854775807) : Ev (fun k => spec_StatusRead.f k b n) (statusRead b n) := by
  have hJ : ∀ k, spec_StatusRead.j0 (k + 1) b n [] true = some ([], false) := fun k => by simp only [spec_StatusRead.j0, if_true]
  unfold spec_StatusRead.f statusRead
  rw [l5in_eq]
  refine Ev.bind (ev_eq rfl) ?_
  by_cases h1 : 0 ≤ n ∧ n ≤ 401
  · refine ev_if_pos (decide_eq_true h1) ?_
    have e1 : wrap64 (Int.tdiv (wrap64 (n + 3)) 4) = (n + 3) / 4 := by
      rw [wrap_id (i := n + 3) (by omega) (by omega), Int.tdiv_eq_ediv_of_nonneg (by omega), wrap_id (by omega) (by omega)]
    rw [e1]
    by_cases h2 : (b.length : Int) = (n + 3) / 4
    · have h2b : ((b.length : Int) != (n + 3) / 4) = false := by simpa [bne_eq_false_iff_eq] using h2
      rw [h2b]
      have hS := specRead_l b hb (by omega) n h1.1 h1.2 (by omega) (4 * b.length) 0 (by omega) (by omega)
      have e0 : digsOf b (min 0 n.toNat) = [] := by rw [Nat.zero_min]; rfl
      rw [e0] at hS
      refine Ev.step (f := fun k => spec_StatusRead.l0 k b n [] 0) (fun k => by simp only [spec_StatusRead.j0, Bool.false_eq_true, if_false]) ?_
      by_cases h3 : ∀ i, i < 4 * b.length → ¬ badQ b n i
      · rw [if_pos ⟨h1.1, h1.2, h2, h3⟩]
        exact hS.1 (fun j _ h => h3 j h)
      · rw [if_neg (fun h => h3 h.2.2.2)]
        refine hS.2 ?_
        apply Classical.byContradiction
        intro hc
        exact h3 (fun i hi hbad => hc ⟨i, Nat.zero_le _, hi, hbad⟩)
    · have h2b : ((b.length : Int) != (n + 3) / 4) = true := by simpa [bne_iff_ne] using h2
      rw [h2b, if_neg (fun h => h2 h.2.2.1)]
      exact Ev.step (f := fun _ => some ([], false)) hJ (Ev.now _)
  · rw [if_neg (fun h => h1 ⟨h.1, h.2.1⟩)]
    refine ev_if_neg (by rw [decide_eq_false h1]; decide) ?_
    exact Ev.step (f := fun _ => some ([], false)) hJ (Ev.now _)

theorem within_eq (a lo hi : Int) : impl_within.f a lo hi = some (decide (lo ≤ a ∧ a ≤ hi)) := by
  unfold impl_within.f
  by_cases h : lo ≤ a
  · rw [if_pos h]; simp [h]
  · rw [if_neg h]; simp [h]

/-- What a list of statuses says of a number. -/
def statusOf (l : List Int) (x : Int) : Int :=
  if 1 ≤ x ∧ x ≤ 400 ∧ x < (l.length : Int) ∧ 1 ≤ rd l x ∧ rd l x ≤ 2 then rd l x else 0

theorem statusOf_pos {l : List Int} {x : Int} (h : 1 ≤ x ∧ x ≤ 400 ∧ x < (l.length : Int) ∧ 1 ≤ rd l x ∧ rd l x ≤ 2) : statusOf l x = rd l x := if_pos h
theorem statusOf_neg {l : List Int} {x : Int} (h : ¬ (1 ≤ x ∧ x ≤ 400 ∧ x < (l.length : Int) ∧ 1 ≤ rd l x ∧ rd l x ≤ 2)) : statusOf l x = 0 := if_neg h

theorem implStatusOf (l : List Int) (x : Int) : impl_StatusOf.f l x = some (statusOf l x) := by
  unfold impl_StatusOf.f impl_isXid.f
  simp only [within_eq, Option.bind_some, decide_eq_true_eq]
  by_cases h1 : 1 ≤ x ∧ x ≤ 400
  · rw [if_pos h1]
    by_cases h2 : x ≥ (l.length : Int)
    · rw [if_pos h2, statusOf_neg (by omega)]
    · rw [if_neg h2, if_pos (by omega), if_pos (by omega)]
      by_cases h3 : 0 ≤ rd l x ∧ rd l x ≤ 2
      · rw [if_pos h3]
        by_cases h4 : rd l x = 0
        · rw [statusOf_neg (by omega), h4]
        · rw [statusOf_pos (by omega)]
      · rw [if_neg h3, statusOf_neg (by omega)]
  · rw [if_neg h1, statusOf_neg (by omega)]

def part (s : Nat → Int) (i j : Nat) : Int := (if 4 * j < i then s (4 * j) else 0) + (if 4 * j + 1 < i then 4 * s (4 * j + 1) else 0) + (if 4 * j + 2 < i then 16 * s (4 * j + 2) else 0) + (if 4 * j + 3 < i then 64 * s (4 * j + 3) else 0)
theorem or_u8 (x y : Int) (i : Nat) (hi : i ≤ 8) (hx0 : 0 ≤ x) (hx : x % 2 ^ i = 0) (hx1 : x < 256) (hy0 : 0 ≤ y) (hy : y < 2 ^ i) (hy1 : y < 256) : Go.bits .or .u8 y x = y + x := by
  have h := bits_join .u8 8 (by decide) (fun n h0 h1 => by simp [IntKind.wrap, IntKind.bits, IntKind.signed]; omega) i x y hx0 hx (by simpa using hx1) hy0 hy (by simpa using hy1)
  have hc : Go.bits .or .u8 y x = Go.bits .or .u8 x y := by
    simp only [Go.bits]
    rw [BitVec.or_comm]
  rw [hc, h]; omega
theorem part_step (s : Nat → Int) (hs : ∀ i, 0 ≤ s i ∧ s i ≤ 3) (i j : Nat) (hj : j = i / 4) : Go.bits .or .u8 (part s i j) ((shl .i64 (s i) ((i % 4 * 2 : Nat) : Int)) % 256) = part s (i + 1) j := by
  have hsi := hs i
  have e : shl .i64 (s i) ((i % 4 * 2 : Nat) : Int) = s i * 2 ^ (i % 4 * 2) := by
    unfold shl
    rw [show min ((i % 4 * 2 : Nat) : Int).toNat IntKind.i64.bits = i % 4 * 2 by simp only [IntKind.bits]; omega, IntKind.wrap_i64]
    have hc : i % 4 = 0 ∨ i % 4 = 1 ∨ i % 4 = 2 ∨ i % 4 = 3 := by omega
    rcases hc with h | h | h | h <;> rw [h] <;> simp <;> omega
  rw [e]
  subst hj
  have h0 := hs (4 * (i / 4)); have h1 := hs (4 * (i / 4) + 1); have h2 := hs (4 * (i / 4) + 2)
  have hc : i % 4 = 0 ∨ i % 4 = 1 ∨ i % 4 = 2 ∨ i % 4 = 3 := by omega
  unfold part
  rcases hc with h | h | h | h
  · rw [h]
    have hi : 4 * (i / 4) = i := by omega
    rw [hi] at h0 h1 h2 ⊢
    rw [if_neg (by omega), if_neg (by omega), if_neg (by omega), if_neg (by omega), if_pos (by omega), if_neg (by omega), if_neg (by omega), if_neg (by omega), or_u8 _ _ 0 (by decide) (by first | omega | (simp; done) | (simp; omega)) (by first | omega | (simp; done) | (simp; omega)) (by first | omega | (simp; done) | (simp; omega)) (by simp) (by simp) (by simp)]
    simp; omega
  · rw [h]
    have hi : 4 * (i / 4) + 1 = i := by omega
    rw [hi] at h1 ⊢
    rw [if_pos (by omega), if_neg (by omega), if_neg (by omega), if_neg (by omega), if_pos (by omega), if_pos (by omega), if_neg (by omega), if_neg (by omega), or_u8 _ _ 2 (by decide) (by first | omega | (simp; done) | (simp; omega)) (by first | omega | (simp; done) | (simp; omega)) (by first | omega | (simp; done) | (simp; omega)) (by omega) (by first | omega | (simp; done) | (simp; omega)) (by omega)]
    simp; omega
  · rw [h]
    have hi : 4 * (i / 4) + 2 = i := by omega
    rw [hi] at h2 ⊢
    rw [if_pos (by omega), if_pos (by omega), if_neg (by omega), if_neg (by omega), if_pos (by omega), if_pos (by omega), if_pos (by omega), if_neg (by omega), or_u8 _ _ 4 (by decide) (by first | omega | (simp; done) | (simp; omega)) (by first | omega | (simp; done) | (simp; omega)) (by first | omega | (simp; done) | (simp; omega)) (by omega) (by first | omega | (simp; done) | (simp; omega)) (by omega)]
    simp; omega
  · rw [h]
    have hi : 4 * (i / 4) + 3 = i := by omega
    rw [hi]
    rw [if_pos (by omega), if_pos (by omega), if_pos (by omega), if_neg (by omega), if_pos (by omega), if_pos (by omega), if_pos (by omega), if_pos (by omega), or_u8 _ _ 6 (by decide) (by first | omega | (simp; done) | (simp; omega)) (by first | omega | (simp; done) | (simp; omega)) (by first | omega | (simp; done) | (simp; omega)) (by omega) (by first | omega | (simp; done) | (simp; omega)) (by omega)]
    simp; omega
theorem part_other (s : Nat → Int) (i j : Nat) (hj : j ≠ i / 4) : part s (i + 1) j = part s i j := by
  unfold part
  have e0 : (4 * j < i + 1) ↔ (4 * j < i) := by omega
  have e1 : (4 * j + 1 < i + 1) ↔ (4 * j + 1 < i) := by omega
  have e2 : (4 * j + 2 < i + 1) ↔ (4 * j + 2 < i) := by omega
  have e3 : (4 * j + 3 < i + 1) ↔ (4 * j + 3 < i) := by omega
  simp only [e0, e1, e2, e3]
theorem statusOf_range (l : List Int) (x : Int) : 0 ≤ statusOf l x ∧ statusOf l x ≤ 2 := by
  by_cases h : 1 ≤ x ∧ x ≤ 400 ∧ x < (l.length : Int) ∧ 1 ≤ rd l x ∧ rd l x ≤ 2
  · rw [statusOf_pos h]; omega
  · rw [statusOf_neg h]; omega
def sOf (l : List Int) (i : Nat) : Int := statusOf l (i : Int)
theorem sOf_range (l : List Int) (i : Nat) : 0 ≤ sOf l i ∧ sOf l i ≤ 3 := by
  have := statusOf_range l (i : Int)
  unfold sOf; omega
def bytesRow (l : List Int) (i : Nat) : List Int := (List.range ((l.length + 3) / 4)).map (part (sOf l) i)
theorem implBytes_l (l : List Int) (hl : l.length ≤ 401) : ∀ (d i : Nat), l.length - i = d → i ≤ l.length → Ev (fun k => impl_StatusBytes.l0 k l (bytesRow l i) (l.length : Int) (i : Int)) (bytesRow l l.length) := by
  intro d
  induction d with
  | zero =>
    intro i hd hi
    obtain rfl : i = l.length := by omega
    refine Ev.step (f := fun _ => some (bytesRow l l.length)) (fun k => ?_) (Ev.now _)
    simp only [impl_StatusBytes.l0]
    rw [if_neg (by omega)]
  | succ d ih =>
    intro i hd hi
    have t1 : wrap64 (Int.tdiv (i : Int) 4) = ((i / 4 : Nat) : Int) := by
      rw [Int.tdiv_eq_ediv_of_nonneg (by omega), wrap_id (by omega) (by omega)]; omega
    have t2 : wrap64 ((Int.tmod (i : Int) 4) * 2) = ((i % 4 * 2 : Nat) : Int) := by
      rw [Int.tmod_eq_emod_of_nonneg (by omega), wrap_id (by omega) (by omega)]; omega
    have hlen : (bytesRow l i).length = (l.length + 3) / 4 := by simp [bytesRow]
    have hr : rd (bytesRow l i) ((i / 4 : Nat) : Int) = part (sOf l) i (i / 4) := by
      simp only [rd, Int.toNat_natCast, List.getD_eq_getElem?_getD, bytesRow]
      rw [List.getElem?_map, List.getElem?_range (by omega)]
      rfl
    have hset : (bytesRow l i).set (i / 4) (part (sOf l) (i + 1) (i / 4)) = bytesRow l (i + 1) := by
      apply List.ext_getElem?
      intro j
      rw [List.getElem?_set, hlen]
      by_cases hj : i / 4 = j
      · subst hj
        rw [if_pos rfl, if_pos (by omega)]
        simp only [bytesRow]
        rw [List.getElem?_map, List.getElem?_range (by omega)]
        rfl
      · rw [if_neg hj]
        simp only [bytesRow, List.getElem?_map]
        by_cases hj2 : j < (l.length + 3) / 4
        · rw [List.getElem?_range hj2]
          simp [part_other _ _ _ (Ne.symm hj)]
        · rw [List.getElem?_eq_none (by simp; omega)]
          rfl
    refine Ev.step (f := fun k => impl_StatusBytes.l0 k l (bytesRow l (i + 1)) (l.length : Int) ((i + 1 : Nat) : Int)) (fun k => ?_) (ih (i + 1) (by omega) (by omega))
    simp only [impl_StatusBytes.l0, t1, t2, hlen, hr]
    rw [if_pos (by omega), if_pos (by omega), if_pos (by omega), implStatusOf]
    simp only [Option.bind_some]
    rw [if_pos (by omega), wrap_succ (by omega) (by omega), Int.toNat_natCast]
    have := part_step (sOf l) (sOf_range l) i (i / 4) rfl
    unfold sOf at this hset
    unfold sOf
    rw [this, hset]
    rfl
theorem implBytes (l : List Int) (hl : l.length ≤ 401) : Ev (fun k => impl_StatusBytes.f k l) (bytesRow l l.length) := by
  have e1 : wrap64 (Int.tdiv (wrap64 ((l.length : Int) + 3)) 4) = (((l.length + 3) / 4 : Nat) : Int) := by
    rw [wrap_id (i := (l.length : Int) + 3) (by omega) (by omega), Int.tdiv_eq_ediv_of_nonneg (by omega), wrap_id (by omega) (by omega)]; omega
  unfold impl_StatusBytes.f
  rw [e1]
  refine ev_if_neg (by omega) (ev_if_pos (by omega) (ev_if_pos (by rw [Int.toNat_natCast]; omega) ?_))
  have h := implBytes_l l hl l.length 0 (by omega) (by omega)
  have e2 : bytesRow l 0 = List.replicate ((l.length + 3) / 4) 0 := by
    apply List.ext_getElem?
    intro j
    by_cases hj : j < (l.length + 3) / 4
    · simp only [bytesRow]
      rw [List.getElem?_map, List.getElem?_range hj, List.getElem?_replicate, if_pos hj]
      simp [part]
    · rw [List.getElem?_eq_none (by simp [bytesRow]; omega), List.getElem?_eq_none (by simp; omega)]
  rw [Int.toNat_natCast, ← e2]
  exact h

def bytesU (xs : List Int) : List UInt8 := xs.map fun n => UInt8.ofNat n.toNat
theorem statusRead_pos {b : List Int} {n : Int} (h : 0 ≤ n ∧ n ≤ 401 ∧ (b.length : Int) = (n + 3) / 4 ∧ ∀ i, i < 4 * b.length → ¬ badQ b n i) : statusRead b n = (digsOf b n.toNat, true) := by
  unfold statusRead
  exact if_pos h
theorem statusRead_neg {b : List Int} {n : Int} (h : ¬ (0 ≤ n ∧ n ≤ 401 ∧ (b.length : Int) = (n + 3) / 4 ∧ ∀ i, i < 4 * b.length → ¬ badQ b n i)) : statusRead b n = ([], false) := by
  unfold statusRead
  exact if_neg h
theorem bytes_back (xs : List Int) (h : Bytes xs) : (bytesU xs).map (fun u : UInt8 => (u.toNat : Int)) = xs := by
  unfold bytesU
  rw [List.map_map]
  conv => rhs; rw [← List.map_id xs]
  apply List.map_congr_left
  intro x hx
  have := h x hx
  simp only [Function.comp, id]
  rw [UInt8.toNat_ofNat']
  omega
theorem bytesEq (xs ys : List Int) (hx : Bytes xs) (hy : Bytes ys) : bytes_Equal.f xs ys = some (decide (xs = ys)) := by
  unfold bytes_Equal.f
  rw [ByteArray.toList_eq, ByteArray.toList_eq]
  show some (bytesU xs == bytesU ys) = _
  congr 1
  by_cases h : xs = ys
  · rw [decide_eq_true h, h]; simp
  · rw [decide_eq_false h]
    have : bytesU xs ≠ bytesU ys := fun e => h (by rw [← bytes_back xs hx, ← bytes_back ys hy, e])
    simpa using this
def aOf (b : List Int) (n i : Nat) : Int := if i < n then sOf (digsOf b n) i else 0
theorem digs_rd (b : List Int) (n i : Nat) (h : i < n) : rd (digsOf b n) (i : Int) = qd b i := by
  simp only [rd, Int.toNat_natCast, List.getD_eq_getElem?_getD, digsOf]
  rw [List.getElem?_map, List.getElem?_range h]
  rfl
theorem aOf_range (b : List Int) (n i : Nat) : 0 ≤ aOf b n i ∧ aOf b n i ≤ 3 := by
  unfold aOf
  split
  · exact sOf_range _ _
  · omega
theorem aOf_bad (b : List Int) (n i : Nat) (hn : n ≤ 401) : aOf b n i = qd b i ↔ ¬ badQ b (n : Int) i := by
  have hq := qd_range b i
  unfold aOf badQ
  by_cases h : i < n
  · rw [if_pos h]
    unfold sOf
    have hl : (digsOf b n).length = n := by simp [digsOf]
    by_cases hc : 1 ≤ (i : Int) ∧ (i : Int) ≤ 400 ∧ (i : Int) < ((digsOf b n).length : Int) ∧ 1 ≤ rd (digsOf b n) (i : Int) ∧ rd (digsOf b n) (i : Int) ≤ 2
    · rw [statusOf_pos hc, digs_rd b n i h]
      rw [digs_rd b n i h] at hc
      constructor
      · intro _ hh; omega
      · intro _; rfl
    · rw [statusOf_neg hc]
      rw [digs_rd b n i h, hl] at hc
      constructor
      · intro _ hh; omega
      · intro hh; omega
  · rw [if_neg h]
    constructor
    · intro _ hh; omega
    · intro hh; omega
theorem part_a (b : List Int) (n j : Nat) : part (sOf (digsOf b n)) n j = aOf b n (4 * j) + 4 * aOf b n (4 * j + 1) + 16 * aOf b n (4 * j + 2) + 64 * aOf b n (4 * j + 3) := by
  unfold part aOf
  congr 1
  · congr 1
    · congr 1
      split <;> simp
    · split <;> simp
  · split <;> simp
theorem byte_q (b : List Int) (hb : Bytes b) (j : Nat) (hj : j < b.length) : rd b (j : Int) = qd b (4 * j) + 4 * qd b (4 * j + 1) + 16 * qd b (4 * j + 2) + 64 * qd b (4 * j + 3) := by
  have h := rd_byte hb j hj
  unfold qd
  rw [show 4 * j / 4 = j by omega, show (4 * j + 1) / 4 = j by omega, show (4 * j + 2) / 4 = j by omega, show (4 * j + 3) / 4 = j by omega, show 4 * j % 4 = 0 by omega, show (4 * j + 1) % 4 = 1 by omega, show (4 * j + 2) % 4 = 2 by omega, show (4 * j + 3) % 4 = 3 by omega]
  simp only [Nat.zero_mul, Nat.one_mul, Int.reducePow, Nat.reduceMul]
  omega
theorem row_eq (b : List Int) (hb : Bytes b) (n : Nat) (hn : n ≤ 401) (hl : b.length = (n + 3) / 4) : bytesRow (digsOf b n) n = b ↔ ∀ i, i < 4 * b.length → ¬ badQ b (n : Int) i := by
  have hdl : (digsOf b n).length = n := by simp [digsOf]
  have hat : ∀ j, j < b.length → (bytesRow (digsOf b n) n)[j]? = some (part (sOf (digsOf b n)) n j) := by
    intro j hj
    simp only [bytesRow, hdl]
    rw [List.getElem?_map, List.getElem?_range (by omega)]
    rfl
  have hbt : ∀ j, j < b.length → b[j]? = some (rd b (j : Int)) := by
    intro j hj
    simp [rd, hj]
  constructor
  · intro h i hi
    rw [← aOf_bad b n i hn]
    have hj : i / 4 < b.length := by omega
    have e := hat (i / 4) hj
    rw [h, hbt _ hj] at e
    have e2 := Option.some.inj e
    rw [part_a, byte_q b hb _ hj] at e2
    have q0 := qd_range b (4 * (i / 4)); have q1 := qd_range b (4 * (i / 4) + 1); have q2 := qd_range b (4 * (i / 4) + 2); have q3 := qd_range b (4 * (i / 4) + 3)
    have a0 := aOf_range b n (4 * (i / 4)); have a1 := aOf_range b n (4 * (i / 4) + 1); have a2 := aOf_range b n (4 * (i / 4) + 2); have a3 := aOf_range b n (4 * (i / 4) + 3)
    have hc : i = 4 * (i / 4) ∨ i = 4 * (i / 4) + 1 ∨ i = 4 * (i / 4) + 2 ∨ i = 4 * (i / 4) + 3 := by omega
    generalize i / 4 = j at *
    clear hat hbt e h hb hl hdl
    rcases hc with rfl | rfl | rfl | rfl <;> omega
  · intro h
    apply List.ext_getElem?
    intro j
    by_cases hj : j < b.length
    · rw [hat j hj, hbt j hj, part_a, byte_q b hb j hj, (aOf_bad b n _ hn).2 (h (4 * j) (by omega)), (aOf_bad b n _ hn).2 (h (4 * j + 1) (by omega)), (aOf_bad b n _ hn).2 (h (4 * j + 2) (by omega)), (aOf_bad b n _ hn).2 (h (4 * j + 3) (by omega))]
    · rw [List.getElem?_eq_none (by simp only [bytesRow, List.length_map, List.length_range, hdl]; omega), List.getElem?_eq_none (by omega)]
theorem row_bytes (l : List Int) (i : Nat) : Bytes (bytesRow l i) := by
  intro x hx
  obtain ⟨j, _, rfl⟩ := List.mem_map.1 hx
  have h0 := sOf_range l (4 * j); have h1 := sOf_range l (4 * j + 1); have h2 := sOf_range l (4 * j + 2); have h3 := sOf_range l (4 * j + 3)
  unfold part
  constructor <;> (repeat' split) <;> omega

theorem implRead (b : List Int) (hb : Bytes b) (hl : b.length ≤ 1048576) (n : Int) (hn : -9223372036854775808 ≤ n ∧ n ≤ 9223372036854775807) : Ev (fun k => impl_StatusRead.f k b n) (statusRead b n) := by
  have hJ : ∀ k, impl_StatusRead.j0 (k + 1) b n true = some ([], false) := fun k => by simp only [impl_StatusRead.j0, if_true]
  unfold impl_StatusRead.f
  rw [within_eq]
  refine Ev.bind (ev_eq rfl) ?_
  by_cases h1 : 0 ≤ n ∧ n ≤ 401
  · refine ev_if_pos (decide_eq_true h1) ?_
    have e1 : wrap64 (Int.tdiv (wrap64 (n + 3)) 4) = (n + 3) / 4 := by
      rw [wrap_id (i := n + 3) (by omega) (by omega), Int.tdiv_eq_ediv_of_nonneg (by omega), wrap_id (by omega) (by omega)]
    rw [e1]
    by_cases h2 : (b.length : Int) = (n + 3) / 4
    · have h2b : ((b.length : Int) != (n + 3) / 4) = false := by simpa [bne_eq_false_iff_eq] using h2
      rw [h2b]
      obtain ⟨n, rfl⟩ := Int.eq_ofNat_of_zero_le h1.1
      have hn4 : n ≤ 401 := by omega
      have hl2 : b.length = (n + 3) / 4 := by omega
      have hdl : (digsOf b n).length = n := by simp [digsOf]
      have hrow := row_eq b hb n hn4 hl2
      refine Ev.step (f := fun k => impl_StatusRead.l0 k b (List.replicate n 0) (n : Int) 0) (fun k => ?_) ?_
      · simp only [impl_StatusRead.j0, Bool.false_eq_true, if_false]
        rw [if_pos h1.1, if_pos (by rw [Int.toNat_natCast]; omega), Int.toNat_natCast]
        simp only [Option.bind_some, List.length_replicate]
      refine turn_ev (List.replicate n 0) (digsOf b n) (by simp [digsOf]) (fun k out i => impl_StatusRead.l0 k b out (n : Int) i) _ ?_ (fun i hi out ho h => ?_)
      · rw [hdl]
        refine Ev.step (f := fun k => (impl_StatusBytes.f k (digsOf b n)).bind fun t => (bytes_Equal.f t b).bind fun t => if t = true then some (digsOf b n, true) else some ([], false)) (fun k => ?_) ?_
        · simp only [impl_StatusRead.l0]
          rw [if_neg (by omega)]
        · refine Ev.bind (implBytes (digsOf b n) (by omega)) ?_
          rw [hdl]
          refine Ev.bind (ev_eq (bytesEq _ _ (row_bytes _ _) hb)) ?_
          by_cases h3 : bytesRow (digsOf b n) n = b
          · rw [statusRead_pos ⟨h1.1, h1.2, h2, hrow.1 h3⟩, Int.toNat_natCast]
            exact ev_if_pos (decide_eq_true h3) (ev_eq rfl)
          · rw [statusRead_neg (fun h => h3 (hrow.2 h.2.2.2))]
            exact ev_if_neg (by rw [decide_eq_false h3]; decide) (ev_eq rfl)
      · rw [hdl] at hi ho
        have t1 : wrap64 (Int.tdiv (i : Int) 4) = ((i / 4 : Nat) : Int) := by
          rw [Int.tdiv_eq_ediv_of_nonneg (by omega), wrap_id (by omega) (by omega)]; omega
        have t2 : wrap64 ((Int.tmod (i : Int) 4) * 2) = ((i % 4 * 2 : Nat) : Int) := by
          rw [Int.tmod_eq_emod_of_nonneg (by omega), wrap_id (by omega) (by omega)]; omega
        have hj : i / 4 < b.length := by omega
        have hr := rd_byte hb (i / 4) hj
        have hdp := div_pow_range _ hr.1 hr.2 (i % 4 * 2)
        have t5 : wrap64 (Go.bits .and .u8 (shr .u8 (rd b ((i / 4 : Nat) : Int)) ((i % 4 * 2 : Nat) : Int)) 3) = (digsOf b n)[i]'(by rw [hdl]; exact hi) := by
          rw [shr_q b hb i hj .u8 (Or.inr rfl) _ rfl, and3b _ hdp.1 (by omega), wrap_id (by omega) (by omega)]
          simp [digsOf, qd]
        refine Ev.step (fun k => ?_) h
        simp only [impl_StatusRead.l0, t1, t2, t5]
        rw [if_pos (by omega), if_pos (by omega), if_pos (by omega), if_pos (by omega), if_pos (by omega), if_pos (by omega), wrap_succ (by omega) (by omega), Int.toNat_natCast]
        rfl
    · have h2b : ((b.length : Int) != (n + 3) / 4) = true := by simpa [bne_iff_ne] using h2
      rw [h2b, statusRead_neg (fun h => h2 h.2.2.1)]
      exact Ev.step (f := fun _ => some ([], false)) hJ (Ev.now _)
  · rw [statusRead_neg (fun h => h1 ⟨h.1, h.2.1⟩)]
    refine ev_if_neg (by rw [decide_eq_false h1]; decide) ?_
    exact Ev.step (f := fun _ => some ([], false)) hJ (Ev.now _)

theorem set_at (l m : List Int) (i : Nat) (hi : i < l.length) (h : l.length = m.length) : (l.take i ++ m.drop i).set i (rd l i) = l.take (i + 1) ++ m.drop (i + 1) := by
  have hr : rd l (i : Int) = l[i] := by simp [rd, List.getD_eq_getElem?_getD, hi]
  rw [hr]
  apply List.ext_getElem?
  intro j
  simp only [List.getElem?_set, List.getElem?_append, List.length_take, List.getElem?_take, List.getElem?_drop, List.length_append, List.length_drop]
  rw [Nat.min_eq_left (by omega), Nat.min_eq_left (by omega)]
  by_cases h1 : i = j
  · subst h1
    simp [hi]
    omega
  · by_cases h2 : j < i
    · simp [h1, h2, show j < i + 1 by omega]
    · simp only [h1, h2, if_false, show ¬ j < i + 1 by omega]
      congr 1
      omega

theorem toByteS_l (l : List Int) (hl : l.length ≤ 9223372036854775806) : ∀ (d i : Nat), l.length - i = d → i ≤ l.length → Ev (fun k => laws_toByteS.l0 k l (l.take i ++ (List.replicate l.length 0).drop i) i) l := by
  intro d
  induction d with
  | zero =>
    intro i hd h0
    obtain rfl : i = l.length := by omega
    refine Ev.step (f := fun _ => some l) (fun k => ?_) (Ev.now _)
    simp only [laws_toByteS.l0]
    rw [if_neg (by omega)]
    simp
  | succ d ih =>
    intro i hd h0
    refine Ev.step (f := fun k => laws_toByteS.l0 k l (l.take (i + 1) ++ (List.replicate l.length 0).drop (i + 1)) ((i + 1 : Nat) : Int)) (fun k => ?_) (ih (i + 1) (by omega) (by omega))
    simp only [laws_toByteS.l0]
    rw [if_pos (by omega), if_pos (by omega), if_pos (by simp; omega), wrap_succ (by omega) (by omega), Int.toNat_natCast, set_at l _ i (by omega) (by simp)]
    rfl

theorem toByteS (l : List Int) (hl : l.length ≤ 1048576) : Ev (fun k => laws_toByteS.f k l) l := by
  unfold laws_toByteS.f
  simp only [Int.toNat_natCast]
  simp only [show (0 : Int) ≤ (l.length : Int) by omega, show l.length ≤ 281474976710656 by omega, if_true]
  have := toByteS_l l (by omega) l.length 0 (by omega) (by omega)
  simpa using this

theorem eqByteS_l (l : List Int) (hl : l.length ≤ 9223372036854775806) : ∀ (d : Nat) (i : Int), 0 ≤ i → (l.length : Int) - i = d → Ev (fun k => laws_eqByteS.l0 k l l i) true := by
  intro d
  induction d with
  | zero =>
    intro i h0 hd
    refine Ev.step (f := fun _ => some true) (fun k => ?_) (Ev.now _)
    simp only [laws_eqByteS.l0]
    rw [if_neg (by omega)]
  | succ d ih =>
    intro i h0 hd
    refine Ev.step (f := fun k => laws_eqByteS.l0 k l l (i + 1)) (fun k => ?_) (ih (i + 1) (by omega) (by omega))
    simp only [laws_eqByteS.l0]
    rw [if_pos (by omega), if_pos h0, if_pos (by omega), if_pos trivial, wrap_succ h0 (by omega)]

theorem eqByteS (l : List Int) (hl : l.length ≤ 9223372036854775806) : Ev (fun k => laws_eqByteS.f k l l) true := by
  unfold laws_eqByteS.f
  simp only [if_true]
  exact eqByteS_l l hl l.length 0 (by omega) (by omega)

def seqB (n : Int) (len : Nat) : List Int := (List.range len).map fun i : Nat => (n + (i : Int)) % 256
@[simp] theorem seqB_length (n : Int) (len : Nat) : (seqB n len).length = len := by simp [seqB]
theorem seqB_at (n : Int) (len i : Nat) (h : i < (seqB n len).length) : (seqB n len)[i] = (n + (i : Int)) % 256 := by simp [seqB]
theorem markByteS (l : List Int) (n : Int) (h0 : 0 ≤ n ∧ n ≤ 1048576000) (hl : l.length ≤ 9223372035000000000) : Ev (fun k => laws_markByteS.f k l n) (n + (l.length : Int), seqB n l.length) := by
  unfold laws_markByteS.f
  have key := turn_ev l (seqB n l.length) (by simp) (fun k out i => laws_markByteS.l0 k out (n + i) i) (n + (l.length : Int), seqB n l.length) ?_ (fun i hi out ho h => ?_)
  · simpa using key
  · refine Ev.step (f := fun _ => some (n + (l.length : Int), seqB n l.length)) (fun k => ?_) (Ev.now _)
    simp only [laws_markByteS.l0, seqB_length]
    rw [if_neg (by omega)]
  · rw [seqB_length] at hi ho
    refine Ev.step (fun k => ?_) h
    simp only [laws_markByteS.l0]
    rw [if_pos (by omega), if_pos (by omega), wrap_succ (i := (i : Int)) (by omega) (by omega), wrap_succ (i := n + (i : Int)) (by omega) (by omega), seqB_at, Int.toNat_natCast]
    rw [show n + (i : Int) + 1 = n + ((i + 1 : Nat) : Int) by omega]
    rfl

theorem eqIntS_l (l : List Int) (hl : l.length ≤ 9223372036854775806) : ∀ (d : Nat) (i : Int), 0 ≤ i → (l.length : Int) - i = d → Ev (fun k => laws_eqIntS.l0 k l l i) true := by
  intro d
  induction d with
  | zero =>
    intro i h0 hd
    refine Ev.step (f := fun _ => some true) (fun k => ?_) (Ev.now _)
    simp only [laws_eqIntS.l0]
    rw [if_neg (by omega)]
  | succ d ih =>
    intro i h0 hd
    refine Ev.step (f := fun k => laws_eqIntS.l0 k l l (i + 1)) (fun k => ?_) (ih (i + 1) (by omega) (by omega))
    simp only [laws_eqIntS.l0]
    rw [if_pos (by omega), if_pos h0, if_pos (by omega), if_pos trivial, wrap_succ h0 (by omega)]

theorem eqIntS (l : List Int) (hl : l.length ≤ 9223372036854775806) : Ev (fun k => laws_eqIntS.f k l l) true := by
  unfold laws_eqIntS.f
  simp only [if_true]
  exact eqIntS_l l hl l.length 0 (by omega) (by omega)

def seqI (n : Int) (len : Nat) : List Int := (List.range len).map fun i : Nat => n + (i : Int)
@[simp] theorem seqI_length (n : Int) (len : Nat) : (seqI n len).length = len := by simp [seqI]
theorem seqI_at (n : Int) (len i : Nat) (h : i < (seqI n len).length) : (seqI n len)[i] = n + (i : Int) := by simp [seqI]
theorem markIntS (l : List Int) (n : Int) (h0 : 0 ≤ n ∧ n ≤ 1048576000) (hl : l.length ≤ 9223372035000000000) : Ev (fun k => laws_markIntS.f k l n) (n + (l.length : Int), seqI n l.length) := by
  unfold laws_markIntS.f
  have key := turn_ev l (seqI n l.length) (by simp) (fun k out i => laws_markIntS.l0 k out (n + i) i) (n + (l.length : Int), seqI n l.length) ?_ (fun i hi out ho h => ?_)
  · simpa using key
  · refine Ev.step (f := fun _ => some (n + (l.length : Int), seqI n l.length)) (fun k => ?_) (Ev.now _)
    simp only [laws_markIntS.l0, seqI_length]
    rw [if_neg (by omega)]
  · rw [seqI_length] at hi ho
    refine Ev.step (fun k => ?_) h
    simp only [laws_markIntS.l0]
    rw [if_pos (by omega), if_pos (by omega), wrap_succ (i := (i : Int)) (by omega) (by omega), wrap_succ (i := n + (i : Int)) (by omega) (by omega), seqI_at, Int.toNat_natCast]
    rw [show n + (i : Int) + 1 = n + ((i + 1 : Nat) : Int) by omega]
    rfl
theorem heldIntS (n : Int) (len : Nat) (h0 : 0 ≤ n ∧ n ≤ 1048576000) (hl : len ≤ 9223372035000000000) : Ev (fun k => laws_heldIntS.f k (seqI n len) n) (n + (len : Int)) := by
  unfold laws_heldIntS.f
  have key := ev_down (fun k i => laws_heldIntS.l0 k (seqI n len) (n + i) i) (fun _ r => r = n + (len : Int)) len (fun r hr => ?_) (fun i hi ih r hr => ?_) 0 (by omega) _ rfl
  · simpa using key
  · subst hr
    refine Ev.step (f := fun _ => some (n + (len : Int))) (fun k => ?_) (Ev.now _)
    simp only [laws_heldIntS.l0, seqI_length]
    rw [if_neg (by omega)]
  · refine Ev.step (fun k => ?_) (ih r hr)
    have he : rd (seqI n len) (i : Int) = n + (i : Int) := by simp [rd, seqI, hi]
    simp only [laws_heldIntS.l0, seqI_length, he]
    rw [if_pos (by omega), if_pos (by omega), if_pos trivial, wrap_succ (i := (i : Int)) (by omega) (by omega), wrap_succ (i := n + (i : Int)) (by omega) (by omega)]
    rw [show n + (i : Int) + 1 = n + ((i + 1 : Nat) : Int) by omega]
    rfl

-- GEN args: l a
theorem statusRead_len (b : List Int) (n : Int) : (statusRead b n).1.length ≤ 401 := by
  by_cases h : 0 ≤ n ∧ n ≤ 401 ∧ (b.length : Int) = (n + 3) / 4 ∧ ∀ i, i < 4 * b.length → ¬ badQ b n i
  · rw [statusRead_pos h]
    simp [digsOf]
    omega
  · rw [statusRead_neg h]
    simp
theorem FnExactStatusRead (l : List Int) (a : Int) (h : l.length ≤ 9223372036854775807 ∧ ∀ x ∈ l, (Lit.int .u8 x).wf = true) (ha : (Lit.int .i64 a).wf = true) : ∃ k, laws_FnExactStatusRead.f k l a = some true := by
  have hl := h.1
  have hb : Bytes l := fun x hx => by
    have := h.2 x hx
    simp [Lit.wf, IntKind.min, IntKind.max, IntKind.signed, IntKind.bits] at this
    omega
  have hw := int_wf ha
  have hrl := statusRead_len l a
  clear h
  have key : Ev (fun k => laws_FnExactStatusRead.f k l a) true := by
    unfold laws_FnExactStatusRead.f
    by_cases hc4 : (l.length : Int) > 1048576
    · refine ev_if_pos hc4 ?_
      exact Ev.now _
    · refine ev_if_neg hc4 ?_
      refine Ev.bind (toByteS l (by first | omega | (simp; done) | (simp; omega) | assumption)) ?_
      refine Ev.bind (specRead l hb (by first | omega | (simp; done) | (simp; omega) | assumption) a hw) ?_
      refine Ev.bind (toByteS l (by first | omega | (simp; done) | (simp; omega) | assumption)) ?_
      refine Ev.bind (implRead l hb (by first | omega | (simp; done) | (simp; omega) | assumption) a hw) ?_
      refine Ev.bind (eqIntS ((statusRead l a).1) (by first | omega | (simp; done) | (simp; omega) | assumption)) ?_
      refine ev_if_pos (by first | rfl | decide | omega | (simp; done) | (simp; omega) | (simp only []; omega)) ?_
      refine Ev.step (f := fun k => if (((statusRead l a).2) != ((statusRead l a).2)) = true then (some false) else ((laws_toByteS.f k l).bind fun t154 => ((laws_eqByteS.f k l t154).bind fun t157 => (if t157 = true then ((laws_markByteS.f k l 1).bind fun bt158 => (if bt158.1 < 0 then (laws_FnExactStatusRead.j1 k l a ((statusRead l a).1) ((statusRead l a).2) ((statusRead l a).1) true) else ((laws_eqIntS.f k ((statusRead l a).1) ((statusRead l a).1)).bind fun t160 => (if t160 = true then (laws_FnExactStatusRead.j1 k l a ((statusRead l a).1) ((statusRead l a).2) ((statusRead l a).1) (((statusRead l a).2) != ((statusRead l a).2))) else (laws_FnExactStatusRead.j1 k l a ((statusRead l a).1) ((statusRead l a).2) ((statusRead l a).1) true))))) else (some false))))) (fun k => by first | rfl | (simp only [laws_FnExactStatusRead.j0])) ?_
      refine ev_if_neg (by first | rfl | decide | omega | (simp; done) | (simp; omega) | (simp only []; omega)) ?_
      refine Ev.bind (toByteS l (by first | omega | (simp; done) | (simp; omega) | assumption)) ?_
      refine Ev.bind (eqByteS l (by first | omega | (simp; done) | (simp; omega) | assumption)) ?_
      refine ev_if_pos (by first | rfl | decide | omega | (simp; done) | (simp; omega) | (simp only []; omega)) ?_
      refine Ev.bind (markByteS l 1 (by omega) (by first | omega | (simp; done) | (simp; omega) | assumption)) ?_
      refine ev_if_neg (by first | rfl | decide | omega | (simp; done) | (simp; omega) | (simp only []; omega)) ?_
      refine Ev.bind (eqIntS ((statusRead l a).1) (by first | omega | (simp; done) | (simp; omega) | assumption)) ?_
      refine ev_if_pos (by first | rfl | decide | omega | (simp; done) | (simp; omega) | (simp only []; omega)) ?_
      refine Ev.step (f := fun k => if (((statusRead l a).2) != ((statusRead l a).2)) = true then (some false) else ((laws_markIntS.f k ((statusRead l a).1) 1).bind fun bt161 => ((laws_heldIntS.f k bt161.2 1).bind fun t163 => (if t163 < 0 then (some false) else (if t163 = bt161.1 then ((laws_toByteS.f k l).bind fun t164 => ((impl_StatusRead.f k t164 a).bind fun bt167 => ((laws_eqIntS.f k bt167.1 ((statusRead l a).1)).bind fun t171 => (if t171 = true then (laws_FnExactStatusRead.j2 k bt161.2 bt161.1 (bt167.2 != ((statusRead l a).2))) else (laws_FnExactStatusRead.j2 k bt161.2 bt161.1 true))))) else (some false)))))) (fun k => by first | rfl | (simp only [laws_FnExactStatusRead.j1])) ?_
      refine ev_if_neg (by first | rfl | decide | omega | (simp; done) | (simp; omega) | (simp only []; omega)) ?_
      refine Ev.bind (markIntS ((statusRead l a).1) 1 (by omega) (by first | omega | (simp; done) | (simp; omega) | assumption)) ?_
      refine Ev.bind (heldIntS 1 ((statusRead l a).1).length (by omega) (by first | omega | (simp; done) | (simp; omega) | assumption)) ?_
      refine ev_if_neg (by first | rfl | decide | omega | (simp; done) | (simp; omega) | (simp only []; omega)) ?_
      refine ev_if_pos (by first | rfl | decide | omega | (simp; done) | (simp; omega) | (simp only []; omega)) ?_
      refine Ev.bind (toByteS l (by first | omega | (simp; done) | (simp; omega) | assumption)) ?_
      refine Ev.bind (implRead l hb (by first | omega | (simp; done) | (simp; omega) | assumption) a hw) ?_
      refine Ev.bind (eqIntS ((statusRead l a).1) (by first | omega | (simp; done) | (simp; omega) | assumption)) ?_
      refine ev_if_pos (by first | rfl | decide | omega | (simp; done) | (simp; omega) | (simp only []; omega)) ?_
      refine Ev.step (f := fun k => if (((statusRead l a).2) != ((statusRead l a).2)) = true then (some false) else ((laws_heldIntS.f k (seqI 1 ((statusRead l a).1).length) 1).bind fun t172 => (if t172 < 0 then (some false) else (if t172 = (1 + (((statusRead l a).1).length : Int)) then (some true) else (some false))))) (fun k => by first | rfl | (simp only [laws_FnExactStatusRead.j2])) ?_
      refine ev_if_neg (by first | rfl | decide | omega | (simp; done) | (simp; omega) | (simp only []; omega)) ?_
      refine Ev.bind (heldIntS 1 ((statusRead l a).1).length (by omega) (by first | omega | (simp; done) | (simp; omega) | assumption)) ?_
      refine ev_if_neg (by first | rfl | decide | omega | (simp; done) | (simp; omega) | (simp only []; omega)) ?_
      refine ev_if_pos (by first | rfl | decide | omega | (simp; done) | (simp; omega) | (simp only []; omega)) ?_
      exact Ev.now _
  exact key.rounds

end Go.Proofs.Ytadbcjeelbkfcaa.Pure
