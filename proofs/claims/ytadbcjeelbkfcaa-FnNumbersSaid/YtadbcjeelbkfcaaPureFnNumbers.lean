/- FnNumbers: the pure half: what the printed functions answer, without Go and memory. No condition beside those that each theorem states. -/
import Derived.Test.YtadbcjeelbkfcaaPFnNumbersx
import Derived.Test.YtadbcjeelbkfcaaOFnNumbers
namespace Go.Proofs.Ytadbcjeelbkfcaa.Pure
open Go.RowKit Go.Proofs.Ytadbcjeelbkfcaa.PFnNumbers Go.Proofs.YtadbcjeelbkfcaaW.PrintWords Go.Proofs.YtadbcjeelbkfcaaW.PrintLast Go.Proofs.YtadbcjeelbkfcaaW.PrintMore Go.Proofs.Ytadbcjeelbkfcaa.HFl Go.Proofs.Ytadbcjeelbkfcaa.HMap Go.Proofs.Ytadbcjeelbkfcaa.HMore
set_option linter.unusedVariables false
set_option linter.unusedSimpArgs false

theorem wrap_succ {i : Int} (h0 : 0 ≤ i) (h : i ≤ 9223372036854775806) : wrap64 (i + 1) = i + 1 := by
  unfold wrap64
  omega

theorem drop_rd (l : List Int) (i : Nat) (h : i < l.length) : l.drop i = rd l (i : Int) :: l.drop (i + 1) := by
  rw [List.drop_eq_getElem_cons h]
  simp [rd, List.getD_eq_getElem?_getD, h]

/-- A loop that is walked from its end: what it tells at i follows from what it tells at i + 1. -/
theorem ev_down {ρ : Type} (F : Nat → Int → Option ρ) (R : Nat → ρ → Prop) (n : Nat) (hend : ∀ r, R n r → Ev (fun k => F k n) r) (hstep : ∀ i, i < n → (∀ r, R (i + 1) r → Ev (fun k => F k ((i + 1 : Nat) : Int)) r) → ∀ r, R i r → Ev (fun k => F k (i : Int)) r) :
    ∀ i, i ≤ n → ∀ r, R i r → Ev (fun k => F k (i : Int)) r := by
  have key : ∀ d i, n - i = d → i ≤ n → ∀ r, R i r → Ev (fun k => F k (i : Int)) r := by
    intro d
    induction d with
    | zero =>
      intro i hd hi
      obtain rfl : i = n := by omega
      exact hend
    | succ d ih =>
      intro i hd hi
      exact hstep i (by omega) (ih (i + 1) (by omega) (by omega))
  intro i hi
  exact key _ i rfl hi

theorem ev_if_pos {ρ : Type} {c : Prop} [Decidable c] {a b : Nat → Option ρ} {r : ρ} (h : c) (k : Ev a r) : Ev (fun n => if c then a n else b n) r := by simpa only [if_pos h] using k
theorem ev_if_neg {ρ : Type} {c : Prop} [Decidable c] {a b : Nat → Option ρ} {r : ρ} (h : ¬ c) (k : Ev b r) : Ev (fun n => if c then a n else b n) r := by simpa only [if_neg h] using k

theorem set_fill {α β : Type} (l : List α) (m : List β) (g : α → β) (i : Nat) (hi : i < l.length) (h : l.length = m.length) : ((l.take i).map g ++ m.drop i).set i (g l[i]) = (l.take (i + 1)).map g ++ m.drop (i + 1) := by
  apply List.ext_getElem?
  intro j
  simp only [List.getElem?_set, List.getElem?_append, List.length_map, List.length_take, List.getElem?_map, List.getElem?_take, List.getElem?_drop, List.length_append, List.length_drop]
  rw [Nat.min_eq_left (by omega), Nat.min_eq_left (by omega)]
  by_cases h1 : i = j
  · subst h1
    simp [hi]
    omega
  · by_cases h2 : j < i
    · simp [h1, h2, show j < i + 1 by omega]
    · simp only [h1, h2, if_false, show ¬ j < i + 1 by omega]
      congr 1
      omega

/-- A loop that fills a row, element by element. -/
theorem fill_ev {α β : Type} (l : List α) (g : α → β) (z : β) (F : Nat → List β → Int → Option (List β)) (hend : ∀ out, Ev (fun k => F k out (l.length : Int)) out)
    (hstep : ∀ (i : Nat) (hi : i < l.length) (out : List β) (r : List β), out.length = l.length → Ev (fun k => F k (out.set i (g l[i])) ((i + 1 : Nat) : Int)) r → Ev (fun k => F k out (i : Int)) r) :
    Ev (fun k => F k (List.replicate l.length z) 0) (l.map g) := by
  have key : ∀ d i, l.length - i = d → i ≤ l.length → Ev (fun k => F k ((l.take i).map g ++ (List.replicate l.length z).drop i) (i : Int)) (l.map g) := by
    intro d
    induction d with
    | zero =>
      intro i hd hi
      obtain rfl : i = l.length := by omega
      have h := hend (l.map g)
      simpa using h
    | succ d ih =>
      intro i hd hi
      refine hstep i (by omega) _ _ (by simp; omega) ?_
      rw [set_fill l _ g i (by omega) (by simp)]
      exact ih (i + 1) (by omega) (by omega)
  have h := key l.length 0 (by omega) (by omega)
  simpa using h
theorem ev_eq {ρ : Type} {x : Option ρ} {r : ρ} (h : x = some r) : Ev (fun _ => x) r := ⟨0, fun _ _ => h⟩
/-- A loop that turns a row, element by element, whatever stood there. -/
theorem turn_ev {β ρ : Type} (m : List β) (l : List β) (hm : m.length = l.length) (F : Nat → List β → Int → Option ρ) (r : ρ) (hend : Ev (fun k => F k l (l.length : Int)) r)
    (hstep : ∀ (i : Nat) (hi : i < l.length) (out : List β), out.length = l.length → Ev (fun k => F k (out.set i l[i]) ((i + 1 : Nat) : Int)) r → Ev (fun k => F k out (i : Int)) r) : Ev (fun k => F k m 0) r := by
  have key : ∀ d i, l.length - i = d → i ≤ l.length → Ev (fun k => F k ((l.take i).map id ++ m.drop i) (i : Int)) r := by
    intro d
    induction d with
    | zero =>
      intro i hd hi
      obtain rfl : i = l.length := by omega
      simpa [List.drop_eq_nil_of_le (show m.length ≤ l.length by omega)] using hend
    | succ d ih =>
      intro i hd hi
      refine hstep i (by omega) _ (by simp; omega) ?_
      have := set_fill l m id i (by omega) hm.symm
      simp only [id] at this ⊢
      rw [this]
      have h2 := ih (i + 1) (by omega) (by omega)
      simpa using h2
  have h := key l.length 0 (by omega) (by omega)
  simpa using h

theorem int_wf {n : Int} (h : (Lit.int .i64 n).wf = true) : -9223372036854775808 ≤ n ∧ n ≤ 9223372036854775807 := by
  simp [Lit.wf, IntKind.min, IntKind.max, IntKind.signed, IntKind.bits] at h
  omega
theorem wrap_id {i : Int} (h0 : -9223372036854775808 ≤ i) (h : i ≤ 9223372036854775807) : wrap64 i = i := by
  unfold wrap64
  omega

theorem and255 (n : Int) : Go.bits .and .i64 n 255 = n % 256 := by
  have h : (255 : Int) = ((255 : Nat) : Int) := rfl
  simp only [Go.bits]
  rw [h, BitVec.ofInt_natCast, BitVec.toNat_and, BitVec.toNat_ofNat, BitVec.toNat_ofInt]
  rw [show (255 % 2 ^ IntKind.i64.bits : Nat) = 2 ^ 8 - 1 by decide, Nat.and_two_pow_sub_one_eq_mod, IntKind.wrap_i64]
  simp only [IntKind.bits]
  omega

theorem or_byte (x b : Nat) (hx : x * 256 < 18446744073709551616) (hb : b < 256) : Go.bits .or .u64 ((x * 256 : Nat) : Int) (b : Int) = ((x * 256 + b : Nat) : Int) := by
  have := bits_join .u64 64 (by decide) (fun n h0 h1 => by simp [IntKind.wrap, IntKind.bits, IntKind.signed]; omega) 8 ((x * 256 : Nat) : Int) (b : Int) (by omega) (by omega) (by omega) (by omega) (by omega) (by omega)
  rw [this]
  omega

theorem byte_tot (l : List Int) (i h : Int) (hi : 0 ≤ i) (hl : l.length ≤ maxLen) : ∃ b i' h', spec_l1Byte.f l i h = some (b, i', h') ∧ 0 ≤ b ∧ b ≤ 255 ∧ 0 ≤ i' := by
  unfold spec_l1Byte.f
  rw [and255, and255]
  by_cases h1 : i < (l.length : Int)
  · rw [if_pos h1, if_pos hi]
    refine ⟨_, _, _, rfl, by omega, by omega, ?_⟩
    have : (l.length : Int) ≤ 9223372036854775807 := by simp [maxLen] at hl; omega
    rw [wrap_succ hi (by omega)]
    omega
  · rw [if_neg h1]
    exact ⟨_, _, _, rfl, by omega, by omega, hi⟩

theorem below_tot (l : List Int) (i h n : Int) (hi : 0 ≤ i) (hl : l.length ≤ maxLen) (hn : 0 < n) : ∃ b i' h', spec_l1Below.f l i h n = some (b, i', h') ∧ 0 ≤ b ∧ b < n ∧ 0 ≤ i' := by
  unfold spec_l1Below.f
  rw [if_neg (by omega)]
  obtain ⟨b1, i1, h1, e1, p1, q1, iz1⟩ := byte_tot l i h hi hl
  rw [e1]
  by_cases hn2 : n ≤ 256
  · rw [if_pos hn2]
    show ∃ b i' h', (if n = 0 then none else some (Int.tmod b1 n, i1, h1)) = some (b, i', h') ∧ _
    rw [if_neg (by omega)]
    exact ⟨_, _, _, rfl, Int.tmod_nonneg _ p1, Int.tmod_lt_of_pos _ hn, iz1⟩
  · rw [if_neg hn2]
    obtain ⟨b2, i2, h2, e2, p2, q2, iz2⟩ := byte_tot l i1 h1 iz1 hl
    obtain ⟨b3, i3, h3, e3, p3, q3, iz3⟩ := byte_tot l i2 h2 iz2 hl
    obtain ⟨b4, i4, h4, e4, p4, q4, iz4⟩ := byte_tot l i3 h3 iz3 hl
    simp only [Option.bind_some, e2, e3, e4]
    rw [if_neg (by omega)]
    refine ⟨_, _, _, rfl, Int.tmod_nonneg _ ?_, Int.tmod_lt_of_pos _ hn, iz4⟩
    unfold wrap64
    omega

theorem wrap_range (n : Int) : -9223372036854775808 ≤ wrap64 n ∧ wrap64 n ≤ 9223372036854775807 := by
  unfold wrap64
  omega

theorem new_tot (l : List Int) (hl : l.length ≤ maxLen) : ∃ h, Ev (fun k => spec_l1New.f k l) (l, 0, h) := by
  have key : ∀ d (i : Nat) (x : Int), l.length - i = d → i ≤ l.length → ∃ h, Ev (fun k => spec_l1New.l0 k l x (i : Int)) (l, 0, h) := by
    intro d
    induction d with
    | zero =>
      intro i x hd hi
      refine ⟨x, Ev.step (fun k => rfl) ?_⟩
      exact ev_if_neg (by omega) (ev_eq rfl)
    | succ d ih =>
      intro i x hd hi
      by_cases h4 : (i : Int) < 4000
      · obtain ⟨h, H⟩ := ih (i + 1) (Go.bits .and .i64 (wrap64 ((wrap64 ((wrap64 (x * 131)) + (wrap64 (rd l (i : Int))))) + 7)) 1073741823) (by omega) (by omega)
        refine ⟨h, Ev.step (fun k => rfl) ?_⟩
        refine ev_if_pos (by omega) (ev_if_pos h4 (ev_if_pos (by omega) ?_))
        rw [wrap_succ (by omega) (by omega)]
        exact H
      · exact ⟨x, Ev.step (fun k => rfl) (ev_if_pos (by omega) (ev_if_neg h4 (ev_eq rfl)))⟩
  obtain ⟨h, H⟩ := key l.length 0 (wrap64 (25252 + (l.length : Int))) (by omega) (by omega)
  exact ⟨h, H⟩

theorem number_loop (l : List Int) (hl : l.length ≤ maxLen) : ∀ (d : Nat) (x i h : Int), d ≤ 5 → 0 ≤ i → -9223372036854775808 ≤ x → x ≤ 9223372036854775807 → ∃ n i' h', Ev (fun k => spec_l1number.l0 k x (d : Int) l i h) (n, i', h') ∧ -9223372036854775808 ≤ n ∧ n ≤ 9223372036854775807 ∧ 0 ≤ i' := by
  intro d
  induction d with
  | zero =>
    intro x i h hd hi hx1 hx2
    obtain ⟨b, i1, h1, e1, p1, q1, iz1⟩ := below_tot l i h 12 hi hl (by omega)
    by_cases c0 : b = 0
    · refine ⟨wrap64 (-x), i1, h1, Ev.step (fun k => rfl) (ev_if_neg (by omega) ?_), (wrap_range _).1, (wrap_range _).2, iz1⟩
      refine Ev.bind (ev_eq e1) ?_
      exact ev_if_pos c0 (ev_eq rfl)
    · by_cases c1 : b = 1
      · obtain ⟨b2, i2, h2, e2, p2, q2, iz2⟩ := below_tot l i1 h1 7 iz1 hl (by omega)
        obtain ⟨b3, i3, h3, e3, p3, q3, iz3⟩ := below_tot l i2 h2 2 iz2 hl (by omega)
        refine ⟨wrap64 ((shl .i64 1 (wrap64 (8 * (wrap64 (1 + b2))))) - b3), i3, h3, Ev.step (fun k => rfl) (ev_if_neg (by omega) ?_), (wrap_range _).1, (wrap_range _).2, iz3⟩
        refine Ev.bind (ev_eq e1) ?_
        refine ev_if_neg c0 (ev_if_pos c1 ?_)
        refine Ev.bind (ev_eq e2) ?_
        refine ev_if_pos (by unfold wrap64; omega) ?_
        refine Ev.bind (ev_eq e3) ?_
        exact ev_eq rfl
      · by_cases c2 : b = 2
        · refine ⟨9223372036854775807, i1, h1, Ev.step (fun k => rfl) (ev_if_neg (by omega) ?_), by decide, by decide, iz1⟩
          refine Ev.bind (ev_eq e1) ?_
          exact ev_if_neg c0 (ev_if_neg c1 (ev_if_pos c2 (ev_eq rfl)))
        · by_cases c3 : b = 3
          · refine ⟨-9223372036854775808, i1, h1, Ev.step (fun k => rfl) (ev_if_neg (by omega) ?_), by decide, by decide, iz1⟩
            refine Ev.bind (ev_eq e1) ?_
            exact ev_if_neg c0 (ev_if_neg c1 (ev_if_neg c2 (ev_if_pos c3 (ev_eq rfl))))
          · refine ⟨x, i1, h1, Ev.step (fun k => rfl) (ev_if_neg (by omega) ?_), hx1, hx2, iz1⟩
            refine Ev.bind (ev_eq e1) ?_
            exact ev_if_neg c0 (ev_if_neg c1 (ev_if_neg c2 (ev_if_neg c3 (ev_eq rfl))))
  | succ d ih =>
    intro x i h hd hi hx1 hx2
    obtain ⟨b, i1, h1, e1, p1, q1, iz1⟩ := byte_tot l i h hi hl
    have hr := wrap_range (wrap64 (x * 256) + b)
    obtain ⟨n, i2, h2, E, n1, n2, iz2⟩ := ih (wrap64 (wrap64 (x * 256) + b)) i1 h1 (by omega) iz1 hr.1 hr.2
    refine ⟨n, i2, h2, Ev.step (fun k => rfl) (ev_if_pos (by omega) ?_), n1, n2, iz2⟩
    refine Ev.bind (ev_eq e1) ?_
    have e : wrap64 (((d + 1 : Nat) : Int) - 1) = (d : Int) := by unfold wrap64; omega
    rw [e]
    exact E

theorem draw_tot (l : List Int) (hl : l.length ≤ maxLen) : ∃ n s, Ev (fun k => spec_DrawPutNum.f k l) (n, s) ∧ -9223372036854775808 ≤ n ∧ n ≤ 9223372036854775807 ∧ -1 ≤ s ∧ s ≤ 9 := by
  obtain ⟨h, E1⟩ := new_tot l hl
  obtain ⟨b1, i1, h1, e1, p1, q1, iz1⟩ := below_tot l 0 h 1000 (by omega) hl (by omega)
  obtain ⟨b2, i2, h2, e2, p2, q2, iz2⟩ := below_tot l i1 h1 6 iz1 hl (by omega)
  obtain ⟨d, rfl⟩ := Int.eq_ofNat_of_zero_le p2
  obtain ⟨n, i3, h3, E2, n1, n2, iz3⟩ := number_loop l hl d b1 i2 h2 (by omega) iz2 (by omega) (by omega)
  obtain ⟨b4, i4, h4, e4, p4, q4, iz4⟩ := below_tot l i3 h3 11 iz3 hl (by omega)
  refine ⟨n, wrap64 (b4 - 1), ?_, n1, n2, by unfold wrap64; omega, by unfold wrap64; omega⟩
  refine Ev.bind E1 ?_
  have E3 : Ev (fun k => spec_l1number.f k l 0 h) (n, i3, h3) := by
    refine Ev.bind (ev_eq e1) ?_
    refine Ev.bind (ev_eq e2) ?_
    exact E2
  refine Ev.bind E3 ?_
  · refine Ev.bind (ev_eq e4) ?_
    exact ev_eq rfl

def digs : Nat → Nat → List Int
  | _, 0 => []
  | n, s + 1 => ((n % 256 : Nat) : Int) :: digs (n / 256) s

theorem digs_len : ∀ s n, (digs n s).length = s := by
  intro s
  induction s with
  | zero => intro n; rfl
  | succ s ih => intro n; simp [digs, ih]

theorem digs_at : ∀ s n i, i < s → (digs n s)[i]? = some ((n / 256 ^ i % 256 : Nat) : Int) := by
  intro s
  induction s with
  | zero => intro n i h; omega
  | succ s ih =>
    intro n i h
    cases i with
    | zero => simp [digs]
    | succ i =>
      simp only [digs, List.getElem?_cons_succ]
      rw [ih _ _ (by omega), Nat.div_div_eq_div_mul, Nat.pow_succ, Nat.mul_comm 256]

theorem implPut_loop (s : Nat) (hs : s ≤ 8) : ∀ (d i n : Nat) (out : List Int), s - i = d → i ≤ s → out.length = i → Ev (fun k => impl_PutNum.l0 k (n : Int) out (s : Int) (i : Int)) (out ++ digs n (s - i)) := by
  intro d
  induction d with
  | zero =>
    intro i n out hd hi ho
    refine Ev.step (fun k => rfl) (ev_if_neg (by omega) (ev_eq ?_))
    rw [show s - i = 0 by omega]
    simp [digs]
  | succ d ih =>
    intro i n out hd hi ho
    refine Ev.step (fun k => rfl) (ev_if_pos (by omega) (ev_if_pos (by omega) ?_))
    have h := ih (i + 1) (n / 256) (out ++ [((n % 256 : Nat) : Int)]) (by omega) (by omega) (by simp [ho])
    rw [wrap_succ (by omega) (by omega)]
    rw [show s - i = (s - (i + 1)) + 1 by omega]
    simp only [digs]
    rw [show out ++ ((n % 256 : Nat) : Int) :: digs (n / 256) (s - (i + 1)) = out ++ [((n % 256 : Nat) : Int)] ++ digs (n / 256) (s - (i + 1)) by simp]
    have e1 : (n : Int) / 256 = ((n / 256 : Nat) : Int) := by omega
    have e2 : (n : Int) % 256 = ((n % 256 : Nat) : Int) := by omega
    simp only [e1, e2]
    exact h

theorem specPut_loop (s : Nat) (hs : s ≤ 8) : ∀ (d i n : Nat) (out : List Int), s - i = d → i ≤ s → out.length = i → n ≤ 9223372036854775807 → Ev (fun k => spec_PutNum.l0 k (n : Int) (s : Int) out (i : Int)) (if n / 256 ^ (s - i) = 0 then out ++ digs n (s - i) else []) := by
  intro d
  induction d with
  | zero =>
    intro i n out hd hi ho hn
    refine Ev.step (fun k => rfl) (ev_if_neg (by omega) ?_)
    rw [show s - i = 0 by omega]
    by_cases h0 : n = 0
    · subst h0
      refine ev_if_neg (by omega) (ev_eq ?_)
      simp [digs]
    · refine ev_if_pos (by omega) (ev_eq ?_)
      rw [if_neg (by simpa using h0)]
  | succ d ih =>
    intro i n out hd hi ho hn
    refine Ev.step (fun k => rfl) (ev_if_pos (by omega) (ev_if_pos (by omega) ?_))
    have h := ih (i + 1) (n / 256) (out ++ [((n % 256 : Nat) : Int)]) (by omega) (by omega) (by simp [ho]) (by omega)
    rw [wrap_succ (by omega) (by omega)]
    rw [show s - i = (s - (i + 1)) + 1 by omega]
    simp only [digs]
    rw [show out ++ ((n % 256 : Nat) : Int) :: digs (n / 256) (s - (i + 1)) = out ++ [((n % 256 : Nat) : Int)] ++ digs (n / 256) (s - (i + 1)) by simp, Nat.pow_succ, Nat.mul_comm _ 256, ← Nat.div_div_eq_div_mul]
    have e1 : wrap64 (Int.tdiv (n : Int) 256) = ((n / 256 : Nat) : Int) := by
      rw [Int.tdiv_eq_ediv_of_nonneg (by omega), wrap_id (by omega) (by omega)]; omega
    have e2 : (Int.tmod (n : Int) 256) % 256 = ((n % 256 : Nat) : Int) := by
      rw [Int.tmod_eq_emod_of_nonneg (by omega)]; omega
    simp only [e1, e2]
    exact h

theorem get_loop (xs : List Int) (n at' : Nat) (s : Nat) (hs : s ≤ 8) (hn : n < 9223372036854775808) (hat : at' ≤ 100) (hlen : at' + s ≤ xs.length) (hx : ∀ i, i < s → rd xs ((at' + i : Nat) : Int) = ((n / 256 ^ i % 256 : Nat) : Int)) :
    ∀ i, i ≤ s → Ev (fun k => impl_GetNum.l0 k xs (at' : Int) ((n / 256 ^ i : Nat) : Int) ((i : Int) - 1)) ((n : Int), true) := by
  intro i
  induction i with
  | zero =>
    intro hi
    refine Ev.step (fun k => rfl) (ev_if_neg (by omega) ?_)
    refine ev_if_neg (by simp; omega) (ev_eq ?_)
    rw [Nat.pow_zero, Nat.div_one, wrap_id (by omega) (by omega)]
  | succ i ih =>
    intro hi
    have e0 : (((i + 1 : Nat) : Int) - 1) = (i : Int) := by omega
    rw [e0]
    have e1 : wrap64 ((at' : Int) + (i : Int)) = ((at' + i : Nat) : Int) := by rw [wrap_id (by omega) (by omega)]; omega
    refine Ev.step (fun k => rfl) (ev_if_pos (by omega) ?_)
    rw [e1, hx i (by omega)]
    refine ev_if_pos (by omega) (ev_if_pos (by omega) ?_)
    have hb : n / 256 ^ i % 256 < 256 := Nat.mod_lt _ (by decide)
    have hle : n / 256 ^ i ≤ n := Nat.div_le_self _ _
    have hdd : n / 256 ^ (i + 1) = n / 256 ^ i / 256 := by rw [Nat.pow_succ, Nat.div_div_eq_div_mul]
    have w1 : IntKind.u64.wrap (((n / 256 ^ (i + 1) : Nat) : Int) * 256) = ((n / 256 ^ (i + 1) * 256 : Nat) : Int) := by
      rw [hdd]; generalize n / 256 ^ i = m at *
      simp [IntKind.wrap, IntKind.bits, IntKind.signed]; omega
    have w2 : IntKind.u64.wrap (((n / 256 ^ i % 256 : Nat) : Int)) = ((n / 256 ^ i % 256 : Nat) : Int) := by
      generalize n / 256 ^ i = m at *
      simp [IntKind.wrap, IntKind.bits, IntKind.signed]; omega
    have w3 : wrap64 ((i : Int) - 1) = (i : Int) - 1 := wrap_id (by omega) (by omega)
    rw [w1, w2, w3, or_byte _ _ (by rw [hdd]; omega) hb, show n / 256 ^ (i + 1) * 256 + n / 256 ^ i % 256 = n / 256 ^ i by rw [hdd]; omega]
    exact ih (by omega)

theorem implJ (k : Nat) (a b : Int) (c : Bool) : impl_PutNum.j0 (k + 1) a b c = (if c = true then some ([] : List Int) else impl_PutNum.l0 k a [] b 0) := by simp only [impl_PutNum.j0]
theorem specJ (k : Nat) (a b : Int) (x : List Int) (c : Bool) : spec_PutNum.j0 (k + 1) a b x c = (if c = true then some x else spec_PutNum.l0 k a b x 0) := by simp only [spec_PutNum.j0]
theorem getJ (k : Nat) (x : List Int) (a b : Int) (c : Bool) : impl_GetNum.j0 (k + 1) x a b c = (if c = true then some (0, false) else impl_GetNum.l0 k x a 0 (wrap64 (b - 1))) := by simp only [impl_GetNum.j0]

theorem implPut_ev (n s : Nat) (hs1 : 1 ≤ s) (hs : s ≤ 8) (hn : n < 9223372036854775808) : Ev (fun k => impl_PutNum.f k (n : Int) (s : Int)) (if n / 256 ^ s = 0 then digs n s else []) := by
  have E : Ev (fun k => impl_PutNum.l0 k (n : Int) [] (s : Int) 0) (digs n s) := by simpa using implPut_loop s hs s 0 n [] (by omega) (by omega) rfl
  have hw : impl_within.f (s : Int) 1 8 = some true := by
    unfold impl_within.f
    rw [if_pos (by omega), decide_eq_true (by omega)]
  refine Ev.bind (ev_eq hw) (ev_if_pos rfl (ev_if_neg (by omega) ?_))
  by_cases h8 : s < 8
  · refine ev_if_pos (by omega) ?_
    have e8 : wrap64 (8 * (s : Int)) = 8 * (s : Int) := wrap_id (by omega) (by omega)
    rw [e8]
    refine ev_if_pos (by omega) ?_
    have e : shr .i64 (n : Int) (8 * (s : Int)) = ((n / 256 ^ s : Nat) : Int) := by
      unfold shr
      have hm : min (8 * (s : Int)).toNat IntKind.i64.bits = 8 * s := by simp only [IntKind.bits]; omega
      rw [hm, Int.natCast_ediv, Int.natCast_pow, Int.pow_mul]
      rfl
    rw [e]
    by_cases h0 : n / 256 ^ s = 0
    · rw [if_pos h0, h0]
      exact Ev.step (fun k => implJ k _ _ _) (ev_if_neg (by decide) E)
    · rw [if_neg h0]
      have : ((((n / 256 ^ s : Nat) : Int)) != 0) = true := by
        have h9 : ((n / 256 ^ s : Nat) : Int) ≠ 0 := by exact_mod_cast h0
        simpa [bne_iff_ne] using h9
      rw [this]
      exact Ev.step (fun k => implJ k _ _ _) (ev_if_pos rfl (ev_eq rfl))
  · obtain rfl : s = 8 := by omega
    refine ev_if_neg (by omega) ?_
    rw [if_pos (by omega)]
    exact Ev.step (fun k => implJ k _ _ _) (ev_if_neg (by decide) E)

theorem specPut_ev (n s : Nat) (hs1 : 1 ≤ s) (hs : s ≤ 8) (hn : n < 9223372036854775808) : Ev (fun k => spec_PutNum.f k (n : Int) (s : Int)) (if n / 256 ^ s = 0 then digs n s else []) := by
  have E : Ev (fun k => spec_PutNum.l0 k (n : Int) (s : Int) [] 0) (if n / 256 ^ s = 0 then digs n s else []) := by simpa using specPut_loop s hs s 0 n [] (by omega) (by omega) rfl (by omega)
  refine ev_if_neg (by omega) (ev_if_neg (by omega) ?_)
  rw [decide_eq_false (by omega)]
  exact Ev.step (fun k => specJ k _ _ _ _) (ev_if_neg (by decide) E)

theorem put_bad (n s : Int) (h : s < 1 ∨ 8 < s ∨ n < 0) : Ev (fun k => impl_PutNum.f k n s) [] ∧ Ev (fun k => spec_PutNum.f k n s) [] := by
  have J : Ev (fun k => impl_PutNum.j0 k n s true) [] := Ev.step (fun k => implJ k _ _ _) (ev_if_pos rfl (ev_eq rfl))
  have J2 : Ev (fun k => spec_PutNum.j0 k n s [] true) [] := Ev.step (fun k => specJ k _ _ _ _) (ev_if_pos rfl (ev_eq rfl))
  by_cases h1 : s < 1
  · have hw : impl_within.f s 1 8 = some false := by
      unfold impl_within.f
      rw [if_neg (by omega)]
    exact ⟨Ev.bind (ev_eq hw) (ev_if_neg (by decide) J), ev_if_pos h1 J2⟩
  · by_cases h2 : 8 < s
    · have hw : impl_within.f s 1 8 = some false := by
        unfold impl_within.f
        rw [if_pos (by omega), decide_eq_false (by omega)]
      exact ⟨Ev.bind (ev_eq hw) (ev_if_neg (by decide) J), ev_if_neg h1 (ev_if_pos (by omega) J2)⟩
    · have hw : impl_within.f s 1 8 = some true := by
        unfold impl_within.f
        rw [if_pos (by omega), decide_eq_true (by omega)]
      refine ⟨Ev.bind (ev_eq hw) (ev_if_pos rfl (ev_if_pos (by omega) J)), ev_if_neg h1 (ev_if_neg (by omega) ?_)⟩
      rw [decide_eq_true (by omega)]
      exact J2

theorem implGet_ev (front : List Int) (n s : Nat) (hf : front.length ≤ 3) (hs1 : 1 ≤ s) (hs : s ≤ 8) (hn : n < 9223372036854775808) (h0 : n / 256 ^ s = 0) : Ev (fun k => impl_GetNum.f k (front ++ digs n s) (front.length : Int) (s : Int)) ((n : Int), true) := by
  have hw : impl_within.f (s : Int) 1 8 = some true := by
    unfold impl_within.f
    rw [if_pos (by omega), decide_eq_true (by omega)]
  have hl : (front ++ digs n s).length = front.length + s := by simp [digs_len]
  have hb : impl_hasBytes.f (front ++ digs n s) (front.length : Int) (s : Int) = some true := by
    unfold impl_hasBytes.f impl_within.f
    rw [if_pos (by omega), decide_eq_true (by omega)]
    simp only [Option.bind_some, if_true]
    rw [hl, wrap_id (by omega) (by omega), decide_eq_true (by omega)]
  refine Ev.bind (ev_eq hw) (ev_if_pos rfl (Ev.bind (ev_eq hb) ?_))
  refine Ev.step (fun k => getJ k _ _ _ _) (ev_if_neg (by decide) ?_)
  have e3 : wrap64 ((s : Int) - 1) = (s : Int) - 1 := wrap_id (by omega) (by omega)
  have g := get_loop (front ++ digs n s) n front.length s hs hn (by omega) (by omega) (fun i hi => by
    have := digs_at s n i hi
    have h4 : (front ++ digs n s)[front.length + i]? = some ((n / 256 ^ i % 256 : Nat) : Int) := by
      rw [List.getElem?_append_right (by omega)]
      simpa using this
    simp only [rd, Int.toNat_natCast, List.getD_eq_getElem?_getD, h4, Option.getD_some]) s (Nat.le_refl _)
  rw [h0] at g
  rw [e3]
  exact g

theorem implGet_short (n s : Nat) (hs1 : 1 ≤ s) (hs : s ≤ 8) : Ev (fun k => impl_GetNum.f k (digs n s) 1 (s : Int)) (0, false) := by
  have hw : impl_within.f (s : Int) 1 8 = some true := by
    unfold impl_within.f
    rw [if_pos (by omega), decide_eq_true (by omega)]
  have hl := digs_len s n
  have hb : impl_hasBytes.f (digs n s) 1 (s : Int) = some false := by
    unfold impl_hasBytes.f impl_within.f
    rw [if_pos (by omega), decide_eq_true (by omega)]
    simp only [Option.bind_some, if_true]
    rw [hl, wrap_id (by omega) (by omega), decide_eq_false (by omega)]
  refine Ev.bind (ev_eq hw) (ev_if_pos rfl (Ev.bind (ev_eq hb) ?_))
  exact Ev.step (fun k => getJ k _ _ _ _) (ev_if_pos rfl (ev_eq rfl))

theorem at_tot (l : List Int) (i : Int) (hi0 : 0 ≤ i) (hi : i ≤ 1000) (hl : l.length ≤ 1048576) (hw : ∀ x ∈ l, (Lit.int .u8 x).wf = true) : ∃ r, laws_at.f l i = some r ∧ 0 ≤ r ∧ r ≤ 255 := by
  unfold laws_at.f
  by_cases h : i < (l.length : Int)
  · rw [if_pos h, if_pos hi0]
    have hm : rd l i ∈ l := by
      obtain ⟨j, rfl⟩ := Int.eq_ofNat_of_zero_le hi0
      have : j < l.length := by omega
      simp [rd, this]
    have := hw _ hm
    simp [Lit.wf, IntKind.min, IntKind.max, IntKind.signed, IntKind.bits] at this
    refine ⟨_, rfl, ?_, ?_⟩ <;> rw [wrap_id (by omega) (by omega)] <;> omega
  · rw [if_neg h]
    have e : wrap64 (wrap64 (i * 7) + (l.length : Int)) = i * 7 + (l.length : Int) := by
      rw [wrap_id (i := i * 7) (by omega) (by omega), wrap_id (by omega) (by omega)]
    rw [e]
    refine ⟨_, rfl, Int.tmod_nonneg _ (by omega), ?_⟩
    have := Int.tmod_lt_of_pos (i * 7 + (l.length : Int)) (show (0 : Int) < 256 by decide)
    omega

theorem FnNumbers (l : List Int) (w0 : l.length ≤ 9223372036854775807 ∧ ∀ a ∈ l, (Lit.int .u8 a).wf = true) : ∃ k, laws_FnNumbers.f k l = some true := by
  have hl : l.length ≤ maxLen := w0.1
  have hw := w0.2
  clear w0
  suffices h : Ev (fun k => laws_FnNumbers.f k l) true by
    obtain ⟨k, hk⟩ := h
    exact ⟨k, hk k (Nat.le_refl _)⟩
  by_cases hbig : (l.length : Int) > 1048576
  · refine Ev.bind (ev_eq (show laws_big.f l = some true by unfold laws_big.f; rw [decide_eq_true hbig])) (ev_if_pos rfl (ev_eq rfl))
  refine Ev.bind (ev_eq (show laws_big.f l = some false by unfold laws_big.f; rw [decide_eq_false hbig])) (ev_if_neg (by decide) ?_)
  obtain ⟨n, s, E, n1, n2, s1, s2⟩ := draw_tot l hl
  refine Ev.bind E ?_
  by_cases hbad : s < 1 ∨ 8 < s ∨ n < 0
  · obtain ⟨a, b⟩ := put_bad n s hbad
    exact Ev.bind a (Ev.bind b (ev_if_pos rfl (ev_eq rfl)))
  obtain ⟨n, rfl⟩ := Int.eq_ofNat_of_zero_le (show 0 ≤ n by omega)
  obtain ⟨s, rfl⟩ := Int.eq_ofNat_of_zero_le (show 0 ≤ s by omega)
  have hs1 : 1 ≤ s := by omega
  have hs8 : s ≤ 8 := by omega
  have hn : n < 9223372036854775808 := by omega
  clear hbad
  refine Ev.bind (implPut_ev n s hs1 hs8 hn) (Ev.bind (specPut_ev n s hs1 hs8 hn) ?_)
  by_cases h0 : n / 256 ^ s = 0
  · have hlen := digs_len s n
    rw [if_pos h0]
    refine ev_if_neg (by omega) (ev_if_pos (by omega) (Ev.bind (ev_eq rfl) ?_))
    obtain ⟨r, er, r0, r1⟩ := at_tot l 0 (by omega) (by omega) (by omega) hw
    refine Ev.bind (ev_eq er) ?_
    have t0 := Int.tmod_nonneg 4 r0
    have t1 := Int.tmod_lt_of_pos r (show (0 : Int) < 4 by decide)
    generalize Int.tmod r 4 = t at *
    have hl3 : ([9, 8, 7] : List Int).length = 3 := rfl
    refine ev_if_pos t0 (ev_if_pos (by omega) (Ev.bind (ev_eq rfl) (Ev.bind (ev_eq rfl) ?_)))
    have hft : (([9, 8, 7] : List Int).take t.toNat).length ≤ 3 := by rw [List.length_take]; omega
    generalize ([9, 8, 7] : List Int).take t.toNat = front at *
    refine ev_if_pos (by simp; omega) (Ev.bind (ev_eq rfl) (ev_if_pos (by simp; omega) ?_))
    refine Ev.bind (implGet_ev front n s hft hs1 hs8 hn h0) (Ev.bind (implGet_short n s hs1 hs8) ?_)
    exact ev_if_pos rfl (ev_if_pos rfl (ev_eq rfl))
  · rw [if_neg h0]
    exact ev_if_pos rfl (ev_eq rfl)

end Go.Proofs.Ytadbcjeelbkfcaa.Pure
