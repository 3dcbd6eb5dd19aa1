/- FnStatuses: the pure half: what the printed functions answer, without Go and memory. No condition beside those that each theorem states. -/
import Derived.Test.YtadbcjeelbkfcaaPFnStatusesx
import Derived.Test.YtadbcjeelbkfcaaOFnStatuses
namespace Go.Proofs.Ytadbcjeelbkfcaa.Pure
open Go.RowKit Go.Proofs.Ytadbcjeelbkfcaa.PFnStatuses Go.Proofs.YtadbcjeelbkfcaaW.PrintWords Go.Proofs.YtadbcjeelbkfcaaW.PrintLast Go.Proofs.YtadbcjeelbkfcaaW.PrintMore Go.Proofs.Ytadbcjeelbkfcaa.HFl Go.Proofs.Ytadbcjeelbkfcaa.HMap Go.Proofs.Ytadbcjeelbkfcaa.HMore
set_option linter.unusedVariables false
set_option linter.unusedSimpArgs false

theorem wrap_succ {i : Int} (h0 : 0 ≤ i) (h : i ≤ 9223372036854775806) : wrap64 (i + 1) = i + 1 := by
  unfold wrap64
  omega

theorem drop_rd (l : List Int) (i : Nat) (h : i < l.length) : l.drop i = rd l (i : Int) :: l.drop (i + 1) := by
  rw [List.drop_eq_getElem_cons h]
  simp [rd, List.getD_eq_getElem?_getD, h]

/-- A loop that is walked from its end: what it tells at i follows from what it tells at i + 1. -/
theorem ev_down {ρ : Type} (F : Nat → Int → Option ρ) (R : Nat → ρ → Prop) (n : Nat) (hend : ∀ r, R n r → Ev (fun k => F k n) r) (hstep : ∀ i, i < n → (∀ r, R (i + 1) r → Ev (fun k => F k ((i + 1 : Nat) : Int)) r) → ∀ r, R i r → Ev (fun k => F k (i : Int)) r) :
    ∀ i, i ≤ n → ∀ r, R i r → Ev (fun k => F k (i : Int)) r := by
  have key : ∀ d i, n - i = d → i ≤ n → ∀ r, R i r → Ev (fun k => F k (i : Int)) r := by
    intro d
    induction d with
    | zero =>
      intro i hd hi
      obtain rfl : i = n := by omega
      exact hend
    | succ d ih =>
      intro i hd hi
      exact hstep i (by omega) (ih (i + 1) (by omega) (by omega))
  intro i hi
  exact key _ i rfl hi

theorem ev_if_pos {ρ : Type} {c : Prop} [Decidable c] {a b : Nat → Option ρ} {r : ρ} (h : c) (k : Ev a r) : Ev (fun n => if c then a n else b n) r := by simpa only [if_pos h] using k
theorem ev_if_neg {ρ : Type} {c : Prop} [Decidable c] {a b : Nat → Option ρ} {r : ρ} (h : ¬ c) (k : Ev b r) : Ev (fun n => if c then a n else b n) r := by simpa only [if_neg h] using k

theorem set_fill {α β : Type} (l : List α) (m : List β) (g : α → β) (i : Nat) (hi : i < l.length) (h : l.length = m.length) : ((l.take i).map g ++ m.drop i).set i (g l[i]) = (l.take (i + 1)).map g ++ m.drop (i + 1) := by
  apply List.ext_getElem?
  intro j
  simp only [List.getElem?_set, List.getElem?_append, List.length_map, List.length_take, List.getElem?_map, List.getElem?_take, List.getElem?_drop, List.length_append, List.length_drop]
  rw [Nat.min_eq_left (by omega), Nat.min_eq_left (by omega)]
  by_cases h1 : i = j
  · subst h1
    simp [hi]
    omega
  · by_cases h2 : j < i
    · simp [h1, h2, show j < i + 1 by omega]
    · simp only [h1, h2, if_false, show ¬ j < i + 1 by omega]
      congr 1
      omega

/-- A loop that fills a row, element by element. -/
theorem fill_ev {α β : Type} (l : List α) (g : α → β) (z : β) (F : Nat → List β → Int → Option (List β)) (hend : ∀ out, Ev (fun k => F k out (l.length : Int)) out)
    (hstep : ∀ (i : Nat) (hi : i < l.length) (out : List β) (r : List β), out.length = l.length → Ev (fun k => F k (out.set i (g l[i])) ((i + 1 : Nat) : Int)) r → Ev (fun k => F k out (i : Int)) r) :
    Ev (fun k => F k (List.replicate l.length z) 0) (l.map g) := by
  have key : ∀ d i, l.length - i = d → i ≤ l.length → Ev (fun k => F k ((l.take i).map g ++ (List.replicate l.length z).drop i) (i : Int)) (l.map g) := by
    intro d
    induction d with
    | zero =>
      intro i hd hi
      obtain rfl : i = l.length := by omega
      have h := hend (l.map g)
      simpa using h
    | succ d ih =>
      intro i hd hi
      refine hstep i (by omega) _ _ (by simp; omega) ?_
      rw [set_fill l _ g i (by omega) (by simp)]
      exact ih (i + 1) (by omega) (by omega)
  have h := key l.length 0 (by omega) (by omega)
  simpa using h
theorem ev_eq {ρ : Type} {x : Option ρ} {r : ρ} (h : x = some r) : Ev (fun _ => x) r := ⟨0, fun _ _ => h⟩
/-- A loop that turns a row, element by element, whatever stood there. -/
theorem turn_ev {β ρ : Type} (m : List β) (l : List β) (hm : m.length = l.length) (F : Nat → List β → Int → Option ρ) (r : ρ) (hend : Ev (fun k => F k l (l.length : Int)) r)
    (hstep : ∀ (i : Nat) (hi : i < l.length) (out : List β), out.length = l.length → Ev (fun k => F k (out.set i l[i]) ((i + 1 : Nat) : Int)) r → Ev (fun k => F k out (i : Int)) r) : Ev (fun k => F k m 0) r := by
  have key : ∀ d i, l.length - i = d → i ≤ l.length → Ev (fun k => F k ((l.take i).map id ++ m.drop i) (i : Int)) r := by
    intro d
    induction d with
    | zero =>
      intro i hd hi
      obtain rfl : i = l.length := by omega
      simpa [List.drop_eq_nil_of_le (show m.length ≤ l.length by omega)] using hend
    | succ d ih =>
      intro i hd hi
      refine hstep i (by omega) _ (by simp; omega) ?_
      have := set_fill l m id i (by omega) hm.symm
      simp only [id] at this ⊢
      rw [this]
      have h2 := ih (i + 1) (by omega) (by omega)
      simpa using h2
  have h := key l.length 0 (by omega) (by omega)
  simpa using h

theorem int_wf {n : Int} (h : (Lit.int .i64 n).wf = true) : -9223372036854775808 ≤ n ∧ n ≤ 9223372036854775807 := by
  simp [Lit.wf, IntKind.min, IntKind.max, IntKind.signed, IntKind.bits] at h
  omega
theorem wrap_id {i : Int} (h0 : -9223372036854775808 ≤ i) (h : i ≤ 9223372036854775807) : wrap64 i = i := by
  unfold wrap64
  omega

theorem and255 (n : Int) : Go.bits .and .i64 n 255 = n % 256 := by
  have h : (255 : Int) = ((255 : Nat) : Int) := rfl
  simp only [Go.bits]
  rw [h, BitVec.ofInt_natCast, BitVec.toNat_and, BitVec.toNat_ofNat, BitVec.toNat_ofInt]
  rw [show (255 % 2 ^ IntKind.i64.bits : Nat) = 2 ^ 8 - 1 by decide, Nat.and_two_pow_sub_one_eq_mod, IntKind.wrap_i64]
  simp only [IntKind.bits]
  omega

theorem or_byte (x b : Nat) (hx : x * 256 < 18446744073709551616) (hb : b < 256) : Go.bits .or .u64 ((x * 256 : Nat) : Int) (b : Int) = ((x * 256 + b : Nat) : Int) := by
  have := bits_join .u64 64 (by decide) (fun n h0 h1 => by simp [IntKind.wrap, IntKind.bits, IntKind.signed]; omega) 8 ((x * 256 : Nat) : Int) (b : Int) (by omega) (by omega) (by omega) (by omega) (by omega) (by omega)
  rw [this]
  omega

theorem byte_tot (l : List Int) (i h : Int) (hi : 0 ≤ i) (hl : l.length ≤ maxLen) : ∃ b i' h', spec_l1Byte.f l i h = some (b, i', h') ∧ 0 ≤ b ∧ b ≤ 255 ∧ 0 ≤ i' := by
  unfold spec_l1Byte.f
  rw [and255, and255]
  by_cases h1 : i < (l.length : Int)
  · rw [if_pos h1, if_pos hi]
    refine ⟨_, _, _, rfl, by omega, by omega, ?_⟩
    have : (l.length : Int) ≤ 9223372036854775807 := by simp [maxLen] at hl; omega
    rw [wrap_succ hi (by omega)]
    omega
  · rw [if_neg h1]
    exact ⟨_, _, _, rfl, by omega, by omega, hi⟩

theorem below_tot (l : List Int) (i h n : Int) (hi : 0 ≤ i) (hl : l.length ≤ maxLen) (hn : 0 < n) : ∃ b i' h', spec_l1Below.f l i h n = some (b, i', h') ∧ 0 ≤ b ∧ b < n ∧ 0 ≤ i' := by
  unfold spec_l1Below.f
  rw [if_neg (by omega)]
  obtain ⟨b1, i1, h1, e1, p1, q1, iz1⟩ := byte_tot l i h hi hl
  rw [e1]
  by_cases hn2 : n ≤ 256
  · rw [if_pos hn2]
    show ∃ b i' h', (if n = 0 then none else some (Int.tmod b1 n, i1, h1)) = some (b, i', h') ∧ _
    rw [if_neg (by omega)]
    exact ⟨_, _, _, rfl, Int.tmod_nonneg _ p1, Int.tmod_lt_of_pos _ hn, iz1⟩
  · rw [if_neg hn2]
    obtain ⟨b2, i2, h2, e2, p2, q2, iz2⟩ := byte_tot l i1 h1 iz1 hl
    obtain ⟨b3, i3, h3, e3, p3, q3, iz3⟩ := byte_tot l i2 h2 iz2 hl
    obtain ⟨b4, i4, h4, e4, p4, q4, iz4⟩ := byte_tot l i3 h3 iz3 hl
    simp only [Option.bind_some, e2, e3, e4]
    rw [if_neg (by omega)]
    refine ⟨_, _, _, rfl, Int.tmod_nonneg _ ?_, Int.tmod_lt_of_pos _ hn, iz4⟩
    unfold wrap64
    omega

theorem wrap_range (n : Int) : -9223372036854775808 ≤ wrap64 n ∧ wrap64 n ≤ 9223372036854775807 := by
  unfold wrap64
  omega

theorem new_tot (l : List Int) (hl : l.length ≤ maxLen) : ∃ h, Ev (fun k => spec_l1New.f k l) (l, 0, h) := by
  have key : ∀ d (i : Nat) (x : Int), l.length - i = d → i ≤ l.length → ∃ h, Ev (fun k => spec_l1New.l0 k l x (i : Int)) (l, 0, h) := by
    intro d
    induction d with
    | zero =>
      intro i x hd hi
      refine ⟨x, Ev.step (fun k => rfl) ?_⟩
      exact ev_if_neg (by omega) (ev_eq rfl)
    | succ d ih =>
      intro i x hd hi
      by_cases h4 : (i : Int) < 4000
      · obtain ⟨h, H⟩ := ih (i + 1) (Go.bits .and .i64 (wrap64 ((wrap64 ((wrap64 (x * 131)) + (wrap64 (rd l (i : Int))))) + 7)) 1073741823) (by omega) (by omega)
        refine ⟨h, Ev.step (fun k => rfl) ?_⟩
        refine ev_if_pos (by omega) (ev_if_pos h4 (ev_if_pos (by omega) ?_))
        rw [wrap_succ (by omega) (by omega)]
        exact H
      · exact ⟨x, Ev.step (fun k => rfl) (ev_if_pos (by omega) (ev_if_neg h4 (ev_eq rfl)))⟩
  obtain ⟨h, H⟩ := key l.length 0 (wrap64 (25252 + (l.length : Int))) (by omega) (by omega)
  exact ⟨h, H⟩

theorem within_eq (a lo hi : Int) : impl_within.f a lo hi = some (decide (lo ≤ a ∧ a ≤ hi)) := by
  unfold impl_within.f
  by_cases h : lo ≤ a
  · rw [if_pos h]; simp [h]
  · rw [if_neg h]; simp [h]

theorem l5in_eq (a lo hi : Int) : spec_l5in.f a lo hi = some (decide (lo ≤ a ∧ a ≤ hi)) := by
  unfold spec_l5in.f
  by_cases h : lo ≤ a
  · rw [if_pos h]; simp [h]
  · rw [if_neg (by omega)]; simp [h]

/-- What a list of statuses says of a number. -/
def statusOf (l : List Int) (x : Int) : Int :=
  if 1 ≤ x ∧ x ≤ 400 ∧ x < (l.length : Int) ∧ 1 ≤ rd l x ∧ rd l x ≤ 2 then rd l x else 0

theorem statusOf_pos {l : List Int} {x : Int} (h : 1 ≤ x ∧ x ≤ 400 ∧ x < (l.length : Int) ∧ 1 ≤ rd l x ∧ rd l x ≤ 2) : statusOf l x = rd l x := if_pos h
theorem statusOf_neg {l : List Int} {x : Int} (h : ¬ (1 ≤ x ∧ x ≤ 400 ∧ x < (l.length : Int) ∧ 1 ≤ rd l x ∧ rd l x ≤ 2)) : statusOf l x = 0 := if_neg h

theorem implStatusOf (l : List Int) (x : Int) : impl_StatusOf.f l x = some (statusOf l x) := by
  unfold impl_StatusOf.f impl_isXid.f
  simp only [within_eq, Option.bind_some, decide_eq_true_eq]
  by_cases h1 : 1 ≤ x ∧ x ≤ 400
  · rw [if_pos h1]
    by_cases h2 : x ≥ (l.length : Int)
    · rw [if_pos h2, statusOf_neg (by omega)]
    · rw [if_neg h2, if_pos (by omega), if_pos (by omega)]
      by_cases h3 : 0 ≤ rd l x ∧ rd l x ≤ 2
      · rw [if_pos h3]
        by_cases h4 : rd l x = 0
        · rw [statusOf_neg (by omega), h4]
        · rw [statusOf_pos (by omega)]
      · rw [if_neg h3, statusOf_neg (by omega)]
  · rw [if_neg h1, statusOf_neg (by omega)]

theorem specStatusOf (l : List Int) (x : Int) : spec_StatusOf.f l x = some (statusOf l x) := by
  unfold spec_StatusOf.f
  simp only [l5in_eq, Option.bind_some, decide_eq_true_eq]
  by_cases h1 : 1 ≤ x ∧ x ≤ 400
  · rw [if_pos h1]
    by_cases h2 : x ≥ (l.length : Int)
    · rw [if_pos h2, statusOf_neg (by omega)]
    · rw [if_neg h2, if_pos (by omega), if_pos (by omega)]
      by_cases h3 : 1 ≤ rd l x ∧ rd l x ≤ 2
      · rw [if_pos h3, statusOf_pos (by omega)]
      · rw [if_neg h3, statusOf_neg (by omega)]
  · rw [if_neg h1, statusOf_neg (by omega)]

theorem and3 (n : Int) : Go.bits .and .i64 n 3 = n % 4 := by
  have h3 : (BitVec.ofInt 64 3).toNat = 2 ^ 2 - 1 := by decide
  have key : (BitVec.ofInt 64 n &&& BitVec.ofInt 64 3).toNat = (n % ((2 ^ 64 : Nat) : Int)).toNat % 2 ^ 2 := by
    rw [BitVec.toNat_and, BitVec.toNat_ofInt, h3, Nat.and_two_pow_sub_one_eq_mod]
  show IntKind.i64.wrap ((BitVec.ofInt 64 n &&& BitVec.ofInt 64 3).toNat : Nat) = n % 4
  rw [key, IntKind.wrap_i64]
  omega
theorem and3b (n : Int) (h0 : 0 ≤ n) (h1 : n < 256) : Go.bits .and .u8 n 3 = n % 4 := by
  have := bits_mask .u8 8 (by decide) (fun n h0 h1 => by simp [IntKind.wrap, IntKind.bits, IntKind.signed]; omega) 2 (by decide) n h0 (by omega)
  simpa using this

def qd (b : List Int) (i : Nat) : Int := rd b ((i / 4 : Nat) : Int) / 2 ^ (i % 4 * 2) % 4
def Bytes (b : List Int) : Prop := ∀ x ∈ b, 0 ≤ x ∧ x ≤ 255
theorem rd_byte {b : List Int} (h : Bytes b) (j : Nat) (hj : j < b.length) : 0 ≤ rd b (j : Int) ∧ rd b (j : Int) ≤ 255 := h _ (by simp [rd, hj])
theorem qd_range (b : List Int) (i : Nat) : 0 ≤ qd b i ∧ qd b i ≤ 3 := by
  unfold qd
  omega
theorem shr_q (b : List Int) (hb : Bytes b) (i : Nat) (hi : i / 4 < b.length) (k : IntKind) (hk : k = .i64 ∨ k = .u8) (y : Int) (hy : y = ((i % 4 * 2 : Nat) : Int)) : shr k (rd b ((i / 4 : Nat) : Int)) y = rd b ((i / 4 : Nat) : Int) / 2 ^ (i % 4 * 2) := by
  subst hy
  unfold shr
  congr 2
  rcases hk with rfl | rfl <;> simp only [IntKind.bits] <;> omega
theorem div_pow_range (x : Int) (h0 : 0 ≤ x) (h1 : x ≤ 255) (e : Nat) : 0 ≤ x / 2 ^ e ∧ x / 2 ^ e ≤ 255 := by
  have hp : (0 : Int) < 2 ^ e := Int.pow_pos (by decide)
  exact ⟨Int.ediv_nonneg h0 (by omega), Int.le_trans (Int.ediv_le_self _ h0) h1⟩

def badQ (b : List Int) (n : Int) (i : Nat) : Prop := qd b i = 3 ∨ (0 < qd b i ∧ (i = 0 ∨ n ≤ (i : Int)))
instance (b : List Int) (n : Int) (i : Nat) : Decidable (badQ b n i) := by unfold badQ; infer_instance
def digsOf (b : List Int) (m : Nat) : List Int := (List.range m).map (qd b)
open Classical in
noncomputable def statusRead (b : List Int) (n : Int) : List Int × Bool :=
  if 0 ≤ n ∧ n ≤ 401 ∧ (b.length : Int) = (n + 3) / 4 ∧ ∀ i, i < 4 * b.length → ¬ badQ b n i then (digsOf b n.toNat, true) else ([], false)

def part (s : Nat → Int) (i j : Nat) : Int := (if 4 * j < i then s (4 * j) else 0) + (if 4 * j + 1 < i then 4 * s (4 * j + 1) else 0) + (if 4 * j + 2 < i then 16 * s (4 * j + 2) else 0) + (if 4 * j + 3 < i then 64 * s (4 * j + 3) else 0)
theorem or_u8 (x y : Int) (i : Nat) (hi : i ≤ 8) (hx0 : 0 ≤ x) (hx : x % 2 ^ i = 0) (hx1 : x < 256) (hy0 : 0 ≤ y) (hy : y < 2 ^ i) (hy1 : y < 256) : Go.bits .or .u8 y x = y + x := by
  have h := bits_join .u8 8 (by decide) (fun n h0 h1 => by simp [IntKind.wrap, IntKind.bits, IntKind.signed]; omega) i x y hx0 hx (by simpa using hx1) hy0 hy (by simpa using hy1)
  have hc : Go.bits .or .u8 y x = Go.bits .or .u8 x y := by
    simp only [Go.bits]
    rw [BitVec.or_comm]
  rw [hc, h]; omega
theorem part_step (s : Nat → Int) (hs : ∀ i, 0 ≤ s i ∧ s i ≤ 3) (i j : Nat) (hj : j = i / 4) : Go.bits .or .u8 (part s i j) ((shl .i64 (s i) ((i % 4 * 2 : Nat) : Int)) % 256) = part s (i + 1) j := by
  have hsi := hs i
  have e : shl .i64 (s i) ((i % 4 * 2 : Nat) : Int) = s i * 2 ^ (i % 4 * 2) := by
    unfold shl
    rw [show min ((i % 4 * 2 : Nat) : Int).toNat IntKind.i64.bits = i % 4 * 2 by simp only [IntKind.bits]; omega, IntKind.wrap_i64]
    have hc : i % 4 = 0 ∨ i % 4 = 1 ∨ i % 4 = 2 ∨ i % 4 = 3 := by omega
    rcases hc with h | h | h | h <;> rw [h] <;> simp <;> omega
  rw [e]
  subst hj
  have h0 := hs (4 * (i / 4)); have h1 := hs (4 * (i / 4) + 1); have h2 := hs (4 * (i / 4) + 2)
  have hc : i % 4 = 0 ∨ i % 4 = 1 ∨ i % 4 = 2 ∨ i % 4 = 3 := by omega
  unfold part
  rcases hc with h | h | h | h
  · rw [h]
    have hi : 4 * (i / 4) = i := by omega
    rw [hi] at h0 h1 h2 ⊢
    rw [if_neg (by omega), if_neg (by omega), if_neg (by omega), if_neg (by omega), if_pos (by omega), if_neg (by omega), if_neg (by omega), if_neg (by omega), or_u8 _ _ 0 (by decide) (by first | omega | (simp; done) | (simp; omega)) (by first | omega | (simp; done) | (simp; omega)) (by first | omega | (simp; done) | (simp; omega)) (by simp) (by simp) (by simp)]
    simp; omega
  · rw [h]
    have hi : 4 * (i / 4) + 1 = i := by omega
    rw [hi] at h1 ⊢
    rw [if_pos (by omega), if_neg (by omega), if_neg (by omega), if_neg (by omega), if_pos (by omega), if_pos (by omega), if_neg (by omega), if_neg (by omega), or_u8 _ _ 2 (by decide) (by first | omega | (simp; done) | (simp; omega)) (by first | omega | (simp; done) | (simp; omega)) (by first | omega | (simp; done) | (simp; omega)) (by omega) (by first | omega | (simp; done) | (simp; omega)) (by omega)]
    simp; omega
  · rw [h]
    have hi : 4 * (i / 4) + 2 = i := by omega
    rw [hi] at h2 ⊢
    rw [if_pos (by omega), if_pos (by omega), if_neg (by omega), if_neg (by omega), if_pos (by omega), if_pos (by omega), if_pos (by omega), if_neg (by omega), or_u8 _ _ 4 (by decide) (by first | omega | (simp; done) | (simp; omega)) (by first | omega | (simp; done) | (simp; omega)) (by first | omega | (simp; done) | (simp; omega)) (by omega) (by first | omega | (simp; done) | (simp; omega)) (by omega)]
    simp; omega
  · rw [h]
    have hi : 4 * (i / 4) + 3 = i := by omega
    rw [hi]
    rw [if_pos (by omega), if_pos (by omega), if_pos (by omega), if_neg (by omega), if_pos (by omega), if_pos (by omega), if_pos (by omega), if_pos (by omega), or_u8 _ _ 6 (by decide) (by first | omega | (simp; done) | (simp; omega)) (by first | omega | (simp; done) | (simp; omega)) (by first | omega | (simp; done) | (simp; omega)) (by omega) (by first | omega | (simp; done) | (simp; omega)) (by omega)]
    simp; omega
theorem part_other (s : Nat → Int) (i j : Nat) (hj : j ≠ i / 4) : part s (i + 1) j = part s i j := by
  unfold part
  have e0 : (4 * j < i + 1) ↔ (4 * j < i) := by omega
  have e1 : (4 * j + 1 < i + 1) ↔ (4 * j + 1 < i) := by omega
  have e2 : (4 * j + 2 < i + 1) ↔ (4 * j + 2 < i) := by omega
  have e3 : (4 * j + 3 < i + 1) ↔ (4 * j + 3 < i) := by omega
  simp only [e0, e1, e2, e3]
theorem statusOf_range (l : List Int) (x : Int) : 0 ≤ statusOf l x ∧ statusOf l x ≤ 2 := by
  by_cases h : 1 ≤ x ∧ x ≤ 400 ∧ x < (l.length : Int) ∧ 1 ≤ rd l x ∧ rd l x ≤ 2
  · rw [statusOf_pos h]; omega
  · rw [statusOf_neg h]; omega
def sOf (l : List Int) (i : Nat) : Int := statusOf l (i : Int)
theorem sOf_range (l : List Int) (i : Nat) : 0 ≤ sOf l i ∧ sOf l i ≤ 3 := by
  have := statusOf_range l (i : Int)
  unfold sOf; omega
def bytesRow (l : List Int) (i : Nat) : List Int := (List.range ((l.length + 3) / 4)).map (part (sOf l) i)
theorem implBytes_l (l : List Int) (hl : l.length ≤ 401) : ∀ (d i : Nat), l.length - i = d → i ≤ l.length → Ev (fun k => impl_StatusBytes.l0 k l (bytesRow l i) (l.length : Int) (i : Int)) (bytesRow l l.length) := by
  intro d
  induction d with
  | zero =>
    intro i hd hi
    obtain rfl : i = l.length := by omega
    refine Ev.step (f := fun _ => some (bytesRow l l.length)) (fun k => ?_) (Ev.now _)
    simp only [impl_StatusBytes.l0]
    rw [if_neg (by omega)]
  | succ d ih =>
    intro i hd hi
    have t1 : wrap64 (Int.tdiv (i : Int) 4) = ((i / 4 : Nat) : Int) := by
      rw [Int.tdiv_eq_ediv_of_nonneg (by omega), wrap_id (by omega) (by omega)]; omega
    have t2 : wrap64 ((Int.tmod (i : Int) 4) * 2) = ((i % 4 * 2 : Nat) : Int) := by
      rw [Int.tmod_eq_emod_of_nonneg (by omega), wrap_id (by omega) (by omega)]; omega
    have hlen : (bytesRow l i).length = (l.length + 3) / 4 := by simp [bytesRow]
    have hr : rd (bytesRow l i) ((i / 4 : Nat) : Int) = part (sOf l) i (i / 4) := by
      simp only [rd, Int.toNat_natCast, List.getD_eq_getElem?_getD, bytesRow]
      rw [List.getElem?_map, List.getElem?_range (by omega)]
      rfl
    have hset : (bytesRow l i).set (i / 4) (part (sOf l) (i + 1) (i / 4)) = bytesRow l (i + 1) := by
      apply List.ext_getElem?
      intro j
      rw [List.getElem?_set, hlen]
      by_cases hj : i / 4 = j
      · subst hj
        rw [if_pos rfl, if_pos (by omega)]
        simp only [bytesRow]
        rw [List.getElem?_map, List.getElem?_range (by omega)]
        rfl
      · rw [if_neg hj]
        simp only [bytesRow, List.getElem?_map]
        by_cases hj2 : j < (l.length + 3) / 4
        · rw [List.getElem?_range hj2]
          simp [part_other _ _ _ (Ne.symm hj)]
        · rw [List.getElem?_eq_none (by simp; omega)]
          rfl
    refine Ev.step (f := fun k => impl_StatusBytes.l0 k l (bytesRow l (i + 1)) (l.length : Int) ((i + 1 : Nat) : Int)) (fun k => ?_) (ih (i + 1) (by omega) (by omega))
    simp only [impl_StatusBytes.l0, t1, t2, hlen, hr]
    rw [if_pos (by omega), if_pos (by omega), if_pos (by omega), implStatusOf]
    simp only [Option.bind_some]
    rw [if_pos (by omega), wrap_succ (by omega) (by omega), Int.toNat_natCast]
    have := part_step (sOf l) (sOf_range l) i (i / 4) rfl
    unfold sOf at this hset
    unfold sOf
    rw [this, hset]
    rfl
theorem implBytes (l : List Int) (hl : l.length ≤ 401) : Ev (fun k => impl_StatusBytes.f k l) (bytesRow l l.length) := by
  have e1 : wrap64 (Int.tdiv (wrap64 ((l.length : Int) + 3)) 4) = (((l.length + 3) / 4 : Nat) : Int) := by
    rw [wrap_id (i := (l.length : Int) + 3) (by omega) (by omega), Int.tdiv_eq_ediv_of_nonneg (by omega), wrap_id (by omega) (by omega)]; omega
  unfold impl_StatusBytes.f
  rw [e1]
  refine ev_if_neg (by omega) (ev_if_pos (by omega) (ev_if_pos (by rw [Int.toNat_natCast]; omega) ?_))
  have h := implBytes_l l hl l.length 0 (by omega) (by omega)
  have e2 : bytesRow l 0 = List.replicate ((l.length + 3) / 4) 0 := by
    apply List.ext_getElem?
    intro j
    by_cases hj : j < (l.length + 3) / 4
    · simp only [bytesRow]
      rw [List.getElem?_map, List.getElem?_range hj, List.getElem?_replicate, if_pos hj]
      simp [part]
    · rw [List.getElem?_eq_none (by simp [bytesRow]; omega), List.getElem?_eq_none (by simp; omega)]
  rw [Int.toNat_natCast, ← e2]
  exact h

def bytesU (xs : List Int) : List UInt8 := xs.map fun n => UInt8.ofNat n.toNat
theorem statusRead_pos {b : List Int} {n : Int} (h : 0 ≤ n ∧ n ≤ 401 ∧ (b.length : Int) = (n + 3) / 4 ∧ ∀ i, i < 4 * b.length → ¬ badQ b n i) : statusRead b n = (digsOf b n.toNat, true) := by
  unfold statusRead
  exact if_pos h
theorem statusRead_neg {b : List Int} {n : Int} (h : ¬ (0 ≤ n ∧ n ≤ 401 ∧ (b.length : Int) = (n + 3) / 4 ∧ ∀ i, i < 4 * b.length → ¬ badQ b n i)) : statusRead b n = ([], false) := by
  unfold statusRead
  exact if_neg h
theorem bytes_back (xs : List Int) (h : Bytes xs) : (bytesU xs).map (fun u : UInt8 => (u.toNat : Int)) = xs := by
  unfold bytesU
  rw [List.map_map]
  conv => rhs; rw [← List.map_id xs]
  apply List.map_congr_left
  intro x hx
  have := h x hx
  simp only [Function.comp, id]
  rw [UInt8.toNat_ofNat']
  omega
theorem bytesEq (xs ys : List Int) (hx : Bytes xs) (hy : Bytes ys) : bytes_Equal.f xs ys = some (decide (xs = ys)) := by
  unfold bytes_Equal.f
  rw [ByteArray.toList_eq, ByteArray.toList_eq]
  show some (bytesU xs == bytesU ys) = _
  congr 1
  by_cases h : xs = ys
  · rw [decide_eq_true h, h]; simp
  · rw [decide_eq_false h]
    have : bytesU xs ≠ bytesU ys := fun e => h (by rw [← bytes_back xs hx, ← bytes_back ys hy, e])
    simpa using this
def aOf (b : List Int) (n i : Nat) : Int := if i < n then sOf (digsOf b n) i else 0
theorem digs_rd (b : List Int) (n i : Nat) (h : i < n) : rd (digsOf b n) (i : Int) = qd b i := by
  simp only [rd, Int.toNat_natCast, List.getD_eq_getElem?_getD, digsOf]
  rw [List.getElem?_map, List.getElem?_range h]
  rfl
theorem aOf_range (b : List Int) (n i : Nat) : 0 ≤ aOf b n i ∧ aOf b n i ≤ 3 := by
  unfold aOf
  split
  · exact sOf_range _ _
  · omega
theorem aOf_bad (b : List Int) (n i : Nat) (hn : n ≤ 401) : aOf b n i = qd b i ↔ ¬ badQ b (n : Int) i := by
  have hq := qd_range b i
  unfold aOf badQ
  by_cases h : i < n
  · rw [if_pos h]
    unfold sOf
    have hl : (digsOf b n).length = n := by simp [digsOf]
    by_cases hc : 1 ≤ (i : Int) ∧ (i : Int) ≤ 400 ∧ (i : Int) < ((digsOf b n).length : Int) ∧ 1 ≤ rd (digsOf b n) (i : Int) ∧ rd (digsOf b n) (i : Int) ≤ 2
    · rw [statusOf_pos hc, digs_rd b n i h]
      rw [digs_rd b n i h] at hc
      constructor
      · intro _ hh; omega
      · intro _; rfl
    · rw [statusOf_neg hc]
      rw [digs_rd b n i h, hl] at hc
      constructor
      · intro _ hh; omega
      · intro hh; omega
  · rw [if_neg h]
    constructor
    · intro _ hh; omega
    · intro hh; omega
theorem part_a (b : List Int) (n j : Nat) : part (sOf (digsOf b n)) n j = aOf b n (4 * j) + 4 * aOf b n (4 * j + 1) + 16 * aOf b n (4 * j + 2) + 64 * aOf b n (4 * j + 3) := by
  unfold part aOf
  congr 1
  · congr 1
    · congr 1
      split <;> simp
    · split <;> simp
  · split <;> simp
theorem byte_q (b : List Int) (hb : Bytes b) (j : Nat) (hj : j < b.length) : rd b (j : Int) = qd b (4 * j) + 4 * qd b (4 * j + 1) + 16 * qd b (4 * j + 2) + 64 * qd b (4 * j + 3) := by
  have h := rd_byte hb j hj
  unfold qd
  rw [show 4 * j / 4 = j by omega, show (4 * j + 1) / 4 = j by omega, show (4 * j + 2) / 4 = j by omega, show (4 * j + 3) / 4 = j by omega, show 4 * j % 4 = 0 by omega, show (4 * j + 1) % 4 = 1 by omega, show (4 * j + 2) % 4 = 2 by omega, show (4 * j + 3) % 4 = 3 by omega]
  simp only [Nat.zero_mul, Nat.one_mul, Int.reducePow, Nat.reduceMul]
  omega
theorem row_eq (b : List Int) (hb : Bytes b) (n : Nat) (hn : n ≤ 401) (hl : b.length = (n + 3) / 4) : bytesRow (digsOf b n) n = b ↔ ∀ i, i < 4 * b.length → ¬ badQ b (n : Int) i := by
  have hdl : (digsOf b n).length = n := by simp [digsOf]
  have hat : ∀ j, j < b.length → (bytesRow (digsOf b n) n)[j]? = some (part (sOf (digsOf b n)) n j) := by
    intro j hj
    simp only [bytesRow, hdl]
    rw [List.getElem?_map, List.getElem?_range (by omega)]
    rfl
  have hbt : ∀ j, j < b.length → b[j]? = some (rd b (j : Int)) := by
    intro j hj
    simp [rd, hj]
  constructor
  · intro h i hi
    rw [← aOf_bad b n i hn]
    have hj : i / 4 < b.length := by omega
    have e := hat (i / 4) hj
    rw [h, hbt _ hj] at e
    have e2 := Option.some.inj e
    rw [part_a, byte_q b hb _ hj] at e2
    have q0 := qd_range b (4 * (i / 4)); have q1 := qd_range b (4 * (i / 4) + 1); have q2 := qd_range b (4 * (i / 4) + 2); have q3 := qd_range b (4 * (i / 4) + 3)
    have a0 := aOf_range b n (4 * (i / 4)); have a1 := aOf_range b n (4 * (i / 4) + 1); have a2 := aOf_range b n (4 * (i / 4) + 2); have a3 := aOf_range b n (4 * (i / 4) + 3)
    have hc : i = 4 * (i / 4) ∨ i = 4 * (i / 4) + 1 ∨ i = 4 * (i / 4) + 2 ∨ i = 4 * (i / 4) + 3 := by omega
    generalize i / 4 = j at *
    clear hat hbt e h hb hl hdl
    rcases hc with rfl | rfl | rfl | rfl <;> omega
  · intro h
    apply List.ext_getElem?
    intro j
    by_cases hj : j < b.length
    · rw [hat j hj, hbt j hj, part_a, byte_q b hb j hj, (aOf_bad b n _ hn).2 (h (4 * j) (by omega)), (aOf_bad b n _ hn).2 (h (4 * j + 1) (by omega)), (aOf_bad b n _ hn).2 (h (4 * j + 2) (by omega)), (aOf_bad b n _ hn).2 (h (4 * j + 3) (by omega))]
    · rw [List.getElem?_eq_none (by simp only [bytesRow, List.length_map, List.length_range, hdl]; omega), List.getElem?_eq_none (by omega)]
theorem row_bytes (l : List Int) (i : Nat) : Bytes (bytesRow l i) := by
  intro x hx
  obtain ⟨j, _, rfl⟩ := List.mem_map.1 hx
  have h0 := sOf_range l (4 * j); have h1 := sOf_range l (4 * j + 1); have h2 := sOf_range l (4 * j + 2); have h3 := sOf_range l (4 * j + 3)
  unfold part
  constructor <;> (repeat' split) <;> omega

theorem implRead (b : List Int) (hb : Bytes b) (hl : b.length ≤ 1048576) (n : Int) (hn : -9223372036854775808 ≤ n ∧ n ≤ 9223372036854775807) : Ev (fun k => impl_StatusRead.f k b n) (statusRead b n) := by
  have hJ : ∀ k, impl_StatusRead.j0 (k + 1) b n true = some ([], false) := fun k => by simp only [impl_StatusRead.j0, if_true]
  unfold impl_StatusRead.f
  rw [within_eq]
  refine Ev.bind (ev_eq rfl) ?_
  by_cases h1 : 0 ≤ n ∧ n ≤ 401
  · refine ev_if_pos (decide_eq_true h1) ?_
    have e1 : wrap64 (Int.tdiv (wrap64 (n + 3)) 4) = (n + 3) / 4 := by
      rw [wrap_id (i := n + 3) (by omega) (by omega), Int.tdiv_eq_ediv_of_nonneg (by omega), wrap_id (by omega) (by omega)]
    rw [e1]
    by_cases h2 : (b.length : Int) = (n + 3) / 4
    · have h2b : ((b.length : Int) != (n + 3) / 4) = false := by simpa [bne_eq_false_iff_eq] using h2
      rw [h2b]
      obtain ⟨n, rfl⟩ := Int.eq_ofNat_of_zero_le h1.1
      have hn4 : n ≤ 401 := by omega
      have hl2 : b.length = (n + 3) / 4 := by omega
      have hdl : (digsOf b n).length = n := by simp [digsOf]
      have hrow := row_eq b hb n hn4 hl2
      refine Ev.step (f := fun k => impl_StatusRead.l0 k b (List.replicate n 0) (n : Int) 0) (fun k => ?_) ?_
      · simp only [impl_StatusRead.j0, Bool.false_eq_true, if_false]
        rw [if_pos h1.1, if_pos (by rw [Int.toNat_natCast]; omega), Int.toNat_natCast]
        simp only [Option.bind_some, List.length_replicate]
      refine turn_ev (List.replicate n 0) (digsOf b n) (by simp [digsOf]) (fun k out i => impl_StatusRead.l0 k b out (n : Int) i) _ ?_ (fun i hi out ho h => ?_)
      · rw [hdl]
        refine Ev.step (f := fun k => (impl_StatusBytes.f k (digsOf b n)).bind fun t => (bytes_Equal.f t b).bind fun t => if t = true then some (digsOf b n, true) else some ([], false)) (fun k => ?_) ?_
        · simp only [impl_StatusRead.l0]
          rw [if_neg (by omega)]
        · refine Ev.bind (implBytes (digsOf b n) (by omega)) ?_
          rw [hdl]
          refine Ev.bind (ev_eq (bytesEq _ _ (row_bytes _ _) hb)) ?_
          by_cases h3 : bytesRow (digsOf b n) n = b
          · rw [statusRead_pos ⟨h1.1, h1.2, h2, hrow.1 h3⟩, Int.toNat_natCast]
            exact ev_if_pos (decide_eq_true h3) (ev_eq rfl)
          · rw [statusRead_neg (fun h => h3 (hrow.2 h.2.2.2))]
            exact ev_if_neg (by rw [decide_eq_false h3]; decide) (ev_eq rfl)
      · rw [hdl] at hi ho
        have t1 : wrap64 (Int.tdiv (i : Int) 4) = ((i / 4 : Nat) : Int) := by
          rw [Int.tdiv_eq_ediv_of_nonneg (by omega), wrap_id (by omega) (by omega)]; omega
        have t2 : wrap64 ((Int.tmod (i : Int) 4) * 2) = ((i % 4 * 2 : Nat) : Int) := by
          rw [Int.tmod_eq_emod_of_nonneg (by omega), wrap_id (by omega) (by omega)]; omega
        have hj : i / 4 < b.length := by omega
        have hr := rd_byte hb (i / 4) hj
        have hdp := div_pow_range _ hr.1 hr.2 (i % 4 * 2)
        have t5 : wrap64 (Go.bits .and .u8 (shr .u8 (rd b ((i / 4 : Nat) : Int)) ((i % 4 * 2 : Nat) : Int)) 3) = (digsOf b n)[i]'(by rw [hdl]; exact hi) := by
          rw [shr_q b hb i hj .u8 (Or.inr rfl) _ rfl, and3b _ hdp.1 (by omega), wrap_id (by omega) (by omega)]
          simp [digsOf, qd]
        refine Ev.step (fun k => ?_) h
        simp only [impl_StatusRead.l0, t1, t2, t5]
        rw [if_pos (by omega), if_pos (by omega), if_pos (by omega), if_pos (by omega), if_pos (by omega), if_pos (by omega), wrap_succ (by omega) (by omega), Int.toNat_natCast]
        rfl
    · have h2b : ((b.length : Int) != (n + 3) / 4) = true := by simpa [bne_iff_ne] using h2
      rw [h2b, statusRead_neg (fun h => h2 h.2.2.1)]
      exact Ev.step (f := fun _ => some ([], false)) hJ (Ev.now _)
  · rw [statusRead_neg (fun h => h1 ⟨h.1, h.2.1⟩)]
    refine ev_if_neg (by rw [decide_eq_false h1]; decide) ?_
    exact Ev.step (f := fun _ => some ([], false)) hJ (Ev.now _)

theorem once_tot (l : List Int) (i h n : Int) (hi : 0 ≤ i) (hl : l.length ≤ maxLen) (hn : 0 < n) : ∃ b i' h', spec_l1Once.f l i h n = some (b, i', h') ∧ 0 ≤ i' := by
  obtain ⟨b, i1, h1, e1, _, _, iz1⟩ := below_tot l i h n hi hl hn
  unfold spec_l1Once.f
  rw [e1]
  exact ⟨_, _, _, rfl, iz1⟩
theorem pick_tot (l : List Int) (i h : Int) (hi : 0 ≤ i) (hl : l.length ≤ maxLen) : ∃ b i' h', spec_l1PickInt.f l i h [(-1), 3, 4] = some (b, i', h') ∧ 0 ≤ i' := by
  obtain ⟨b, i1, h1, e1, p1, q1, iz1⟩ := below_tot l i h 3 hi hl (by omega)
  unfold spec_l1PickInt.f
  rw [show (([(-1), 3, 4] : List Int).length : Int) = 3 from rfl, e1]
  simp only [Option.bind_some]
  rw [if_pos p1, if_pos q1]
  exact ⟨_, _, _, rfl, iz1⟩
theorem list_loop (l : List Int) (hl : l.length ≤ maxLen) : ∀ (d : Nat) (out : List Int) (i h : Int), out.length + d ≤ 14 → 0 ≤ i → ∃ r i' h', Ev (fun k => spec_l8list.l0 k out (d : Int) l i h) (r, i', h') ∧ r.length ≤ 14 ∧ 0 ≤ i' := by
  intro d
  induction d with
  | zero =>
    intro out i h hd hi
    exact ⟨out, i, h, Ev.step (fun k => rfl) (ev_if_neg (by omega) (ev_eq rfl)), by omega, hi⟩
  | succ d ih =>
    intro out i h hd hi
    obtain ⟨b1, i1, h1, e1, p1, q1, iz1⟩ := below_tot l i h 3 hi hl (by omega)
    obtain ⟨b2, i2, h2, e2, iz2⟩ := once_tot l i1 h1 40 iz1 hl (by omega)
    have e : wrap64 (((d + 1 : Nat) : Int) - 1) = (d : Int) := by unfold wrap64; omega
    cases b2 with
    | true =>
      obtain ⟨b3, i3, h3, e3, iz3⟩ := pick_tot l i2 h2 iz2 hl
      obtain ⟨r, i4, h4, E, hr, iz4⟩ := ih (out ++ [b3]) i3 h3 (by simp; omega) iz3
      refine ⟨r, i4, h4, Ev.step (fun k => rfl) (ev_if_pos (by omega) ?_), hr, iz4⟩
      refine Ev.bind (ev_eq e1) (Ev.bind (ev_eq e2) (ev_if_pos rfl (Ev.bind (ev_eq e3) (ev_if_pos (by omega) ?_))))
      rw [e]
      exact E
    | false =>
      obtain ⟨r, i4, h4, E, hr, iz4⟩ := ih (out ++ [b1]) i2 h2 (by simp; omega) iz2
      refine ⟨r, i4, h4, Ev.step (fun k => rfl) (ev_if_pos (by omega) ?_), hr, iz4⟩
      refine Ev.bind (ev_eq e1) (Ev.bind (ev_eq e2) (ev_if_neg (show ¬ ((false : Bool) = true) by decide) (ev_if_pos (by omega) ?_)))
      rw [e]
      exact E
theorem list_tot (l : List Int) (hl : l.length ≤ maxLen) (i h : Int) (hi : 0 ≤ i) : ∃ r i' h', Ev (fun k => spec_l8list.f k l i h 14) (r, i', h') ∧ r.length ≤ 14 ∧ 0 ≤ i' := by
  obtain ⟨b1, i1, h1, e1, p1, q1, iz1⟩ := below_tot l i h 15 hi hl (by omega)
  obtain ⟨d, rfl⟩ := Int.eq_ofNat_of_zero_le p1
  obtain ⟨r, i2, h2, E, hr, iz2⟩ := list_loop l hl d [] i1 h1 (by simp; omega) iz1
  rw [← show wrap64 (14 + 1) = 15 by unfold wrap64; omega] at e1
  exact ⟨r, i2, h2, Ev.bind (ev_eq e1) E, hr, iz2⟩
theorem long_loop (l : List Int) (x : Int) (hx : x ≤ 402) (i h : Int) : ∀ (d : Nat) (out : List Int), (x - (out.length : Int)).toNat = d → out.length ≤ 402 → ∃ r, Ev (fun k => spec_l8long.l0 k out x l i h) (r, i, h) ∧ r.length ≤ 402 := by
  intro d
  induction d with
  | zero =>
    intro out hd ho
    exact ⟨out, Ev.step (fun k => rfl) (ev_if_neg (by omega) (ev_eq rfl)), ho⟩
  | succ d ih =>
    intro out hd ho
    obtain ⟨r, E, hr⟩ := ih (out ++ [(out.length : Int) % 3]) (by simp; omega) (by simp; omega)
    exact ⟨r, Ev.step (fun k => rfl) (ev_if_pos (by omega) (ev_if_pos (by omega) E)), hr⟩
theorem long_tot (l : List Int) (hl : l.length ≤ maxLen) (i h : Int) (hi : 0 ≤ i) : ∃ r i' h', Ev (fun k => spec_l8long.f k l i h) (r, i', h') ∧ r.length ≤ 402 ∧ 0 ≤ i' := by
  obtain ⟨r, i1, h1, E, hr, iz1⟩ := list_tot l hl i h hi
  obtain ⟨b2, i2, h2, e2, iz2⟩ := once_tot l i1 h1 15 iz1 hl (by omega)
  cases b2 with
  | true =>
    obtain ⟨b3, i3, h3, e3, p3, q3, iz3⟩ := below_tot l i2 h2 3 iz2 hl (by omega)
    have e : wrap64 (400 + b3) = 400 + b3 := wrap_id (by omega) (by omega)
    obtain ⟨r2, E2, hr2⟩ := long_loop l (400 + b3) (by omega) i3 h3 _ r rfl (by omega)
    refine ⟨r2, i3, h3, Ev.bind E (Ev.bind (ev_eq e2) (ev_if_pos rfl (Ev.bind (ev_eq e3) ?_))), hr2, iz3⟩
    rw [e]
    exact E2
  | false =>
    exact ⟨r, i2, h2, Ev.bind E (Ev.bind (ev_eq e2) (ev_if_neg (show ¬ ((false : Bool) = true) by decide) (ev_eq rfl))), by omega, iz2⟩
theorem drawSet_tot (l : List Int) (hl : l.length ≤ maxLen) : ∃ r x s, Ev (fun k => spec_DrawStatusSet.f k l) (r, x, s) ∧ r.length ≤ 402 ∧ -1 ≤ x ∧ x ≤ 410 ∧ -1 ≤ s ∧ s ≤ 3 := by
  obtain ⟨h, E0⟩ := new_tot l hl
  obtain ⟨r, i1, h1, E1, hr, iz1⟩ := long_tot l hl 0 h (by omega)
  have e4 : wrap64 ((r.length : Int) + 4) = (r.length : Int) + 4 := wrap_id (by omega) (by omega)
  obtain ⟨b2, i2, h2, e2, p2, q2, iz2⟩ := below_tot l i1 h1 ((r.length : Int) + 4) iz1 hl (by omega)
  obtain ⟨b3, i3, h3, e3, iz3⟩ := once_tot l i2 h2 9 iz2 hl (by omega)
  rw [← e4] at e2
  cases b3 with
  | true =>
    obtain ⟨b5, i5, h5, e5, p5, q5, iz5⟩ := below_tot l i3 h3 2 iz3 hl (by omega)
    obtain ⟨b6, i6, h6, e6, p6, q6, iz6⟩ := below_tot l i5 h5 5 iz5 hl (by omega)
    refine ⟨r, wrap64 (400 + b5), wrap64 (b6 - 1), Ev.bind E0 (Ev.bind E1 (Ev.bind (ev_eq e2) (Ev.bind (ev_eq e3) (ev_if_pos rfl (Ev.bind (ev_eq e5) (Ev.bind (ev_eq e6) (ev_eq rfl))))))), hr, ?_⟩
    unfold wrap64; omega
  | false =>
    obtain ⟨b6, i6, h6, e6, p6, q6, iz6⟩ := below_tot l i3 h3 5 iz3 hl (by omega)
    refine ⟨r, wrap64 (b2 - 1), wrap64 (b6 - 1), Ev.bind E0 (Ev.bind E1 (Ev.bind (ev_eq e2) (Ev.bind (ev_eq e3) (ev_if_neg (show ¬ ((false : Bool) = true) by decide) (Ev.bind (ev_eq e6) (ev_eq rfl)))))), hr, ?_⟩
    unfold wrap64; omega
def setS (o : List Int) (x : Nat) (s : Int) : List Int := (o ++ List.replicate (x + 1 - o.length) 0).set x s
theorem set_loop (F : Nat → Int → Int → List Int → Option (List Int × Bool)) (hF : ∀ k x s o, F (k + 1) x s o = if (o.length : Int) ≤ x then (if o.length < 17592186044416 then F k x s (o ++ [0]) else none) else (if 0 ≤ x then (if x < (o.length : Int) then some (o.set (x : Int).toNat s, true) else none) else none)) (x : Nat) (hx : x ≤ 400) (s : Int) : ∀ d o, x + 1 - o.length = d → Ev (fun k => F k (x : Int) s o) (setS o x s, true) := by
  intro d
  induction d with
  | zero =>
    intro o hd
    refine Ev.step (fun k => hF k _ _ _) (ev_if_neg (by omega) (ev_if_pos (by omega) (ev_if_pos (by omega) (ev_eq ?_))))
    unfold setS
    rw [hd]
    simp
  | succ d ih =>
    intro o hd
    have h := ih (o ++ [0]) (by simp; omega)
    have e : setS (o ++ [0]) x s = setS o x s := by
      unfold setS
      rw [show x + 1 - o.length = (x + 1 - (o ++ [0]).length) + 1 by simp; omega, List.replicate_succ, List.append_assoc]
      rfl
    rw [e] at h
    exact Ev.step (fun k => hF k _ _ _) (ev_if_pos (by omega) (ev_if_pos (by omega) h))
def setOkP (l : List Int) (x s : Int) : Prop := l.length ≤ 401 ∧ (1 ≤ x ∧ x ≤ 400) ∧ (0 ≤ s ∧ s ≤ 2)
theorem specSet_ev (l : List Int) (x s : Int) : (setOkP l x s → Ev (fun k => spec_StatusSet.f k l x s) (setS l x.toNat s, true)) ∧ (¬ setOkP l x s → Ev (fun k => spec_StatusSet.f k l x s) ([], false)) := by
  have J : Ev (fun k => spec_StatusSet.j0 k l x s true) ([], false) := Ev.step (f := fun _ => some ([], false)) (fun k => by simp only [spec_StatusSet.j0, if_true]) (Ev.now _)
  unfold setOkP
  constructor
  · intro ⟨h1, h2, h3⟩
    refine ev_if_neg (by omega) (Ev.bind (ev_eq (l5in_eq _ _ _)) (ev_if_pos (decide_eq_true h2) (Ev.bind (ev_eq (l5in_eq _ _ _)) ?_)))
    rw [decide_eq_true h3]
    obtain ⟨x, rfl⟩ := Int.eq_ofNat_of_zero_le (show 0 ≤ x by omega)
    have h := set_loop spec_StatusSet.l0 (fun k x s o => by simp only [spec_StatusSet.l0]) x (by omega) s _ l rfl
    refine Ev.step (f := fun k => spec_StatusSet.l0 k (x : Int) s l) (fun k => ?_) (by rw [Int.toNat_natCast]; exact h)
    simp only [spec_StatusSet.j0, Bool.not_true, Bool.false_eq_true, if_false, Option.bind_some, List.nil_append, List.length_nil]
    rw [if_pos (by omega)]
  · intro h
    by_cases h1 : l.length ≤ 401
    · refine ev_if_neg (by omega) (Ev.bind (ev_eq (l5in_eq _ _ _)) ?_)
      by_cases h2 : 1 ≤ x ∧ x ≤ 400
      · refine ev_if_pos (decide_eq_true h2) (Ev.bind (ev_eq (l5in_eq _ _ _)) ?_)
        rw [decide_eq_false (fun h3 => h ⟨h1, h2, h3⟩)]
        exact J
      · exact ev_if_neg (by rw [decide_eq_false h2]; decide) J
    · exact ev_if_pos (by omega) J
theorem implSet_ev (l : List Int) (x s : Int) : (setOkP l x s → Ev (fun k => impl_StatusSet.f k l x s) (setS l x.toNat s, true)) ∧ (¬ setOkP l x s → Ev (fun k => impl_StatusSet.f k l x s) ([], false)) := by
  have J : Ev (fun k => impl_StatusSet.j0 k l x s true) ([], false) := Ev.step (f := fun _ => some ([], false)) (fun k => by simp only [impl_StatusSet.j0, if_true]) (Ev.now _)
  have hX : impl_isXid.f x = some (decide (1 ≤ x ∧ x ≤ 400)) := by
    unfold impl_isXid.f
    rw [within_eq]
    rfl
  unfold setOkP
  constructor
  · intro ⟨h1, h2, h3⟩
    refine ev_if_neg (by omega) (Ev.bind (ev_eq hX) (ev_if_pos (decide_eq_true h2) (Ev.bind (ev_eq (within_eq _ _ _)) ?_)))
    rw [decide_eq_true h3]
    obtain ⟨x, rfl⟩ := Int.eq_ofNat_of_zero_le (show 0 ≤ x by omega)
    have h := set_loop impl_StatusSet.l0 (fun k x s o => by simp only [impl_StatusSet.l0]) x (by omega) s _ l rfl
    refine Ev.step (f := fun k => impl_StatusSet.l0 k (x : Int) s l) (fun k => ?_) (by rw [Int.toNat_natCast]; exact h)
    simp only [impl_StatusSet.j0, Bool.not_true, Bool.false_eq_true, if_false, slices_Clone_int_int.f]
    rw [if_pos (by omega)]
    rfl
  · intro h
    by_cases h1 : l.length ≤ 401
    · refine ev_if_neg (by omega) (Ev.bind (ev_eq hX) ?_)
      by_cases h2 : 1 ≤ x ∧ x ≤ 400
      · refine ev_if_pos (decide_eq_true h2) (Ev.bind (ev_eq (within_eq _ _ _)) ?_)
        rw [decide_eq_false (fun h3 => h ⟨h1, h2, h3⟩)]
        exact J
      · exact ev_if_neg (by rw [decide_eq_false h2]; decide) J
    · exact ev_if_pos (by omega) J
theorem setS_len (o : List Int) (x : Nat) (s : Int) : (setS o x s).length = max o.length (x + 1) := by
  simp [setS]; omega
theorem setS_at (o : List Int) (x : Nat) (s : Int) : rd (setS o x s) (x : Int) = s := by
  simp only [rd, Int.toNat_natCast, List.getD_eq_getElem?_getD, setS]
  rw [List.getElem?_set_self (by simp; omega)]
  rfl
theorem setS_ne (o : List Int) (x : Nat) (s : Int) (i : Nat) (h : i ≠ x) : rd (setS o x s) (i : Int) = rd o (i : Int) := by
  simp only [rd, Int.toNat_natCast, List.getD_eq_getElem?_getD, setS]
  rw [List.getElem?_set_ne (by omega), List.getElem?_append]
  by_cases h1 : i < o.length
  · rw [if_pos h1]
  · rw [if_neg h1, List.getElem?_replicate, List.getElem?_eq_none (by omega)]
    split <;> rfl
theorem status_of_set (l : List Int) (x : Nat) (s : Int) (hx : 1 ≤ x ∧ x ≤ 400) (hs : 0 ≤ s ∧ s ≤ 2) (i : Nat) : statusOf (setS l x s) (i : Int) = if i = x then s else statusOf l (i : Int) := by
  have hlen := setS_len l x s
  by_cases h : i = x
  · subst h
    rw [if_pos rfl]
    by_cases h0 : s = 0
    · rw [statusOf_neg (by rw [setS_at]; omega), h0]
    · rw [statusOf_pos (by rw [setS_at]; omega), setS_at]
  · rw [if_neg h]
    by_cases hc : 1 ≤ (i : Int) ∧ (i : Int) ≤ 400 ∧ (i : Int) < (l.length : Int) ∧ 1 ≤ rd l (i : Int) ∧ rd l (i : Int) ≤ 2
    · rw [statusOf_pos hc, statusOf_pos (by rw [setS_ne l x s i h]; omega), setS_ne l x s i h]
    · rw [statusOf_neg hc]
      refine statusOf_neg ?_
      rw [setS_ne l x s i h]
      intro hh
      by_cases h2 : i < l.length
      · exact hc ⟨hh.1, hh.2.1, by omega, hh.2.2.2.1, hh.2.2.2.2⟩
      · have : rd l (i : Int) = 0 := by
          simp only [rd, Int.toNat_natCast, List.getD_eq_getElem?_getD]
          rw [List.getElem?_eq_none (by omega)]
          rfl
        omega
theorem part_g (s : Nat → Int) (n j : Nat) : part s n j = (if 4 * j < n then s (4 * j) else 0) + 4 * (if 4 * j + 1 < n then s (4 * j + 1) else 0) + 16 * (if 4 * j + 2 < n then s (4 * j + 2) else 0) + 64 * (if 4 * j + 3 < n then s (4 * j + 3) else 0) := by
  unfold part
  congr 1
  · congr 1
    · congr 1
      split <;> simp
    · split <;> simp
  · split <;> simp
theorem qd_row (l : List Int) (n i : Nat) (hi : i / 4 < (l.length + 3) / 4) : qd (bytesRow l n) i = if i < n then sOf l i else 0 := by
  have hr : rd (bytesRow l n) ((i / 4 : Nat) : Int) = part (sOf l) n (i / 4) := by
    simp only [rd, Int.toNat_natCast, List.getD_eq_getElem?_getD, bytesRow]
    rw [List.getElem?_map, List.getElem?_range hi]
    rfl
  unfold qd
  rw [hr, part_g]
  have hg : ∀ k, 0 ≤ (if k < n then sOf l k else 0) ∧ (if k < n then sOf l k else 0) ≤ 3 := fun k => by
    have := sOf_range l k
    split <;> omega
  generalize hG : (fun k => if k < n then sOf l k else (0 : Int)) = g at *
  have hG2 : ∀ k, (if k < n then sOf l k else (0 : Int)) = g k := fun k => by rw [← hG]
  simp only [hG2] at hg ⊢
  have h0 := hg (4 * (i / 4)); have h1 := hg (4 * (i / 4) + 1); have h2 := hg (4 * (i / 4) + 2); have h3 := hg (4 * (i / 4) + 3)
  have hc : i % 4 = 0 ∨ i % 4 = 1 ∨ i % 4 = 2 ∨ i % 4 = 3 := by omega
  clear hG hG2 hg hr
  rcases hc with h | h | h | h
  · have e : g i = g (4 * (i / 4)) := congrArg g (by omega)
    rw [e, h]; simp; omega
  · have e : g i = g (4 * (i / 4) + 1) := congrArg g (by omega)
    rw [e, h]; simp; omega
  · have e : g i = g (4 * (i / 4) + 2) := congrArg g (by omega)
    rw [e, h]; simp; omega
  · have e : g i = g (4 * (i / 4) + 3) := congrArg g (by omega)
    rw [e, h]; simp; omega
theorem sOf_zero (l : List Int) : sOf l 0 = 0 := statusOf_neg (by omega)
theorem read_back (m : List Int) (hm : m.length ≤ 401) : statusRead (bytesRow m m.length) (m.length : Int) = (digsOf (bytesRow m m.length) m.length, true) := by
  have hl : (bytesRow m m.length).length = (m.length + 3) / 4 := by simp [bytesRow]
  rw [statusRead_pos ⟨by omega, by omega, by omega, fun i hi => ?_⟩, Int.toNat_natCast]
  unfold badQ
  rw [qd_row m m.length i (by omega)]
  have h2 := statusOf_range m (i : Int)
  by_cases h : i < m.length
  · rw [if_pos h]
    by_cases h0 : i = 0
    · subst h0
      rw [sOf_zero]; omega
    · unfold sOf; omega
  · rw [if_neg h]; omega
theorem back_status (m : List Int) (i : Nat) (hi : i < m.length) : statusOf (digsOf (bytesRow m m.length) m.length) (i : Int) = statusOf m (i : Int) := by
  have hl : (digsOf (bytesRow m m.length) m.length).length = m.length := by simp [digsOf]
  have hr : rd (digsOf (bytesRow m m.length) m.length) (i : Int) = statusOf m (i : Int) := by
    rw [digs_rd _ _ _ hi, qd_row m m.length i (by omega), if_pos hi]
    rfl
  by_cases hc : 1 ≤ (i : Int) ∧ (i : Int) ≤ 400 ∧ (i : Int) < (m.length : Int) ∧ 1 ≤ rd m (i : Int) ∧ rd m (i : Int) ≤ 2
  · rw [statusOf_pos (l := digsOf _ _) (by rw [hr, hl, statusOf_pos hc]; omega), hr]
  · have h0 := statusOf_neg hc
    rw [h0]
    refine statusOf_neg ?_
    rw [hr, h0]
    omega
def settleTo (m : List Int) (n i : Nat) : List Int := (List.range n).map fun j => if j = 0 then 0 else if j < i then (if statusOf m (j : Int) = 1 then 1 else 2) else 0
theorem settleTo_len (m : List Int) (n i : Nat) : (settleTo m n i).length = n := by simp [settleTo]
theorem settleTo_set (m : List Int) (n i : Nat) (h1 : 1 ≤ i) (hi : i < n) (v : Int) (hv : v = if statusOf m (i : Int) = 1 then 1 else 2) : (settleTo m n i).set i v = settleTo m n (i + 1) := by
  apply List.ext_getElem?
  intro j
  rw [List.getElem?_set, settleTo_len]
  by_cases hj : i = j
  · subst hj
    rw [if_pos rfl, if_pos hi]
    simp only [settleTo]
    rw [List.getElem?_map, List.getElem?_range hi]
    simp only [Option.map_some]
    rw [if_neg (by omega), if_pos (by omega), hv]
  · rw [if_neg hj]
    simp only [settleTo, List.getElem?_map]
    by_cases hj2 : j < n
    · rw [List.getElem?_range hj2]
      simp only [Option.map_some]
      have e : (j < i + 1) ↔ (j < i) := by omega
      simp only [e]
    · rw [List.getElem?_eq_none (by simp; omega)]
      rfl
theorem settle_loop (m : List Int) (n : Nat) (hn : n ≤ 401) : ∀ d i, n - i = d → 1 ≤ i → i ≤ n → Ev (fun k => impl_StatusSettle.l0 k m (n : Int) (settleTo m n i) (i : Int)) (settleTo m n n) := by
  intro d
  induction d with
  | zero =>
    intro i hd h1 hi
    obtain rfl : i = n := by omega
    exact Ev.step (fun k => rfl) (ev_if_neg (by omega) (ev_eq rfl))
  | succ d ih =>
    intro i hd h1 hi
    have h := ih (i + 1) (by omega) (by omega) (by omega)
    have hlen := settleTo_len m n i
    refine Ev.step (f := fun k => impl_StatusSettle.l0 k m (n : Int) (settleTo m n (i + 1)) ((i + 1 : Nat) : Int)) (fun k => ?_) h
    simp only [impl_StatusSettle.l0]
    rw [if_pos (by omega), if_pos (by omega), if_pos (by omega), implStatusOf, Int.toNat_natCast, wrap_succ (by omega) (by omega)]
    simp only [Option.bind_some]
    by_cases hs : statusOf m (i : Int) = 1
    · rw [if_pos hs, List.set_set, settleTo_set m n i h1 (by omega) 1 (by rw [if_pos hs])]
      rfl
    · rw [if_neg hs, settleTo_set m n i h1 (by omega) 2 (by rw [if_neg hs])]
      rfl
theorem settle_ev (m : List Int) (n : Nat) (h1 : 1 ≤ n) (hn : n ≤ 401) : Ev (fun k => impl_StatusSettle.f k m (n : Int)) (settleTo m n n) := by
  refine Ev.bind (ev_eq (within_eq _ _ _)) (ev_if_pos (decide_eq_true (by omega)) (ev_if_pos (by omega) (ev_if_pos (by rw [Int.toNat_natCast]; omega) ?_)))
  have h := settle_loop m n hn _ 1 rfl (by omega) h1
  have e : settleTo m n 1 = List.replicate n 0 := by
    apply List.ext_getElem?
    intro j
    by_cases hj : j < n
    · simp only [settleTo]
      rw [List.getElem?_map, List.getElem?_range hj, List.getElem?_replicate, if_pos hj]
      simp only [Option.map_some]
      by_cases h0 : j = 0
      · rw [if_pos h0]
      · rw [if_neg h0, if_neg (by omega)]
    · rw [List.getElem?_eq_none (by simp [settleTo]; omega), List.getElem?_eq_none (by simp; omega)]
  rw [Int.toNat_natCast, ← e]
  exact h
theorem settle_rd (m : List Int) (n i : Nat) (h1 : 1 ≤ i) (hi : i < n) : rd (settleTo m n n) (i : Int) = if statusOf m (i : Int) = 1 then 1 else 2 := by
  simp only [rd, Int.toNat_natCast, List.getD_eq_getElem?_getD, settleTo]
  rw [List.getElem?_map, List.getElem?_range hi]
  simp only [Option.map_some, Option.getD_some]
  rw [if_neg (by omega), if_pos hi]

theorem law_loop (l : List Int) (x : Nat) (s : Int) (hx : 1 ≤ x ∧ x ≤ 400) (hs : 0 ≤ s ∧ s ≤ 2) (m : List Int) (hm : m = setS l x s) (hml : m.length ≤ 401) (hxm : x < m.length) (back settled : List Int) (hback : back = digsOf (bytesRow m m.length) m.length) (hset : settled = settleTo m m.length m.length) :
    ∀ d i, m.length - i = d → i ≤ m.length → Ev (fun k => laws_FnStatuses.l0 k l (x : Int) s m back settled (i : Int)) true := by
  intro d
  induction d with
  | zero =>
    intro i hd hi
    exact Ev.step (fun k => rfl) (ev_if_neg (by omega) (ev_eq rfl))
  | succ d ih =>
    intro i hd hi
    have h := ih (i + 1) (by omega) (by omega)
    have hst : statusOf m (i : Int) = if i = x then s else statusOf l (i : Int) := by
      rw [hm]; exact status_of_set l x s hx hs i
    have hbk : statusOf back (i : Int) = statusOf m (i : Int) := by
      rw [hback]; exact back_status m i (by omega)
    have hsl : (settled.length : Int) = (m.length : Int) := by rw [hset, settleTo_len]
    refine Ev.step (f := fun k => laws_FnStatuses.l0 k l (x : Int) s m back settled ((i + 1 : Nat) : Int)) (fun k => ?_) h
    simp only [laws_FnStatuses.l0]
    rw [if_pos (by omega), specStatusOf, implStatusOf, wrap_succ (by omega) (by omega)]
    simp only [Option.bind_some]
    by_cases hix : i = x
    · rw [if_pos hix] at hst
      rw [if_pos (by omega), if_pos (by rw [hbk, hst]), if_pos (by omega), if_pos (by omega), if_pos (by omega)]
      have hr : rd settled (i : Int) = if statusOf m (i : Int) = 1 then 1 else 2 := by
        rw [hset]; exact settle_rd m m.length i (by omega) (by omega)
      rw [hr, hst]
      by_cases h1 : s = 1
      · rw [if_pos h1, if_neg (by decide), if_neg (by rw [h1]; decide)]
        rfl
      · rw [if_neg h1, if_neg (by decide), if_neg (by simp [h1])]
        rfl
    · rw [if_neg hix] at hst
      rw [if_neg (by omega), if_pos (by rw [hbk, hst])]
      by_cases h0 : i = 0
      · rw [if_neg (by omega)]
        rfl
      · rw [if_pos (by omega), if_pos (by omega), if_pos (by omega)]
        have hr : rd settled (i : Int) = if statusOf m (i : Int) = 1 then 1 else 2 := by
          rw [hset]; exact settle_rd m m.length i (by omega) (by omega)
        rw [hr, hst]
        by_cases h1 : statusOf l (i : Int) = 1
        · rw [if_pos h1, if_neg (by decide), if_neg (by rw [h1]; decide)]
          rfl
        · rw [if_neg h1, if_neg (by decide), if_neg (by simp [h1])]
          rfl
theorem FnStatuses (l0 : List Int) (w0 : l0.length ≤ 9223372036854775807 ∧ ∀ a ∈ l0, (Lit.int .u8 a).wf = true) : ∃ k, laws_FnStatuses.f k l0 = some true := by
  have hl : l0.length ≤ maxLen := w0.1
  clear w0
  suffices h : Ev (fun k => laws_FnStatuses.f k l0) true by
    obtain ⟨k, hk⟩ := h
    exact ⟨k, hk k (Nat.le_refl _)⟩
  by_cases hbig : (l0.length : Int) > 1048576
  · exact Ev.bind (ev_eq (show laws_big.f l0 = some true by unfold laws_big.f; rw [decide_eq_true hbig])) (ev_if_pos rfl (ev_eq rfl))
  refine Ev.bind (ev_eq (show laws_big.f l0 = some false by unfold laws_big.f; rw [decide_eq_false hbig])) (ev_if_neg (by decide) ?_)
  obtain ⟨l, x, s, E, hll, x1, x2, s1, s2⟩ := drawSet_tot l0 hl
  refine Ev.bind E ?_
  by_cases hok : setOkP l x s
  · have EI := (implSet_ev l x s).1 hok
    have ES := (specSet_ev l x s).1 hok
    obtain ⟨h1, h2, h3⟩ := hok
    obtain ⟨x, rfl⟩ := Int.eq_ofNat_of_zero_le (show 0 ≤ x by omega)
    rw [Int.toNat_natCast] at EI ES
    have hlen := setS_len l x s
    have hml : (setS l x s).length ≤ 401 := by omega
    have hxm : x < (setS l x s).length := by omega
    have hst := status_of_set l x s (by omega) h3 x
    rw [if_pos rfl] at hst
    refine Ev.bind EI (Ev.bind ES (ev_if_neg (by simp) (ev_if_pos rfl ?_)))
    generalize hm : setS l x s = m at *
    have hbl : (bytesRow m m.length).length = (m.length + 3) / 4 := by simp [bytesRow]
    have hdl : (digsOf (bytesRow m m.length) m.length).length = m.length := by simp [digsOf]
    have hrow := row_bytes m m.length
    have hread := implRead (bytesRow m m.length) hrow (by omega) (m.length : Int) (by omega)
    rw [read_back m hml] at hread
    have hsl := settleTo_len m m.length m.length
    have ew : wrap64 (Int.tdiv (wrap64 ((m.length : Int) + 3)) 4) = (((m.length + 3) / 4 : Nat) : Int) := by
      rw [wrap_id (i := (m.length : Int) + 3) (by omega) (by omega), Int.tdiv_eq_ediv_of_nonneg (by omega), wrap_id (by omega) (by omega)]; omega
    refine Ev.bind (implBytes m hml) (Ev.bind hread (Ev.bind (settle_ev m m.length (by omega) hml) (ev_if_pos rfl (ev_if_pos (show ((digsOf (bytesRow m m.length) m.length).length : Int) = (m.length : Int) by omega) (ev_if_pos (show ((settleTo m m.length m.length).length : Int) = (m.length : Int) by omega) ?_)))))
    refine ev_if_pos (by rw [hbl, ew]) ?_
    refine Ev.bind (ev_eq (implStatusOf m (x : Int))) ?_
    have hne : (statusOf m (x : Int) != s) = false := by rw [hst]; simp
    rw [hne]
    have hloop := law_loop l x s (by omega) h3 m hm.symm hml hxm _ _ rfl rfl m.length 0 (by omega) (by omega)
    refine Ev.step (f := fun k => laws_FnStatuses.l0 k l (x : Int) s m (digsOf (bytesRow m m.length) m.length) (settleTo m m.length m.length) 0) (fun k => ?_) hloop
    simp only [laws_FnStatuses.j0, Bool.false_eq_true, if_false]
  · have EI := (implSet_ev l x s).2 hok
    have ES := (specSet_ev l x s).2 hok
    exact Ev.bind EI (Ev.bind ES (ev_if_neg (by simp) (ev_if_neg (by simp) (ev_eq rfl))))

end Go.Proofs.Ytadbcjeelbkfcaa.Pure
