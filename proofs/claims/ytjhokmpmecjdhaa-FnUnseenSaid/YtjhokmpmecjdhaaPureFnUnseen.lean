/- FnUnseen: the pure half: what the printed functions answer, without Go and memory. No condition beside those that each theorem states. -/
import Derived.Test.YtjhokmpmecjdhaaPFnUnseenx
import Derived.Test.YtjhokmpmecjdhaaOFnUnseen
namespace Go.Proofs.Ytjhokmpmecjdhaa.Pure
open Go.RowKit Go.Proofs.Ytjhokmpmecjdhaa.PFnUnseen Go.Proofs.YtjhokmpmecjdhaaW.PrintWords Go.Proofs.YtjhokmpmecjdhaaW.PrintLast Go.Proofs.YtjhokmpmecjdhaaW.PrintMore Go.Proofs.Ytjhokmpmecjdhaa.HFl Go.Proofs.Ytjhokmpmecjdhaa.HMap Go.Proofs.Ytjhokmpmecjdhaa.HMore
set_option linter.unusedVariables false
set_option linter.unusedSimpArgs false

theorem wrap_succ {i : Int} (h0 : 0 ≤ i) (h : i ≤ 9223372036854775806) : wrap64 (i + 1) = i + 1 := by
  unfold wrap64
  omega

theorem drop_rd (l : List Int) (i : Nat) (h : i < l.length) : l.drop i = rd l (i : Int) :: l.drop (i + 1) := by
  rw [List.drop_eq_getElem_cons h]
  simp [rd, List.getD_eq_getElem?_getD, h]

/-- A loop that is walked from its end: what it tells at i follows from what it tells at i + 1. -/
theorem ev_down {ρ : Type} (F : Nat → Int → Option ρ) (R : Nat → ρ → Prop) (n : Nat) (hend : ∀ r, R n r → Ev (fun k => F k n) r) (hstep : ∀ i, i < n → (∀ r, R (i + 1) r → Ev (fun k => F k ((i + 1 : Nat) : Int)) r) → ∀ r, R i r → Ev (fun k => F k (i : Int)) r) :
    ∀ i, i ≤ n → ∀ r, R i r → Ev (fun k => F k (i : Int)) r := by
  have key : ∀ d i, n - i = d → i ≤ n → ∀ r, R i r → Ev (fun k => F k (i : Int)) r := by
    intro d
    induction d with
    | zero =>
      intro i hd hi
      obtain rfl : i = n := by omega
      exact hend
    | succ d ih =>
      intro i hd hi
      exact hstep i (by omega) (ih (i + 1) (by omega) (by omega))
  intro i hi
  exact key _ i rfl hi

theorem ev_if_pos {ρ : Type} {c : Prop} [Decidable c] {a b : Nat → Option ρ} {r : ρ} (h : c) (k : Ev a r) : Ev (fun n => if c then a n else b n) r := by simpa only [if_pos h] using k
theorem ev_if_neg {ρ : Type} {c : Prop} [Decidable c] {a b : Nat → Option ρ} {r : ρ} (h : ¬ c) (k : Ev b r) : Ev (fun n => if c then a n else b n) r := by simpa only [if_neg h] using k

theorem set_fill {α β : Type} (l : List α) (m : List β) (g : α → β) (i : Nat) (hi : i < l.length) (h : l.length = m.length) : ((l.take i).map g ++ m.drop i).set i (g l[i]) = (l.take (i + 1)).map g ++ m.drop (i + 1) := by
  apply List.ext_getElem?
  intro j
  simp only [List.getElem?_set, List.getElem?_append, List.length_map, List.length_take, List.getElem?_map, List.getElem?_take, List.getElem?_drop, List.length_append, List.length_drop]
  rw [Nat.min_eq_left (by omega), Nat.min_eq_left (by omega)]
  by_cases h1 : i = j
  · subst h1
    simp [hi]
    omega
  · by_cases h2 : j < i
    · simp [h1, h2, show j < i + 1 by omega]
    · simp only [h1, h2, if_false, show ¬ j < i + 1 by omega]
      congr 1
      omega

/-- A loop that fills a row, element by element. -/
theorem fill_ev {α β : Type} (l : List α) (g : α → β) (z : β) (F : Nat → List β → Int → Option (List β)) (hend : ∀ out, Ev (fun k => F k out (l.length : Int)) out)
    (hstep : ∀ (i : Nat) (hi : i < l.length) (out : List β) (r : List β), out.length = l.length → Ev (fun k => F k (out.set i (g l[i])) ((i + 1 : Nat) : Int)) r → Ev (fun k => F k out (i : Int)) r) :
    Ev (fun k => F k (List.replicate l.length z) 0) (l.map g) := by
  have key : ∀ d i, l.length - i = d → i ≤ l.length → Ev (fun k => F k ((l.take i).map g ++ (List.replicate l.length z).drop i) (i : Int)) (l.map g) := by
    intro d
    induction d with
    | zero =>
      intro i hd hi
      obtain rfl : i = l.length := by omega
      have h := hend (l.map g)
      simpa using h
    | succ d ih =>
      intro i hd hi
      refine hstep i (by omega) _ _ (by simp; omega) ?_
      rw [set_fill l _ g i (by omega) (by simp)]
      exact ih (i + 1) (by omega) (by omega)
  have h := key l.length 0 (by omega) (by omega)
  simpa using h
theorem ev_eq {ρ : Type} {x : Option ρ} {r : ρ} (h : x = some r) : Ev (fun _ => x) r := ⟨0, fun _ _ => h⟩
/-- A loop that turns a row, element by element, whatever stood there. -/
theorem turn_ev {β ρ : Type} (m : List β) (l : List β) (hm : m.length = l.length) (F : Nat → List β → Int → Option ρ) (r : ρ) (hend : Ev (fun k => F k l (l.length : Int)) r)
    (hstep : ∀ (i : Nat) (hi : i < l.length) (out : List β), out.length = l.length → Ev (fun k => F k (out.set i l[i]) ((i + 1 : Nat) : Int)) r → Ev (fun k => F k out (i : Int)) r) : Ev (fun k => F k m 0) r := by
  have key : ∀ d i, l.length - i = d → i ≤ l.length → Ev (fun k => F k ((l.take i).map id ++ m.drop i) (i : Int)) r := by
    intro d
    induction d with
    | zero =>
      intro i hd hi
      obtain rfl : i = l.length := by omega
      simpa [List.drop_eq_nil_of_le (show m.length ≤ l.length by omega)] using hend
    | succ d ih =>
      intro i hd hi
      refine hstep i (by omega) _ (by simp; omega) ?_
      have := set_fill l m id i (by omega) hm.symm
      simp only [id] at this ⊢
      rw [this]
      have h2 := ih (i + 1) (by omega) (by omega)
      simpa using h2
  have h := key l.length 0 (by omega) (by omega)
  simpa using h

theorem int_wf {n : Int} (h : (Lit.int .i64 n).wf = true) : -9223372036854775808 ≤ n ∧ n ≤ 9223372036854775807 := by
  simp [Lit.wf, IntKind.min, IntKind.max, IntKind.signed, IntKind.bits] at h
  omega
theorem wrap_id {i : Int} (h0 : -9223372036854775808 ≤ i) (h : i ≤ 9223372036854775807) : wrap64 i = i := by
  unfold wrap64
  omega

theorem and255 (n : Int) : Go.bits .and .i64 n 255 = n % 256 := by
  have h : (255 : Int) = ((255 : Nat) : Int) := rfl
  simp only [Go.bits]
  rw [h, BitVec.ofInt_natCast, BitVec.toNat_and, BitVec.toNat_ofNat, BitVec.toNat_ofInt]
  rw [show (255 % 2 ^ IntKind.i64.bits : Nat) = 2 ^ 8 - 1 by decide, Nat.and_two_pow_sub_one_eq_mod, IntKind.wrap_i64]
  simp only [IntKind.bits]
  omega

theorem or_byte (x b : Nat) (hx : x * 256 < 18446744073709551616) (hb : b < 256) : Go.bits .or .u64 ((x * 256 : Nat) : Int) (b : Int) = ((x * 256 + b : Nat) : Int) := by
  have := bits_join .u64 64 (by decide) (fun n h0 h1 => by simp [IntKind.wrap, IntKind.bits, IntKind.signed]; omega) 8 ((x * 256 : Nat) : Int) (b : Int) (by omega) (by omega) (by omega) (by omega) (by omega) (by omega)
  rw [this]
  omega

theorem byte_tot (l : List Int) (i h : Int) (hi : 0 ≤ i) (hl : l.length ≤ maxLen) : ∃ b i' h', spec_l1Byte.f l i h = some (b, i', h') ∧ 0 ≤ b ∧ b ≤ 255 ∧ 0 ≤ i' := by
  unfold spec_l1Byte.f
  rw [and255, and255]
  by_cases h1 : i < (l.length : Int)
  · rw [if_pos h1, if_pos hi]
    refine ⟨_, _, _, rfl, by omega, by omega, ?_⟩
    have : (l.length : Int) ≤ 9223372036854775807 := by simp [maxLen] at hl; omega
    rw [wrap_succ hi (by omega)]
    omega
  · rw [if_neg h1]
    exact ⟨_, _, _, rfl, by omega, by omega, hi⟩

theorem below_tot (l : List Int) (i h n : Int) (hi : 0 ≤ i) (hl : l.length ≤ maxLen) (hn : 0 < n) : ∃ b i' h', spec_l1Below.f l i h n = some (b, i', h') ∧ 0 ≤ b ∧ b < n ∧ 0 ≤ i' := by
  unfold spec_l1Below.f
  rw [if_neg (by omega)]
  obtain ⟨b1, i1, h1, e1, p1, q1, iz1⟩ := byte_tot l i h hi hl
  rw [e1]
  by_cases hn2 : n ≤ 256
  · rw [if_pos hn2]
    show ∃ b i' h', (if n = 0 then none else some (Int.tmod b1 n, i1, h1)) = some (b, i', h') ∧ _
    rw [if_neg (by omega)]
    exact ⟨_, _, _, rfl, Int.tmod_nonneg _ p1, Int.tmod_lt_of_pos _ hn, iz1⟩
  · rw [if_neg hn2]
    obtain ⟨b2, i2, h2, e2, p2, q2, iz2⟩ := byte_tot l i1 h1 iz1 hl
    obtain ⟨b3, i3, h3, e3, p3, q3, iz3⟩ := byte_tot l i2 h2 iz2 hl
    obtain ⟨b4, i4, h4, e4, p4, q4, iz4⟩ := byte_tot l i3 h3 iz3 hl
    simp only [Option.bind_some, e2, e3, e4]
    rw [if_neg (by omega)]
    refine ⟨_, _, _, rfl, Int.tmod_nonneg _ ?_, Int.tmod_lt_of_pos _ hn, iz4⟩
    unfold wrap64
    omega

theorem wrap_range (n : Int) : -9223372036854775808 ≤ wrap64 n ∧ wrap64 n ≤ 9223372036854775807 := by
  unfold wrap64
  omega

theorem new_tot (l : List Int) (hl : l.length ≤ maxLen) : ∃ h, Ev (fun k => spec_l1New.f k l) (l, 0, h) := by
  have key : ∀ d (i : Nat) (x : Int), l.length - i = d → i ≤ l.length → ∃ h, Ev (fun k => spec_l1New.l0 k l x (i : Int)) (l, 0, h) := by
    intro d
    induction d with
    | zero =>
      intro i x hd hi
      refine ⟨x, Ev.step (fun k => rfl) ?_⟩
      exact ev_if_neg (by omega) (ev_eq rfl)
    | succ d ih =>
      intro i x hd hi
      by_cases h4 : (i : Int) < 4000
      · obtain ⟨h, H⟩ := ih (i + 1) (Go.bits .and .i64 (wrap64 ((wrap64 ((wrap64 (x * 131)) + (wrap64 (rd l (i : Int))))) + 7)) 1073741823) (by omega) (by omega)
        refine ⟨h, Ev.step (fun k => rfl) ?_⟩
        refine ev_if_pos (by omega) (ev_if_pos h4 (ev_if_pos (by omega) ?_))
        rw [wrap_succ (by omega) (by omega)]
        exact H
      · exact ⟨x, Ev.step (fun k => rfl) (ev_if_pos (by omega) (ev_if_neg h4 (ev_eq rfl)))⟩
  obtain ⟨h, H⟩ := key l.length 0 (wrap64 (25252 + (l.length : Int))) (by omega) (by omega)
  exact ⟨h, H⟩

theorem within_eq (a lo hi : Int) : impl_within.f a lo hi = some (decide (lo ≤ a ∧ a ≤ hi)) := by
  unfold impl_within.f
  by_cases h : lo ≤ a
  · rw [if_pos h]; simp [h]
  · rw [if_neg h]; simp [h]

theorem l5in_eq (a lo hi : Int) : spec_l5in.f a lo hi = some (decide (lo ≤ a ∧ a ≤ hi)) := by
  unfold spec_l5in.f
  by_cases h : lo ≤ a
  · rw [if_pos h]; simp [h]
  · rw [if_neg (by omega)]; simp [h]

/-- What a list of statuses says of a number. -/
def statusOf (l : List Int) (x : Int) : Int :=
  if 1 ≤ x ∧ x ≤ 400 ∧ x < (l.length : Int) ∧ 1 ≤ rd l x ∧ rd l x ≤ 2 then rd l x else 0

theorem statusOf_pos {l : List Int} {x : Int} (h : 1 ≤ x ∧ x ≤ 400 ∧ x < (l.length : Int) ∧ 1 ≤ rd l x ∧ rd l x ≤ 2) : statusOf l x = rd l x := if_pos h
theorem statusOf_neg {l : List Int} {x : Int} (h : ¬ (1 ≤ x ∧ x ≤ 400 ∧ x < (l.length : Int) ∧ 1 ≤ rd l x ∧ rd l x ≤ 2)) : statusOf l x = 0 := if_neg h

theorem implStatusOf (l : List Int) (x : Int) : impl_StatusOf.f l x = some (statusOf l x) := by
  unfold impl_StatusOf.f impl_isXid.f
  simp only [within_eq, Option.bind_some, decide_eq_true_eq]
  by_cases h1 : 1 ≤ x ∧ x ≤ 400
  · rw [if_pos h1]
    by_cases h2 : x ≥ (l.length : Int)
    · rw [if_pos h2, statusOf_neg (by omega)]
    · rw [if_neg h2, if_pos (by omega), if_pos (by omega)]
      by_cases h3 : 0 ≤ rd l x ∧ rd l x ≤ 2
      · rw [if_pos h3]
        by_cases h4 : rd l x = 0
        · rw [statusOf_neg (by omega), h4]
        · rw [statusOf_pos (by omega)]
      · rw [if_neg h3, statusOf_neg (by omega)]
  · rw [if_neg h1, statusOf_neg (by omega)]

theorem specStatusOf (l : List Int) (x : Int) : spec_StatusOf.f l x = some (statusOf l x) := by
  unfold spec_StatusOf.f
  simp only [l5in_eq, Option.bind_some, decide_eq_true_eq]
  by_cases h1 : 1 ≤ x ∧ x ≤ 400
  · rw [if_pos h1]
    by_cases h2 : x ≥ (l.length : Int)
    · rw [if_pos h2, statusOf_neg (by omega)]
    · rw [if_neg h2, if_pos (by omega), if_pos (by omega)]
      by_cases h3 : 1 ≤ rd l x ∧ rd l x ≤ 2
      · rw [if_pos h3, statusOf_pos (by omega)]
      · rw [if_neg h3, statusOf_neg (by omega)]
  · rw [if_neg h1, statusOf_neg (by omega)]

theorem and3 (n : Int) : Go.bits .and .i64 n 3 = n % 4 := by
  have h3 : (BitVec.ofInt 64 3).toNat = 2 ^ 2 - 1 := by decide
  have key : (BitVec.ofInt 64 n &&& BitVec.ofInt 64 3).toNat = (n % ((2 ^ 64 : Nat) : Int)).toNat % 2 ^ 2 := by
    rw [BitVec.toNat_and, BitVec.toNat_ofInt, h3, Nat.and_two_pow_sub_one_eq_mod]
  show IntKind.i64.wrap ((BitVec.ofInt 64 n &&& BitVec.ofInt 64 3).toNat : Nat) = n % 4
  rw [key, IntKind.wrap_i64]
  omega
theorem and3b (n : Int) (h0 : 0 ≤ n) (h1 : n < 256) : Go.bits .and .u8 n 3 = n % 4 := by
  have := bits_mask .u8 8 (by decide) (fun n h0 h1 => by simp [IntKind.wrap, IntKind.bits, IntKind.signed]; omega) 2 (by decide) n h0 (by omega)
  simpa using this

def qd (b : List Int) (i : Nat) : Int := rd b ((i / 4 : Nat) : Int) / 2 ^ (i % 4 * 2) % 4
def Bytes (b : List Int) : Prop := ∀ x ∈ b, 0 ≤ x ∧ x ≤ 255
theorem rd_byte {b : List Int} (h : Bytes b) (j : Nat) (hj : j < b.length) : 0 ≤ rd b (j : Int) ∧ rd b (j : Int) ≤ 255 := h _ (by simp [rd, hj])
theorem qd_range (b : List Int) (i : Nat) : 0 ≤ qd b i ∧ qd b i ≤ 3 := by
  unfold qd
  omega
theorem shr_q (b : List Int) (hb : Bytes b) (i : Nat) (hi : i / 4 < b.length) (k : IntKind) (hk : k = .i64 ∨ k = .u8) (y : Int) (hy : y = ((i % 4 * 2 : Nat) : Int)) : shr k (rd b ((i / 4 : Nat) : Int)) y = rd b ((i / 4 : Nat) : Int) / 2 ^ (i % 4 * 2) := by
  subst hy
  unfold shr
  congr 2
  rcases hk with rfl | rfl <;> simp only [IntKind.bits] <;> omega
theorem div_pow_range (x : Int) (h0 : 0 ≤ x) (h1 : x ≤ 255) (e : Nat) : 0 ≤ x / 2 ^ e ∧ x / 2 ^ e ≤ 255 := by
  have hp : (0 : Int) < 2 ^ e := Int.pow_pos (by decide)
  exact ⟨Int.ediv_nonneg h0 (by omega), Int.le_trans (Int.ediv_le_self _ h0) h1⟩

def badQ (b : List Int) (n : Int) (i : Nat) : Prop := qd b i = 3 ∨ (0 < qd b i ∧ (i = 0 ∨ n ≤ (i : Int)))
instance (b : List Int) (n : Int) (i : Nat) : Decidable (badQ b n i) := by unfold badQ; infer_instance
def digsOf (b : List Int) (m : Nat) : List Int := (List.range m).map (qd b)
open Classical in
noncomputable def statusRead (b : List Int) (n : Int) : List Int × Bool :=
  if 0 ≤ n ∧ n ≤ 401 ∧ (b.length : Int) = (n + 3) / 4 ∧ ∀ i, i < 4 * b.length → ¬ badQ b n i then (digsOf b n.toNat, true) else ([], false)

def part (s : Nat → Int) (i j : Nat) : Int := (if 4 * j < i then s (4 * j) else 0) + (if 4 * j + 1 < i then 4 * s (4 * j + 1) else 0) + (if 4 * j + 2 < i then 16 * s (4 * j + 2) else 0) + (if 4 * j + 3 < i then 64 * s (4 * j + 3) else 0)
theorem or_u8 (x y : Int) (i : Nat) (hi : i ≤ 8) (hx0 : 0 ≤ x) (hx : x % 2 ^ i = 0) (hx1 : x < 256) (hy0 : 0 ≤ y) (hy : y < 2 ^ i) (hy1 : y < 256) : Go.bits .or .u8 y x = y + x := by
  have h := bits_join .u8 8 (by decide) (fun n h0 h1 => by simp [IntKind.wrap, IntKind.bits, IntKind.signed]; omega) i x y hx0 hx (by simpa using hx1) hy0 hy (by simpa using hy1)
  have hc : Go.bits .or .u8 y x = Go.bits .or .u8 x y := by
    simp only [Go.bits]
    rw [BitVec.or_comm]
  rw [hc, h]; omega
theorem part_step (s : Nat → Int) (hs : ∀ i, 0 ≤ s i ∧ s i ≤ 3) (i j : Nat) (hj : j = i / 4) : Go.bits .or .u8 (part s i j) ((shl .i64 (s i) ((i % 4 * 2 : Nat) : Int)) % 256) = part s (i + 1) j := by
  have hsi := hs i
  have e : shl .i64 (s i) ((i % 4 * 2 : Nat) : Int) = s i * 2 ^ (i % 4 * 2) := by
    unfold shl
    rw [show min ((i % 4 * 2 : Nat) : Int).toNat IntKind.i64.bits = i % 4 * 2 by simp only [IntKind.bits]; omega, IntKind.wrap_i64]
    have hc : i % 4 = 0 ∨ i % 4 = 1 ∨ i % 4 = 2 ∨ i % 4 = 3 := by omega
    rcases hc with h | h | h | h <;> rw [h] <;> simp <;> omega
  rw [e]
  subst hj
  have h0 := hs (4 * (i / 4)); have h1 := hs (4 * (i / 4) + 1); have h2 := hs (4 * (i / 4) + 2)
  have hc : i % 4 = 0 ∨ i % 4 = 1 ∨ i % 4 = 2 ∨ i % 4 = 3 := by omega
  unfold part
  rcases hc with h | h | h | h
  · rw [h]
    have hi : 4 * (i / 4) = i := by omega
    rw [hi] at h0 h1 h2 ⊢
    rw [if_neg (by omega), if_neg (by omega), if_neg (by omega), if_neg (by omega), if_pos (by omega), if_neg (by omega), if_neg (by omega), if_neg (by omega), or_u8 _ _ 0 (by decide) (by first | omega | (simp; done) | (simp; omega)) (by first | omega | (simp; done) | (simp; omega)) (by first | omega | (simp; done) | (simp; omega)) (by simp) (by simp) (by simp)]
    simp; omega
  · rw [h]
    have hi : 4 * (i / 4) + 1 = i := by omega
    rw [hi] at h1 ⊢
    rw [if_pos (by omega), if_neg (by omega), if_neg (by omega), if_neg (by omega), if_pos (by omega), if_pos (by omega), if_neg (by omega), if_neg (by omega), or_u8 _ _ 2 (by decide) (by first | omega | (simp; done) | (simp; omega)) (by first | omega | (simp; done) | (simp; omega)) (by first | omega | (simp; done) | (simp; omega)) (by omega) (by first | omega | (simp; done) | (simp; omega)) (by omega)]
    simp; omega
  · rw [h]
    have hi : 4 * (i / 4) + 2 = i := by omega
    rw [hi] at h2 ⊢
    rw [if_pos (by omega), if_pos (by omega), if_neg (by omega), if_neg (by omega), if_pos (by omega), if_pos (by omega), if_pos (by omega), if_neg (by omega), or_u8 _ _ 4 (by decide) (by first | omega | (simp; done) | (simp; omega)) (by first | omega | (simp; done) | (simp; omega)) (by first | omega | (simp; done) | (simp; omega)) (by omega) (by first | omega | (simp; done) | (simp; omega)) (by omega)]
    simp; omega
  · rw [h]
    have hi : 4 * (i / 4) + 3 = i := by omega
    rw [hi]
    rw [if_pos (by omega), if_pos (by omega), if_pos (by omega), if_neg (by omega), if_pos (by omega), if_pos (by omega), if_pos (by omega), if_pos (by omega), or_u8 _ _ 6 (by decide) (by first | omega | (simp; done) | (simp; omega)) (by first | omega | (simp; done) | (simp; omega)) (by first | omega | (simp; done) | (simp; omega)) (by omega) (by first | omega | (simp; done) | (simp; omega)) (by omega)]
    simp; omega
theorem part_other (s : Nat → Int) (i j : Nat) (hj : j ≠ i / 4) : part s (i + 1) j = part s i j := by
  unfold part
  have e0 : (4 * j < i + 1) ↔ (4 * j < i) := by omega
  have e1 : (4 * j + 1 < i + 1) ↔ (4 * j + 1 < i) := by omega
  have e2 : (4 * j + 2 < i + 1) ↔ (4 * j + 2 < i) := by omega
  have e3 : (4 * j + 3 < i + 1) ↔ (4 * j + 3 < i) := by omega
  simp only [e0, e1, e2, e3]
theorem statusOf_range (l : List Int) (x : Int) : 0 ≤ statusOf l x ∧ statusOf l x ≤ 2 := by
  by_cases h : 1 ≤ x ∧ x ≤ 400 ∧ x < (l.length : Int) ∧ 1 ≤ rd l x ∧ rd l x ≤ 2
  · rw [statusOf_pos h]; omega
  · rw [statusOf_neg h]; omega
def sOf (l : List Int) (i : Nat) : Int := statusOf l (i : Int)
theorem sOf_range (l : List Int) (i : Nat) : 0 ≤ sOf l i ∧ sOf l i ≤ 3 := by
  have := statusOf_range l (i : Int)
  unfold sOf; omega
def bytesRow (l : List Int) (i : Nat) : List Int := (List.range ((l.length + 3) / 4)).map (part (sOf l) i)
def bytesU (xs : List Int) : List UInt8 := xs.map fun n => UInt8.ofNat n.toNat
theorem statusRead_pos {b : List Int} {n : Int} (h : 0 ≤ n ∧ n ≤ 401 ∧ (b.length : Int) = (n + 3) / 4 ∧ ∀ i, i < 4 * b.length → ¬ badQ b n i) : statusRead b n = (digsOf b n.toNat, true) := by
  unfold statusRead
  exact if_pos h
theorem statusRead_neg {b : List Int} {n : Int} (h : ¬ (0 ≤ n ∧ n ≤ 401 ∧ (b.length : Int) = (n + 3) / 4 ∧ ∀ i, i < 4 * b.length → ¬ badQ b n i)) : statusRead b n = ([], false) := by
  unfold statusRead
  exact if_neg h
theorem bytes_back (xs : List Int) (h : Bytes xs) : (bytesU xs).map (fun u : UInt8 => (u.toNat : Int)) = xs := by
  unfold bytesU
  rw [List.map_map]
  conv => rhs; rw [← List.map_id xs]
  apply List.map_congr_left
  intro x hx
  have := h x hx
  simp only [Function.comp, id]
  rw [UInt8.toNat_ofNat']
  omega
def aOf (b : List Int) (n i : Nat) : Int := if i < n then sOf (digsOf b n) i else 0
theorem digs_rd (b : List Int) (n i : Nat) (h : i < n) : rd (digsOf b n) (i : Int) = qd b i := by
  simp only [rd, Int.toNat_natCast, List.getD_eq_getElem?_getD, digsOf]
  rw [List.getElem?_map, List.getElem?_range h]
  rfl
theorem aOf_range (b : List Int) (n i : Nat) : 0 ≤ aOf b n i ∧ aOf b n i ≤ 3 := by
  unfold aOf
  split
  · exact sOf_range _ _
  · omega
theorem aOf_bad (b : List Int) (n i : Nat) (hn : n ≤ 401) : aOf b n i = qd b i ↔ ¬ badQ b (n : Int) i := by
  have hq := qd_range b i
  unfold aOf badQ
  by_cases h : i < n
  · rw [if_pos h]
    unfold sOf
    have hl : (digsOf b n).length = n := by simp [digsOf]
    by_cases hc : 1 ≤ (i : Int) ∧ (i : Int) ≤ 400 ∧ (i : Int) < ((digsOf b n).length : Int) ∧ 1 ≤ rd (digsOf b n) (i : Int) ∧ rd (digsOf b n) (i : Int) ≤ 2
    · rw [statusOf_pos hc, digs_rd b n i h]
      rw [digs_rd b n i h] at hc
      constructor
      · intro _ hh; omega
      · intro _; rfl
    · rw [statusOf_neg hc]
      rw [digs_rd b n i h, hl] at hc
      constructor
      · intro _ hh; omega
      · intro hh; omega
  · rw [if_neg h]
    constructor
    · intro _ hh; omega
    · intro hh; omega
theorem part_a (b : List Int) (n j : Nat) : part (sOf (digsOf b n)) n j = aOf b n (4 * j) + 4 * aOf b n (4 * j + 1) + 16 * aOf b n (4 * j + 2) + 64 * aOf b n (4 * j + 3) := by
  unfold part aOf
  congr 1
  · congr 1
    · congr 1
      split <;> simp
    · split <;> simp
  · split <;> simp
theorem byte_q (b : List Int) (hb : Bytes b) (j : Nat) (hj : j < b.length) : rd b (j : Int) = qd b (4 * j) + 4 * qd b (4 * j + 1) + 16 * qd b (4 * j + 2) + 64 * qd b (4 * j + 3) := by
  have h := rd_byte hb j hj
  unfold qd
  rw [show 4 * j / 4 = j by omega, show (4 * j + 1) / 4 = j by omega, show (4 * j + 2) / 4 = j by omega, show (4 * j + 3) / 4 = j by omega, show 4 * j % 4 = 0 by omega, show (4 * j + 1) % 4 = 1 by omega, show (4 * j + 2) % 4 = 2 by omega, show (4 * j + 3) % 4 = 3 by omega]
  simp only [Nat.zero_mul, Nat.one_mul, Int.reducePow, Nat.reduceMul]
  omega
theorem row_eq (b : List Int) (hb : Bytes b) (n : Nat) (hn : n ≤ 401) (hl : b.length = (n + 3) / 4) : bytesRow (digsOf b n) n = b ↔ ∀ i, i < 4 * b.length → ¬ badQ b (n : Int) i := by
  have hdl : (digsOf b n).length = n := by simp [digsOf]
  have hat : ∀ j, j < b.length → (bytesRow (digsOf b n) n)[j]? = some (part (sOf (digsOf b n)) n j) := by
    intro j hj
    simp only [bytesRow, hdl]
    rw [List.getElem?_map, List.getElem?_range (by omega)]
    rfl
  have hbt : ∀ j, j < b.length → b[j]? = some (rd b (j : Int)) := by
    intro j hj
    simp [rd, hj]
  constructor
  · intro h i hi
    rw [← aOf_bad b n i hn]
    have hj : i / 4 < b.length := by omega
    have e := hat (i / 4) hj
    rw [h, hbt _ hj] at e
    have e2 := Option.some.inj e
    rw [part_a, byte_q b hb _ hj] at e2
    have q0 := qd_range b (4 * (i / 4)); have q1 := qd_range b (4 * (i / 4) + 1); have q2 := qd_range b (4 * (i / 4) + 2); have q3 := qd_range b (4 * (i / 4) + 3)
    have a0 := aOf_range b n (4 * (i / 4)); have a1 := aOf_range b n (4 * (i / 4) + 1); have a2 := aOf_range b n (4 * (i / 4) + 2); have a3 := aOf_range b n (4 * (i / 4) + 3)
    have hc : i = 4 * (i / 4) ∨ i = 4 * (i / 4) + 1 ∨ i = 4 * (i / 4) + 2 ∨ i = 4 * (i / 4) + 3 := by omega
    generalize i / 4 = j at *
    clear hat hbt e h hb hl hdl
    rcases hc with rfl | rfl | rfl | rfl <;> omega
  · intro h
    apply List.ext_getElem?
    intro j
    by_cases hj : j < b.length
    · rw [hat j hj, hbt j hj, part_a, byte_q b hb j hj, (aOf_bad b n _ hn).2 (h (4 * j) (by omega)), (aOf_bad b n _ hn).2 (h (4 * j + 1) (by omega)), (aOf_bad b n _ hn).2 (h (4 * j + 2) (by omega)), (aOf_bad b n _ hn).2 (h (4 * j + 3) (by omega))]
    · rw [List.getElem?_eq_none (by simp only [bytesRow, List.length_map, List.length_range, hdl]; omega), List.getElem?_eq_none (by omega)]
theorem row_bytes (l : List Int) (i : Nat) : Bytes (bytesRow l i) := by
  intro x hx
  obtain ⟨j, _, rfl⟩ := List.mem_map.1 hx
  have h0 := sOf_range l (4 * j); have h1 := sOf_range l (4 * j + 1); have h2 := sOf_range l (4 * j + 2); have h3 := sOf_range l (4 * j + 3)
  unfold part
  constructor <;> (repeat' split) <;> omega

theorem once_tot (l : List Int) (i h n : Int) (hi : 0 ≤ i) (hl : l.length ≤ maxLen) (hn : 0 < n) : ∃ b i' h', spec_l1Once.f l i h n = some (b, i', h') ∧ 0 ≤ i' := by
  obtain ⟨b, i1, h1, e1, _, _, iz1⟩ := below_tot l i h n hi hl hn
  unfold spec_l1Once.f
  rw [e1]
  exact ⟨_, _, _, rfl, iz1⟩
theorem pick_tot (l : List Int) (i h : Int) (hi : 0 ≤ i) (hl : l.length ≤ maxLen) : ∃ b i' h', spec_l1PickInt.f l i h [(-1), 3, 4] = some (b, i', h') ∧ 0 ≤ i' := by
  obtain ⟨b, i1, h1, e1, p1, q1, iz1⟩ := below_tot l i h 3 hi hl (by omega)
  unfold spec_l1PickInt.f
  rw [show (([(-1), 3, 4] : List Int).length : Int) = 3 from rfl, e1]
  simp only [Option.bind_some]
  rw [if_pos p1, if_pos q1]
  exact ⟨_, _, _, rfl, iz1⟩
theorem list_loop (l : List Int) (hl : l.length ≤ maxLen) : ∀ (d : Nat) (out : List Int) (i h : Int), out.length + d ≤ 14 → 0 ≤ i → ∃ r i' h', Ev (fun k => spec_l8list.l0 k out (d : Int) l i h) (r, i', h') ∧ r.length ≤ 14 ∧ 0 ≤ i' := by
  intro d
  induction d with
  | zero =>
    intro out i h hd hi
    exact ⟨out, i, h, Ev.step (fun k => rfl) (ev_if_neg (by omega) (ev_eq rfl)), by omega, hi⟩
  | succ d ih =>
    intro out i h hd hi
    obtain ⟨b1, i1, h1, e1, p1, q1, iz1⟩ := below_tot l i h 3 hi hl (by omega)
    obtain ⟨b2, i2, h2, e2, iz2⟩ := once_tot l i1 h1 40 iz1 hl (by omega)
    have e : wrap64 (((d + 1 : Nat) : Int) - 1) = (d : Int) := by unfold wrap64; omega
    cases b2 with
    | true =>
      obtain ⟨b3, i3, h3, e3, iz3⟩ := pick_tot l i2 h2 iz2 hl
      obtain ⟨r, i4, h4, E, hr, iz4⟩ := ih (out ++ [b3]) i3 h3 (by simp; omega) iz3
      refine ⟨r, i4, h4, Ev.step (fun k => rfl) (ev_if_pos (by omega) ?_), hr, iz4⟩
      refine Ev.bind (ev_eq e1) (Ev.bind (ev_eq e2) (ev_if_pos rfl (Ev.bind (ev_eq e3) (ev_if_pos (by omega) ?_))))
      rw [e]
      exact E
    | false =>
      obtain ⟨r, i4, h4, E, hr, iz4⟩ := ih (out ++ [b1]) i2 h2 (by simp; omega) iz2
      refine ⟨r, i4, h4, Ev.step (fun k => rfl) (ev_if_pos (by omega) ?_), hr, iz4⟩
      refine Ev.bind (ev_eq e1) (Ev.bind (ev_eq e2) (ev_if_neg (show ¬ ((false : Bool) = true) by decide) (ev_if_pos (by omega) ?_)))
      rw [e]
      exact E
theorem list_tot (l : List Int) (hl : l.length ≤ maxLen) (i h : Int) (hi : 0 ≤ i) : ∃ r i' h', Ev (fun k => spec_l8list.f k l i h 14) (r, i', h') ∧ r.length ≤ 14 ∧ 0 ≤ i' := by
  obtain ⟨b1, i1, h1, e1, p1, q1, iz1⟩ := below_tot l i h 15 hi hl (by omega)
  obtain ⟨d, rfl⟩ := Int.eq_ofNat_of_zero_le p1
  obtain ⟨r, i2, h2, E, hr, iz2⟩ := list_loop l hl d [] i1 h1 (by simp; omega) iz1
  rw [← show wrap64 (14 + 1) = 15 by unfold wrap64; omega] at e1
  exact ⟨r, i2, h2, Ev.bind (ev_eq e1) E, hr, iz2⟩
def setS (o : List Int) (x : Nat) (s : Int) : List Int := (o ++ List.replicate (x + 1 - o.length) 0).set x s
theorem set_loop (F : Nat → Int → Int → List Int → Option (List Int × Bool)) (hF : ∀ k x s o, F (k + 1) x s o = if (o.length : Int) ≤ x then (if o.length < 17592186044416 then F k x s (o ++ [0]) else none) else (if 0 ≤ x then (if x < (o.length : Int) then some (o.set (x : Int).toNat s, true) else none) else none)) (x : Nat) (hx : x ≤ 400) (s : Int) : ∀ d o, x + 1 - o.length = d → Ev (fun k => F k (x : Int) s o) (setS o x s, true) := by
  intro d
  induction d with
  | zero =>
    intro o hd
    refine Ev.step (fun k => hF k _ _ _) (ev_if_neg (by omega) (ev_if_pos (by omega) (ev_if_pos (by omega) (ev_eq ?_))))
    unfold setS
    rw [hd]
    simp
  | succ d ih =>
    intro o hd
    have h := ih (o ++ [0]) (by simp; omega)
    have e : setS (o ++ [0]) x s = setS o x s := by
      unfold setS
      rw [show x + 1 - o.length = (x + 1 - (o ++ [0]).length) + 1 by simp; omega, List.replicate_succ, List.append_assoc]
      rfl
    rw [e] at h
    exact Ev.step (fun k => hF k _ _ _) (ev_if_pos (by omega) (ev_if_pos (by omega) h))
def setOkP (l : List Int) (x s : Int) : Prop := l.length ≤ 401 ∧ (1 ≤ x ∧ x ≤ 400) ∧ (0 ≤ s ∧ s ≤ 2)
theorem setS_len (o : List Int) (x : Nat) (s : Int) : (setS o x s).length = max o.length (x + 1) := by
  simp [setS]; omega
theorem setS_at (o : List Int) (x : Nat) (s : Int) : rd (setS o x s) (x : Int) = s := by
  simp only [rd, Int.toNat_natCast, List.getD_eq_getElem?_getD, setS]
  rw [List.getElem?_set_self (by simp; omega)]
  rfl
theorem setS_ne (o : List Int) (x : Nat) (s : Int) (i : Nat) (h : i ≠ x) : rd (setS o x s) (i : Int) = rd o (i : Int) := by
  simp only [rd, Int.toNat_natCast, List.getD_eq_getElem?_getD, setS]
  rw [List.getElem?_set_ne (by omega), List.getElem?_append]
  by_cases h1 : i < o.length
  · rw [if_pos h1]
  · rw [if_neg h1, List.getElem?_replicate, List.getElem?_eq_none (by omega)]
    split <;> rfl
theorem status_of_set (l : List Int) (x : Nat) (s : Int) (hx : 1 ≤ x ∧ x ≤ 400) (hs : 0 ≤ s ∧ s ≤ 2) (i : Nat) : statusOf (setS l x s) (i : Int) = if i = x then s else statusOf l (i : Int) := by
  have hlen := setS_len l x s
  by_cases h : i = x
  · subst h
    rw [if_pos rfl]
    by_cases h0 : s = 0
    · rw [statusOf_neg (by rw [setS_at]; omega), h0]
    · rw [statusOf_pos (by rw [setS_at]; omega), setS_at]
  · rw [if_neg h]
    by_cases hc : 1 ≤ (i : Int) ∧ (i : Int) ≤ 400 ∧ (i : Int) < (l.length : Int) ∧ 1 ≤ rd l (i : Int) ∧ rd l (i : Int) ≤ 2
    · rw [statusOf_pos hc, statusOf_pos (by rw [setS_ne l x s i h]; omega), setS_ne l x s i h]
    · rw [statusOf_neg hc]
      refine statusOf_neg ?_
      rw [setS_ne l x s i h]
      intro hh
      by_cases h2 : i < l.length
      · exact hc ⟨hh.1, hh.2.1, by omega, hh.2.2.2.1, hh.2.2.2.2⟩
      · have : rd l (i : Int) = 0 := by
          simp only [rd, Int.toNat_natCast, List.getD_eq_getElem?_getD]
          rw [List.getElem?_eq_none (by omega)]
          rfl
        omega
theorem part_g (s : Nat → Int) (n j : Nat) : part s n j = (if 4 * j < n then s (4 * j) else 0) + 4 * (if 4 * j + 1 < n then s (4 * j + 1) else 0) + 16 * (if 4 * j + 2 < n then s (4 * j + 2) else 0) + 64 * (if 4 * j + 3 < n then s (4 * j + 3) else 0) := by
  unfold part
  congr 1
  · congr 1
    · congr 1
      split <;> simp
    · split <;> simp
  · split <;> simp
theorem qd_row (l : List Int) (n i : Nat) (hi : i / 4 < (l.length + 3) / 4) : qd (bytesRow l n) i = if i < n then sOf l i else 0 := by
  have hr : rd (bytesRow l n) ((i / 4 : Nat) : Int) = part (sOf l) n (i / 4) := by
    simp only [rd, Int.toNat_natCast, List.getD_eq_getElem?_getD, bytesRow]
    rw [List.getElem?_map, List.getElem?_range hi]
    rfl
  unfold qd
  rw [hr, part_g]
  have hg : ∀ k, 0 ≤ (if k < n then sOf l k else 0) ∧ (if k < n then sOf l k else 0) ≤ 3 := fun k => by
    have := sOf_range l k
    split <;> omega
  generalize hG : (fun k => if k < n then sOf l k else (0 : Int)) = g at *
  have hG2 : ∀ k, (if k < n then sOf l k else (0 : Int)) = g k := fun k => by rw [← hG]
  simp only [hG2] at hg ⊢
  have h0 := hg (4 * (i / 4)); have h1 := hg (4 * (i / 4) + 1); have h2 := hg (4 * (i / 4) + 2); have h3 := hg (4 * (i / 4) + 3)
  have hc : i % 4 = 0 ∨ i % 4 = 1 ∨ i % 4 = 2 ∨ i % 4 = 3 := by omega
  clear hG hG2 hg hr
  rcases hc with h | h | h | h
  · have e : g i = g (4 * (i / 4)) := congrArg g (by omega)
    rw [e, h]; simp; omega
  · have e : g i = g (4 * (i / 4) + 1) := congrArg g (by omega)
    rw [e, h]; simp; omega
  · have e : g i = g (4 * (i / 4) + 2) := congrArg g (by omega)
    rw [e, h]; simp; omega
  · have e : g i = g (4 * (i / 4) + 3) := congrArg g (by omega)
    rw [e, h]; simp; omega
theorem sOf_zero (l : List Int) : sOf l 0 = 0 := statusOf_neg (by omega)
theorem read_back (m : List Int) (hm : m.length ≤ 401) : statusRead (bytesRow m m.length) (m.length : Int) = (digsOf (bytesRow m m.length) m.length, true) := by
  have hl : (bytesRow m m.length).length = (m.length + 3) / 4 := by simp [bytesRow]
  rw [statusRead_pos ⟨by omega, by omega, by omega, fun i hi => ?_⟩, Int.toNat_natCast]
  unfold badQ
  rw [qd_row m m.length i (by omega)]
  have h2 := statusOf_range m (i : Int)
  by_cases h : i < m.length
  · rw [if_pos h]
    by_cases h0 : i = 0
    · subst h0
      rw [sOf_zero]; omega
    · unfold sOf; omega
  · rw [if_neg h]; omega
theorem back_status (m : List Int) (i : Nat) (hi : i < m.length) : statusOf (digsOf (bytesRow m m.length) m.length) (i : Int) = statusOf m (i : Int) := by
  have hl : (digsOf (bytesRow m m.length) m.length).length = m.length := by simp [digsOf]
  have hr : rd (digsOf (bytesRow m m.length) m.length) (i : Int) = statusOf m (i : Int) := by
    rw [digs_rd _ _ _ hi, qd_row m m.length i (by omega), if_pos hi]
    rfl
  by_cases hc : 1 ≤ (i : Int) ∧ (i : Int) ≤ 400 ∧ (i : Int) < (m.length : Int) ∧ 1 ≤ rd m (i : Int) ∧ rd m (i : Int) ≤ 2
  · rw [statusOf_pos (l := digsOf _ _) (by rw [hr, hl, statusOf_pos hc]; omega), hr]
  · have h0 := statusOf_neg hc
    rw [h0]
    refine statusOf_neg ?_
    rw [hr, h0]
    omega
def settleTo (m : List Int) (n i : Nat) : List Int := (List.range n).map fun j => if j = 0 then 0 else if j < i then (if statusOf m (j : Int) = 1 then 1 else 2) else 0
theorem settleTo_len (m : List Int) (n i : Nat) : (settleTo m n i).length = n := by simp [settleTo]
theorem settleTo_set (m : List Int) (n i : Nat) (h1 : 1 ≤ i) (hi : i < n) (v : Int) (hv : v = if statusOf m (i : Int) = 1 then 1 else 2) : (settleTo m n i).set i v = settleTo m n (i + 1) := by
  apply List.ext_getElem?
  intro j
  rw [List.getElem?_set, settleTo_len]
  by_cases hj : i = j
  · subst hj
    rw [if_pos rfl, if_pos hi]
    simp only [settleTo]
    rw [List.getElem?_map, List.getElem?_range hi]
    simp only [Option.map_some]
    rw [if_neg (by omega), if_pos (by omega), hv]
  · rw [if_neg hj]
    simp only [settleTo, List.getElem?_map]
    by_cases hj2 : j < n
    · rw [List.getElem?_range hj2]
      simp only [Option.map_some]
      have e : (j < i + 1) ↔ (j < i) := by omega
      simp only [e]
    · rw [List.getElem?_eq_none (by simp; omega)]
      rfl
theorem settle_rd (m : List Int) (n i : Nat) (h1 : 1 ≤ i) (hi : i < n) : rd (settleTo m n n) (i : Int) = if statusOf m (i : Int) = 1 then 1 else 2 := by
  simp only [rd, Int.toNat_natCast, List.getD_eq_getElem?_getD, settleTo]
  rw [List.getElem?_map, List.getElem?_range hi]
  simp only [Option.map_some, Option.getD_some]
  rw [if_neg (by omega), if_pos hi]

def dead (l : List Int) (a b h : Int) : Bool := statusOf l a == 2 || (statusOf l b == 1 && decide (b < h))

theorem implDead (l : List Int) (a b h : Int) : impl_Dead.f l a b h = some (dead l a b h) := by
  unfold impl_Dead.f dead
  simp only [implStatusOf, Option.bind_some]
  by_cases h1 : statusOf l a = 2
  · simp [h1]
  · by_cases h2 : statusOf l b = 1 <;> simp [h1, h2]

theorem specDead (l : List Int) (a b h : Int) : spec_Dead.f l a b h = some (dead l a b h) := by
  unfold spec_Dead.f dead
  simp only [specStatusOf, Option.bind_some]
  by_cases h1 : statusOf l a = 2
  · simp [h1]
  · by_cases h2 : statusOf l b = 1 <;> simp [h1, h2]

/-- Ascending from behind 'last', all below 'self'. -/
def asc (self : Int) : Int → List Int → Bool
  | _, [] => true
  | last, x :: xs => decide (last < x) && (decide (x < self) && asc self x xs)

theorem asc_length (self : Int) : ∀ (l : List Int) (last : Int), asc self last l = true → last ≤ self → (l.length : Int) ≤ self - last
  | [], last, _, h => by simp; omega
  | x :: xs, last, h, _ => by
    simp only [asc, Bool.and_eq_true, decide_eq_true_eq] at h
    have := asc_length self xs x h.2.2 (by omega)
    simp only [List.length_cons]
    omega

def snapOk (self : Int) (l : List Int) : Bool := decide (1 ≤ self ∧ self ≤ 400) && asc self 0 l

theorem specSnapOk_l (self : Int) (l : List Int) (hl : l.length ≤ 9223372036854775806) : ∀ (d i : Nat) (last : Int), l.length - i = d → i ≤ l.length → Ev (fun k => spec_SnapOk.l0 k last i self l) (asc self last (l.drop i)) := by
  intro d
  induction d with
  | zero =>
    intro i last hd h0
    obtain rfl : i = l.length := by omega
    refine Ev.step (f := fun _ => some true) (fun k => ?_) (by simp only [List.drop_length, asc]; exact Ev.now _)
    simp only [spec_SnapOk.l0]
    rw [if_neg (by omega)]
  | succ d ih =>
    intro i last hd h0
    rw [drop_rd l i (by omega)]
    have ih2 := ih (i + 1) (rd l i) (by omega) (by omega)
    by_cases c1 : rd l i ≤ last
    · refine Ev.step (f := fun _ => some false) (fun k => ?_) (by rw [asc, decide_eq_false (by omega)]; exact Ev.now _)
      simp only [spec_SnapOk.l0]
      rw [if_pos (by omega), if_pos (by omega), if_pos c1]
    · by_cases c2 : rd l i ≥ self
      · refine Ev.step (f := fun _ => some false) (fun k => ?_) (by rw [asc, decide_eq_true (by omega), decide_eq_false (by omega)]; exact Ev.now _)
        simp only [spec_SnapOk.l0]
        rw [if_pos (by omega), if_pos (by omega), if_neg c1, if_pos c2]
      · refine Ev.step (f := fun k => spec_SnapOk.l0 k (rd l i) ((i + 1 : Nat) : Int) self l) (fun k => ?_) (by rw [asc, decide_eq_true (by omega), decide_eq_true (by omega)]; exact ih2)
        simp only [spec_SnapOk.l0]
        rw [if_pos (by omega), if_pos (by omega), if_neg c1, if_neg c2, wrap_succ (by omega) (by omega)]
        rfl

theorem specSnapOk (self : Int) (l : List Int) (hl : l.length ≤ 1048576) : Ev (fun k => spec_SnapOk.f k self l) (snapOk self l) := by
  unfold spec_SnapOk.f snapOk
  simp only [l5in_eq, Option.bind_some, decide_eq_true_eq]
  by_cases h : 1 ≤ self ∧ self ≤ 400
  · simp only [if_pos h, decide_eq_true h, Bool.true_and]
    by_cases h2 : (l.length : Int) > 400
    · have : asc self 0 l = false := by
        rw [Bool.eq_false_iff]
        intro h3
        have := asc_length self l 0 h3 (by omega)
        omega
      rw [this, decide_eq_true h2]
      refine Ev.step (f := fun _ => some false) (fun k => ?_) (Ev.now _)
      simp only [spec_SnapOk.j0, if_true]
    · rw [decide_eq_false h2]
      have hk := specSnapOk_l self l (by omega) l.length 0 0 (by omega) (by omega)
      rw [List.drop_zero] at hk
      refine Ev.step (fun k => ?_) hk
      simp only [spec_SnapOk.j0, Bool.false_eq_true, if_false]
      rfl
  · simp only [if_neg h, decide_eq_false h, Bool.false_and]
    refine Ev.step (f := fun _ => some false) (fun k => ?_) (Ev.now _)
    simp only [spec_SnapOk.j0, if_true]

theorem isAscending_l (self : Int) (l : List Int) (hl : l.length ≤ 9223372036854775806) : ∀ (d i : Nat) (last : Int), l.length - i = d → i ≤ l.length → 0 ≤ last → (0 < i → last = rd l ((i : Int) - 1)) → (i = 0 → last = 0) →
    Ev (fun k => impl_isAscending.l0 k l 1 (self - 1) l (l.length : Int) i) (asc self last (l.drop i)) := by
  intro d
  induction d with
  | zero =>
    intro i last hd h0 hp hi hz
    obtain rfl : i = l.length := by omega
    refine Ev.step (f := fun _ => some true) (fun k => ?_) (by simp only [List.drop_length, asc]; exact Ev.now _)
    simp only [impl_isAscending.l0]
    rw [if_neg (by omega)]
  | succ d ih =>
    intro i last hd h0 hp hi hz
    rw [drop_rd l i (by omega)]
    by_cases c1 : 1 ≤ rd l i ∧ rd l i ≤ self - 1
    · by_cases c0 : 0 < i
      · have hlast := hi c0
        by_cases c2 : rd l i ≤ last
        · refine Ev.step (f := fun _ => some false) (fun k => ?_) (by rw [asc, decide_eq_false (by omega)]; exact Ev.now _)
          simp only [impl_isAscending.l0, within_eq, Option.bind_some, decide_eq_true_eq]
          rw [if_pos (by omega), if_pos (by omega), if_pos (by omega), if_pos c1, if_pos (by omega), wrap_id (by omega) (by omega), if_pos (by omega), if_pos (by omega), if_pos (by omega)]
        · have ih2 := ih (i + 1) (rd l i) (by omega) (by omega) (by omega) (fun _ => by congr 1; omega) (by omega)
          refine Ev.step (f := fun k => impl_isAscending.l0 k l 1 (self - 1) l (l.length : Int) ((i + 1 : Nat) : Int)) (fun k => ?_) (by rw [asc, decide_eq_true (by omega), decide_eq_true (by omega)]; exact ih2)
          simp only [impl_isAscending.l0, within_eq, Option.bind_some, decide_eq_true_eq]
          rw [if_pos (by omega), if_pos (by omega), if_pos (by omega), if_pos c1, if_pos (by omega), wrap_id (i := (i : Int) - 1) (by omega) (by omega), if_pos (by omega), if_pos (by omega), if_neg (by omega), wrap_succ (by omega) (by omega)]
          rfl
      · have hlast := hz (by omega)
        have ih2 := ih (i + 1) (rd l i) (by omega) (by omega) (by omega) (fun _ => by congr 1; omega) (by omega)
        refine Ev.step (f := fun k => impl_isAscending.l0 k l 1 (self - 1) l (l.length : Int) ((i + 1 : Nat) : Int)) (fun k => ?_) (by rw [asc, decide_eq_true (by omega), decide_eq_true (by omega)]; exact ih2)
        simp only [impl_isAscending.l0, within_eq, Option.bind_some, decide_eq_true_eq]
        rw [if_pos (by omega), if_pos (by omega), if_pos (by omega), if_pos c1, if_neg (by omega), wrap_succ (by omega) (by omega)]
        rfl
    · refine Ev.step (f := fun _ => some false) (fun k => ?_) (by
        rw [asc]
        by_cases c2 : last < rd l i
        · rw [decide_eq_true c2, decide_eq_false (by omega)]
          exact Ev.now _
        · rw [decide_eq_false c2]
          exact Ev.now _)
      simp only [impl_isAscending.l0, within_eq, Option.bind_some, decide_eq_true_eq]
      rw [if_pos (by omega), if_pos (by omega), if_pos (by omega), if_neg c1]

theorem implSnapOk (self : Int) (l : List Int) (hl : l.length ≤ 1048576) : Ev (fun k => impl_SnapOk.f k self l) (snapOk self l) := by
  unfold impl_SnapOk.f impl_isXid.f impl_isAscending.f snapOk
  simp only [within_eq, Option.bind_some, decide_eq_true_eq]
  by_cases h : 1 ≤ self ∧ self ≤ 400
  · simp only [if_pos h, decide_eq_true h, Bool.true_and, wrap_id (i := self - 1) (by omega) (by omega)]
    have hk := isAscending_l self l (by omega) l.length 0 0 (by omega) (by omega) (by omega) (by omega) (by omega)
    rw [List.drop_zero] at hk
    exact Ev.bind hk (Ev.now _)
  · simp only [if_neg h, decide_eq_false h, Bool.false_and]
    exact Ev.now _

theorem index_l (l : List Int) (hl : l.length ≤ 9223372036854775806) (x : Int) : ∀ d i : Nat, l.length - i = d → i ≤ l.length → (∀ j, j < i → ∀ h : j < l.length, l[j] ≠ x) → ∃ r, Ev (fun k => slices_Index_int_int.l0 k l x (l.length : Int) i) r ∧ (0 ≤ r ↔ x ∈ l) := by
  intro d
  induction d with
  | zero =>
    intro i hd hi hn
    obtain rfl : i = l.length := by omega
    refine ⟨-1, Ev.step (f := fun _ => some (-1)) (fun k => ?_) (Ev.now _), ?_⟩
    · simp only [slices_Index_int_int.l0]
      rw [if_neg (by omega)]
    · refine ⟨fun h => by omega, fun h => ?_⟩
      obtain ⟨j, hj, e⟩ := List.mem_iff_getElem.1 h
      exact absurd e (hn j hj hj)
  | succ d ih =>
    intro i hd hi hn
    have hil : i < l.length := by omega
    have hr : rd l i = l[i] := by simp [rd, hil]
    by_cases h : l[i] = x
    · refine ⟨i, Ev.step (f := fun _ => some (i : Int)) (fun k => ?_) (Ev.now _), ?_⟩
      · simp only [slices_Index_int_int.l0]
        rw [if_pos (by omega), if_pos (by omega), if_pos (by omega), hr, if_pos h.symm]
      · exact ⟨fun _ => h ▸ List.getElem_mem _, fun _ => by omega⟩
    · obtain ⟨r, h1, h2⟩ := ih (i + 1) (by omega) (by omega) (fun j hj hjl => by
        rcases Nat.lt_or_ge j i with h3 | h3
        · exact hn j h3 hjl
        · obtain rfl : j = i := by omega
          exact h)
      refine ⟨r, Ev.step (fun k => ?_) h1, h2⟩
      simp only [slices_Index_int_int.l0]
      rw [if_pos (by omega), if_pos (by omega), if_pos (by omega), hr, if_neg (fun e => h e.symm), wrap_succ (by omega) (by omega)]
      rfl
theorem containsI (l : List Int) (x : Int) (hl : l.length ≤ 9223372036854775806) : Ev (fun k => slices_Contains_int_int.f k l x) (decide (x ∈ l)) := by
  unfold slices_Contains_int_int.f slices_Index_int_int.f
  obtain ⟨r, h1, h2⟩ := index_l l hl x l.length 0 (by omega) (by omega) (fun j hj => by omega)
  refine Ev.bind h1 ?_
  rw [show decide (x ∈ l) = decide (r ≥ 0) by
    rw [Bool.eq_iff_iff]
    simp only [decide_eq_true_eq]
    exact h2.symm]
  exact Ev.now _

def sees (self : Int) (run st : List Int) (x : Int) : Bool :=
  snapOk self run && (decide (x = self) || (decide (1 ≤ x ∧ x < self) && (!decide (x ∈ run)) && (statusOf st x == 1)))
theorem implSees (self : Int) (run st : List Int) (x : Int) (hl : run.length ≤ 1048576) : Ev (fun k => impl_Sees.f k self run st x) (sees self run st x) := by
  unfold impl_Sees.f sees
  refine Ev.bind (implSnapOk self run hl) ?_
  cases h : snapOk self run with
  | false =>
    refine ev_if_neg (by decide) ?_
    rw [Bool.false_and]
    exact Ev.now _
  | true =>
    have hs : 1 ≤ self ∧ self ≤ 400 := by
      unfold snapOk at h
      simp only [Bool.and_eq_true, decide_eq_true_eq] at h
      exact h.1
    refine ev_if_pos rfl ?_
    rw [Bool.true_and]
    by_cases hx : x = self
    · refine ev_if_pos hx ?_
      rw [decide_eq_true hx, Bool.true_or]
      exact Ev.now _
    · refine ev_if_neg hx ?_
      rw [decide_eq_false hx, Bool.false_or]
      refine Ev.bind (ev_eq (within_eq x 1 _)) ?_
      rw [wrap_id (by omega) (by omega)]
      by_cases h1 : 1 ≤ x ∧ x ≤ self - 1
      · refine ev_if_pos (decide_eq_true h1) ?_
        rw [decide_eq_true (show 1 ≤ x ∧ x < self by omega), Bool.true_and]
        refine Ev.bind (containsI run x (by omega)) ?_
        by_cases h2 : x ∈ run
        · refine ev_if_pos (decide_eq_true h2) ?_
          rw [decide_eq_true h2]
          exact Ev.now _
        · refine ev_if_neg (by rw [decide_eq_false h2]; decide) ?_
          rw [decide_eq_false h2]
          exact Ev.bind (ev_eq (implStatusOf st x)) (Ev.now _)
      · refine ev_if_neg (by rw [decide_eq_false h1]; decide) ?_
        rw [decide_eq_false (show ¬ (1 ≤ x ∧ x < self) by omega)]
        exact Ev.now _
def visible (self : Int) (run st : List Int) (x y : Int) : Bool := sees self run st x && !sees self run st y
theorem implVisible (self : Int) (run st : List Int) (x y : Int) (hl : run.length ≤ 1048576) : Ev (fun k => impl_Visible.f k self run st x y) (visible self run st x y) := by
  unfold impl_Visible.f visible
  refine Ev.bind (implSees self run st x hl) ?_
  cases h : sees self run st x with
  | false => exact ev_if_neg (by decide) (Ev.now _)
  | true =>
    refine ev_if_pos rfl ?_
    rw [Bool.true_and]
    exact Ev.bind (implSees self run st y hl) (Ev.now _)
theorem set_at (l m : List Int) (i : Nat) (hi : i < l.length) (h : l.length = m.length) : (l.take i ++ m.drop i).set i (rd l i) = l.take (i + 1) ++ m.drop (i + 1) := by
  have hr : rd l (i : Int) = l[i] := by simp [rd, List.getD_eq_getElem?_getD, hi]
  rw [hr]
  apply List.ext_getElem?
  intro j
  simp only [List.getElem?_set, List.getElem?_append, List.length_take, List.getElem?_take, List.getElem?_drop, List.length_append, List.length_drop]
  rw [Nat.min_eq_left (by omega), Nat.min_eq_left (by omega)]
  by_cases h1 : i = j
  · subst h1
    simp [hi]
    omega
  · by_cases h2 : j < i
    · simp [h1, h2, show j < i + 1 by omega]
    · simp only [h1, h2, if_false, show ¬ j < i + 1 by omega]
      congr 1
      omega

theorem rd_snap (l : List S32) (i : Nat) (h : i < l.length) : rd_T32 l (i : Int) = l[i] := by simp [rd_T32, h]
def sOk (s : S32) : Bool := snapOk s.f0 s.f1
def low1 (a : Int) (s : S32) : Int := match s.f1 with
  | [] => min a s.f0
  | x :: _ => min (min a s.f0) x
def horizon (l : List S32) (next : Int) : Int := if l.length ≤ 400 ∧ 1 ≤ next ∧ next ≤ 401 ∧ l.all sOk = true then l.foldl low1 next else 0
theorem rd_zero {x : Int} {xs : List Int} : rd (x :: xs) 0 = x := rfl
theorem mn_min (a b : Int) : mn a b = min a b := by
  unfold mn
  rw [Int.min_def]
  split <;> split <;> omega
theorem implHorizon_l (l : List S32) (hl : l.length ≤ 400) : ∀ d i : Nat, l.length - i = d → i ≤ l.length → ∀ a, Ev (fun k => impl_Horizon.l0 k a l (l.length : Int) i) ((l.drop i).foldl low1 a) := by
  intro d
  induction d with
  | zero =>
    intro i hd hi a
    obtain rfl : i = l.length := by omega
    rw [List.drop_length]
    refine Ev.step (f := fun _ => some a) (fun k => ?_) (Ev.now _)
    simp only [impl_Horizon.l0]
    rw [if_neg (by omega)]
  | succ d ih =>
    intro i hd hi a
    have hil : i < l.length := by omega
    rw [List.drop_eq_getElem_cons hil, List.foldl_cons]
    refine Ev.step (fun k => ?_) (ih (i + 1) (by omega) (by omega) (low1 a l[i]))
    simp only [impl_Horizon.l0, rd_snap l i hil, mn_min]
    rw [if_pos (by omega), if_pos (by omega), if_pos (by omega), wrap_succ (by omega) (by omega)]
    cases hf : l[i].f1 with
    | nil =>
      rw [if_neg (by simp)]
      simp only [low1, hf]
      rfl
    | cons x xs =>
      rw [if_pos (by simp only [List.length_cons]; omega), if_pos (by simp only [List.length_cons]; omega), rd_zero]
      simp only [low1, hf]
      rfl
theorem implHorizon (l : List S32) (next : Int) (hs : l.length ≤ 1048576 ∧ ∀ x ∈ l, x.f1.length ≤ 1048576) : Ev (fun k => impl_Horizon.f k l next) (horizon l next) := by
  unfold impl_Horizon.f horizon
  have hno : ∀ b : Int, b = 0 → Ev (fun k => impl_Horizon.j0 k l next true) b := fun b hb => by
    subst hb
    refine Ev.step (f := fun _ => some 0) (fun k => ?_) (Ev.now _)
    simp only [impl_Horizon.j0, if_true]
  by_cases h1 : (l.length : Int) > 400
  · exact ev_if_pos h1 (hno _ (if_neg (by omega)))
  · refine ev_if_neg h1 ?_
    refine Ev.bind (ev_eq (within_eq next 1 401)) ?_
    by_cases h2 : 1 ≤ next ∧ next ≤ 401
    · refine ev_if_pos (decide_eq_true h2) ?_
      have hall : Ev (fun k => areAll_Snap_impl_SnapOk.f k l) (l.all sOk) := by
        unfold areAll_Snap_impl_SnapOk.f
        have : ∃ K, ∀ k, K ≤ k → ∀ x ∈ l, impl_SnapOk.f k x.f0 x.f1 = some (sOk x) := by
          have hx := hs.2
          clear h1 hno hs
          induction l with
          | nil => exact ⟨0, fun k _ x hx => by simp at hx⟩
          | cons y ys ih =>
            obtain ⟨K1, hK1⟩ := ih (fun x hx2 => hx x (List.mem_cons_of_mem _ hx2))
            obtain ⟨K2, hK2⟩ := implSnapOk y.f0 y.f1 (hx y List.mem_cons_self)
            refine ⟨max K1 K2, fun k hk x hx2 => ?_⟩
            rcases List.mem_cons.1 hx2 with rfl | h3
            · exact hK2 k (by omega)
            · exact hK1 k (by omega) x h3
        obtain ⟨K, hK⟩ := this
        exact ⟨K, fun k hk => allO_some (hK k hk)⟩
      refine Ev.bind hall ?_
      cases h3 : l.all sOk with
      | false =>
        rw [if_neg (by simp)]
        exact hno 0 rfl
      | true =>
        rw [if_pos ⟨by omega, h2.1, h2.2, rfl⟩]
        have := implHorizon_l l (by omega) l.length 0 (by omega) (by omega) next
        rw [List.drop_zero] at this
        refine Ev.step (fun k => ?_) this
        simp only [impl_Horizon.j0, Bool.not_true, Bool.false_eq_true, if_false]
        rfl
    · refine ev_if_neg (by rw [decide_eq_false h2]; decide) ?_
      exact hno _ (if_neg (fun h => h2 ⟨h.2.1, h.2.2.1⟩))
theorem specHorizon_l (l : List S32) (hl : l.length ≤ 400) (hs : ∀ x ∈ l, x.f1.length ≤ 1048576) : ∀ d i : Nat, l.length - i = d → i ≤ l.length → ∀ a, Ev (fun k => spec_Horizon.l0 k l a i) (if (l.drop i).all sOk = true then (l.drop i).foldl low1 a else 0) := by
  intro d
  induction d with
  | zero =>
    intro i hd hi a
    obtain rfl : i = l.length := by omega
    rw [List.drop_length, List.all_nil, if_pos rfl]
    refine Ev.step (f := fun _ => some a) (fun k => ?_) (Ev.now _)
    simp only [spec_Horizon.l0]
    rw [if_neg (by omega)]
  | succ d ih =>
    intro i hd hi a
    have hil : i < l.length := by omega
    rw [List.drop_eq_getElem_cons hil, List.foldl_cons, List.all_cons]
    have hsn := specSnapOk l[i].f0 l[i].f1 (hs _ (List.getElem_mem _))
    refine Ev.step (f := fun k => (spec_SnapOk.f k l[i].f0 l[i].f1).bind fun t => if t = true then spec_Horizon.l0 k l (low1 a l[i]) ((i + 1 : Nat) : Int) else some 0) (fun k => ?_) ?_
    · simp only [spec_Horizon.l0, rd_snap l i hil]
      rw [if_pos (by omega), if_pos (by omega), wrap_succ (by omega) (by omega)]
      congr 1
      funext t
      split
      · cases hf : l[i].f1 with
        | nil =>
          rw [if_neg (show ¬ (((([] : List Int).length : Nat) : Int) > 0) by simp)]
          simp only [low1, hf]
          by_cases h : l[i].f0 < a
          · rw [if_pos h, show min a l[i].f0 = l[i].f0 by omega]
            rfl
          · rw [if_neg h, show min a l[i].f0 = a by omega]
            rfl
        | cons x xs =>
          rw [if_pos (show (((x :: xs).length : Nat) : Int) > 0 by simp only [List.length_cons]; omega), if_pos (show (0 : Int) < (((x :: xs).length : Nat) : Int) by simp only [List.length_cons]; omega), rd_zero]
          simp only [low1, hf]
          by_cases h : l[i].f0 < a
          · rw [if_pos h, show min a l[i].f0 = l[i].f0 by omega]
            by_cases h2 : x < l[i].f0
            · rw [if_pos h2, show min l[i].f0 x = x by omega]
              rfl
            · rw [if_neg h2, show min l[i].f0 x = l[i].f0 by omega]
              rfl
          · rw [if_neg h, show min a l[i].f0 = a by omega]
            by_cases h2 : x < a
            · rw [if_pos (show (((x :: xs).length : Nat) : Int) > 0 by simp only [List.length_cons]; omega), if_pos (show (0 : Int) < (((x :: xs).length : Nat) : Int) by simp only [List.length_cons]; omega), if_pos h2, show min a x = x by omega]
              rfl
            · rw [if_pos (show (((x :: xs).length : Nat) : Int) > 0 by simp only [List.length_cons]; omega), if_pos (show (0 : Int) < (((x :: xs).length : Nat) : Int) by simp only [List.length_cons]; omega), if_neg h2, show min a x = a by omega]
              rfl
      · rfl
    · refine Ev.bind hsn ?_
      by_cases h : snapOk l[i].f0 l[i].f1 = true
      · refine ev_if_pos h ?_
        rw [show sOk l[i] = true from h, Bool.true_and]
        exact ih (i + 1) (by omega) (by omega) _
      · refine ev_if_neg h ?_
        rw [show sOk l[i] = false from by simpa [sOk] using h, Bool.false_and, if_neg (by decide)]
        exact Ev.now _
theorem specHorizon (l : List S32) (next : Int) (hs : l.length ≤ 1048576 ∧ ∀ x ∈ l, x.f1.length ≤ 1048576) : Ev (fun k => spec_Horizon.f k l next) (horizon l next) := by
  unfold spec_Horizon.f horizon
  have hno : ∀ b : Int, b = 0 → Ev (fun k => spec_Horizon.j0 k l next true) b := fun b hb => by
    subst hb
    refine Ev.step (f := fun _ => some 0) (fun k => ?_) (Ev.now _)
    simp only [spec_Horizon.j0, if_true]
  refine Ev.bind (ev_eq (l5in_eq next 1 401)) ?_
  by_cases h2 : 1 ≤ next ∧ next ≤ 401
  · refine ev_if_pos (decide_eq_true h2) ?_
    by_cases h1 : (l.length : Int) > 400
    · rw [decide_eq_true h1]
      exact hno _ (if_neg (by omega))
    · rw [decide_eq_false h1]
      have := specHorizon_l l (by omega) hs.2 l.length 0 (by omega) (by omega) next
      rw [List.drop_zero] at this
      rw [show (if l.length ≤ 400 ∧ 1 ≤ next ∧ next ≤ 401 ∧ l.all sOk = true then l.foldl low1 next else 0) = if l.all sOk = true then l.foldl low1 next else 0 by
        by_cases h3 : l.all sOk = true
        · rw [if_pos ⟨by omega, h2.1, h2.2, h3⟩, if_pos h3]
        · rw [if_neg (fun h => h3 h.2.2.2), if_neg h3]]
      refine Ev.step (fun k => ?_) this
      simp only [spec_Horizon.j0, Bool.false_eq_true, if_false]
      rfl
  · refine ev_if_neg (by rw [decide_eq_false h2]; decide) ?_
    exact hno _ (if_neg (fun h => h2 ⟨h.2.1, h.2.2.1⟩))

theorem list_tot12 (l : List Int) (hl : l.length ≤ maxLen) (i h : Int) (hi : 0 ≤ i) : ∃ r i' h', Ev (fun k => spec_l8list.f k l i h 12) (r, i', h') ∧ 0 ≤ i' := by
  obtain ⟨b1, i1, h1, e1, p1, q1, iz1⟩ := below_tot l i h 13 hi hl (by omega)
  obtain ⟨d, rfl⟩ := Int.eq_ofNat_of_zero_le p1
  obtain ⟨r, i2, h2, E, hr, iz2⟩ := list_loop l hl d [] i1 h1 (by simp; omega) iz1
  rw [← show wrap64 (12 + 1) = 13 by unfold wrap64; omega] at e1
  exact ⟨r, i2, h2, Ev.bind (ev_eq e1) E, iz2⟩
theorem pickG (l : List Int) (i h : Int) (hi : 0 ≤ i) (hl : l.length ≤ maxLen) (m : List Int) (hm : 0 < m.length) : ∃ b i' h', spec_l1PickInt.f l i h m = some (b, i', h') ∧ 0 ≤ i' := by
  obtain ⟨b, i1, h1, e1, p1, q1, iz1⟩ := below_tot l i h (m.length : Int) hi hl (by omega)
  unfold spec_l1PickInt.f
  rw [e1]
  simp only [Option.bind_some]
  rw [if_pos p1, if_pos q1]
  exact ⟨_, _, _, rfl, iz1⟩
theorem snap_loop (l : List Int) (hl : l.length ≤ maxLen) (self : Int) (hs : 1 ≤ self ∧ self ≤ 10) : ∀ (d : Nat) (x : Int) (run : List Int) (i h : Int), (self - x).toNat = d → 1 ≤ x → run.length + d ≤ 20 → 0 ≤ i →
    ∃ a r i' h', Ev (fun k => spec_l9snap.l0 k x l i h self run) (a, r, i', h') ∧ r.length ≤ 21 ∧ 0 ≤ i' := by
  intro d
  induction d with
  | zero =>
    intro x run i h hd hx hr hi
    obtain ⟨b, i1, h1, e1, p1, q1, iz1⟩ := below_tot l i h 20 hi hl (by omega)
    by_cases h0 : b = 0
    · obtain ⟨c, i2, h2, e2, iz2⟩ := pickG l i1 h1 iz1 hl [0, (-1), 400, 401] (by simp)
      exact ⟨c, run, i2, h2, Ev.step (fun k => rfl) (ev_if_neg (by omega) (Ev.bind (ev_eq e1) (ev_if_pos h0 (Ev.bind (ev_eq e2) (ev_eq rfl))))), by omega, iz2⟩
    by_cases h1' : b = 1
    · exact ⟨self, run ++ [self], i1, h1, Ev.step (fun k => rfl) (ev_if_neg (by omega) (Ev.bind (ev_eq e1) (ev_if_neg h0 (ev_if_pos h1' (ev_if_pos (by omega) (ev_eq rfl)))))), by simp; omega, iz1⟩
    by_cases h2' : b = 2
    · exact ⟨self, [2] ++ run, i1, h1, Ev.step (fun k => rfl) (ev_if_neg (by omega) (Ev.bind (ev_eq e1) (ev_if_neg h0 (ev_if_neg h1' (ev_if_pos h2' (Ev.bind (ev_eq (r := ([2] : List Int)) rfl) (ev_if_pos (by simp; omega) (ev_eq rfl)))))))), by simp; omega, iz1⟩
    by_cases h3' : b = 3
    · exact ⟨self, [0] ++ run, i1, h1, Ev.step (fun k => rfl) (ev_if_neg (by omega) (Ev.bind (ev_eq e1) (ev_if_neg h0 (ev_if_neg h1' (ev_if_neg h2' (ev_if_pos h3' (Ev.bind (ev_eq (r := ([0] : List Int)) rfl) (ev_if_pos (by simp; omega) (ev_eq rfl))))))))), by simp; omega, iz1⟩
    · exact ⟨self, run, i1, h1, Ev.step (fun k => rfl) (ev_if_neg (by omega) (Ev.bind (ev_eq e1) (ev_if_neg h0 (ev_if_neg h1' (ev_if_neg h2' (ev_if_neg h3' (ev_eq rfl))))))), by omega, iz1⟩
  | succ d ih =>
    intro x run i h hd hx hr hi
    obtain ⟨b2, i2, h2, e2, iz2⟩ := once_tot l i h 3 hi hl (by omega)
    have e : wrap64 (x + 1) = x + 1 := wrap_succ (by omega) (by omega)
    cases b2 with
    | true =>
      obtain ⟨a, r, i', h', E, hr', iz⟩ := ih (x + 1) (run ++ [x]) i2 h2 (by omega) (by omega) (by simp; omega) iz2
      refine ⟨a, r, i', h', Ev.step (fun k => rfl) (ev_if_pos (by omega) (Ev.bind (ev_eq e2) (ev_if_pos rfl (ev_if_pos (by omega) ?_)))), hr', iz⟩
      rw [e]
      exact E
    | false =>
      obtain ⟨a, r, i', h', E, hr', iz⟩ := ih (x + 1) run i2 h2 (by omega) (by omega) (by omega) iz2
      refine ⟨a, r, i', h', Ev.step (fun k => rfl) (ev_if_pos (by omega) (Ev.bind (ev_eq e2) (ev_if_neg (show ¬ ((false : Bool) = true) by decide) ?_))), hr', iz⟩
      rw [e]
      exact E
theorem snap_tot (l : List Int) (hl : l.length ≤ maxLen) (i h : Int) (hi : 0 ≤ i) : ∃ a r i' h', Ev (fun k => spec_l9snap.f k l i h) (a, r, i', h') ∧ r.length ≤ 21 ∧ 0 ≤ i' := by
  obtain ⟨b, i1, h1, e1, p1, q1, iz1⟩ := below_tot l i h 10 hi hl (by omega)
  have e : wrap64 (1 + b) = 1 + b := wrap_id (by omega) (by omega)
  obtain ⟨a, r, i', h', E, hr, iz⟩ := snap_loop l hl (1 + b) (by omega) _ 1 [] i1 h1 rfl (by omega) (by simp; omega) iz1
  refine ⟨a, r, i', h', Ev.bind (ev_eq e1) ?_, hr, iz⟩
  rw [e]
  exact E
theorem hor_loop (l : List Int) (hl : l.length ≤ maxLen) : ∀ (d : Nat) (out : List S32) (i h : Int), out.length + d ≤ 3 → (∀ s ∈ out, s.f1.length ≤ 21) → 0 ≤ i →
    ∃ r n, Ev (fun k => spec_DrawHorizon.l0 k out (d : Int) l i h) (r, n) ∧ r.length ≤ 3 ∧ ∀ s ∈ r, s.f1.length ≤ 21 := by
  intro d
  induction d with
  | zero =>
    intro out i h hd ho hi
    obtain ⟨b, i1, h1, e1, p1, q1, iz1⟩ := below_tot l i h 6 hi hl (by omega)
    by_cases h0 : b = 0
    · obtain ⟨c, i2, h2, e2, iz2⟩ := pickG l i1 h1 iz1 hl [0, 1, 401, 402] (by simp)
      exact ⟨out, c, Ev.step (fun k => rfl) (ev_if_neg (by omega) (Ev.bind (ev_eq e1) (ev_if_pos h0 (Ev.bind (ev_eq e2) (ev_eq rfl))))), by omega, ho⟩
    by_cases h1' : b = 1
    · obtain ⟨c, i2, h2, e2, _, _, iz2⟩ := below_tot l i1 h1 12 iz1 hl (by omega)
      exact ⟨out, wrap64 (1 + c), Ev.step (fun k => rfl) (ev_if_neg (by omega) (Ev.bind (ev_eq e1) (ev_if_neg h0 (ev_if_pos h1' (Ev.bind (ev_eq e2) (ev_eq rfl)))))), by omega, ho⟩
    · exact ⟨out, 11, Ev.step (fun k => rfl) (ev_if_neg (by omega) (Ev.bind (ev_eq e1) (ev_if_neg h0 (ev_if_neg h1' (ev_eq rfl))))), by omega, ho⟩
  | succ d ih =>
    intro out i h hd ho hi
    obtain ⟨a, r, i1, h1, E, hr, iz⟩ := snap_tot l hl i h hi
    have e : wrap64 (((d + 1 : Nat) : Int) - 1) = (d : Int) := by unfold wrap64; omega
    obtain ⟨r2, n, E2, h3, h4⟩ := ih (out ++ [(⟨a, r⟩ : S32)]) i1 h1 (by simp; omega) (fun s hs => by
      rcases List.mem_append.1 hs with h5 | h5
      · exact ho s h5
      · obtain rfl : s = _ := by simpa using h5
        exact hr) iz
    refine ⟨r2, n, Ev.step (fun k => rfl) (ev_if_pos (by omega) (Ev.bind E (ev_if_pos (by omega) ?_))), h3, h4⟩
    rw [e]
    exact E2
theorem drawHorizon_tot (l : List Int) (hl : l.length ≤ maxLen) : ∃ r n, Ev (fun k => spec_DrawHorizon.f k l) (r, n) ∧ r.length ≤ 3 ∧ ∀ s ∈ r, s.f1.length ≤ 21 := by
  obtain ⟨h, E0⟩ := new_tot l hl
  obtain ⟨b1, i1, h1, e1, p1, q1, iz1⟩ := below_tot l 0 h 4 (by omega) hl (by omega)
  obtain ⟨d, rfl⟩ := Int.eq_ofNat_of_zero_le p1
  obtain ⟨r, n, E, h2, h3⟩ := hor_loop l hl d [] i1 h1 (by simp; omega) (by simp) iz1
  exact ⟨r, n, Ev.bind E0 (Ev.bind (ev_eq e1) E), h2, h3⟩
theorem drawDead_tot (l : List Int) (hl : l.length ≤ maxLen) : ∃ r a b c, Ev (fun k => spec_DrawDead.f k l) (r, a, b, c) := by
  obtain ⟨h, E0⟩ := new_tot l hl
  obtain ⟨r, i1, h1, E1, iz1⟩ := list_tot12 l hl 0 h (by omega)
  obtain ⟨a, i2, h2, e2, _, _, iz2⟩ := below_tot l i1 h1 13 iz1 hl (by omega)
  obtain ⟨b, i3, h3, e3, _, _, iz3⟩ := below_tot l i2 h2 13 iz2 hl (by omega)
  obtain ⟨c, i4, h4, e4, _, _, iz4⟩ := below_tot l i3 h3 14 iz3 hl (by omega)
  exact ⟨r, a, b, c, Ev.bind E0 (Ev.bind E1 (Ev.bind (ev_eq e2) (Ev.bind (ev_eq e3) (Ev.bind (ev_eq e4) (ev_eq rfl)))))⟩
theorem low1_le (a : Int) (s : S32) : low1 a s ≤ a ∧ low1 a s ≤ s.f0 ∧ ∀ x xs, s.f1 = x :: xs → low1 a s ≤ x := by
  unfold low1
  cases h : s.f1 with
  | nil =>
    dsimp only
    exact ⟨by omega, by omega, fun x xs hx => by cases hx⟩
  | cons y ys =>
    dsimp only
    refine ⟨by omega, by omega, fun x xs hx => ?_⟩
    obtain ⟨rfl, rfl⟩ := List.cons.inj hx
    omega
theorem low_le : ∀ (l : List S32) (n : Int), l.foldl low1 n ≤ n ∧ ∀ s ∈ l, l.foldl low1 n ≤ s.f0 ∧ ∀ x xs, s.f1 = x :: xs → l.foldl low1 n ≤ x
  | [], n => ⟨by simp, by simp⟩
  | t :: ts, n => by
    obtain ⟨h1, h2⟩ := low_le ts (low1 n t)
    obtain ⟨g1, g2, g3⟩ := low1_le n t
    rw [List.foldl_cons]
    refine ⟨by omega, fun s hs => ?_⟩
    rcases List.mem_cons.1 hs with rfl | hs
    · exact ⟨by omega, fun x xs hx => by have := g3 x xs hx; omega⟩
    · exact h2 s hs
theorem asc_mem (self : Int) : ∀ (l : List Int) (last : Int), asc self last l = true → ∀ y ∈ l, last < y
  | [], last, _, y, hy => by cases hy
  | x :: xs, last, h, y, hy => by
    simp only [asc, Bool.and_eq_true, decide_eq_true_eq] at h
    rcases List.mem_cons.1 hy with rfl | hy
    · exact h.1
    · have := asc_mem self xs x h.2.2 y hy
      omega
theorem unseen_step (s : S32) (st : List Int) (a b h : Int) (hok : sOk s = true) (h0 : h ≤ s.f0) (h1 : ∀ x xs, s.f1 = x :: xs → h ≤ x) (hd : dead st a b h = true) (ha : ¬ s.f0 = a) : visible s.f0 s.f1 st a b = false := by
  rw [Bool.eq_false_iff]
  intro hv
  unfold visible at hv
  rw [Bool.and_eq_true, Bool.not_eq_true'] at hv
  obtain ⟨hv1, hv2⟩ := hv
  have hsn : snapOk s.f0 s.f1 = true := hok
  unfold sees at hv1 hv2
  rw [hsn, Bool.true_and] at hv1 hv2
  have e1 : decide (a = s.f0) = false := decide_eq_false (fun e => ha e.symm)
  rw [e1, Bool.false_or, Bool.and_eq_true, beq_iff_eq] at hv1
  have ea := hv1.2
  unfold dead at hd
  rw [ea] at hd
  simp only [show ((1 : Int) == 2) = false by decide, Bool.false_or, Bool.and_eq_true, beq_iff_eq, decide_eq_true_eq] at hd
  obtain ⟨hb1, hb2⟩ := hd
  have hb : 1 ≤ b := by
    by_cases hc : 1 ≤ b ∧ b ≤ 400 ∧ b < (st.length : Int) ∧ 1 ≤ rd st b ∧ rd st b ≤ 2
    · exact hc.1
    · rw [statusOf_neg hc] at hb1
      omega
  have hrun : ¬ b ∈ s.f1 := by
    intro hm
    cases hf : s.f1 with
    | nil => rw [hf] at hm; cases hm
    | cons x xs =>
      have hx := h1 x xs hf
      rw [hf] at hm hsn
      unfold snapOk at hsn
      simp only [asc, Bool.and_eq_true, decide_eq_true_eq] at hsn
      rcases List.mem_cons.1 hm with rfl | hm
      · omega
      · have := asc_mem s.f0 xs x hsn.2.2.2 b hm
        omega
  rw [decide_eq_false (show ¬ b = s.f0 by omega), decide_eq_true (show 1 ≤ b ∧ b < s.f0 by omega), decide_eq_false hrun, hb1] at hv2
  exact absurd hv2 (by decide)
theorem unseen_j1 (l : List S32) (st : List Int) (a b h : Int) (i : Nat) (hil : i < l.length) (hi2 : i ≤ 1000) (hok : sOk l[i] = true) (hrun : l[i].f1.length ≤ 1048576) (ih : Ev (fun k => laws_FnUnseen.l0 k l st a b h ((i + 1 : Nat) : Int)) true) : Ev (fun k => laws_FnUnseen.j1 k l st a b h (i : Int) (dead st a b h) false) true := by
  refine Ev.step (fun k => by simp only [laws_FnUnseen.j1]; rfl) ?_
  simp only [rd_snap l i hil]
  refine ev_if_neg (by decide) (Ev.bind (ev_eq (specDead st a b h)) (ev_if_neg (by simp) (ev_if_pos (by omega) (ev_if_pos (by omega) ?_))))
  refine Ev.bind (implSees l[i].f0 l[i].f1 st l[i].f0 hrun) ?_
  have hs : sees l[i].f0 l[i].f1 st l[i].f0 = true := by
    unfold sees
    rw [show snapOk l[i].f0 l[i].f1 = true from hok, decide_eq_true rfl]
    rfl
  rw [hs]
  refine ev_if_pos rfl ?_
  rw [wrap_succ (by omega) (by omega)]
  exact ih
theorem unseen_loop (l : List S32) (hl : l.length ≤ 3) (hr : ∀ s ∈ l, s.f1.length ≤ 21) (st : List Int) (a b h : Int) (hok : ∀ s ∈ l, sOk s = true) (hlow : ∀ s ∈ l, h ≤ s.f0 ∧ ∀ x xs, s.f1 = x :: xs → h ≤ x) :
    ∀ d i : Nat, l.length - i = d → i ≤ l.length → Ev (fun k => laws_FnUnseen.l0 k l st a b h (i : Int)) true := by
  intro d
  induction d with
  | zero =>
    intro i hd hi
    refine Ev.step (f := fun _ => some true) (fun k => ?_) (Ev.now _)
    simp only [laws_FnUnseen.l0]
    rw [if_neg (by omega)]
  | succ d ih =>
    intro i hd hi
    have hil : i < l.length := by omega
    have hm : l[i] ∈ l := List.getElem_mem _
    have hrun : l[i].f1.length ≤ 1048576 := by have := hr _ hm; omega
    have hj := unseen_j1 l st a b h i hil (by omega) (hok _ hm) hrun (ih (i + 1) (by omega) (by omega))
    refine Ev.step (fun k => by simp only [laws_FnUnseen.l0]; rfl) ?_
    simp only [rd_snap l i hil]
    refine ev_if_pos (by omega) (ev_if_pos (by omega) (ev_if_neg (by have := (hlow _ hm).1; omega) (Ev.bind (ev_eq (implDead st a b h)) ?_)))
    by_cases hd2 : dead st a b h = true
    · refine ev_if_pos hd2 ?_
      by_cases ha : l[i].f0 = a
      · exact ev_if_pos ha hj
      · refine ev_if_neg ha (Ev.bind (implVisible l[i].f0 l[i].f1 st a b hrun) ?_)
        rw [unseen_step l[i] st a b h (hok _ hm) (hlow _ hm).1 (hlow _ hm).2 hd2 ha]
        exact hj
    · exact ev_if_neg hd2 hj
theorem FnUnseen (l0 : List Int) (w0 : l0.length ≤ 9223372036854775807 ∧ ∀ a ∈ l0, (Lit.int .u8 a).wf = true) : ∃ k, laws_FnUnseen.f k l0 = some true := by
  have hl : l0.length ≤ maxLen := w0.1
  clear w0
  suffices h : Ev (fun k => laws_FnUnseen.f k l0) true by
    obtain ⟨k, hk⟩ := h
    exact ⟨k, hk k (Nat.le_refl _)⟩
  by_cases hbig : (l0.length : Int) > 1048576
  · exact Ev.bind (ev_eq (show laws_big.f l0 = some true by unfold laws_big.f; rw [decide_eq_true hbig])) (ev_if_pos rfl (ev_eq rfl))
  refine Ev.bind (ev_eq (show laws_big.f l0 = some false by unfold laws_big.f; rw [decide_eq_false hbig])) (ev_if_neg (by decide) ?_)
  obtain ⟨l, n, E1, hl3, hr⟩ := drawHorizon_tot l0 hl
  obtain ⟨st, a, b, c, E2⟩ := drawDead_tot l0 hl
  have hs : l.length ≤ 1048576 ∧ ∀ x ∈ l, x.f1.length ≤ 1048576 := ⟨by omega, fun x hx => by have := hr x hx; omega⟩
  refine Ev.bind E1 (Ev.bind E2 (Ev.bind (implHorizon l n hs) (Ev.bind (specHorizon l n hs) (ev_if_pos rfl ?_))))
  by_cases hz : horizon l n = 0
  · exact ev_if_pos hz (ev_eq rfl)
  refine ev_if_neg hz ?_
  have hc : l.length ≤ 400 ∧ 1 ≤ n ∧ n ≤ 401 ∧ l.all sOk = true := by
    by_cases hc : l.length ≤ 400 ∧ 1 ≤ n ∧ n ≤ 401 ∧ l.all sOk = true
    · exact hc
    · exact absurd (if_neg hc) hz
  have hh : horizon l n = l.foldl low1 n := if_pos hc
  rw [hh]
  exact unseen_loop l hl3 hr st a b _ (fun s hs2 => List.all_eq_true.1 hc.2.2.2 s hs2) (low_le l n).2 l.length 0 (by omega) (by omega)

end Go.Proofs.Ytjhokmpmecjdhaa.Pure
