/- Floats of 64 bits, in whole numbers: their order, halving and doubling, their fractions made whole: each exact. No program stands in it; no condition beside those that each theorem states. -/
import GoSem.Core.Float
import GoSem.Op.Unary
import Derived.WalkKit
set_option linter.unusedVariables false
namespace Go.Proofs.Ytjhokmpmecjdhaa.HFloat
open Ieee
set_option maxRecDepth 4000
abbrev D := FloatKind.f64.format

theorem D_eq : D = ⟨11, 52⟩ := rfl
theorem D_binade : D.binade = 4503599627370496 := by decide
theorem D_sign : D.signWeight = 9223372036854775808 := by decide
theorem D_inf : D.infRung = 9218868437227405312 := by decide
theorem D_least : D.leastPlace = -1074 := by decide

/-- the magnitude and the place of a rung -/
def mg (r : Nat) : Nat := if r < 4503599627370496 then r else 4503599627370496 + r % 4503599627370496
def pl (r : Nat) : Int := if r < 4503599627370496 then -1074 else -1074 + (r / 4503599627370496 - 1 : Nat)

theorem read_fin {r : Nat} (h : r < 9218868437227405312) : D.read r = .number false (mg r) (pl r) := by
  unfold Format.read mg pl
  rw [D_sign, D_binade, D_inf, D_least]
  have h1 : r % 9223372036854775808 = r := Nat.mod_eq_of_lt (by omega)
  have h2 : r / 9223372036854775808 = 0 := Nat.div_eq_of_lt (by omega)
  rw [h1, h2]
  simp only [h, if_true]
  by_cases hb : r < 4503599627370496
  · simp only [hb, if_true]
    rfl
  · simp only [hb, if_false]
    rfl
theorem read_finN {r : Nat} (h : r < 9218868437227405312) : D.read (9223372036854775808 + r) = .number true (mg r) (pl r) := by
  unfold Format.read mg pl
  rw [D_sign, D_binade, D_inf, D_least]
  have h1 : (9223372036854775808 + r) % 9223372036854775808 = r := by omega
  have h2 : (9223372036854775808 + r) / 9223372036854775808 = 1 := by omega
  rw [h1, h2]
  simp only [h, if_true]
  by_cases hb : r < 4503599627370496
  · simp only [hb, if_true]
    rfl
  · simp only [hb, if_false]
    rfl
theorem read_inf : D.read 9218868437227405312 = .infinity false := by decide
theorem read_infN : D.read (9223372036854775808 + 9218868437227405312) = .infinity true := by decide
theorem read_nan {x : Nat} (h : 9218868437227405312 < x % 9223372036854775808) : ∃ s t, D.read x = .nan s t := by
  unfold Format.read
  rw [D_sign, D_binade, D_inf, D_least]
  simp only []
  rw [if_neg (by omega), if_neg (by omega), if_neg (by omega)]
  exact ⟨_, _, rfl⟩

theorem mg_pos {r : Nat} (h : 0 < r) : 0 < mg r := by unfold mg; split <;> omega
theorem mg_zero : mg 0 = 0 := by decide

/-- doubling what is written at a place one lower -/
theorem nearest_up (f : Format) (neg : Bool) (m : Nat) (p : Int) (hm : 0 < m) : f.nearest neg (2 * m) p = f.nearest neg m (p + 1) := by
  unfold Format.nearest
  rw [if_neg (by omega), if_neg (by omega)]
  have hl : (2 * m).log2 = m.log2 + 1 := by rw [Nat.log2_two_mul (by omega)]
  simp only [hl]
  have e1 : p + ((m.log2 + 1 : Nat) : Int) - f.fractionBits = p + 1 + m.log2 - f.fractionBits := by push_cast; omega
  rw [e1]
  generalize max (p + 1 + (m.log2 : Int) - f.fractionBits) f.leastPlace = last
  congr 3
  rcases Int.lt_or_le p last with h | h
  · -- last > p
    have a1 : (p - last).toNat = 0 := by omega
    have a2 : (p + 1 - last).toNat = 0 := by omega
    have a3 : (last - p).toNat = (last - (p + 1)).toNat + 1 := by omega
    rw [a1, a2, a3]
    generalize (last - (p + 1)).toNat = d
    simp only [Nat.shiftLeft_zero]
    unfold Toward.cut
    simp only [hl]
    have a4 : min (d + 1) (m.log2 + 1 + 2) = min d (m.log2 + 2) + 1 := by omega
    rw [a4]
    generalize min d (m.log2 + 2) = g
    have e2 : 1 <<< (g + 1) = 2 * (1 <<< g) := by simp [Nat.shiftLeft_eq, Nat.pow_succ, Nat.mul_comm]
    have hg : 0 < 1 <<< g := by simp [Nat.shiftLeft_eq, Nat.pow_pos]
    rw [e2]
    generalize 1 <<< g = G at *
    simp only [Nat.mul_div_mul_left _ _ (show 0 < 2 by omega), Nat.mul_mod_mul_left]
    congr 1
    congr 1
    have b1 : decide (2 * G < 2 * (2 * (m % G))) = decide (G < 2 * (m % G)) := by rw [Bool.eq_iff_iff]; simp
    have b2 : (2 * G == 2 * (2 * (m % G))) = (G == 2 * (m % G)) := by
      generalize m % G = x
      rw [Bool.eq_iff_iff]
      simp only [beq_iff_eq]
      omega
    rw [b1, b2]
  · have a1 : (last - p).toNat = 0 := by omega
    have a2 : (last - (p + 1)).toNat = 0 := by omega
    have a3 : (p + 1 - last).toNat = (p - last).toNat + 1 := by omega
    rw [a1, a2, a3]
    have : (2 * m) <<< (p - last).toNat = m <<< ((p - last).toNat + 1) := by
      rw [Nat.shiftLeft_eq, Nat.shiftLeft_eq, Nat.pow_succ]
      rw [Nat.mul_comm 2 m, Nat.mul_assoc, Nat.mul_comm 2]
    rw [this]
theorem nearest_ups (f : Format) (neg : Bool) (m : Nat) (hm : 0 < m) : ∀ (k : Nat) (p : Int), f.nearest neg (m * 2 ^ k) p = f.nearest neg m (p + k)
  | 0, p => by simp
  | k + 1, p => by
    rw [show m * 2 ^ (k + 1) = 2 * (m * 2 ^ k) by rw [Nat.pow_succ]; ac_rfl, nearest_up f neg _ p (Nat.mul_pos hm (Nat.pow_pos (by omega))), nearest_ups f neg m hm k]
    congr 1
    push_cast
    omega
/-- what a rung stands for is written as the rung -/
theorem log2_mg {r : Nat} (h1 : 4503599627370496 ≤ r) : (mg r).log2 = 52 := by
  unfold mg
  rw [if_neg (by omega)]
  rw [Nat.log2_eq_iff (by omega)]
  have : r % 4503599627370496 < 4503599627370496 := Nat.mod_lt _ (by omega)
  constructor
  · show 4503599627370496 ≤ _; omega
  · show _ < 9007199254740992; omega
theorem nearest_fin {r : Nat} (h : r < 9218868437227405312) : D.nearest false (mg r) (pl r) = r := by
  unfold Format.nearest
  rw [D_least, D_inf, D_binade]
  have hf : D.fractionBits = 52 := rfl
  rw [hf]
  have cut0 : ∀ n, Toward.even.cut false n 0 = n := by
    intro n
    unfold Toward.cut
    simp [Nat.mod_one]
  by_cases hz : mg r = 0
  · rw [if_pos hz]
    unfold mg at hz
    split at hz
    · subst hz; rfl
    · omega
  rw [if_neg hz]
  unfold Format.word
  simp only [Bool.false_eq_true, if_false]
  by_cases hb : r < 4503599627370496
  · have hm : mg r = r := by unfold mg; rw [if_pos hb]
    have hp : pl r = -1074 := by unfold pl; rw [if_pos hb]
    rw [hm] at hz ⊢
    rw [hp]
    have hlog : r.log2 < 52 := (Nat.log2_lt hz).2 hb
    have : max (-1074 + (r.log2 : Int) - ((52 : Nat) : Int)) (-1074) = -1074 := by omega
    rw [this]
    simp only [Int.sub_self, Int.toNat_zero, Nat.shiftLeft_zero, Nat.zero_mul, Nat.zero_add, cut0]
    omega
  · have hm : mg r = 4503599627370496 + r % 4503599627370496 := by unfold mg; rw [if_neg hb]
    have hp : pl r = -1074 + (r / 4503599627370496 - 1 : Nat) := by unfold pl; rw [if_neg hb]
    have hlog := log2_mg (r := r) (by omega)
    rw [hlog]
    rw [hp]
    have : max (-1074 + ((r / 4503599627370496 - 1 : Nat) : Int) + ((52 : Nat) : Int) - ((52 : Nat) : Int)) (-1074) = -1074 + ((r / 4503599627370496 - 1 : Nat) : Int) := by omega
    rw [this]
    simp only [Int.sub_self, Int.toNat_zero, Nat.shiftLeft_zero, cut0]
    rw [hm]
    have : (-1074 + ((r / 4503599627370496 - 1 : Nat) : Int) - -1074).toNat = r / 4503599627370496 - 1 := by omega
    rw [this]
    have := Nat.div_add_mod r 4503599627370496
    have h2 : 1 ≤ r / 4503599627370496 := by omega
    obtain ⟨q, hq⟩ : ∃ q, r / 4503599627370496 = q + 1 := ⟨r / 4503599627370496 - 1, by omega⟩
    rw [hq] at this ⊢
    rw [Nat.add_sub_cancel]
    generalize r % 4503599627370496 = s at this ⊢
    have e : q * 4503599627370496 + (4503599627370496 + s) = r := by rw [← this, Nat.mul_add, Nat.mul_comm q]; omega
    rw [e]
    exact Nat.min_eq_left (by omega)

/-- a rung's value in units of the least place -/
def vl (r : Nat) : Nat := mg r * 2 ^ (pl r + 1074).toNat
theorem pl_ge (r : Nat) : -1074 ≤ pl r := by unfold pl; split <;> omega
theorem nearest_vl {r : Nat} (h : r < 9218868437227405312) : D.nearest false (vl r) (-1074) = r := by
  rcases Nat.eq_zero_or_pos r with rfl | hr
  · decide
  · unfold vl
    rw [nearest_ups D false (mg r) (mg_pos hr)]
    have := pl_ge r
    rw [show (-1074 : Int) + ((pl r + 1074).toNat : Nat) = pl r by omega]
    exact nearest_fin h
theorem vl_sub {r : Nat} (h : r < 4503599627370496) : vl r = r := by
  unfold vl mg pl
  rw [if_pos h, if_pos h]
  simp
theorem vl_nor {r : Nat} (h : 4503599627370496 ≤ r) : vl r = (4503599627370496 + r % 4503599627370496) * 2 ^ (r / 4503599627370496 - 1) := by
  unfold vl mg pl
  rw [if_neg (by omega), if_neg (by omega)]
  rw [show (-1074 + ((r / 4503599627370496 - 1 : Nat) : Int) + 1074).toNat = r / 4503599627370496 - 1 by omega]
theorem vl_lt {x y : Nat} (h : x < y) : vl x < vl y := by
  by_cases hy : y < 4503599627370496
  · rw [vl_sub hy, vl_sub (by omega)]; exact h
  · rw [vl_nor (r := y) (by omega)]
    have hyp : 0 < 2 ^ (y / 4503599627370496 - 1) := Nat.pow_pos (by omega)
    by_cases hx : x < 4503599627370496
    · rw [vl_sub hx]
      calc x < 4503599627370496 := hx
        _ ≤ (4503599627370496 + y % 4503599627370496) * 1 := by omega
        _ ≤ _ := Nat.mul_le_mul_left _ hyp
    · rw [vl_nor (r := x) (by omega)]
      have h1 := Nat.div_add_mod x 4503599627370496
      have h2 := Nat.div_add_mod y 4503599627370496
      have h3 : x % 4503599627370496 < 4503599627370496 := Nat.mod_lt _ (by omega)
      rcases Nat.lt_or_ge (x / 4503599627370496) (y / 4503599627370496) with hq | hq
      · have e : y / 4503599627370496 - 1 = (x / 4503599627370496 - 1) + 1 + (y / 4503599627370496 - x / 4503599627370496 - 1) := by omega
        rw [e, Nat.pow_add, Nat.pow_add]
        have hz : 0 < 2 ^ (y / 4503599627370496 - x / 4503599627370496 - 1) := Nat.pow_pos (by omega)
        have hw : 0 < 2 ^ (x / 4503599627370496 - 1) := Nat.pow_pos (by omega)
        generalize 2 ^ (y / 4503599627370496 - x / 4503599627370496 - 1) = Z at *
        generalize 2 ^ (x / 4503599627370496 - 1) = W at *
        calc (4503599627370496 + x % 4503599627370496) * W < (2 * 4503599627370496) * W := Nat.mul_lt_mul_of_pos_right (by omega) hw
          _ = 4503599627370496 * (W * 2 ^ 1 * 1) := by rw [Nat.mul_one, Nat.pow_one, Nat.mul_comm W 2, ← Nat.mul_assoc, Nat.mul_comm 4503599627370496 2]
          _ ≤ 4503599627370496 * (W * 2 ^ 1 * Z) := Nat.mul_le_mul_left _ (Nat.mul_le_mul_left _ hz)
          _ ≤ _ := Nat.mul_le_mul_right _ (by omega)
      · have : x / 4503599627370496 = y / 4503599627370496 := by
          have : x / 4503599627370496 ≤ y / 4503599627370496 := Nat.div_le_div_right (by omega)
          omega
        rw [this] at h1 ⊢
        exact Nat.mul_lt_mul_of_pos_right (by omega) hyp
theorem vl_inj {x y : Nat} (h : vl x = vl y) : x = y := by
  rcases Nat.lt_trichotomy x y with h1 | h1 | h1
  · have := vl_lt h1; omega
  · exact h1
  · have := vl_lt h1; omega
theorem compare_vl (x y : Nat) : compare ((vl x : Nat) : Int) (vl y) = compare x y := by
  rcases Nat.lt_trichotomy x y with h | rfl | h
  · have := vl_lt h
    rw [Nat.compare_eq_lt.2 h, Int.compare_eq_lt.2 (by omega)]
  · rw [Nat.compare_eq_eq.2 rfl, Int.compare_eq_eq.2 rfl]
  · have := vl_lt h
    rw [Nat.compare_eq_gt.2 h, Int.compare_eq_gt.2 (by omega)]
theorem order_fin {x y : Nat} (hx : x < 9218868437227405312) (hy : y < 9218868437227405312) : D.order x y = some (compare x y) := by
  unfold Format.order
  rw [read_fin hx, read_fin hy]
  simp only [Datum.order, signed, Bool.false_eq_true, if_false]
  congr 1
  rw [← compare_vl]
  have h1 := pl_ge x
  have h2 := pl_ge y
  generalize hb : min (pl x) (pl y) = b
  have hb1 : b ≤ pl x := by omega
  have hb2 : b ≤ pl y := by omega
  have hb0 : -1074 ≤ b := by omega
  have e1 : vl x = (mg x <<< (pl x - b).toNat) * 2 ^ (b + 1074).toNat := by
    unfold vl
    rw [Nat.shiftLeft_eq, Nat.mul_assoc, ← Nat.pow_add]
    congr 2
    omega
  have e2 : vl y = (mg y <<< (pl y - b).toNat) * 2 ^ (b + 1074).toNat := by
    unfold vl
    rw [Nat.shiftLeft_eq, Nat.mul_assoc, ← Nat.pow_add]
    congr 2
    omega
  rw [e1, e2]
  have hp : 0 < 2 ^ (b + 1074).toNat := Nat.pow_pos (by omega)
  generalize 2 ^ (b + 1074).toNat = P at *
  generalize mg x <<< (pl x - b).toNat = u
  generalize mg y <<< (pl y - b).toNat = v
  rcases Nat.lt_trichotomy u v with h | rfl | h
  · rw [Int.compare_eq_lt.2 (by omega), Int.compare_eq_lt.2 (by exact_mod_cast Nat.mul_lt_mul_of_pos_right h hp)]
  · rw [Int.compare_eq_eq.2 rfl, Int.compare_eq_eq.2 rfl]
  · rw [Int.compare_eq_gt.2 (by omega), Int.compare_eq_gt.2 (by exact_mod_cast Nat.mul_lt_mul_of_pos_right h hp)]
theorem order_self_fin {x : Nat} (hx : x < 9218868437227405312) : D.order x x = some .eq := by rw [order_fin hx hx, Nat.compare_eq_eq.2 rfl]
/-- twice a rung's value -/
def dbl (x : Nat) : Nat := if x < 4503599627370496 then 2 * x else x + 4503599627370496
theorem vl_dbl (x : Nat) : vl (dbl x) = 2 * vl x := by
  unfold dbl
  split
  · rename_i h
    rw [vl_sub h]
    by_cases h2 : 2 * x < 4503599627370496
    · rw [vl_sub h2]
    · rw [vl_nor (by omega)]
      have : 2 * x / 4503599627370496 = 1 := by omega
      rw [this]
      simp only [Nat.sub_self, Nat.pow_zero, Nat.mul_one]
      omega
  · rename_i h
    rw [vl_nor (by omega), vl_nor (by omega)]
    have e1 : (x + 4503599627370496) % 4503599627370496 = x % 4503599627370496 := by omega
    have e2 : (x + 4503599627370496) / 4503599627370496 - 1 = (x / 4503599627370496 - 1) + 1 := by omega
    rw [e1, e2, Nat.pow_succ]
    generalize 2 ^ (x / 4503599627370496 - 1) = W
    rw [← Nat.mul_assoc, Nat.mul_comm _ 2]
theorem nearest_read {x : Nat} (hx : x < 9218868437227405312) (hp : 0 < x) (k : Nat) {p : Int} (h : p + k = pl x) : D.nearest false (mg x * 2 ^ k) p = x := by
  rw [nearest_ups D false (mg x) (mg_pos hp), h]
  exact nearest_fin hx
theorem nearest_to {y : Nat} (hy : y < 9218868437227405312) {m : Nat} {p : Int} (hm : 0 < m) (hp : -1074 ≤ p) (h : vl y = m * 2 ^ (p + 1074).toNat) : D.nearest false m p = y := by
  have h2 := nearest_vl hy
  rw [h, nearest_ups D false m hm] at h2
  rw [show p = -1074 + ((p + 1074).toNat : Nat) by omega]
  exact h2
theorem read_two : D.read 4611686018427387904 = .number false 4503599627370496 (-51) := by decide
theorem read_one : D.read 4607182418800017408 = .number false 4503599627370496 (-52) := by decide
theorem read_big : D.read 4841369599423283200 = .number false 4503599627370496 0 := by decide
theorem mul_two {x : Nat} (h : dbl x < 9218868437227405312) : D.mul x 4611686018427387904 = some (dbl x) := by
  have hx : x < 9218868437227405312 := by unfold dbl at h; split at h <;> omega
  unfold Format.mul
  rw [read_fin hx, read_two]
  simp only [Datum.product, Option.map_some, Format.write, Bool.xor_false]
  congr 1
  rcases Nat.eq_zero_or_pos x with rfl | hp
  · decide
  · rw [show (4503599627370496 : Nat) = 2 ^ 52 by decide, nearest_ups D false (mg x) (mg_pos hp)]
    apply nearest_to h (mg_pos hp)
    · have := pl_ge x; omega
    · rw [vl_dbl]
      unfold vl
      have := pl_ge x
      rw [show (pl x + -51 + ((52 : Nat) : Int) + 1074).toNat = (pl x + 1074).toNat + 1 by omega, Nat.pow_succ]
      rw [Nat.mul_comm 2 (mg x * _), Nat.mul_assoc]
theorem quot_num (g : Nat) (s t : Bool) (m n : Nat) (i j : Int) (hn : n ≠ 0) : Datum.quotient g (.number s m i) (.number t n j) = some (.number (s ^^ t) (2 * ((m <<< (g + n.log2 - m.log2)) / n) + ((m <<< (g + n.log2 - m.log2)) % n != 0).toNat) (i - j - ((g + n.log2 - m.log2 : Nat) : Int) - 1)) := by
  unfold Datum.quotient
  simp only [hn, if_false]
theorem div_two {x : Nat} (h : 4611686018427387904 ≤ x) (hi : x < 9218868437227405312) : D.div x 4611686018427387904 = some (x - 4503599627370496) := by
  unfold Format.div
  rw [read_fin hi, read_two, quot_num _ _ _ _ _ _ _ (by omega)]
  have hl := log2_mg (r := x) (by omega)
  have hf : D.fractionBits = 52 := rfl
  have h52 : (4503599627370496 : Nat).log2 = 52 := (Nat.log2_eq_iff (by omega)).2 ⟨by decide, by decide⟩
  rw [hl, hf, h52, Option.map_some]
  have e : mg x <<< (52 + 2 + 52 - 52) = 4503599627370496 * (4 * mg x) := by
    rw [Nat.shiftLeft_eq]
    rw [show (52 + 2 + 52 - 52 : Nat) = 54 by omega, show (2 : Nat) ^ 54 = 18014398509481984 by decide]
    omega
  rw [e, Nat.mul_div_cancel_left _ (by omega), Nat.mul_mod_right]
  have hw : ∀ (m : Nat) (p : Int), D.write (.number (false ^^ false) (m + ((0 : Nat) != 0).toNat) p) = D.nearest false m p := fun m p => rfl
  rw [hw]
  refine congrArg some ?_
  have hp : 0 < x := by omega
  rw [show 2 * (4 * mg x) = mg x * 2 ^ 3 by rw [show (2 : Nat) ^ 3 = 8 by decide]; omega, nearest_ups D false (mg x) (mg_pos hp)]
  have e2 : mg x = mg (x - 4503599627370496) := by
    unfold mg
    rw [if_neg (by omega), if_neg (by omega)]
    omega
  have e3 : pl x - -51 - ((52 + 2 + 52 - 52 : Nat) : Int) - 1 + ((3 : Nat) : Int) = pl (x - 4503599627370496) := by
    unfold pl
    rw [if_neg (by omega), if_neg (by omega)]
    omega
  rw [e2, e3]
  exact nearest_fin (by omega)
/-- so many times doubled -/
def dbls : Nat → Nat → Nat
  | 0, x => x
  | k + 1, x => dbls k (dbl x)
theorem vl_dbls : ∀ (k x : Nat), vl (dbls k x) = vl x * 2 ^ k
  | 0, x => by simp [dbls]
  | k + 1, x => by
    rw [dbls, vl_dbls k, vl_dbl, Nat.pow_succ, Nat.mul_comm 2, Nat.mul_assoc, Nat.mul_comm 2]
theorem dbls_succ : ∀ (k x : Nat), dbls (k + 1) x = dbl (dbls k x)
  | 0, x => rfl
  | k + 1, x => by
    show dbls (k + 1) (dbl x) = dbl (dbls k (dbl x))
    exact dbls_succ k (dbl x)
theorem vl_one {K : Nat} (hK : K = 1022) : vl 4607182418800017408 = 2 ^ 52 * 2 ^ K := by
  rw [vl_nor (by omega)]
  rw [show (4607182418800017408 : Nat) % 4503599627370496 = 0 by decide, show (4607182418800017408 : Nat) / 4503599627370496 - 1 = K by rw [hK], Nat.add_zero, show (4503599627370496 : Nat) = 2 ^ 52 by decide]
theorem dbls_lt {r : Nat} (h : r < 4503599627370496) {k : Nat} (hk : k ≤ 1022) : dbls k r < 4607182418800017408 := by
  rcases Nat.lt_or_ge (dbls k r) 4607182418800017408 with h1 | h1
  · exact h1
  · exfalso
    obtain ⟨K, hK⟩ : ∃ K : Nat, K = 1022 := ⟨_, rfl⟩
    rw [← hK] at hk
    have h2 : vl 4607182418800017408 ≤ vl (dbls k r) := by
      rcases Nat.lt_or_eq_of_le h1 with h3 | h3
      · exact Nat.le_of_lt (vl_lt h3)
      · rw [← h3]; exact Nat.le_refl _
    rw [vl_one hK, vl_dbls, vl_sub h] at h2
    have h3 : r * 2 ^ k < 2 ^ 52 * 2 ^ K := by
      calc r * 2 ^ k < 2 ^ 52 * 2 ^ k := Nat.mul_lt_mul_of_pos_right (by rw [show (2 : Nat) ^ 52 = 4503599627370496 by decide]; exact h) (Nat.pow_pos (by omega))
        _ ≤ _ := Nat.mul_le_mul_left _ (Nat.pow_le_pow_right (by omega) hk)
    exact absurd h2 (Nat.not_le.2 h3)
theorem dbls_zero : ∀ k, dbls k 0 = 0
  | 0 => rfl
  | k + 1 => by rw [dbls]; exact dbls_zero k
theorem dbls_pos {r : Nat} (h : 0 < r) (k : Nat) : 0 < dbls k r := by
  rcases Nat.eq_zero_or_pos (dbls k r) with h1 | h1
  · exfalso
    have h2 := vl_dbls k r
    rw [h1] at h2
    have h3 : 0 < vl r := by unfold vl; exact Nat.mul_pos (mg_pos h) (Nat.pow_pos (by omega))
    have h4 : 0 < vl r * 2 ^ k := Nat.mul_pos h3 (Nat.pow_pos (by omega))
    have h5 : vl 0 = 0 := by decide
    omega
  · exact h1
theorem sum_num (s t : Bool) (m n : Nat) (i : Int) : Datum.sum (.number s m i) (.number t n i) = some (.number (if signed s m 0 + signed t n 0 = 0 then s && t else decide (signed s m 0 + signed t n 0 < 0)) (signed s m 0 + signed t n 0).natAbs i) := by
  unfold Datum.sum
  simp only [Int.min_self, Int.sub_self, Int.toNat_zero]
theorem sub_one {f : Nat} (h : f < 4503599627370496) : D.sub (4607182418800017408 + f) 4607182418800017408 = some (dbls 1022 f) := by
  unfold Format.sub
  have hm : mg (4607182418800017408 + f) = 4503599627370496 + f := by unfold mg; rw [if_neg (by omega)]; omega
  have hp : pl (4607182418800017408 + f) = -52 := by unfold pl; rw [if_neg (by omega)]; omega
  rw [read_fin (by omega), hm, hp, read_one]
  show ((Datum.number false (4503599627370496 + f) (-52)).sum (.number true 4503599627370496 (-52))).map D.write = _
  rw [sum_num, Option.map_some]
  have e1 : signed false (4503599627370496 + f) 0 = ((4503599627370496 + f : Nat) : Int) := by simp [signed]
  have e2 : signed true 4503599627370496 0 = -((4503599627370496 : Nat) : Int) := by simp [signed]
  have e3 : signed false (4503599627370496 + f) 0 + signed true 4503599627370496 0 = (f : Int) := by rw [e1, e2]; omega
  rw [e3]
  have e4 : (if (f : Int) = 0 then false && true else decide ((f : Int) < 0)) = false := by
    split
    · rfl
    · simp
  rw [e4]
  have hw : ∀ (m : Nat) (p : Int), D.write (.number false m p) = D.nearest false m p := fun m p => rfl
  rw [hw]
  refine congrArg some ?_
  rw [Int.natAbs_natCast]
  rcases Nat.eq_zero_or_pos f with rfl | hf
  · rw [dbls_zero]; rfl
  · refine nearest_to ?_ hf (by omega) ?_
    · exact Nat.lt_trans (dbls_lt h (by omega)) (by omega)
    · rw [vl_dbls, vl_sub h, show ((-52 : Int) + 1074).toNat = 1022 by decide]
theorem scaled_aux {f : Nat} (h : f < 4503599627370496) (hf : 0 < f) : ∃ d : Nat, d ≤ 52 ∧ mg (dbls 1022 f) = f * 2 ^ d ∧ pl (dbls 1022 f) + 52 = -(d : Int) ∧ 4503599627370496 ≤ dbls 1022 f := by
  have hl := dbls_lt h (Nat.le_refl 1022)
  obtain ⟨K, hK⟩ : ∃ K : Nat, K = 1022 := ⟨_, rfl⟩
  rw [← hK] at hl ⊢
  have hv : vl (dbls K f) = f * 2 ^ K := by rw [vl_dbls, vl_sub h]
  generalize dbls K f = y at *
  have hB : 4503599627370496 ≤ y := by
    rcases Nat.lt_or_ge y 4503599627370496 with h1 | h1
    · exfalso
      rw [vl_sub h1] at hv
      have : 2 ^ 52 ≤ 1 * 2 ^ K := by rw [Nat.one_mul]; exact Nat.pow_le_pow_right (by omega) (by omega)
      have h3 : 1 * 2 ^ K ≤ f * 2 ^ K := Nat.mul_le_mul_right _ hf
      rw [show (2 : Nat) ^ 52 = 4503599627370496 by decide] at this
      exact absurd h1 (Nat.not_lt.2 (by rw [hv]; exact Nat.le_trans this h3))
    · exact h1
  have hlog := log2_mg hB
  have hp := pl_ge y
  unfold vl at hv
  have hm0 : mg y ≠ 0 := by have := mg_pos (r := y) (by omega); omega
  have hmlt : mg y < 2 ^ 53 := by
    have := (Nat.log2_eq_iff hm0).1 hlog
    exact this.2
  have hmge : 2 ^ 52 ≤ mg y := by
    have := (Nat.log2_eq_iff hm0).1 hlog
    exact this.1
  obtain ⟨a, ha⟩ : ∃ a : Nat, (pl y + 1074).toNat = a := ⟨_, rfl⟩
  rw [ha] at hv
  have ha2 : pl y = (a : Int) - 1074 := by omega
  have hle : a ≤ K := by
    rcases Nat.lt_or_ge K a with h1 | h1
    · exfalso
      have h2 : 2 ^ 52 * 2 ^ (K + 1) ≤ mg y * 2 ^ a := Nat.mul_le_mul hmge (Nat.pow_le_pow_right (by omega) h1)
      have h3 : f * 2 ^ K < 2 ^ 52 * 2 ^ (K + 1) := by
        calc f * 2 ^ K < 2 ^ 52 * 2 ^ K := Nat.mul_lt_mul_of_pos_right (by rw [show (2 : Nat) ^ 52 = 4503599627370496 by decide]; exact h) (Nat.pow_pos (by omega))
          _ ≤ _ := Nat.mul_le_mul_left _ (Nat.pow_le_pow_right (by omega) (by omega))
      rw [hv] at h2
      exact absurd h3 (Nat.not_lt.2 h2)
    · exact h1
  have hd : mg y = f * 2 ^ (K - a) := by
    have e : f * 2 ^ K = (f * 2 ^ (K - a)) * 2 ^ a := by
      rw [Nat.mul_assoc, ← Nat.pow_add]
      congr 2
      omega
    rw [e] at hv
    exact Nat.eq_of_mul_eq_mul_right (Nat.pow_pos (by omega)) hv
  refine ⟨K - a, ?_, hd, ?_, hB⟩
  · rcases Nat.lt_or_ge 52 (K - a) with h1 | h1
    · exfalso
      have h2 : 1 * 2 ^ 53 ≤ f * 2 ^ (K - a) := Nat.mul_le_mul hf (Nat.pow_le_pow_right (by omega) h1)
      rw [← hd, Nat.one_mul] at h2
      exact absurd hmlt (Nat.not_lt.2 h2)
    · exact h1
  · rw [ha2]; omega
/-- the fraction of a float, made whole -/
def whole (f : Nat) : Nat := if f = 0 then 0 else dbls 1022 f + 234187180623265792
theorem mul_big {f : Nat} (h : f < 4503599627370496) : D.mul (dbls 1022 f) 4841369599423283200 = some (whole f) := by
  unfold whole
  split
  · rename_i h0
    subst h0
    rw [dbls_zero]
    decide
  · rename_i h0
    obtain ⟨d, hd, hm, hp, hB⟩ := scaled_aux h (by omega)
    have hl := dbls_lt h (Nat.le_refl 1022)
    generalize dbls 1022 f = y at *
    unfold Format.mul
    rw [read_fin (by omega), read_big]
    show some (D.nearest (false ^^ false) (mg y * 4503599627370496) (pl y + 0)) = _
    refine congrArg some ?_
    rw [Int.add_zero, show (4503599627370496 : Nat) = 2 ^ 52 by decide, nearest_ups D _ (mg y) (mg_pos (by omega))]
    have e1 : mg y = mg (y + 234187180623265792) := by
      unfold mg
      rw [if_neg (by omega), if_neg (by omega)]
      omega
    have e2 : pl y + ((52 : Nat) : Int) = pl (y + 234187180623265792) := by
      unfold pl
      rw [if_neg (by omega), if_neg (by omega)]
      omega
    rw [e1, e2]
    exact nearest_fin (by omega)
theorem cut_zero (s : Bool) (f d : Nat) (h : d ≤ (f * 2 ^ d).log2 + 2) : Toward.zero.cut s (f * 2 ^ d) d = f := by
  unfold Toward.cut
  simp only [Bool.toNat_false, Nat.add_zero]
  rw [Nat.min_eq_left h, Nat.shiftLeft_eq, Nat.one_mul, Nat.mul_div_cancel _ (Nat.pow_pos (by omega))]
theorem int_whole {f : Nat} (h : f < 4503599627370496) : (D.read (whole f)).toInt .zero = some (f : Int) := by
  unfold whole
  split
  · rename_i h0
    subst h0
    decide
  · rename_i h0
    obtain ⟨d, hd, hm, hp, hB⟩ := scaled_aux h (by omega)
    have hl := dbls_lt h (Nat.le_refl 1022)
    have hlog := log2_mg hB
    generalize dbls 1022 f = y at *
    have e1 : mg (y + 234187180623265792) = mg y := by
      unfold mg
      rw [if_neg (by omega), if_neg (by omega)]
      omega
    have e2 : pl (y + 234187180623265792) = -(d : Int) := by
      rw [← hp]
      unfold pl
      rw [if_neg (by omega), if_neg (by omega)]
      omega
    rw [read_fin (by omega), e1, e2]
    unfold Datum.toInt Datum.integral
    simp only [signed, Bool.false_eq_true, if_false]
    have e3 : (-(d : Int)).toNat = 0 := by omega
    have e4 : (- -(d : Int)).toNat = d := by omega
    rw [e3, e4, Nat.shiftLeft_zero, Nat.shiftLeft_zero]
    rw [hm, cut_zero false f d (by rw [← hm, hlog]; omega)]

theorem order_eq_nan {x : Nat} (h : 9218868437227405312 < x % 9223372036854775808) (y : Nat) : D.order x y = none := by
  obtain ⟨s, t, e⟩ := read_nan h
  unfold Format.order
  rw [e]
  rfl
theorem order_nan_r {x : Nat} (h : 9218868437227405312 < x % 9223372036854775808) (y : Nat) : D.order y x = none := by
  obtain ⟨s, t, e⟩ := read_nan h
  unfold Format.order
  rw [e]
  cases D.read y <;> rfl
theorem order_inf {y : Nat} (h : y < 9218868437227405312) : D.order 9218868437227405312 y = some .gt := by
  unfold Format.order
  rw [read_inf, read_fin h]
  rfl
theorem order_infN {y : Nat} (h : y < 9218868437227405312) : D.order (9223372036854775808 + 9218868437227405312) y = some .lt := by
  unfold Format.order
  rw [read_infN, read_fin h]
  rfl
theorem order_infN2 {y : Nat} (h : y < 9218868437227405312) : D.order y 9218868437227405312 = some .lt := by
  unfold Format.order
  rw [read_inf, read_fin h]
  rfl
theorem order_self {x : Nat} (h : x % 9223372036854775808 ≤ 9218868437227405312) : D.order x x = some .eq := by
  unfold Format.order
  have hb : ∀ b : Bool, compare b.toNat b.toNat = Ordering.eq := by decide
  cases e : D.read x with
  | nan s t =>
    exfalso
    unfold Format.read at e
    rw [D_sign, D_binade, D_inf, D_least] at e
    simp only [] at e
    split at e
    · cases e
    · split at e
      · cases e
      · split at e
        · cases e
        · omega
  | infinity s =>
    simp only [Datum.order, hb]
  | number s m p =>
    simp only [Datum.order]
    rw [Int.compare_eq_eq.2 rfl]
theorem order_negZero {r : Nat} (h : r < 9218868437227405312) : D.order (9223372036854775808 + r) 0 = some (if r = 0 then .eq else .lt) := by
  unfold Format.order
  rw [read_finN h, show D.read 0 = .number false 0 (-1074) by decide]
  simp only [Datum.order, signed, Bool.false_eq_true, if_false, if_true, Nat.zero_shiftLeft]
  congr 1
  split
  · rename_i h0
    subst h0
    rw [mg_zero, Nat.zero_shiftLeft]
    decide
  · rename_i h0
    have h1 : 0 < mg r <<< (pl r - min (pl r) (-1074)).toNat := by
      rw [Nat.shiftLeft_eq]
      exact Nat.mul_pos (mg_pos (by omega)) (Nat.pow_pos (by omega))
    exact Int.compare_eq_lt.2 (by omega)
/-- a float that is no number -/
def isN (x : Nat) : Bool := decide (9218868437227405312 < x % 9223372036854775808)
/-- the order against zero -/
theorem order_zero {x : Nat} (hx : x < 18446744073709551616) (h : x % 9223372036854775808 ≤ 9218868437227405312) : D.order x 0 = some (if x % 9223372036854775808 = 0 then .eq else if x < 9223372036854775808 then .gt else .lt) := by
  rcases Nat.lt_or_ge x 9223372036854775808 with h1 | h1
  · have e : x % 9223372036854775808 = x := Nat.mod_eq_of_lt h1
    rw [e] at h ⊢
    rcases Nat.lt_or_eq_of_le h with h2 | h2
    · rw [order_fin h2 (by omega)]
      split
      · rename_i h0; subst h0; rfl
      · rw [Nat.compare_eq_gt.2 (by omega)]
    · subst h2
      rw [order_inf (by omega)]
      rfl
  · obtain ⟨r, rfl⟩ : ∃ r, x = 9223372036854775808 + r := ⟨x - 9223372036854775808, by omega⟩
    have e : (9223372036854775808 + r) % 9223372036854775808 = r := by omega
    rw [e] at h ⊢
    rcases Nat.lt_or_eq_of_le h with h2 | h2
    · rw [order_negZero h2]
      rw [if_neg (show ¬ (9223372036854775808 + r < 9223372036854775808) by omega)]
    · subst h2
      rw [order_infN (by omega)]
      rfl
theorem div_zero : D.div 4607182418800017408 0 = some 9218868437227405312 := by decide
theorem div_zeroN : D.div 4607182418800017408 9223372036854775808 = some (9223372036854775808 + 9218868437227405312) := by decide
theorem neg_pos {r : Nat} (h : r < 9223372036854775808) : Op.negFloat .f64 (9223372036854775808 + r) = r := by
  unfold Op.negFloat
  rw [show 2 ^ (FloatKind.f64.format.exponentBits + FloatKind.f64.format.fractionBits) = 2 ^ 63 by rfl]
  rw [show 9223372036854775808 + r = 2 ^ 63 * 1 + r by omega, Nat.two_pow_add_eq_or_of_lt (by omega) 1]
  apply Nat.eq_of_testBit_eq
  intro i
  simp only [Nat.testBit_xor, Nat.testBit_or, Nat.mul_one]
  by_cases hi : i = 63
  · subst hi
    rw [Nat.testBit_two_pow_self, Nat.testBit_lt_two_pow (show r < 2 ^ 63 by omega)]
    rfl
  · rw [Nat.testBit_two_pow_of_ne (by omega)]
    simp
section
variable {P : Program} (w : World)
/-- An operation of two floats that is valid: its bits. -/
def floatBits' (op : BinOp) (k : FloatKind) (x y : Nat) : Option Nat :=
  match op with
  | .add => k.format.add x y
  | .sub => k.format.sub x y
  | .mul => k.format.mul x y
  | .quo => k.format.div x y
  | _ => none
theorem run_float_arith (op : BinOp) (t : TypeId) (k : FloatKind) (x y r : Nat) (h : floatBits' op k x y = some r) : (binOp op t (.float k x) (.float k y)).run P w = .ok (.float k r) w := by
  unfold floatBits' at h
  cases op <;> simp only at h <;> first | (cases h; done) | skip
  all_goals simp [binOp, Op.floatArith, h]
/-- A float made whole, where that lies in the kind. -/
def floatToIntVal (src : FloatKind) (bits : Nat) (dst : IntKind) : Option Int :=
  match (src.decode bits).toInt .zero with
  | some n => if dst.min ≤ n ∧ n ≤ dst.max then some n else none
  | none => none
theorem run_convert_float_int (src dst : TypeId) (s : FloatKind) (k : IntKind) (b : Nat) (n : Int) (hs : (P.underlying src).isSome = true) (hd : P.underlying dst = some (.int k)) (h : floatToIntVal s b k = some n) :
    (convert src dst (.float s b)).run P w = .ok (.int k n) w := by
  obtain ⟨u, hs'⟩ := Option.isSome_iff_exists.1 hs
  unfold floatToIntVal at h
  split at h
  · rename_i m he
    split at h
    · rename_i hb
      cases h
      cases u <;> simp [convert, run_underlying hs', run_underlying hd, Conv.floatToInt, he, hb.1, hb.2]
    · cases h
  · cases h
end
theorem floor_whole {f : Nat} (h : f < 4503599627370496) : floatToIntVal .f64 (whole f) .u64 = some (f : Int) := by
  unfold floatToIntVal FloatKind.decode
  rw [show (FloatKind.f64.format.read (whole f)).toInt .zero = some (f : Int) from int_whole h]
  simp only []
  rw [if_pos]
  exact ⟨by show (0 : Int) ≤ _; omega, by show _ ≤ (18446744073709551615 : Int); omega⟩
/-- the bits of a float, those of all that are no numbers made the same -/
def canon (x : Nat) : Nat := if isN x then 9221120237041090560 else x
theorem or_parts {s e f : Nat} (hs : s = 0 ∨ s = 9223372036854775808) (he : e < 2048) (hf : f < 4503599627370496) : (s ||| e * 4503599627370496) ||| f = s + e * 4503599627370496 + f := by
  have h1 : e * 4503599627370496 ||| f = e * 4503599627370496 + f := by
    rw [show e * 4503599627370496 = 2 ^ 52 * e by omega]
    exact (Nat.two_pow_add_eq_or_of_lt (by omega) e).symm
  rw [Nat.or_assoc, h1]
  rcases hs with rfl | rfl
  · simp
  · rw [show (9223372036854775808 : Nat) = 2 ^ 63 * 1 by omega, ← Nat.two_pow_add_eq_or_of_lt (by omega) 1]
    omega
/-- The comparisons, as words that nothing opens by itself. -/
def ordW (v : Ordering) (a b : Nat) (n : Nat) : Bool := if n = 0 then FloatKind.f64.format.order a b == some v else ordW v a b (n - 1)
termination_by n
decreasing_by omega
theorem ordW_eq (v : Ordering) (a b : Nat) : ordW v a b 0 = (FloatKind.f64.format.order a b == some v) := by rw [ordW, if_pos rfl]
def feq (a b : Nat) : Bool := ordW .eq a b 0
def flt (a b : Nat) : Bool := ordW .lt a b 0
def fgt (a b : Nat) : Bool := ordW .gt a b 0
theorem feq_eq (a b : Nat) : feq a b = (FloatKind.f64.format.order a b == some .eq) := ordW_eq _ a b
theorem flt_eq (a b : Nat) : flt a b = (FloatKind.f64.format.order a b == some .lt) := ordW_eq _ a b
theorem fgt_eq (a b : Nat) : fgt a b = (FloatKind.f64.format.order a b == some .gt) := ordW_eq _ a b
end Go.Proofs.Ytjhokmpmecjdhaa.HFloat
