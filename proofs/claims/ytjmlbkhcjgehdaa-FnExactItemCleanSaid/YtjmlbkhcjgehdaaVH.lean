/- What the rows of this seat lean on: kinds of values in memory, walks' steps, floats. Each theorem states its own conditions. -/
import Derived.Test.YtjmlbkhcjgehdaaV
import GoSem.Core.Float
import GoSem.Op.Unary
import Derived.WalkKit
import Derived.Test.YtjmlbkhcjgehdaaProg
import Derived.Laws.Externs
import Derived.Laws.Bits64b
import Derived.Maps.OwnOps
import Derived.Maps.Views
import Derived.Maps.Own
import Derived.ChangeArms
import Derived.Deep.Slices
import Derived.WideShapes
set_option linter.unusedVariables false
set_option linter.unusedSimpArgs false
set_option linter.unusedVariables false
namespace Go.Proofs.Ytjmlbkhcjgehdaa.HFloat
open Ieee
set_option maxRecDepth 4000
abbrev D := FloatKind.f64.format
theorem D_binade : D.binade = 4503599627370496 := by decide
theorem D_sign : D.signWeight = 9223372036854775808 := by decide
theorem D_inf : D.infRung = 9218868437227405312 := by decide
theorem D_least : D.leastPlace = -1074 := by decide
/-- the magnitude and the place of a rung -/
def mg (r : Nat) : Nat := if r < 4503599627370496 then r else 4503599627370496 + r % 4503599627370496
def pl (r : Nat) : Int := if r < 4503599627370496 then -1074 else -1074 + (r / 4503599627370496 - 1 : Nat)
theorem read_fin {r : Nat} (h : r < 9218868437227405312) : D.read r = .number false (mg r) (pl r) := by
  unfold Format.read mg pl
  rw [D_sign, D_binade, D_inf, D_least]
  have h1 : r % 9223372036854775808 = r := Nat.mod_eq_of_lt (by omega)
  have h2 : r / 9223372036854775808 = 0 := Nat.div_eq_of_lt (by omega)
  rw [h1, h2]
  simp only [h, if_true]
  by_cases hb : r < 4503599627370496
  · simp only [hb, if_true]
    rfl
  · simp only [hb, if_false]
    rfl
theorem read_finN {r : Nat} (h : r < 9218868437227405312) : D.read (9223372036854775808 + r) = .number true (mg r) (pl r) := by
  unfold Format.read mg pl
  rw [D_sign, D_binade, D_inf, D_least]
  have h1 : (9223372036854775808 + r) % 9223372036854775808 = r := by omega
  have h2 : (9223372036854775808 + r) / 9223372036854775808 = 1 := by omega
  rw [h1, h2]
  simp only [h, if_true]
  by_cases hb : r < 4503599627370496
  · simp only [hb, if_true]
    rfl
  · simp only [hb, if_false]
    rfl
theorem read_inf : D.read 9218868437227405312 = .infinity false := by decide
theorem read_infN : D.read (9223372036854775808 + 9218868437227405312) = .infinity true := by decide
theorem read_nan {x : Nat} (h : 9218868437227405312 < x % 9223372036854775808) : ∃ s t, D.read x = .nan s t := by
  unfold Format.read
  rw [D_sign, D_binade, D_inf, D_least]
  simp only []
  rw [if_neg (by omega), if_neg (by omega), if_neg (by omega)]
  exact ⟨_, _, rfl⟩
theorem mg_pos {r : Nat} (h : 0 < r) : 0 < mg r := by unfold mg; split <;> omega
theorem mg_zero : mg 0 = 0 := by decide
/-- doubling what is written at a place one lower -/
theorem nearest_up (f : Format) (neg : Bool) (m : Nat) (p : Int) (hm : 0 < m) : f.nearest neg (2 * m) p = f.nearest neg m (p + 1) := by
  unfold Format.nearest
  rw [if_neg (by omega), if_neg (by omega)]
  have hl : (2 * m).log2 = m.log2 + 1 := by rw [Nat.log2_two_mul (by omega)]
  simp only [hl]
  have e1 : p + ((m.log2 + 1 : Nat) : Int) - f.fractionBits = p + 1 + m.log2 - f.fractionBits := by push_cast; omega
  rw [e1]
  generalize max (p + 1 + (m.log2 : Int) - f.fractionBits) f.leastPlace = last
  congr 3
  rcases Int.lt_or_le p last with h | h
  · -- last > p
    have a1 : (p - last).toNat = 0 := by omega
    have a2 : (p + 1 - last).toNat = 0 := by omega
    have a3 : (last - p).toNat = (last - (p + 1)).toNat + 1 := by omega
    rw [a1, a2, a3]
    generalize (last - (p + 1)).toNat = d
    simp only [Nat.shiftLeft_zero]
    unfold Toward.cut
    simp only [hl]
    have a4 : min (d + 1) (m.log2 + 1 + 2) = min d (m.log2 + 2) + 1 := by omega
    rw [a4]
    generalize min d (m.log2 + 2) = g
    have e2 : 1 <<< (g + 1) = 2 * (1 <<< g) := by simp [Nat.shiftLeft_eq, Nat.pow_succ, Nat.mul_comm]
    have hg : 0 < 1 <<< g := by simp [Nat.shiftLeft_eq, Nat.pow_pos]
    rw [e2]
    generalize 1 <<< g = G at *
    simp only [Nat.mul_div_mul_left _ _ (show 0 < 2 by omega), Nat.mul_mod_mul_left]
    congr 1
    congr 1
    have b1 : decide (2 * G < 2 * (2 * (m % G))) = decide (G < 2 * (m % G)) := by rw [Bool.eq_iff_iff]; simp
    have b2 : (2 * G == 2 * (2 * (m % G))) = (G == 2 * (m % G)) := by
      generalize m % G = x
      rw [Bool.eq_iff_iff]
      simp only [beq_iff_eq]
      omega
    rw [b1, b2]
  · have a1 : (last - p).toNat = 0 := by omega
    have a2 : (last - (p + 1)).toNat = 0 := by omega
    have a3 : (p + 1 - last).toNat = (p - last).toNat + 1 := by omega
    rw [a1, a2, a3]
    have : (2 * m) <<< (p - last).toNat = m <<< ((p - last).toNat + 1) := by
      rw [Nat.shiftLeft_eq, Nat.shiftLeft_eq, Nat.pow_succ]
      rw [Nat.mul_comm 2 m, Nat.mul_assoc, Nat.mul_comm 2]
    rw [this]
theorem nearest_ups (f : Format) (neg : Bool) (m : Nat) (hm : 0 < m) : ∀ (k : Nat) (p : Int), f.nearest neg (m * 2 ^ k) p = f.nearest neg m (p + k)
  | 0, p => by simp
  | k + 1, p => by
    rw [show m * 2 ^ (k + 1) = 2 * (m * 2 ^ k) by rw [Nat.pow_succ]; ac_rfl, nearest_up f neg _ p (Nat.mul_pos hm (Nat.pow_pos (by omega))), nearest_ups f neg m hm k]
    congr 1
    push_cast
    omega
/-- what a rung stands for is written as the rung -/
theorem log2_mg {r : Nat} (h1 : 4503599627370496 ≤ r) : (mg r).log2 = 52 := by
  unfold mg
  rw [if_neg (by omega)]
  rw [Nat.log2_eq_iff (by omega)]
  have : r % 4503599627370496 < 4503599627370496 := Nat.mod_lt _ (by omega)
  constructor
  · show 4503599627370496 ≤ _; omega
  · show _ < 9007199254740992; omega
theorem nearest_fin {r : Nat} (h : r < 9218868437227405312) : D.nearest false (mg r) (pl r) = r := by
  unfold Format.nearest
  rw [D_least, D_inf, D_binade]
  have hf : D.fractionBits = 52 := rfl
  rw [hf]
  have cut0 : ∀ n, Toward.even.cut false n 0 = n := by
    intro n
    unfold Toward.cut
    simp [Nat.mod_one]
  by_cases hz : mg r = 0
  · rw [if_pos hz]
    unfold mg at hz
    split at hz
    · subst hz; rfl
    · omega
  rw [if_neg hz]
  unfold Format.word
  simp only [Bool.false_eq_true, if_false]
  by_cases hb : r < 4503599627370496
  · have hm : mg r = r := by unfold mg; rw [if_pos hb]
    have hp : pl r = -1074 := by unfold pl; rw [if_pos hb]
    rw [hm] at hz ⊢
    rw [hp]
    have hlog : r.log2 < 52 := (Nat.log2_lt hz).2 hb
    have : max (-1074 + (r.log2 : Int) - ((52 : Nat) : Int)) (-1074) = -1074 := by omega
    rw [this]
    simp only [Int.sub_self, Int.toNat_zero, Nat.shiftLeft_zero, Nat.zero_mul, Nat.zero_add, cut0]
    omega
  · have hm : mg r = 4503599627370496 + r % 4503599627370496 := by unfold mg; rw [if_neg hb]
    have hp : pl r = -1074 + (r / 4503599627370496 - 1 : Nat) := by unfold pl; rw [if_neg hb]
    have hlog := log2_mg (r := r) (by omega)
    rw [hlog]
    rw [hp]
    have : max (-1074 + ((r / 4503599627370496 - 1 : Nat) : Int) + ((52 : Nat) : Int) - ((52 : Nat) : Int)) (-1074) = -1074 + ((r / 4503599627370496 - 1 : Nat) : Int) := by omega
    rw [this]
    simp only [Int.sub_self, Int.toNat_zero, Nat.shiftLeft_zero, cut0]
    rw [hm]
    have : (-1074 + ((r / 4503599627370496 - 1 : Nat) : Int) - -1074).toNat = r / 4503599627370496 - 1 := by omega
    rw [this]
    have := Nat.div_add_mod r 4503599627370496
    have h2 : 1 ≤ r / 4503599627370496 := by omega
    obtain ⟨q, hq⟩ : ∃ q, r / 4503599627370496 = q + 1 := ⟨r / 4503599627370496 - 1, by omega⟩
    rw [hq] at this ⊢
    rw [Nat.add_sub_cancel]
    generalize r % 4503599627370496 = s at this ⊢
    have e : q * 4503599627370496 + (4503599627370496 + s) = r := by rw [← this, Nat.mul_add, Nat.mul_comm q]; omega
    rw [e]
    exact Nat.min_eq_left (by omega)
/-- a rung's value in units of the least place -/
def vl (r : Nat) : Nat := mg r * 2 ^ (pl r + 1074).toNat
theorem pl_ge (r : Nat) : -1074 ≤ pl r := by unfold pl; split <;> omega
theorem nearest_vl {r : Nat} (h : r < 9218868437227405312) : D.nearest false (vl r) (-1074) = r := by
  rcases Nat.eq_zero_or_pos r with rfl | hr
  · decide
  · unfold vl
    rw [nearest_ups D false (mg r) (mg_pos hr)]
    have := pl_ge r
    rw [show (-1074 : Int) + ((pl r + 1074).toNat : Nat) = pl r by omega]
    exact nearest_fin h
theorem vl_sub {r : Nat} (h : r < 4503599627370496) : vl r = r := by
  unfold vl mg pl
  rw [if_pos h, if_pos h]
  simp
theorem vl_nor {r : Nat} (h : 4503599627370496 ≤ r) : vl r = (4503599627370496 + r % 4503599627370496) * 2 ^ (r / 4503599627370496 - 1) := by
  unfold vl mg pl
  rw [if_neg (by omega), if_neg (by omega)]
  rw [show (-1074 + ((r / 4503599627370496 - 1 : Nat) : Int) + 1074).toNat = r / 4503599627370496 - 1 by omega]
theorem vl_lt {x y : Nat} (h : x < y) : vl x < vl y := by
  by_cases hy : y < 4503599627370496
  · rw [vl_sub hy, vl_sub (by omega)]; exact h
  · rw [vl_nor (r := y) (by omega)]
    have hyp : 0 < 2 ^ (y / 4503599627370496 - 1) := Nat.pow_pos (by omega)
    by_cases hx : x < 4503599627370496
    · rw [vl_sub hx]
      calc x < 4503599627370496 := hx
        _ ≤ (4503599627370496 + y % 4503599627370496) * 1 := by omega
        _ ≤ _ := Nat.mul_le_mul_left _ hyp
    · rw [vl_nor (r := x) (by omega)]
      have h1 := Nat.div_add_mod x 4503599627370496
      have h2 := Nat.div_add_mod y 4503599627370496
      have h3 : x % 4503599627370496 < 4503599627370496 := Nat.mod_lt _ (by omega)
      rcases Nat.lt_or_ge (x / 4503599627370496) (y / 4503599627370496) with hq | hq
      · have e : y / 4503599627370496 - 1 = (x / 4503599627370496 - 1) + 1 + (y / 4503599627370496 - x / 4503599627370496 - 1) := by omega
        rw [e, Nat.pow_add, Nat.pow_add]
        have hz : 0 < 2 ^ (y / 4503599627370496 - x / 4503599627370496 - 1) := Nat.pow_pos (by omega)
        have hw : 0 < 2 ^ (x / 4503599627370496 - 1) := Nat.pow_pos (by omega)
        generalize 2 ^ (y / 4503599627370496 - x / 4503599627370496 - 1) = Z at *
        generalize 2 ^ (x / 4503599627370496 - 1) = W at *
        calc (4503599627370496 + x % 4503599627370496) * W < (2 * 4503599627370496) * W := Nat.mul_lt_mul_of_pos_right (by omega) hw
          _ = 4503599627370496 * (W * 2 ^ 1 * 1) := by rw [Nat.mul_one, Nat.pow_one, Nat.mul_comm W 2, ← Nat.mul_assoc, Nat.mul_comm 4503599627370496 2]
          _ ≤ 4503599627370496 * (W * 2 ^ 1 * Z) := Nat.mul_le_mul_left _ (Nat.mul_le_mul_left _ hz)
          _ ≤ _ := Nat.mul_le_mul_right _ (by omega)
      · have : x / 4503599627370496 = y / 4503599627370496 := by
          have : x / 4503599627370496 ≤ y / 4503599627370496 := Nat.div_le_div_right (by omega)
          omega
        rw [this] at h1 ⊢
        exact Nat.mul_lt_mul_of_pos_right (by omega) hyp
theorem compare_vl (x y : Nat) : compare ((vl x : Nat) : Int) (vl y) = compare x y := by
  rcases Nat.lt_trichotomy x y with h | rfl | h
  · have := vl_lt h
    rw [Nat.compare_eq_lt.2 h, Int.compare_eq_lt.2 (by omega)]
  · rw [Nat.compare_eq_eq.2 rfl, Int.compare_eq_eq.2 rfl]
  · have := vl_lt h
    rw [Nat.compare_eq_gt.2 h, Int.compare_eq_gt.2 (by omega)]
theorem order_fin {x y : Nat} (hx : x < 9218868437227405312) (hy : y < 9218868437227405312) : D.order x y = some (compare x y) := by
  unfold Format.order
  rw [read_fin hx, read_fin hy]
  simp only [Datum.order, signed, Bool.false_eq_true, if_false]
  congr 1
  rw [← compare_vl]
  have h1 := pl_ge x
  have h2 := pl_ge y
  generalize hb : min (pl x) (pl y) = b
  have hb1 : b ≤ pl x := by omega
  have hb2 : b ≤ pl y := by omega
  have hb0 : -1074 ≤ b := by omega
  have e1 : vl x = (mg x <<< (pl x - b).toNat) * 2 ^ (b + 1074).toNat := by
    unfold vl
    rw [Nat.shiftLeft_eq, Nat.mul_assoc, ← Nat.pow_add]
    congr 2
    omega
  have e2 : vl y = (mg y <<< (pl y - b).toNat) * 2 ^ (b + 1074).toNat := by
    unfold vl
    rw [Nat.shiftLeft_eq, Nat.mul_assoc, ← Nat.pow_add]
    congr 2
    omega
  rw [e1, e2]
  have hp : 0 < 2 ^ (b + 1074).toNat := Nat.pow_pos (by omega)
  generalize 2 ^ (b + 1074).toNat = P at *
  generalize mg x <<< (pl x - b).toNat = u
  generalize mg y <<< (pl y - b).toNat = v
  rcases Nat.lt_trichotomy u v with h | rfl | h
  · rw [Int.compare_eq_lt.2 (by omega), Int.compare_eq_lt.2 (by exact_mod_cast Nat.mul_lt_mul_of_pos_right h hp)]
  · rw [Int.compare_eq_eq.2 rfl, Int.compare_eq_eq.2 rfl]
  · rw [Int.compare_eq_gt.2 (by omega), Int.compare_eq_gt.2 (by exact_mod_cast Nat.mul_lt_mul_of_pos_right h hp)]
theorem order_self_fin {x : Nat} (hx : x < 9218868437227405312) : D.order x x = some .eq := by rw [order_fin hx hx, Nat.compare_eq_eq.2 rfl]
/-- twice a rung's value -/
def dbl (x : Nat) : Nat := if x < 4503599627370496 then 2 * x else x + 4503599627370496
theorem vl_dbl (x : Nat) : vl (dbl x) = 2 * vl x := by
  unfold dbl
  split
  · rename_i h
    rw [vl_sub h]
    by_cases h2 : 2 * x < 4503599627370496
    · rw [vl_sub h2]
    · rw [vl_nor (by omega)]
      have : 2 * x / 4503599627370496 = 1 := by omega
      rw [this]
      simp only [Nat.sub_self, Nat.pow_zero, Nat.mul_one]
      omega
  · rename_i h
    rw [vl_nor (by omega), vl_nor (by omega)]
    have e1 : (x + 4503599627370496) % 4503599627370496 = x % 4503599627370496 := by omega
    have e2 : (x + 4503599627370496) / 4503599627370496 - 1 = (x / 4503599627370496 - 1) + 1 := by omega
    rw [e1, e2, Nat.pow_succ]
    generalize 2 ^ (x / 4503599627370496 - 1) = W
    rw [← Nat.mul_assoc, Nat.mul_comm _ 2]
theorem nearest_to {y : Nat} (hy : y < 9218868437227405312) {m : Nat} {p : Int} (hm : 0 < m) (hp : -1074 ≤ p) (h : vl y = m * 2 ^ (p + 1074).toNat) : D.nearest false m p = y := by
  have h2 := nearest_vl hy
  rw [h, nearest_ups D false m hm] at h2
  rw [show p = -1074 + ((p + 1074).toNat : Nat) by omega]
  exact h2
theorem read_two : D.read 4611686018427387904 = .number false 4503599627370496 (-51) := by decide
theorem read_one : D.read 4607182418800017408 = .number false 4503599627370496 (-52) := by decide
theorem read_big : D.read 4841369599423283200 = .number false 4503599627370496 0 := by decide
theorem mul_two {x : Nat} (h : dbl x < 9218868437227405312) : D.mul x 4611686018427387904 = some (dbl x) := by
  have hx : x < 9218868437227405312 := by unfold dbl at h; split at h <;> omega
  unfold Format.mul
  rw [read_fin hx, read_two]
  simp only [Datum.product, Option.map_some, Format.write, Bool.xor_false]
  congr 1
  rcases Nat.eq_zero_or_pos x with rfl | hp
  · decide
  · rw [show (4503599627370496 : Nat) = 2 ^ 52 by decide, nearest_ups D false (mg x) (mg_pos hp)]
    apply nearest_to h (mg_pos hp)
    · have := pl_ge x; omega
    · rw [vl_dbl]
      unfold vl
      have := pl_ge x
      rw [show (pl x + -51 + ((52 : Nat) : Int) + 1074).toNat = (pl x + 1074).toNat + 1 by omega, Nat.pow_succ]
      rw [Nat.mul_comm 2 (mg x * _), Nat.mul_assoc]
theorem quot_num (g : Nat) (s t : Bool) (m n : Nat) (i j : Int) (hn : n ≠ 0) : Datum.quotient g (.number s m i) (.number t n j) = some (.number (s ^^ t) (2 * ((m <<< (g + n.log2 - m.log2)) / n) + ((m <<< (g + n.log2 - m.log2)) % n != 0).toNat) (i - j - ((g + n.log2 - m.log2 : Nat) : Int) - 1)) := by
  unfold Datum.quotient
  simp only [hn, if_false]
theorem div_two {x : Nat} (h : 4611686018427387904 ≤ x) (hi : x < 9218868437227405312) : D.div x 4611686018427387904 = some (x - 4503599627370496) := by
  unfold Format.div
  rw [read_fin hi, read_two, quot_num _ _ _ _ _ _ _ (by omega)]
  have hl := log2_mg (r := x) (by omega)
  have hf : D.fractionBits = 52 := rfl
  have h52 : (4503599627370496 : Nat).log2 = 52 := (Nat.log2_eq_iff (by omega)).2 ⟨by decide, by decide⟩
  rw [hl, hf, h52, Option.map_some]
  have e : mg x <<< (52 + 2 + 52 - 52) = 4503599627370496 * (4 * mg x) := by
    rw [Nat.shiftLeft_eq]
    rw [show (52 + 2 + 52 - 52 : Nat) = 54 by omega, show (2 : Nat) ^ 54 = 18014398509481984 by decide]
    omega
  rw [e, Nat.mul_div_cancel_left _ (by omega), Nat.mul_mod_right]
  have hw : ∀ (m : Nat) (p : Int), D.write (.number (false ^^ false) (m + ((0 : Nat) != 0).toNat) p) = D.nearest false m p := fun m p => rfl
  rw [hw]
  refine congrArg some ?_
  have hp : 0 < x := by omega
  rw [show 2 * (4 * mg x) = mg x * 2 ^ 3 by rw [show (2 : Nat) ^ 3 = 8 by decide]; omega, nearest_ups D false (mg x) (mg_pos hp)]
  have e2 : mg x = mg (x - 4503599627370496) := by
    unfold mg
    rw [if_neg (by omega), if_neg (by omega)]
    omega
  have e3 : pl x - -51 - ((52 + 2 + 52 - 52 : Nat) : Int) - 1 + ((3 : Nat) : Int) = pl (x - 4503599627370496) := by
    unfold pl
    rw [if_neg (by omega), if_neg (by omega)]
    omega
  rw [e2, e3]
  exact nearest_fin (by omega)
/-- so many times doubled -/
def dbls : Nat → Nat → Nat
  | 0, x => x
  | k + 1, x => dbls k (dbl x)
theorem vl_dbls : ∀ (k x : Nat), vl (dbls k x) = vl x * 2 ^ k
  | 0, x => by simp [dbls]
  | k + 1, x => by
    rw [dbls, vl_dbls k, vl_dbl, Nat.pow_succ, Nat.mul_comm 2, Nat.mul_assoc, Nat.mul_comm 2]
theorem dbls_succ : ∀ (k x : Nat), dbls (k + 1) x = dbl (dbls k x)
  | 0, x => rfl
  | k + 1, x => by
    show dbls (k + 1) (dbl x) = dbl (dbls k (dbl x))
    exact dbls_succ k (dbl x)
theorem vl_one {K : Nat} (hK : K = 1022) : vl 4607182418800017408 = 2 ^ 52 * 2 ^ K := by
  rw [vl_nor (by omega)]
  rw [show (4607182418800017408 : Nat) % 4503599627370496 = 0 by decide, show (4607182418800017408 : Nat) / 4503599627370496 - 1 = K by rw [hK], Nat.add_zero, show (4503599627370496 : Nat) = 2 ^ 52 by decide]
theorem dbls_lt {r : Nat} (h : r < 4503599627370496) {k : Nat} (hk : k ≤ 1022) : dbls k r < 4607182418800017408 := by
  rcases Nat.lt_or_ge (dbls k r) 4607182418800017408 with h1 | h1
  · exact h1
  · exfalso
    obtain ⟨K, hK⟩ : ∃ K : Nat, K = 1022 := ⟨_, rfl⟩
    rw [← hK] at hk
    have h2 : vl 4607182418800017408 ≤ vl (dbls k r) := by
      rcases Nat.lt_or_eq_of_le h1 with h3 | h3
      · exact Nat.le_of_lt (vl_lt h3)
      · rw [← h3]; exact Nat.le_refl _
    rw [vl_one hK, vl_dbls, vl_sub h] at h2
    have h3 : r * 2 ^ k < 2 ^ 52 * 2 ^ K := by
      calc r * 2 ^ k < 2 ^ 52 * 2 ^ k := Nat.mul_lt_mul_of_pos_right (by rw [show (2 : Nat) ^ 52 = 4503599627370496 by decide]; exact h) (Nat.pow_pos (by omega))
        _ ≤ _ := Nat.mul_le_mul_left _ (Nat.pow_le_pow_right (by omega) hk)
    exact absurd h2 (Nat.not_le.2 h3)
theorem dbls_zero : ∀ k, dbls k 0 = 0
  | 0 => rfl
  | k + 1 => by rw [dbls]; exact dbls_zero k
theorem sum_num (s t : Bool) (m n : Nat) (i : Int) : Datum.sum (.number s m i) (.number t n i) = some (.number (if signed s m 0 + signed t n 0 = 0 then s && t else decide (signed s m 0 + signed t n 0 < 0)) (signed s m 0 + signed t n 0).natAbs i) := by
  unfold Datum.sum
  simp only [Int.min_self, Int.sub_self, Int.toNat_zero]
theorem sub_one {f : Nat} (h : f < 4503599627370496) : D.sub (4607182418800017408 + f) 4607182418800017408 = some (dbls 1022 f) := by
  unfold Format.sub
  have hm : mg (4607182418800017408 + f) = 4503599627370496 + f := by unfold mg; rw [if_neg (by omega)]; omega
  have hp : pl (4607182418800017408 + f) = -52 := by unfold pl; rw [if_neg (by omega)]; omega
  rw [read_fin (by omega), hm, hp, read_one]
  show ((Datum.number false (4503599627370496 + f) (-52)).sum (.number true 4503599627370496 (-52))).map D.write = _
  rw [sum_num, Option.map_some]
  have e1 : signed false (4503599627370496 + f) 0 = ((4503599627370496 + f : Nat) : Int) := by simp [signed]
  have e2 : signed true 4503599627370496 0 = -((4503599627370496 : Nat) : Int) := by simp [signed]
  have e3 : signed false (4503599627370496 + f) 0 + signed true 4503599627370496 0 = (f : Int) := by rw [e1, e2]; omega
  rw [e3]
  have e4 : (if (f : Int) = 0 then false && true else decide ((f : Int) < 0)) = false := by
    split
    · rfl
    · simp
  rw [e4]
  have hw : ∀ (m : Nat) (p : Int), D.write (.number false m p) = D.nearest false m p := fun m p => rfl
  rw [hw]
  refine congrArg some ?_
  rw [Int.natAbs_natCast]
  rcases Nat.eq_zero_or_pos f with rfl | hf
  · rw [dbls_zero]; rfl
  · refine nearest_to ?_ hf (by omega) ?_
    · exact Nat.lt_trans (dbls_lt h (by omega)) (by omega)
    · rw [vl_dbls, vl_sub h, show ((-52 : Int) + 1074).toNat = 1022 by decide]
theorem scaled_aux {f : Nat} (h : f < 4503599627370496) (hf : 0 < f) : ∃ d : Nat, d ≤ 52 ∧ mg (dbls 1022 f) = f * 2 ^ d ∧ pl (dbls 1022 f) + 52 = -(d : Int) ∧ 4503599627370496 ≤ dbls 1022 f := by
  have hl := dbls_lt h (Nat.le_refl 1022)
  obtain ⟨K, hK⟩ : ∃ K : Nat, K = 1022 := ⟨_, rfl⟩
  rw [← hK] at hl ⊢
  have hv : vl (dbls K f) = f * 2 ^ K := by rw [vl_dbls, vl_sub h]
  generalize dbls K f = y at *
  have hB : 4503599627370496 ≤ y := by
    rcases Nat.lt_or_ge y 4503599627370496 with h1 | h1
    · exfalso
      rw [vl_sub h1] at hv
      have : 2 ^ 52 ≤ 1 * 2 ^ K := by rw [Nat.one_mul]; exact Nat.pow_le_pow_right (by omega) (by omega)
      have h3 : 1 * 2 ^ K ≤ f * 2 ^ K := Nat.mul_le_mul_right _ hf
      rw [show (2 : Nat) ^ 52 = 4503599627370496 by decide] at this
      exact absurd h1 (Nat.not_lt.2 (by rw [hv]; exact Nat.le_trans this h3))
    · exact h1
  have hlog := log2_mg hB
  have hp := pl_ge y
  unfold vl at hv
  have hm0 : mg y ≠ 0 := by have := mg_pos (r := y) (by omega); omega
  have hmlt : mg y < 2 ^ 53 := by
    have := (Nat.log2_eq_iff hm0).1 hlog
    exact this.2
  have hmge : 2 ^ 52 ≤ mg y := by
    have := (Nat.log2_eq_iff hm0).1 hlog
    exact this.1
  obtain ⟨a, ha⟩ : ∃ a : Nat, (pl y + 1074).toNat = a := ⟨_, rfl⟩
  rw [ha] at hv
  have ha2 : pl y = (a : Int) - 1074 := by omega
  have hle : a ≤ K := by
    rcases Nat.lt_or_ge K a with h1 | h1
    · exfalso
      have h2 : 2 ^ 52 * 2 ^ (K + 1) ≤ mg y * 2 ^ a := Nat.mul_le_mul hmge (Nat.pow_le_pow_right (by omega) h1)
      have h3 : f * 2 ^ K < 2 ^ 52 * 2 ^ (K + 1) := by
        calc f * 2 ^ K < 2 ^ 52 * 2 ^ K := Nat.mul_lt_mul_of_pos_right (by rw [show (2 : Nat) ^ 52 = 4503599627370496 by decide]; exact h) (Nat.pow_pos (by omega))
          _ ≤ _ := Nat.mul_le_mul_left _ (Nat.pow_le_pow_right (by omega) (by omega))
      rw [hv] at h2
      exact absurd h3 (Nat.not_lt.2 h2)
    · exact h1
  have hd : mg y = f * 2 ^ (K - a) := by
    have e : f * 2 ^ K = (f * 2 ^ (K - a)) * 2 ^ a := by
      rw [Nat.mul_assoc, ← Nat.pow_add]
      congr 2
      omega
    rw [e] at hv
    exact Nat.eq_of_mul_eq_mul_right (Nat.pow_pos (by omega)) hv
  refine ⟨K - a, ?_, hd, ?_, hB⟩
  · rcases Nat.lt_or_ge 52 (K - a) with h1 | h1
    · exfalso
      have h2 : 1 * 2 ^ 53 ≤ f * 2 ^ (K - a) := Nat.mul_le_mul hf (Nat.pow_le_pow_right (by omega) h1)
      rw [← hd, Nat.one_mul] at h2
      exact absurd hmlt (Nat.not_lt.2 h2)
    · exact h1
  · rw [ha2]; omega
/-- the fraction of a float, made whole -/
def whole (f : Nat) : Nat := if f = 0 then 0 else dbls 1022 f + 234187180623265792
theorem mul_big {f : Nat} (h : f < 4503599627370496) : D.mul (dbls 1022 f) 4841369599423283200 = some (whole f) := by
  unfold whole
  split
  · rename_i h0
    subst h0
    rw [dbls_zero]
    decide
  · rename_i h0
    obtain ⟨d, hd, hm, hp, hB⟩ := scaled_aux h (by omega)
    have hl := dbls_lt h (Nat.le_refl 1022)
    generalize dbls 1022 f = y at *
    unfold Format.mul
    rw [read_fin (by omega), read_big]
    show some (D.nearest (false ^^ false) (mg y * 4503599627370496) (pl y + 0)) = _
    refine congrArg some ?_
    rw [Int.add_zero, show (4503599627370496 : Nat) = 2 ^ 52 by decide, nearest_ups D _ (mg y) (mg_pos (by omega))]
    have e1 : mg y = mg (y + 234187180623265792) := by
      unfold mg
      rw [if_neg (by omega), if_neg (by omega)]
      omega
    have e2 : pl y + ((52 : Nat) : Int) = pl (y + 234187180623265792) := by
      unfold pl
      rw [if_neg (by omega), if_neg (by omega)]
      omega
    rw [e1, e2]
    exact nearest_fin (by omega)
theorem cut_zero (s : Bool) (f d : Nat) (h : d ≤ (f * 2 ^ d).log2 + 2) : Toward.zero.cut s (f * 2 ^ d) d = f := by
  unfold Toward.cut
  simp only [Bool.toNat_false, Nat.add_zero]
  rw [Nat.min_eq_left h, Nat.shiftLeft_eq, Nat.one_mul, Nat.mul_div_cancel _ (Nat.pow_pos (by omega))]
theorem int_whole {f : Nat} (h : f < 4503599627370496) : (D.read (whole f)).toInt .zero = some (f : Int) := by
  unfold whole
  split
  · rename_i h0
    subst h0
    decide
  · rename_i h0
    obtain ⟨d, hd, hm, hp, hB⟩ := scaled_aux h (by omega)
    have hl := dbls_lt h (Nat.le_refl 1022)
    have hlog := log2_mg hB
    generalize dbls 1022 f = y at *
    have e1 : mg (y + 234187180623265792) = mg y := by
      unfold mg
      rw [if_neg (by omega), if_neg (by omega)]
      omega
    have e2 : pl (y + 234187180623265792) = -(d : Int) := by
      rw [← hp]
      unfold pl
      rw [if_neg (by omega), if_neg (by omega)]
      omega
    rw [read_fin (by omega), e1, e2]
    unfold Datum.toInt Datum.integral
    simp only [signed, Bool.false_eq_true, if_false]
    have e3 : (-(d : Int)).toNat = 0 := by omega
    have e4 : (- -(d : Int)).toNat = d := by omega
    rw [e3, e4, Nat.shiftLeft_zero, Nat.shiftLeft_zero]
    rw [hm, cut_zero false f d (by rw [← hm, hlog]; omega)]
theorem order_eq_nan {x : Nat} (h : 9218868437227405312 < x % 9223372036854775808) (y : Nat) : D.order x y = none := by
  obtain ⟨s, t, e⟩ := read_nan h
  unfold Format.order
  rw [e]
  rfl
theorem order_inf {y : Nat} (h : y < 9218868437227405312) : D.order 9218868437227405312 y = some .gt := by
  unfold Format.order
  rw [read_inf, read_fin h]
  rfl
theorem order_infN {y : Nat} (h : y < 9218868437227405312) : D.order (9223372036854775808 + 9218868437227405312) y = some .lt := by
  unfold Format.order
  rw [read_infN, read_fin h]
  rfl
theorem order_self {x : Nat} (h : x % 9223372036854775808 ≤ 9218868437227405312) : D.order x x = some .eq := by
  unfold Format.order
  have hb : ∀ b : Bool, compare b.toNat b.toNat = Ordering.eq := by decide
  cases e : D.read x with
  | nan s t =>
    exfalso
    unfold Format.read at e
    rw [D_sign, D_binade, D_inf, D_least] at e
    simp only [] at e
    split at e
    · cases e
    · split at e
      · cases e
      · split at e
        · cases e
        · omega
  | infinity s =>
    simp only [Datum.order, hb]
  | number s m p =>
    simp only [Datum.order]
    rw [Int.compare_eq_eq.2 rfl]
theorem order_negZero {r : Nat} (h : r < 9218868437227405312) : D.order (9223372036854775808 + r) 0 = some (if r = 0 then .eq else .lt) := by
  unfold Format.order
  rw [read_finN h, show D.read 0 = .number false 0 (-1074) by decide]
  simp only [Datum.order, signed, Bool.false_eq_true, if_false, if_true, Nat.zero_shiftLeft]
  congr 1
  split
  · rename_i h0
    subst h0
    rw [mg_zero, Nat.zero_shiftLeft]
    decide
  · rename_i h0
    have h1 : 0 < mg r <<< (pl r - min (pl r) (-1074)).toNat := by
      rw [Nat.shiftLeft_eq]
      exact Nat.mul_pos (mg_pos (by omega)) (Nat.pow_pos (by omega))
    exact Int.compare_eq_lt.2 (by omega)
/-- a float that is no number -/
def isN (x : Nat) : Bool := decide (9218868437227405312 < x % 9223372036854775808)
/-- the order against zero -/
theorem order_zero {x : Nat} (hx : x < 18446744073709551616) (h : x % 9223372036854775808 ≤ 9218868437227405312) : D.order x 0 = some (if x % 9223372036854775808 = 0 then .eq else if x < 9223372036854775808 then .gt else .lt) := by
  rcases Nat.lt_or_ge x 9223372036854775808 with h1 | h1
  · have e : x % 9223372036854775808 = x := Nat.mod_eq_of_lt h1
    rw [e] at h ⊢
    rcases Nat.lt_or_eq_of_le h with h2 | h2
    · rw [order_fin h2 (by omega)]
      split
      · rename_i h0; subst h0; rfl
      · rw [Nat.compare_eq_gt.2 (by omega)]
    · subst h2
      rw [order_inf (by omega)]
      rfl
  · obtain ⟨r, rfl⟩ : ∃ r, x = 9223372036854775808 + r := ⟨x - 9223372036854775808, by omega⟩
    have e : (9223372036854775808 + r) % 9223372036854775808 = r := by omega
    rw [e] at h ⊢
    rcases Nat.lt_or_eq_of_le h with h2 | h2
    · rw [order_negZero h2]
      rw [if_neg (show ¬ (9223372036854775808 + r < 9223372036854775808) by omega)]
    · subst h2
      rw [order_infN (by omega)]
      rfl
theorem div_zero : D.div 4607182418800017408 0 = some 9218868437227405312 := by decide
theorem div_zeroN : D.div 4607182418800017408 9223372036854775808 = some (9223372036854775808 + 9218868437227405312) := by decide
theorem neg_pos {r : Nat} (h : r < 9223372036854775808) : Op.negFloat .f64 (9223372036854775808 + r) = r := by
  unfold Op.negFloat
  rw [show 2 ^ (FloatKind.f64.format.exponentBits + FloatKind.f64.format.fractionBits) = 2 ^ 63 by rfl]
  rw [show 9223372036854775808 + r = 2 ^ 63 * 1 + r by omega, Nat.two_pow_add_eq_or_of_lt (by omega) 1]
  apply Nat.eq_of_testBit_eq
  intro i
  simp only [Nat.testBit_xor, Nat.testBit_or, Nat.mul_one]
  by_cases hi : i = 63
  · subst hi
    rw [Nat.testBit_two_pow_self, Nat.testBit_lt_two_pow (show r < 2 ^ 63 by omega)]
    rfl
  · rw [Nat.testBit_two_pow_of_ne (by omega)]
    simp
section
variable {P : Program} (w : World)
/-- An operation of two floats that is valid: its bits. -/
def floatBits' (op : BinOp) (k : FloatKind) (x y : Nat) : Option Nat :=
  match op with
  | .add => k.format.add x y
  | .sub => k.format.sub x y
  | .mul => k.format.mul x y
  | .quo => k.format.div x y
  | _ => none
theorem run_float_arith (op : BinOp) (t : TypeId) (k : FloatKind) (x y r : Nat) (h : floatBits' op k x y = some r) : (binOp op t (.float k x) (.float k y)).run P w = .ok (.float k r) w := by
  unfold floatBits' at h
  cases op <;> simp only at h <;> first | (cases h; done) | skip
  all_goals simp [binOp, Op.floatArith, h]
/-- A float made whole, where that lies in the kind. -/
def floatToIntVal (src : FloatKind) (bits : Nat) (dst : IntKind) : Option Int :=
  match (src.decode bits).toInt .zero with
  | some n => if dst.min ≤ n ∧ n ≤ dst.max then some n else none
  | none => none
theorem run_convert_float_int (src dst : TypeId) (s : FloatKind) (k : IntKind) (b : Nat) (n : Int) (hs : (P.underlying src).isSome = true) (hd : P.underlying dst = some (.int k)) (h : floatToIntVal s b k = some n) :
    (convert src dst (.float s b)).run P w = .ok (.int k n) w := by
  obtain ⟨u, hs'⟩ := Option.isSome_iff_exists.1 hs
  unfold floatToIntVal at h
  split at h
  · rename_i m he
    split at h
    · rename_i hb
      cases h
      cases u <;> simp [convert, run_underlying hs', run_underlying hd, Conv.floatToInt, he, hb.1, hb.2]
    · cases h
  · cases h
end
theorem floor_whole {f : Nat} (h : f < 4503599627370496) : floatToIntVal .f64 (whole f) .u64 = some (f : Int) := by
  unfold floatToIntVal FloatKind.decode
  rw [show (FloatKind.f64.format.read (whole f)).toInt .zero = some (f : Int) from int_whole h]
  simp only []
  rw [if_pos]
  exact ⟨by show (0 : Int) ≤ _; omega, by show _ ≤ (18446744073709551615 : Int); omega⟩
/-- the bits of a float, those of all that are no numbers made the same -/
def canon (x : Nat) : Nat := if isN x then 9221120237041090560 else x
theorem or_parts {s e f : Nat} (hs : s = 0 ∨ s = 9223372036854775808) (he : e < 2048) (hf : f < 4503599627370496) : (s ||| e * 4503599627370496) ||| f = s + e * 4503599627370496 + f := by
  have h1 : e * 4503599627370496 ||| f = e * 4503599627370496 + f := by
    rw [show e * 4503599627370496 = 2 ^ 52 * e by omega]
    exact (Nat.two_pow_add_eq_or_of_lt (by omega) e).symm
  rw [Nat.or_assoc, h1]
  rcases hs with rfl | rfl
  · simp
  · rw [show (9223372036854775808 : Nat) = 2 ^ 63 * 1 by omega, ← Nat.two_pow_add_eq_or_of_lt (by omega) 1]
    omega
/-- The comparisons, as words that nothing opens by itself. -/
def ordW (v : Ordering) (a b : Nat) (n : Nat) : Bool := if n = 0 then FloatKind.f64.format.order a b == some v else ordW v a b (n - 1)
termination_by n
decreasing_by omega
theorem ordW_eq (v : Ordering) (a b : Nat) : ordW v a b 0 = (FloatKind.f64.format.order a b == some v) := by rw [ordW, if_pos rfl]
def feq (a b : Nat) : Bool := ordW .eq a b 0
def flt (a b : Nat) : Bool := ordW .lt a b 0
def fgt (a b : Nat) : Bool := ordW .gt a b 0
theorem feq_eq (a b : Nat) : feq a b = (FloatKind.f64.format.order a b == some .eq) := ordW_eq _ a b
theorem flt_eq (a b : Nat) : flt a b = (FloatKind.f64.format.order a b == some .lt) := ordW_eq _ a b
theorem fgt_eq (a b : Nat) : fgt a b = (FloatKind.f64.format.order a b == some .gt) := ordW_eq _ a b
end Go.Proofs.Ytjmlbkhcjgehdaa.HFloat
namespace Go.Proofs.Ytjmlbkhcjgehdaa.HFl
open Go.RowKit Go.Proofs.YtjmlbkhcjgehdaaW.PrintWords
/-- A float in a cell: its bits. -/
def kfl : Kd Nat := Kd.scalar (Value.float .f64) (fun _ => rfl)
/-- A float stored into a cell. -/
@[go_sem] theorem run_store_float {P : Program} {w : World} {a : Addr} {m : Mode} (k : FloatKind) (n : Nat) : (store a (.float k n) m).run P w = stored P w a (.float k n) m := run_store P w a _ m rfl
section
variable {P : Program} {t : TypeId} (x y : Nat) (w : World)
@[go_sem] theorem run_eql_float : (binOp .eql t (.float .f64 x) (.float .f64 y)).run P w = .ok (.bool (HFloat.feq x y)) w := by rw [HFloat.feq_eq]; simp [binOp, Op.floatCmp]
@[go_sem] theorem run_neq_float : (binOp .neq t (.float .f64 x) (.float .f64 y)).run P w = .ok (.bool (!HFloat.feq x y)) w := by rw [HFloat.feq_eq]; simp [binOp, Op.floatCmp]; rfl
@[go_sem] theorem run_lss_float : (binOp .lss t (.float .f64 x) (.float .f64 y)).run P w = .ok (.bool (HFloat.flt x y)) w := by rw [HFloat.flt_eq]; simp [binOp, Op.floatCmp]
@[go_sem] theorem run_leq_float : (binOp .leq t (.float .f64 x) (.float .f64 y)).run P w = .ok (.bool (HFloat.flt x y || HFloat.feq x y)) w := by rw [HFloat.flt_eq, HFloat.feq_eq]; simp [binOp, Op.floatCmp]
@[go_sem] theorem run_gtr_float : (binOp .gtr t (.float .f64 x) (.float .f64 y)).run P w = .ok (.bool (HFloat.fgt x y)) w := by rw [HFloat.fgt_eq]; simp [binOp, Op.floatCmp]
@[go_sem] theorem run_geq_float : (binOp .geq t (.float .f64 x) (.float .f64 y)).run P w = .ok (.bool (HFloat.fgt x y || HFloat.feq x y)) w := by rw [HFloat.fgt_eq, HFloat.feq_eq]; simp [binOp, Op.floatCmp]
@[go_sem] theorem run_neg_float (k : FloatKind) : (Op.unary .neg (.float k x)).run P w = .ok (.float k (Op.negFloat k x)) w := by simp [Op.unary]
end
@[go_sem] theorem run_float64bits (b : Nat) (w : World) : (callFunc 121 #[.float .f64 b]).run Try.prog w = .ok (.value (.int .u64 b)) w := by
  rw [run_callFunc_extern Try.func121 (by kernel_rfl) (by kernel_rfl) (by kernel_rfl) (e := Extern.MathFloatBits.float64bits) (by kernel_rfl)]
  rfl
end Go.Proofs.Ytjmlbkhcjgehdaa.HFl
namespace Go.Proofs.Ytjmlbkhcjgehdaa.HMap
open Go.RowKit Go.Maps Go.WideMaps Go.Proofs.YtjmlbkhcjgehdaaW.PrintWords
set_option linter.unusedVariables false
def BMap (w : World) (P : Program) (k e : TypeId) (b n : Nat) (f : Int → Bool) : Prop :=
  ∃ D : DataW Unit, w.ownsMap P k (plainElem P e) b n D ∧ IsMap D ∧ ∀ x : Int, (Lit.int .i64 x).wf = true → D.atKey (.int .i64 x) (.lit (.bool false)) = .lit (.bool (f x))
section
variable {P : Program} {k e t : TypeId} {w : World} {b n : Nat} {f : Int → Bool}
theorem BMap.made (w : World) : BMap (w.alloc (.map #[] 0)) P k e w.heap.size 0 (fun _ => false) :=
  ⟨_, World.ownsMap_made _ _ _ _, by first | exact ⟨_, rfl⟩ | trivial, fun x hx => rfl⟩
theorem BMap.kept {w' : World} {row : Option Nat} (h : BMap w P k e b n f) (hg : w.grownBy w' row) (hne : some b ≠ row) : BMap w' P k e b n f := by
  obtain ⟨D, h1, h2, h3⟩ := h
  exact ⟨D, h1.kept hg hne, h2, h3⟩
theorem BMap.lt (h : BMap w P k e b n f) : b < w.heap.size := by
  obtain ⟨D, ⟨es, clock, hb, _⟩, _⟩ := h
  exact (Array.getElem?_eq_some_iff.1 hb).1
theorem BMap.below {w' : World} (h : BMap w P k e b n f) (hb : Below w.heap.size w w') : BMap w' P k e b n f := h.kept (grown_of_below hb none) (by simp)
theorem BMap.alloc (h : BMap w P k e b n f) (o : Obj) : BMap (w.alloc o) P k e b n f := h.kept (World.grownBy_alloc w o none) (by simp)
theorem BMap.set {a : Addr} (h : BMap w P k e b n f) (ha : b ≠ a.block) (u : Value) : BMap (w.setCell a u) P k e b n f := by
  obtain ⟨D, ⟨es, clock, hb, F, hs, hD⟩, h2, h3⟩ := h
  exact ⟨D, ⟨es, clock, by rw [Below.heap_setCell w a u b ha]; exact hb, F, hs, hD⟩, h2, h3⟩
theorem BMap.look (h : BMap w P k e b n f) (K : Keyed P k) (ht : P.underlying t = some (.map k e)) (hk : P.underlying k = some (.int .i64)) (he : P.underlying e = some .bool) (hz : (zeroValue e).run P w = .ok (.bool false) w) (x : Int) (hx : (Lit.int .i64 x).wf = true) :
    (Instr.lookup t (.map (some b)) (.int .i64 x) false).run P w = .ok (.bool (f x)) w := by
  obtain ⟨D, h1, h2, h3⟩ := h
  obtain ⟨v, ps, hrun, hv⟩ := h1.lookup K ht hz (plainElem_bool he false) (keyOf_int_mk hk hx)
  rw [h3 x hx] at hv
  rw [hrun]
  have : v = .bool (f x) := by
    unfold plainElem at hv
    rw [he] at hv
    split at hv <;> simp_all
  rw [this]
theorem BMap.put (h : BMap w P k e b n f) (K : Keyed P k) (ht : P.underlying t = some (.map k e)) (hk : P.underlying k = some (.int .i64)) (he : P.underlying e = some .bool) (hn : n < maxLen) (x : Int) (hx : (Lit.int .i64 x).wf = true) :
    ∃ w', (Instr.mapUpdate t (.map (some b)) (.int .i64 x) (.bool true)).run P w = .ok () w' ∧ BMap w' P k e b (n + 1) (fun y => if y = x then true else f y) ∧ w.grownBy w' (some b) := by
  obtain ⟨D, h1, h2, h3⟩ := h
  obtain ⟨w', hrun, h4, h5⟩ := h1.update K ht hn (keyOf_int_mk hk hx) (plainElem_bool he true)
  refine ⟨w', hrun, ⟨_, h4, ?_, fun y hy => ?_⟩, h5⟩
  · obtain ⟨es, rfl⟩ := h2
    exact ⟨_, rfl⟩
  · by_cases hyx : y = x
    · subst hyx
      rw [atKey_put_same h2 (by simp [WideAt.IsKeyLit])]
      simp
    · rw [atKey_put_other (by simpa using hyx)]
      simp [hyx, h3 y hy]
/-- 'm[x]' in the walk. -/
theorem wp_look {ops : Array Oper} {rest : List Oper} {o : Oper} {a : Act} {Q : Exit → Act → World → Prop} (hg : o.guard = none) (m x : Operand) (t : TypeId) (hop : o.op = Op.lookup t m x false) (K : Keyed P k) (ht : P.underlying t = some (.map k e)) (hk : P.underlying k = some (.int .i64)) (he : P.underlying e = some .bool)
    (hz : (zeroValue e).run P w = .ok (.bool false) w) (hm : a.eval m = .map (some b)) (h : BMap w P k e b n f) (y : Int) (hx : a.eval x = .int .i64 y) (hy : (Lit.int .i64 y).wf = true) (hK : wpList P ops Q rest (a.put o.dst (.bool (f y))) w) : wpList P ops Q (o :: rest) a w := by
  refine wpList_plain hg fun K' hK' => ?_
  have hrun := h.look K ht hk he hz y hy
  unfold Oper.wp
  simp [execOp, hop, hm, hx, hrun, Result.andThen]
  exact hK' _ _ hK
/-- 'm[x] = true' in the walk. -/
theorem wp_put {ops : Array Oper} {rest : List Oper} {o : Oper} {a : Act} {Q : Exit → Act → World → Prop} (hg : o.guard = none) (m x v : Operand) (t : TypeId) (hop : o.op = Op.mapUpdate t m x v) (K : Keyed P k) (ht : P.underlying t = some (.map k e)) (hk : P.underlying k = some (.int .i64)) (he : P.underlying e = some .bool)
    (hm : a.eval m = .map (some b)) (h : BMap w P k e b n f) (hn : n < maxLen) (y : Int) (hx : a.eval x = .int .i64 y) (hv : a.eval v = .bool true) (hy : (Lit.int .i64 y).wf = true)
    (hK : ∀ w', BMap w' P k e b (n + 1) (fun z => if z = y then true else f z) → w.grownBy w' (some b) → wpList P ops Q rest (a.put o.dst undef) w') : wpList P ops Q (o :: rest) a w := by
  refine wpList_plain hg fun K' hK' => ?_
  obtain ⟨w', hrun, h1, h2⟩ := h.put K ht hk he hn y hy
  unfold Oper.wp
  simp [execOp, hop, hm, hx, hv, hrun, Result.andThen]
  exact hK' _ _ (hK w' h1 h2)
end
end Go.Proofs.Ytjmlbkhcjgehdaa.HMap
namespace Go.Proofs.Ytjmlbkhcjgehdaa.HMore
open Go.RowKit Go.Proofs.YtjmlbkhcjgehdaaW.PrintWords
/-- The place of the first that is so, or -1. -/
def idxOf {α : Type} (p : α → Bool) (l : List α) : Int := match l.findIdx? p with | some i => i | none => -1
theorem idxOf_hit {α : Type} {p : α → Bool} {l : List α} {k : Nat} (hk : k < l.length) (h : p l[k] = true) (hn : ∀ j, j < k → ∀ h : j < l.length, p l[j] = false) : idxOf p l = k := by
  unfold idxOf
  rw [show l.findIdx? p = some k from List.findIdx?_eq_some_iff_getElem.2 ⟨hk, h, fun j hj => by rw [hn j hj (by omega)]; simp⟩]
theorem idxOf_miss {α : Type} {p : α → Bool} {l : List α} (hn : ∀ j, ∀ h : j < l.length, p l[j] = false) : idxOf p l = -1 := by
  unfold idxOf
  rw [show l.findIdx? p = none from List.findIdx?_eq_none_iff.2 fun x hx => by
    obtain ⟨j, hj, rfl⟩ := List.mem_iff_getElem.1 hx
    exact hn j hj]
theorem idxOf_any {α : Type} (p : α → Bool) (l : List α) : decide (0 ≤ idxOf p l) = l.any p := by
  unfold idxOf
  cases h : l.findIdx? p with
  | none =>
    have := List.findIdx?_eq_none_iff.1 h
    rw [List.any_eq_false.2 (fun x hx => by rw [this x hx]; simp)]
    simp
  | some i =>
    obtain ⟨hi, hp, _⟩ := List.findIdx?_eq_some_iff_getElem.1 h
    rw [List.any_eq_true.2 ⟨l[i], List.getElem_mem _, hp⟩]
    simp
theorem _root_.Go.World.cell?_alloc_new0 (w : World) (cs : Array Value) (t : TypeId) (v : Value) (h : cs[0]? = some v) : (w.alloc (.cells cs t)).cell? ⟨w.heap.size, 0, none⟩ = some v := by
  rw [cell_of_row (w.alloc (.cells cs t)) w.heap.size 0 cs t (0, 0) (heap_alloc_new w _)]
  exact h
/-- Every element asked; nothing where one question has no answer. -/
def allO {α : Type} (g : α → Option Bool) : List α → Option Bool
  | [] => some true
  | x :: xs => (g x).bind fun b => (allO g xs).bind fun c => some (b && c)
theorem allO_inv {α : Type} {g : α → Option Bool} : ∀ {l : List α} {r : Bool}, allO g l = some r → ∃ p : α → Bool, (∀ x ∈ l, g x = some (p x)) ∧ l.all p = r
  | [], r, h => ⟨fun _ => true, by simp, by simpa [allO] using h⟩
  | x :: xs, r, h => by
    simp only [allO, Option.bind_eq_some_iff] at h
    obtain ⟨b, hb, c, hc, h⟩ := h
    obtain ⟨p, hp, hpr⟩ := allO_inv hc
    refine ⟨fun y => (g y).getD true, ?_, ?_⟩
    · intro y hy
      rcases List.mem_cons.1 hy with rfl | hy
      · show g y = some ((g y).getD true)
        rw [hb]
        rfl
      · show g y = some ((g y).getD true)
        rw [hp y hy]
        rfl
    · rw [List.all_cons, hb]
      have : (xs.all fun y => (g y).getD true) = xs.all p := by
        rw [Bool.eq_iff_iff]
        simp only [List.all_eq_true]
        constructor
        · intro h y hy
          have := h y hy
          rwa [hp y hy] at this
        · intro h y hy
          rw [hp y hy]
          exact h y hy
      rw [this, hpr]
      simpa using h
theorem allO_LeO {α : Type} {g g' : α → Option Bool} (h : ∀ x, LeO (g x) (g' x)) : ∀ l : List α, LeO (allO g l) (allO g' l)
  | [] => LeO.refl _
  | x :: xs => LeO.bind (h x) fun _ => LeO.bind (allO_LeO h xs) fun _ => LeO.refl _
theorem any_not {α : Type} (p : α → Bool) : ∀ l : List α, (!(l.any fun x => !(p x))) = l.all p
  | [] => rfl
  | x :: xs => by
    rw [List.any_cons, List.all_cons, Bool.not_or, Bool.not_not, any_not p xs]
/-- The same, asked whether one is so. -/
def anyO {α : Type} (g : α → Option Bool) : List α → Option Bool
  | [] => some false
  | x :: xs => (g x).bind fun b => (anyO g xs).bind fun c => some (b || c)
theorem anyO_some {α : Type} {g : α → Option Bool} {p : α → Bool} : ∀ {l : List α}, (∀ x ∈ l, g x = some (p x)) → anyO g l = some (l.any p)
  | [], _ => rfl
  | x :: xs, h => by
    have h2 : anyO g xs = some (xs.any p) := anyO_some fun y hy => h y (List.mem_cons_of_mem _ hy)
    simp only [anyO, h x (List.mem_cons_self), h2, Option.bind_some, List.any_cons]
theorem asked {α : Type} {g : α → Option Bool} {l : List α} (h : ∀ x ∈ l, ∃ b, g x = some b) : ∃ p : α → Bool, ∀ x ∈ l, g x = some (p x) :=
  ⟨fun y => (g y).getD true, fun x hx => by
    obtain ⟨b, hb⟩ := h x hx
    show g x = some ((g x).getD true)
    rw [hb]
    rfl⟩
theorem anyO_all {α : Type} {g : α → Option Bool} : ∀ {l : List α} {r : Bool}, anyO g l = some r → ∀ x ∈ l, ∃ b, g x = some b
  | x :: xs, r, h, y, hy => by
    simp only [anyO, Option.bind_eq_some_iff] at h
    obtain ⟨b, hb, c, hc, h⟩ := h
    rcases List.mem_cons.1 hy with rfl | hy
    · exact ⟨b, hb⟩
    · exact anyO_all hc y hy
theorem anyO_inv {α : Type} {g : α → Option Bool} {l : List α} {r : Bool} (h : anyO g l = some r) : ∃ p : α → Bool, (∀ x ∈ l, g x = some (p x)) ∧ l.any p = r := by
  obtain ⟨p, hp⟩ := asked (anyO_all h)
  refine ⟨p, hp, ?_⟩
  rw [anyO_some hp] at h
  exact Option.some.inj h
theorem anyO_LeO {α : Type} {g g' : α → Option Bool} (h : ∀ x, LeO (g x) (g' x)) : ∀ l : List α, LeO (anyO g l) (anyO g' l)
  | [] => LeO.refl _
  | x :: xs => LeO.bind (h x) fun _ => LeO.bind (anyO_LeO h xs) fun _ => LeO.refl _
/-- Every element asked for a number. -/
def listO {α : Type} (g : α → Option Int) : List α → Option (List Int)
  | [] => some []
  | x :: xs => (g x).bind fun b => (listO g xs).bind fun c => some (b :: c)
theorem listO_some {α : Type} {g : α → Option Int} {p : α → Int} : ∀ {l : List α}, (∀ x ∈ l, g x = some (p x)) → listO g l = some (l.map p)
  | [], _ => rfl
  | x :: xs, h => by
    have h2 : listO g xs = some (xs.map p) := listO_some fun y hy => h y (List.mem_cons_of_mem _ hy)
    simp only [listO, h x (List.mem_cons_self), h2, Option.bind_some, List.map_cons]
theorem listO_all {α : Type} {g : α → Option Int} : ∀ {l : List α} {r : List Int}, listO g l = some r → ∀ x ∈ l, ∃ b, g x = some b
  | x :: xs, r, h, y, hy => by
    simp only [listO, Option.bind_eq_some_iff] at h
    obtain ⟨b, hb, c, hc, h⟩ := h
    rcases List.mem_cons.1 hy with rfl | hy
    · exact ⟨b, hb⟩
    · exact listO_all hc y hy
/-- Whether no two of them have one number. -/
def diffO {α : Type} (g : α → Option Int) (l : List α) : Option Bool := (listO g l).bind fun ks => if (ks.all fun y => (Lit.int .i64 y).wf) = true then some (decide ks.Nodup) else none
theorem diffO_inv {α : Type} {g : α → Option Int} {l : List α} {r : Bool} (h : diffO g l = some r) : ∃ p : α → Int, (∀ x ∈ l, g x = some (p x)) ∧ (∀ x ∈ l, (Lit.int .i64 (p x)).wf = true) ∧ decide (l.map p).Nodup = r := by
  unfold diffO at h
  obtain ⟨ks, hk, h⟩ := Option.bind_eq_some_iff.1 h
  have ha := listO_all hk
  have hp : ∀ x ∈ l, g x = some ((g x).getD 0) := fun x hx => by
    obtain ⟨b, hb⟩ := ha x hx
    rw [hb]
    rfl
  refine ⟨fun x => (g x).getD 0, hp, ?_⟩
  rw [listO_some hp] at hk
  obtain rfl := Option.some.inj hk
  split at h
  · rename_i hall
    rw [List.all_eq_true] at hall
    exact ⟨fun x hx => hall _ (List.mem_map.2 ⟨x, hx, rfl⟩), Option.some.inj h⟩
  · cases h
end Go.Proofs.Ytjmlbkhcjgehdaa.HMore
namespace Go.Proofs.Ytjmlbkhcjgehdaa.HOpen
open Go.ChangeShapes Go.WideShapes Go.Deep Go.RowKit Go.Proofs.YtjmlbkhcjgehdaaW.PrintWords
/-- A float in a cell: its bits. -/
def kfloat : Kd Nat := Kd.scalar (Value.float .f64) (fun _ => rfl)
/-- Whatever reads as data at type t is of the kind d; ok: what is known of it. -/
def Opens {α : Type} (P : Program) (t : TypeId) (d : Kd α) (ok : α → Prop) : Prop :=
  P.cellsOf t = d.sz ∧ ∀ {H : Type} {enc : TypeId × Value → H} {w : World} {base : Nat} {spare : Nat → Bool} {held : Bool} {fuel : Nat} {cs : List Value} {x : DataW H × List MemPlace},
    DataW.trod enc P w base spare held fuel t cs = some x → ∃ a, d.K w a cs ∧ ok a
/-- The fields from an offset on. -/
def OpensF {α : Type} (P : Program) (fs : List Field) (off : Nat) (d : Kd α) (ok : α → Prop) : Prop :=
  ∀ {H : Type} {enc : TypeId × Value → H} {w : World} {base : Nat} {spare : Nat → Bool} {held : Bool} {fuel : Nat} {cs : List Value},
    cs.length = d.sz → (∀ f ∈ fs, off ≤ f.offset ∧ ∃ y, DataW.trod enc P w base spare held fuel f.type ((cs.drop (f.offset - off)).take (P.cellsOf f.type)) = some y) → ∃ a, d.K w a cs ∧ ok a
section
variable {P : Program} {t : TypeId}
theorem opens_int {k : IntKind} (ht : P.underlying t = some (.int k)) (hc : P.cellsOf t = 1) : Opens P t (Kd.int k) (fun n => (Lit.int k n).wf = true) :=
  ⟨hc, fun {H enc w base spare held fuel cs x} h => by
    obtain ⟨n, rfl, _, hw⟩ := DataW.trod_int ht h
    exact ⟨n, rfl, hw⟩⟩
theorem opens_bool (ht : P.underlying t = some .bool) (hc : P.cellsOf t = 1) : Opens P t Kd.bool (fun _ => True) :=
  ⟨hc, fun {H enc w base spare held fuel cs x} h => by
    obtain ⟨b, rfl, _⟩ := DataW.trod_bool ht h
    exact ⟨b, rfl, trivial⟩⟩
theorem opens_float (ht : P.underlying t = some (.float .f64)) (hc : P.cellsOf t = 1) : Opens P t kfloat (fun b => b < 2 ^ 64) :=
  ⟨hc, fun {H enc w base spare held fuel cs x} h => by
    cases fuel with
    | zero => simp [DataW.trod] at h
    | succ n =>
      unfold DataW.trod at h
      simp only [ht] at h
      split at h <;> try contradiction
      all_goals (rename_i heq; simp at heq)
      split at h <;> try contradiction
      rename_i hb
      obtain ⟨rfl, hb⟩ := hb
      subst heq
      exact ⟨_, rfl, by simpa [Lit.wf] using hb⟩⟩
theorem opens_slice {α : Type} {e : TypeId} {d : Kd α} {ok : α → Prop} (E : Nat) (ht : P.underlying t = some (.slice e)) (hc : P.cellsOf t = 1) (he : Opens P e d ok) : Opens P t (Kd.slice E d) (fun l => l.length ≤ 9223372036854775807 ∧ ∀ a ∈ l, ok a) :=
  ⟨hc, fun {H enc w base spare held fuel cs x} h => by
    rcases open_slice ht h with ⟨rfl, _⟩ | ⟨a, len, cap, m, n, D, Pl, rfl, _, hl, hm, hmm, _, hx⟩
    · exact ⟨[], ⟨none, 0, rfl, by simp, rfl, by simp, fun h => absurd h (by simp)⟩, by simp, by simp⟩
    · have hlm : len ≤ m := by rw [hmm]; split <;> omega
      have hel : ∀ i, i < len → ∃ a' : α, (∃ cs', w.cells? base (a.add (i * P.cellsOf e)) (P.cellsOf e) = some cs' ∧ d.K w a' cs') ∧ ok a' := by
        intro i hi
        obtain ⟨cs', h1, h2⟩ := hx i (by omega)
        obtain ⟨a', h3, h4⟩ := he.2 h2
        exact ⟨a', ⟨cs', h1, h3⟩, h4⟩
      obtain ⟨l, hlen, hl2⟩ : ∃ l : List α, l.length = len ∧ ∀ i a', l[i]? = some a' → (∃ cs', w.cells? base (a.add (i * P.cellsOf e)) (P.cellsOf e) = some cs' ∧ d.K w a' cs') ∧ ok a' := by
        clear hl hlm hx h
        clear hmm
        rename_i hxx
        clear hxx
        induction len with
        | zero => exact ⟨[], rfl, fun i a' h => by simp at h⟩
        | succ n ih =>
          obtain ⟨l, hlen, hl2⟩ := ih (fun i hi => hel i (by omega))
          obtain ⟨z, hz⟩ := hel n (by omega)
          refine ⟨l ++ [z], by simp [hlen], fun i a' h => ?_⟩
          rcases Nat.lt_or_ge i l.length with hi | hi
          · rw [List.getElem?_append_left hi] at h
            exact hl2 i a' h
          · rw [List.getElem?_append_right hi] at h
            have hi2 : i - l.length = 0 := by
              rcases Nat.eq_zero_or_pos (i - l.length) with h0 | h0
              · exact h0
              · rw [List.getElem?_eq_none (by simp; omega)] at h
                cases h
            rw [hi2] at h
            obtain rfl : z = a' := by simpa using h
            obtain rfl : i = n := by omega
            exact hz
      refine ⟨l, ⟨some a, cap, by rw [hlen], by omega, rfl, by have := hm; unfold maxLen at this; omega, fun _ => ⟨a, rfl, fun j p hj => ?_⟩⟩, by have := hm; unfold maxLen at this; omega, fun z hz => ?_⟩
      · obtain ⟨⟨cs', h1, h2⟩, _⟩ := hl2 j p hj
        obtain ⟨_, h4, h5⟩ := World.cells?_some h1
        refine ⟨cs', by rw [h4, he.1], h2, fun i u hu => ?_⟩
        have hi : i < P.cellsOf e := by rw [← h4]; exact (List.getElem?_eq_some_iff.1 hu).1
        have h6 := h5 i hi
        rw [Go.Deep.add_add] at h6
        rw [← he.1, h6]
        exact hu
      · obtain ⟨j, hj⟩ := List.mem_iff_getElem?.1 hz
        exact (hl2 j z hj).2⟩
theorem opensF_one {α : Type} {f : Field} {off : Nat} {d : Kd α} {ok : α → Prop} (ho : f.offset = off) (h : Opens P f.type d ok) : OpensF P [f] off d ok := by
  intro H enc w base spare held fuel cs hl hf
  obtain ⟨_, y, hy⟩ := hf f (by simp)
  rw [ho, Nat.sub_self, List.drop_zero, List.take_of_length_le (by rw [hl, h.1]; exact Nat.le_refl _)] at hy
  exact h.2 hy
theorem opensF_cons {α β : Type} {f : Field} {fs : List Field} {off off2 : Nat} {a : Kd α} {b : Kd β} {oka : α → Prop} {okb : β → Prop} (ho : f.offset = off) (h2 : off2 = off + a.sz) (h : Opens P f.type a oka) (hb : ∀ g ∈ fs, off2 ≤ g.offset)
    (hr : OpensF P fs off2 b okb) : OpensF P (f :: fs) off (Kd.pair a b) (fun x => oka x.1 ∧ okb x.2) := by
  intro H enc w base spare held fuel cs hl hf
  have hl : cs.length = a.sz + b.sz := hl
  obtain ⟨_, y, hy⟩ := hf f (by simp)
  rw [ho, Nat.sub_self, List.drop_zero, h.1] at hy
  obtain ⟨x0, k0, o0⟩ := h.2 hy
  obtain ⟨x1, k1, o1⟩ := hr (H := H) (enc := enc) (w := w) (base := base) (spare := spare) (held := held) (fuel := fuel) (cs := cs.drop a.sz) (by rw [List.length_drop]; omega) (by
    intro g hg
    obtain ⟨_, z, hz⟩ := hf g (by simp [hg])
    refine ⟨hb g hg, z, ?_⟩
    rw [List.drop_drop, show a.sz + (g.offset - off2) = g.offset - off by have := hb g hg; omega]
    exact hz)
  exact ⟨(x0, x1), ⟨_, _, (List.take_append_drop a.sz cs).symm, k0, k1⟩, o0, o1⟩
theorem opens_struct {α β : Type} {fs : Array Field} {d : Kd α} {ok : α → Prop} {g : β → α} {ok2 : β → Prop} (ht : P.underlying t = some (.struct fs)) (hc : P.cellsOf t = d.sz) (h : OpensF P fs.toList 0 d ok) (hg : ∀ y, ok y → ∃ x, g x = y ∧ ok2 x) :
    Opens P t (Kd.iso d g) ok2 :=
  ⟨hc, fun {H enc w base spare held fuel cs x} hx => by
    obtain ⟨xs, n, _, _, hl, hlen, hf⟩ := DataW.trod_struct ht hx
    obtain ⟨a, k, o⟩ := h (H := H) (enc := enc) (w := w) (base := base) (spare := spare) (held := held) (fuel := n) (cs := cs) (hl.trans hc) (by
      intro f hfm
      obtain ⟨i, hi⟩ := List.mem_iff_getElem?.1 hfm
      have hi2 : fs[i]? = some f := by simpa using hi
      have hlt : i < xs.length := by
        rw [hlen]
        exact (Array.getElem?_eq_some_iff.1 hi2).1
      refine ⟨Nat.zero_le _, xs[i], ?_⟩
      rw [Nat.sub_zero, hf i f hi2, List.getElem?_eq_getElem hlt])
    obtain ⟨z, hz, o2⟩ := hg a o
    exact ⟨z, by show d.K w (g z) cs; rw [hz]; exact k, o2⟩⟩
/-- A struct as an argument: its cells, and what they say. -/
theorem open_struct_arg {α : Type} {H : Type} {enc : TypeId × Value → H} {w : World} {base base2 : Nat} {spare : Nat → Bool} {held : Bool} {v : Value} {x : DataW H} {ps : List MemPlace} {fs : Array Field} {d : Kd α} {ok : α → Prop} {r : Reach}
    (ht : P.underlying t = some (.struct fs)) (h : Opens P t d ok) (hv : Value.okWide P w r base2 t v) (hd : DataW.Trod enc P w base spare held t v x ps) : ∃ cs a, v = .agg cs ∧ d.K w a cs.toList ∧ ok a := by
  obtain ⟨cs, rfl, _⟩ := okWide_struct ht hv
  obtain ⟨fuel, hf⟩ := hd
  obtain ⟨a, k, o⟩ := h.2 hf
  exact ⟨cs, a, rfl, by simpa [Value.cells] using k, o⟩
end
end Go.Proofs.Ytjmlbkhcjgehdaa.HOpen
