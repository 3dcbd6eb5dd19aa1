/- Library: a checked symbolic machine over the model's code (part SxC). No conditions: each theorem says its own. -/
import Derived.Test.YtgleoebogikooaaGreatSxB
import GoSem.Core.Float
import GoSem.Op.Unary
import Derived.WalkKit
import Derived.Laws.Externs
import Derived.Laws.Bits64b
import Derived.Lib.Bytealg
import GoSem.Extern.BytealgCompare
import Derived.MapKept
import Derived.Laws.BytesString
import Derived.Laws.Strings
import Derived.Laws.Cells
import Derived.Lib.AppendZeros
import Derived.Laws.Append
/- Floats of 64 bits, in whole numbers: their order, halving and doubling, their fractions made whole: each exact. No program stands in it; no condition beside those that each theorem states. -/
set_option linter.unusedVariables false
namespace Go.Proofs.YtgleoebogikooaaGreat.Sx.HFloat
open Ieee
set_option maxRecDepth 4000
abbrev D := FloatKind.f64.format
theorem D_binade : D.binade = 4503599627370496 := by decide
theorem D_sign : D.signWeight = 9223372036854775808 := by decide
theorem D_inf : D.infRung = 9218868437227405312 := by decide
theorem D_least : D.leastPlace = -1074 := by decide
def mg (r : Nat) : Nat := if r < 4503599627370496 then r else 4503599627370496 + r % 4503599627370496
def pl (r : Nat) : Int := if r < 4503599627370496 then -1074 else -1074 + (r / 4503599627370496 - 1 : Nat)
theorem read_fin {r : Nat} (h : r < 9218868437227405312) : D.read r = .number false (mg r) (pl r) := by
 unfold Format.read mg pl
 rw [D_sign, D_binade, D_inf, D_least]
 have h1 : r % 9223372036854775808 = r := Nat.mod_eq_of_lt (by omega)
 have h2 : r / 9223372036854775808 = 0 := Nat.div_eq_of_lt (by omega)
 rw [h1, h2]
 simp only [h, if_true]
 by_cases hb : r < 4503599627370496
 ·simp only [hb, if_true]
  rfl
 ·simp only [hb, if_false]
  rfl
theorem read_finN {r : Nat} (h : r < 9218868437227405312) : D.read (9223372036854775808 + r) = .number true (mg r) (pl r) := by
 unfold Format.read mg pl
 rw [D_sign, D_binade, D_inf, D_least]
 have h1 : (9223372036854775808 + r) % 9223372036854775808 = r := by omega
 have h2 : (9223372036854775808 + r) / 9223372036854775808 = 1 := by omega
 rw [h1, h2]
 simp only [h, if_true]
 by_cases hb : r < 4503599627370496
 ·simp only [hb, if_true]
  rfl
 ·simp only [hb, if_false]
  rfl
theorem read_inf : D.read 9218868437227405312 = .infinity false := by decide
theorem read_infN : D.read (9223372036854775808 + 9218868437227405312) = .infinity true := by decide
theorem read_nan {x : Nat} (h : 9218868437227405312 < x % 9223372036854775808) : ∃ s t, D.read x = .nan s t := by
 unfold Format.read
 rw [D_sign, D_binade, D_inf, D_least]
 simp only []
 rw [if_neg (by omega), if_neg (by omega), if_neg (by omega)]
 exact ⟨_, _, rfl⟩
theorem mg_pos {r : Nat} (h : 0 < r) : 0 < mg r := by unfold mg; split <;> omega
theorem mg_zero : mg 0 = 0 := by decide
theorem nearest_up (f : Format) (neg : Bool) (m : Nat) (p : Int) (hm : 0 < m) : f.nearest neg (2 * m) p = f.nearest neg m (p + 1) := by
 unfold Format.nearest
 rw [if_neg (by omega), if_neg (by omega)]
 have hl : (2 * m).log2 = m.log2 + 1 := by rw [Nat.log2_two_mul (by omega)]
 simp only [hl]
 have e1 : p + ((m.log2 + 1 : Nat) : Int) - f.fractionBits = p + 1 + m.log2 - f.fractionBits := by push_cast; omega
 rw [e1]
 generalize max (p + 1 + (m.log2 : Int) - f.fractionBits) f.leastPlace = last
 congr 3
 rcases Int.lt_or_le p last with h | h
 ·-- last > p
  have a1 : (p - last).toNat = 0 := by omega
  have a2 : (p + 1 - last).toNat = 0 := by omega
  have a3 : (last - p).toNat = (last - (p + 1)).toNat + 1 := by omega
  rw [a1, a2, a3]
  generalize (last - (p + 1)).toNat = d
  simp only [Nat.shiftLeft_zero]
  unfold Toward.cut
  simp only [hl]
  have a4 : min (d + 1) (m.log2 + 1 + 2) = min d (m.log2 + 2) + 1 := by omega
  rw [a4]
  generalize min d (m.log2 + 2) = g
  have e2 : 1 <<< (g + 1) = 2 * (1 <<< g) := by simp [Nat.shiftLeft_eq, Nat.pow_succ, Nat.mul_comm]
  have hg : 0 < 1 <<< g := by simp [Nat.shiftLeft_eq, Nat.pow_pos]
  rw [e2]
  generalize 1 <<< g = G at *
  simp only [Nat.mul_div_mul_left _ _ (show 0 < 2 by omega), Nat.mul_mod_mul_left]
  congr 1
  congr 1
  have b1 : decide (2 * G < 2 * (2 * (m % G))) = decide (G < 2 * (m % G)) := by rw [Bool.eq_iff_iff]; simp
  have b2 : (2 * G == 2 * (2 * (m % G))) = (G == 2 * (m % G)) := by
   generalize m % G = x
   rw [Bool.eq_iff_iff]
   simp only [beq_iff_eq]
   omega
  rw [b1, b2]
 ·have a1 : (last - p).toNat = 0 := by omega
  have a2 : (last - (p + 1)).toNat = 0 := by omega
  have a3 : (p + 1 - last).toNat = (p - last).toNat + 1 := by omega
  rw [a1, a2, a3]
  have : (2 * m) <<< (p - last).toNat = m <<< ((p - last).toNat + 1) := by
   rw [Nat.shiftLeft_eq, Nat.shiftLeft_eq, Nat.pow_succ]
   rw [Nat.mul_comm 2 m, Nat.mul_assoc, Nat.mul_comm 2]
  rw [this]
theorem nearest_ups (f : Format) (neg : Bool) (m : Nat) (hm : 0 < m) : ∀ (k : Nat) (p : Int), f.nearest neg (m * 2 ^ k) p = f.nearest neg m (p + k)
 | 0, p => by simp
 | k + 1, p => by
  rw [show m * 2 ^ (k + 1) = 2 * (m * 2 ^ k) by rw [Nat.pow_succ]; ac_rfl, nearest_up f neg _ p (Nat.mul_pos hm (Nat.pow_pos (by omega))), nearest_ups f neg m hm k]
  congr 1
  push_cast
  omega
theorem log2_mg {r : Nat} (h1 : 4503599627370496 ≤ r) : (mg r).log2 = 52 := by
 unfold mg
 rw [if_neg (by omega)]
 rw [Nat.log2_eq_iff (by omega)]
 have : r % 4503599627370496 < 4503599627370496 := Nat.mod_lt _ (by omega)
 constructor
 ·show 4503599627370496 ≤ _; omega
 ·show _ < 9007199254740992; omega
theorem nearest_fin {r : Nat} (h : r < 9218868437227405312) : D.nearest false (mg r) (pl r) = r := by
 unfold Format.nearest
 rw [D_least, D_inf, D_binade]
 have hf : D.fractionBits = 52 := rfl
 rw [hf]
 have cut0 : ∀ n, Toward.even.cut false n 0 = n := by
  intro n
  unfold Toward.cut
  simp [Nat.mod_one]
 by_cases hz : mg r = 0
 ·rw [if_pos hz]
  unfold mg at hz
  split at hz
  ·subst hz; rfl
  ·omega
 rw [if_neg hz]
 unfold Format.word
 simp only [Bool.false_eq_true, if_false]
 by_cases hb : r < 4503599627370496
 ·have hm : mg r = r := by unfold mg; rw [if_pos hb]
  have hp : pl r = -1074 := by unfold pl; rw [if_pos hb]
  rw [hm] at hz ⊢
  rw [hp]
  have hlog : r.log2 < 52 := (Nat.log2_lt hz).2 hb
  have : max (-1074 + (r.log2 : Int) - ((52 : Nat) : Int)) (-1074) = -1074 := by omega
  rw [this]
  simp only [Int.sub_self, Int.toNat_zero, Nat.shiftLeft_zero, Nat.zero_mul, Nat.zero_add, cut0]
  omega
 ·have hm : mg r = 4503599627370496 + r % 4503599627370496 := by unfold mg; rw [if_neg hb]
  have hp : pl r = -1074 + (r / 4503599627370496 - 1 : Nat) := by unfold pl; rw [if_neg hb]
  have hlog := log2_mg (r := r) (by omega)
  rw [hlog]
  rw [hp]
  have : max (-1074 + ((r / 4503599627370496 - 1 : Nat) : Int) + ((52 : Nat) : Int) - ((52 : Nat) : Int)) (-1074) = -1074 + ((r / 4503599627370496 - 1 : Nat) : Int) := by omega
  rw [this]
  simp only [Int.sub_self, Int.toNat_zero, Nat.shiftLeft_zero, cut0]
  rw [hm]
  have : (-1074 + ((r / 4503599627370496 - 1 : Nat) : Int) - -1074).toNat = r / 4503599627370496 - 1 := by omega
  rw [this]
  have := Nat.div_add_mod r 4503599627370496
  have h2 : 1 ≤ r / 4503599627370496 := by omega
  obtain ⟨q, hq⟩ : ∃ q, r / 4503599627370496 = q + 1 := ⟨r / 4503599627370496 - 1, by omega⟩
  rw [hq] at this ⊢
  rw [Nat.add_sub_cancel]
  generalize r % 4503599627370496 = s at this ⊢
  have e : q * 4503599627370496 + (4503599627370496 + s) = r := by rw [← this, Nat.mul_add, Nat.mul_comm q]; omega
  rw [e]
  exact Nat.min_eq_left (by omega)
def vl (r : Nat) : Nat := mg r * 2 ^ (pl r + 1074).toNat
theorem pl_ge (r : Nat) : -1074 ≤ pl r := by unfold pl; split <;> omega
theorem nearest_vl {r : Nat} (h : r < 9218868437227405312) : D.nearest false (vl r) (-1074) = r := by
 rcases Nat.eq_zero_or_pos r with rfl | hr
 ·decide
 ·unfold vl
  rw [nearest_ups D false (mg r) (mg_pos hr)]
  have := pl_ge r
  rw [show (-1074 : Int) + ((pl r + 1074).toNat : Nat) = pl r by omega]
  exact nearest_fin h
theorem vl_sub {r : Nat} (h : r < 4503599627370496) : vl r = r := by
 unfold vl mg pl
 rw [if_pos h, if_pos h]
 simp
theorem vl_nor {r : Nat} (h : 4503599627370496 ≤ r) : vl r = (4503599627370496 + r % 4503599627370496) * 2 ^ (r / 4503599627370496 - 1) := by
 unfold vl mg pl
 rw [if_neg (by omega), if_neg (by omega)]
 rw [show (-1074 + ((r / 4503599627370496 - 1 : Nat) : Int) + 1074).toNat = r / 4503599627370496 - 1 by omega]
theorem vl_lt {x y : Nat} (h : x < y) : vl x < vl y := by
 by_cases hy : y < 4503599627370496
 ·rw [vl_sub hy, vl_sub (by omega)]; exact h
 ·rw [vl_nor (r := y) (by omega)]
  have hyp : 0 < 2 ^ (y / 4503599627370496 - 1) := Nat.pow_pos (by omega)
  by_cases hx : x < 4503599627370496
  ·rw [vl_sub hx]
   calc x < 4503599627370496 := hx
    _ ≤ (4503599627370496 + y % 4503599627370496) * 1 := by omega
    _ ≤ _ := Nat.mul_le_mul_left _ hyp
  ·rw [vl_nor (r := x) (by omega)]
   have h1 := Nat.div_add_mod x 4503599627370496
   have h2 := Nat.div_add_mod y 4503599627370496
   have h3 : x % 4503599627370496 < 4503599627370496 := Nat.mod_lt _ (by omega)
   rcases Nat.lt_or_ge (x / 4503599627370496) (y / 4503599627370496) with hq | hq
   ·have e : y / 4503599627370496 - 1 = (x / 4503599627370496 - 1) + 1 + (y / 4503599627370496 - x / 4503599627370496 - 1) := by omega
    rw [e, Nat.pow_add, Nat.pow_add]
    have hz : 0 < 2 ^ (y / 4503599627370496 - x / 4503599627370496 - 1) := Nat.pow_pos (by omega)
    have hw : 0 < 2 ^ (x / 4503599627370496 - 1) := Nat.pow_pos (by omega)
    generalize 2 ^ (y / 4503599627370496 - x / 4503599627370496 - 1) = Z at *
    generalize 2 ^ (x / 4503599627370496 - 1) = W at *
    calc (4503599627370496 + x % 4503599627370496) * W < (2 * 4503599627370496) * W := Nat.mul_lt_mul_of_pos_right (by omega) hw
     _ = 4503599627370496 * (W * 2 ^ 1 * 1) := by rw [Nat.mul_one, Nat.pow_one, Nat.mul_comm W 2, ← Nat.mul_assoc, Nat.mul_comm 4503599627370496 2]
     _ ≤ 4503599627370496 * (W * 2 ^ 1 * Z) := Nat.mul_le_mul_left _ (Nat.mul_le_mul_left _ hz)
     _ ≤ _ := Nat.mul_le_mul_right _ (by omega)
   ·have : x / 4503599627370496 = y / 4503599627370496 := by
     have : x / 4503599627370496 ≤ y / 4503599627370496 := Nat.div_le_div_right (by omega)
     omega
    rw [this] at h1 ⊢
    exact Nat.mul_lt_mul_of_pos_right (by omega) hyp
theorem compare_vl (x y : Nat) : compare ((vl x : Nat) : Int) (vl y) = compare x y := by
 rcases Nat.lt_trichotomy x y with h | rfl | h
 ·have := vl_lt h
  rw [Nat.compare_eq_lt.2 h, Int.compare_eq_lt.2 (by omega)]
 ·rw [Nat.compare_eq_eq.2 rfl, Int.compare_eq_eq.2 rfl]
 ·have := vl_lt h
  rw [Nat.compare_eq_gt.2 h, Int.compare_eq_gt.2 (by omega)]
theorem order_fin {x y : Nat} (hx : x < 9218868437227405312) (hy : y < 9218868437227405312) : D.order x y = some (compare x y) := by
 unfold Format.order
 rw [read_fin hx, read_fin hy]
 simp only [Datum.order, signed, Bool.false_eq_true, if_false]
 congr 1
 rw [← compare_vl]
 have h1 := pl_ge x
 have h2 := pl_ge y
 generalize hb : min (pl x) (pl y) = b
 have hb1 : b ≤ pl x := by omega
 have hb2 : b ≤ pl y := by omega
 have hb0 : -1074 ≤ b := by omega
 have e1 : vl x = (mg x <<< (pl x - b).toNat) * 2 ^ (b + 1074).toNat := by
  unfold vl
  rw [Nat.shiftLeft_eq, Nat.mul_assoc, ← Nat.pow_add]
  congr 2
  omega
 have e2 : vl y = (mg y <<< (pl y - b).toNat) * 2 ^ (b + 1074).toNat := by
  unfold vl
  rw [Nat.shiftLeft_eq, Nat.mul_assoc, ← Nat.pow_add]
  congr 2
  omega
 rw [e1, e2]
 have hp : 0 < 2 ^ (b + 1074).toNat := Nat.pow_pos (by omega)
 generalize 2 ^ (b + 1074).toNat = P at *
 generalize mg x <<< (pl x - b).toNat = u
 generalize mg y <<< (pl y - b).toNat = v
 rcases Nat.lt_trichotomy u v with h | rfl | h
 ·rw [Int.compare_eq_lt.2 (by omega), Int.compare_eq_lt.2 (by exact_mod_cast Nat.mul_lt_mul_of_pos_right h hp)]
 ·rw [Int.compare_eq_eq.2 rfl, Int.compare_eq_eq.2 rfl]
 ·rw [Int.compare_eq_gt.2 (by omega), Int.compare_eq_gt.2 (by exact_mod_cast Nat.mul_lt_mul_of_pos_right h hp)]
def dbl (x : Nat) : Nat := if x < 4503599627370496 then 2 * x else x + 4503599627370496
theorem vl_dbl (x : Nat) : vl (dbl x) = 2 * vl x := by
 unfold dbl
 split
 ·rename_i h
  rw [vl_sub h]
  by_cases h2 : 2 * x < 4503599627370496
  ·rw [vl_sub h2]
  ·rw [vl_nor (by omega)]
   have : 2 * x / 4503599627370496 = 1 := by omega
   rw [this]
   simp only [Nat.sub_self, Nat.pow_zero, Nat.mul_one]
   omega
 ·rename_i h
  rw [vl_nor (by omega), vl_nor (by omega)]
  have e1 : (x + 4503599627370496) % 4503599627370496 = x % 4503599627370496 := by omega
  have e2 : (x + 4503599627370496) / 4503599627370496 - 1 = (x / 4503599627370496 - 1) + 1 := by omega
  rw [e1, e2, Nat.pow_succ]
  generalize 2 ^ (x / 4503599627370496 - 1) = W
  rw [← Nat.mul_assoc, Nat.mul_comm _ 2]
theorem nearest_to {y : Nat} (hy : y < 9218868437227405312) {m : Nat} {p : Int} (hm : 0 < m) (hp : -1074 ≤ p) (h : vl y = m * 2 ^ (p + 1074).toNat) : D.nearest false m p = y := by
 have h2 := nearest_vl hy
 rw [h, nearest_ups D false m hm] at h2
 rw [show p = -1074 + ((p + 1074).toNat : Nat) by omega]
 exact h2
theorem read_two : D.read 4611686018427387904 = .number false 4503599627370496 (-51) := by decide
theorem read_one : D.read 4607182418800017408 = .number false 4503599627370496 (-52) := by decide
theorem read_big : D.read 4841369599423283200 = .number false 4503599627370496 0 := by decide
theorem mul_two {x : Nat} (h : dbl x < 9218868437227405312) : D.mul x 4611686018427387904 = some (dbl x) := by
 have hx : x < 9218868437227405312 := by unfold dbl at h; split at h <;> omega
 unfold Format.mul
 rw [read_fin hx, read_two]
 simp only [Datum.product, Option.map_some, Format.write, Bool.xor_false]
 congr 1
 rcases Nat.eq_zero_or_pos x with rfl | hp
 ·decide
 ·rw [show (4503599627370496 : Nat) = 2 ^ 52 by decide, nearest_ups D false (mg x) (mg_pos hp)]
  apply nearest_to h (mg_pos hp)
  ·have := pl_ge x; omega
  ·rw [vl_dbl]
   unfold vl
   have := pl_ge x
   rw [show (pl x + -51 + ((52 : Nat) : Int) + 1074).toNat = (pl x + 1074).toNat + 1 by omega, Nat.pow_succ]
   rw [Nat.mul_comm 2 (mg x * _), Nat.mul_assoc]
theorem quot_num (g : Nat) (s t : Bool) (m n : Nat) (i j : Int) (hn : n ≠ 0) : Datum.quotient g (.number s m i) (.number t n j) = some (.number (s ^^ t) (2 * ((m <<< (g + n.log2 - m.log2)) / n) + ((m <<< (g + n.log2 - m.log2)) % n != 0).toNat) (i - j - ((g + n.log2 - m.log2 : Nat) : Int) - 1)) := by
 unfold Datum.quotient
 simp only [hn, if_false]
theorem div_two {x : Nat} (h : 4611686018427387904 ≤ x) (hi : x < 9218868437227405312) : D.div x 4611686018427387904 = some (x - 4503599627370496) := by
 unfold Format.div
 rw [read_fin hi, read_two, quot_num _ _ _ _ _ _ _ (by omega)]
 have hl := log2_mg (r := x) (by omega)
 have hf : D.fractionBits = 52 := rfl
 have h52 : (4503599627370496 : Nat).log2 = 52 := (Nat.log2_eq_iff (by omega)).2 ⟨by decide, by decide⟩
 rw [hl, hf, h52, Option.map_some]
 have e : mg x <<< (52 + 2 + 52 - 52) = 4503599627370496 * (4 * mg x) := by
  rw [Nat.shiftLeft_eq]
  rw [show (52 + 2 + 52 - 52 : Nat) = 54 by omega, show (2 : Nat) ^ 54 = 18014398509481984 by decide]
  omega
 rw [e, Nat.mul_div_cancel_left _ (by omega), Nat.mul_mod_right]
 have hw : ∀ (m : Nat) (p : Int), D.write (.number (false ^^ false) (m + ((0 : Nat) != 0).toNat) p) = D.nearest false m p := fun m p => rfl
 rw [hw]
 refine congrArg some ?_
 have hp : 0 < x := by omega
 rw [show 2 * (4 * mg x) = mg x * 2 ^ 3 by rw [show (2 : Nat) ^ 3 = 8 by decide]; omega, nearest_ups D false (mg x) (mg_pos hp)]
 have e2 : mg x = mg (x - 4503599627370496) := by
  unfold mg
  rw [if_neg (by omega), if_neg (by omega)]
  omega
 have e3 : pl x - -51 - ((52 + 2 + 52 - 52 : Nat) : Int) - 1 + ((3 : Nat) : Int) = pl (x - 4503599627370496) := by
  unfold pl
  rw [if_neg (by omega), if_neg (by omega)]
  omega
 rw [e2, e3]
 exact nearest_fin (by omega)
def dbls : Nat → Nat → Nat
 | 0, x => x
 | k + 1, x => dbls k (dbl x)
theorem vl_dbls : ∀ (k x : Nat), vl (dbls k x) = vl x * 2 ^ k
 | 0, x => by simp [dbls]
 | k + 1, x => by
  rw [dbls, vl_dbls k, vl_dbl, Nat.pow_succ, Nat.mul_comm 2, Nat.mul_assoc, Nat.mul_comm 2]
theorem dbls_succ : ∀ (k x : Nat), dbls (k + 1) x = dbl (dbls k x)
 | 0, x => rfl
 | k + 1, x => by
  show dbls (k + 1) (dbl x) = dbl (dbls k (dbl x))
  exact dbls_succ k (dbl x)
theorem vl_one {K : Nat} (hK : K = 1022) : vl 4607182418800017408 = 2 ^ 52 * 2 ^ K := by
 rw [vl_nor (by omega)]
 rw [show (4607182418800017408 : Nat) % 4503599627370496 = 0 by decide, show (4607182418800017408 : Nat) / 4503599627370496 - 1 = K by rw [hK], Nat.add_zero, show (4503599627370496 : Nat) = 2 ^ 52 by decide]
theorem dbls_lt {r : Nat} (h : r < 4503599627370496) {k : Nat} (hk : k ≤ 1022) : dbls k r < 4607182418800017408 := by
 rcases Nat.lt_or_ge (dbls k r) 4607182418800017408 with h1 | h1
 ·exact h1
 ·exfalso
  obtain ⟨K, hK⟩ : ∃ K : Nat, K = 1022 := ⟨_, rfl⟩
  rw [← hK] at hk
  have h2 : vl 4607182418800017408 ≤ vl (dbls k r) := by
   rcases Nat.lt_or_eq_of_le h1 with h3 | h3
   ·exact Nat.le_of_lt (vl_lt h3)
   ·rw [← h3]; exact Nat.le_refl _
  rw [vl_one hK, vl_dbls, vl_sub h] at h2
  have h3 : r * 2 ^ k < 2 ^ 52 * 2 ^ K := by
   calc r * 2 ^ k < 2 ^ 52 * 2 ^ k := Nat.mul_lt_mul_of_pos_right (by rw [show (2 : Nat) ^ 52 = 4503599627370496 by decide]; exact h) (Nat.pow_pos (by omega))
    _ ≤ _ := Nat.mul_le_mul_left _ (Nat.pow_le_pow_right (by omega) hk)
  exact absurd h2 (Nat.not_le.2 h3)
theorem dbls_zero : ∀ k, dbls k 0 = 0
 | 0 => rfl
 | k + 1 => by rw [dbls]; exact dbls_zero k
theorem sum_num (s t : Bool) (m n : Nat) (i : Int) : Datum.sum (.number s m i) (.number t n i) = some (.number (if signed s m 0 + signed t n 0 = 0 then s && t else decide (signed s m 0 + signed t n 0 < 0)) (signed s m 0 + signed t n 0).natAbs i) := by
 unfold Datum.sum
 simp only [Int.min_self, Int.sub_self, Int.toNat_zero]
theorem sub_one {f : Nat} (h : f < 4503599627370496) : D.sub (4607182418800017408 + f) 4607182418800017408 = some (dbls 1022 f) := by
 unfold Format.sub
 have hm : mg (4607182418800017408 + f) = 4503599627370496 + f := by unfold mg; rw [if_neg (by omega)]; omega
 have hp : pl (4607182418800017408 + f) = -52 := by unfold pl; rw [if_neg (by omega)]; omega
 rw [read_fin (by omega), hm, hp, read_one]
 show ((Datum.number false (4503599627370496 + f) (-52)).sum (.number true 4503599627370496 (-52))).map D.write = _
 rw [sum_num, Option.map_some]
 have e1 : signed false (4503599627370496 + f) 0 = ((4503599627370496 + f : Nat) : Int) := by simp [signed]
 have e2 : signed true 4503599627370496 0 = -((4503599627370496 : Nat) : Int) := by simp [signed]
 have e3 : signed false (4503599627370496 + f) 0 + signed true 4503599627370496 0 = (f : Int) := by rw [e1, e2]; omega
 rw [e3]
 have e4 : (if (f : Int) = 0 then false && true else decide ((f : Int) < 0)) = false := by
  split
  ·rfl
  ·simp
 rw [e4]
 have hw : ∀ (m : Nat) (p : Int), D.write (.number false m p) = D.nearest false m p := fun m p => rfl
 rw [hw]
 refine congrArg some ?_
 rw [Int.natAbs_natCast]
 rcases Nat.eq_zero_or_pos f with rfl | hf
 ·rw [dbls_zero]; rfl
 ·refine nearest_to ?_ hf (by omega) ?_
  ·exact Nat.lt_trans (dbls_lt h (by omega)) (by omega)
  ·rw [vl_dbls, vl_sub h, show ((-52 : Int) + 1074).toNat = 1022 by decide]
theorem scaled_aux {f : Nat} (h : f < 4503599627370496) (hf : 0 < f) : ∃ d : Nat, d ≤ 52 ∧ mg (dbls 1022 f) = f * 2 ^ d ∧ pl (dbls 1022 f) + 52 = -(d : Int) ∧ 4503599627370496 ≤ dbls 1022 f := by
 have hl := dbls_lt h (Nat.le_refl 1022)
 obtain ⟨K, hK⟩ : ∃ K : Nat, K = 1022 := ⟨_, rfl⟩
 rw [← hK] at hl ⊢
 have hv : vl (dbls K f) = f * 2 ^ K := by rw [vl_dbls, vl_sub h]
 generalize dbls K f = y at *
 have hB : 4503599627370496 ≤ y := by
  rcases Nat.lt_or_ge y 4503599627370496 with h1 | h1
  ·exfalso
   rw [vl_sub h1] at hv
   have : 2 ^ 52 ≤ 1 * 2 ^ K := by rw [Nat.one_mul]; exact Nat.pow_le_pow_right (by omega) (by omega)
   have h3 : 1 * 2 ^ K ≤ f * 2 ^ K := Nat.mul_le_mul_right _ hf
   rw [show (2 : Nat) ^ 52 = 4503599627370496 by decide] at this
   exact absurd h1 (Nat.not_lt.2 (by rw [hv]; exact Nat.le_trans this h3))
  ·exact h1
 have hlog := log2_mg hB
 have hp := pl_ge y
 unfold vl at hv
 have hm0 : mg y ≠ 0 := by have := mg_pos (r := y) (by omega); omega
 have hmlt : mg y < 2 ^ 53 := by
  have := (Nat.log2_eq_iff hm0).1 hlog
  exact this.2
 have hmge : 2 ^ 52 ≤ mg y := by
  have := (Nat.log2_eq_iff hm0).1 hlog
  exact this.1
 obtain ⟨a, ha⟩ : ∃ a : Nat, (pl y + 1074).toNat = a := ⟨_, rfl⟩
 rw [ha] at hv
 have ha2 : pl y = (a : Int) - 1074 := by omega
 have hle : a ≤ K := by
  rcases Nat.lt_or_ge K a with h1 | h1
  ·exfalso
   have h2 : 2 ^ 52 * 2 ^ (K + 1) ≤ mg y * 2 ^ a := Nat.mul_le_mul hmge (Nat.pow_le_pow_right (by omega) h1)
   have h3 : f * 2 ^ K < 2 ^ 52 * 2 ^ (K + 1) := by
    calc f * 2 ^ K < 2 ^ 52 * 2 ^ K := Nat.mul_lt_mul_of_pos_right (by rw [show (2 : Nat) ^ 52 = 4503599627370496 by decide]; exact h) (Nat.pow_pos (by omega))
     _ ≤ _ := Nat.mul_le_mul_left _ (Nat.pow_le_pow_right (by omega) (by omega))
   rw [hv] at h2
   exact absurd h3 (Nat.not_lt.2 h2)
  ·exact h1
 have hd : mg y = f * 2 ^ (K - a) := by
  have e : f * 2 ^ K = (f * 2 ^ (K - a)) * 2 ^ a := by
   rw [Nat.mul_assoc, ← Nat.pow_add]
   congr 2
   omega
  rw [e] at hv
  exact Nat.eq_of_mul_eq_mul_right (Nat.pow_pos (by omega)) hv
 refine ⟨K - a, ?_, hd, ?_, hB⟩
 ·rcases Nat.lt_or_ge 52 (K - a) with h1 | h1
  ·exfalso
   have h2 : 1 * 2 ^ 53 ≤ f * 2 ^ (K - a) := Nat.mul_le_mul hf (Nat.pow_le_pow_right (by omega) h1)
   rw [← hd, Nat.one_mul] at h2
   exact absurd hmlt (Nat.not_lt.2 h2)
  ·exact h1
 ·rw [ha2]; omega
def whole (f : Nat) : Nat := if f = 0 then 0 else dbls 1022 f + 234187180623265792
theorem mul_big {f : Nat} (h : f < 4503599627370496) : D.mul (dbls 1022 f) 4841369599423283200 = some (whole f) := by
 unfold whole
 split
 ·rename_i h0
  subst h0
  rw [dbls_zero]
  decide
 ·rename_i h0
  obtain ⟨d, hd, hm, hp, hB⟩ := scaled_aux h (by omega)
  have hl := dbls_lt h (Nat.le_refl 1022)
  generalize dbls 1022 f = y at *
  unfold Format.mul
  rw [read_fin (by omega), read_big]
  show some (D.nearest (false ^^ false) (mg y * 4503599627370496) (pl y + 0)) = _
  refine congrArg some ?_
  rw [Int.add_zero, show (4503599627370496 : Nat) = 2 ^ 52 by decide, nearest_ups D _ (mg y) (mg_pos (by omega))]
  have e1 : mg y = mg (y + 234187180623265792) := by
   unfold mg
   rw [if_neg (by omega), if_neg (by omega)]
   omega
  have e2 : pl y + ((52 : Nat) : Int) = pl (y + 234187180623265792) := by
   unfold pl
   rw [if_neg (by omega), if_neg (by omega)]
   omega
  rw [e1, e2]
  exact nearest_fin (by omega)
theorem cut_zero (s : Bool) (f d : Nat) (h : d ≤ (f * 2 ^ d).log2 + 2) : Toward.zero.cut s (f * 2 ^ d) d = f := by
 unfold Toward.cut
 simp only [Bool.toNat_false, Nat.add_zero]
 rw [Nat.min_eq_left h, Nat.shiftLeft_eq, Nat.one_mul, Nat.mul_div_cancel _ (Nat.pow_pos (by omega))]
theorem int_whole {f : Nat} (h : f < 4503599627370496) : (D.read (whole f)).toInt .zero = some (f : Int) := by
 unfold whole
 split
 ·rename_i h0
  subst h0
  decide
 ·rename_i h0
  obtain ⟨d, hd, hm, hp, hB⟩ := scaled_aux h (by omega)
  have hl := dbls_lt h (Nat.le_refl 1022)
  have hlog := log2_mg hB
  generalize dbls 1022 f = y at *
  have e1 : mg (y + 234187180623265792) = mg y := by
   unfold mg
   rw [if_neg (by omega), if_neg (by omega)]
   omega
  have e2 : pl (y + 234187180623265792) = -(d : Int) := by
   rw [← hp]
   unfold pl
   rw [if_neg (by omega), if_neg (by omega)]
   omega
  rw [read_fin (by omega), e1, e2]
  unfold Datum.toInt Datum.integral
  simp only [signed, Bool.false_eq_true, if_false]
  have e3 : (-(d : Int)).toNat = 0 := by omega
  have e4 : (- -(d : Int)).toNat = d := by omega
  rw [e3, e4, Nat.shiftLeft_zero, Nat.shiftLeft_zero]
  rw [hm, cut_zero false f d (by rw [← hm, hlog]; omega)]
theorem order_eq_nan {x : Nat} (h : 9218868437227405312 < x % 9223372036854775808) (y : Nat) : D.order x y = none := by
 obtain ⟨s, t, e⟩ := read_nan h
 unfold Format.order
 rw [e]
 rfl
theorem order_inf {y : Nat} (h : y < 9218868437227405312) : D.order 9218868437227405312 y = some .gt := by
 unfold Format.order
 rw [read_inf, read_fin h]
 rfl
theorem order_infN {y : Nat} (h : y < 9218868437227405312) : D.order (9223372036854775808 + 9218868437227405312) y = some .lt := by
 unfold Format.order
 rw [read_infN, read_fin h]
 rfl
theorem order_self {x : Nat} (h : x % 9223372036854775808 ≤ 9218868437227405312) : D.order x x = some .eq := by
 unfold Format.order
 have hb : ∀ b : Bool, compare b.toNat b.toNat = Ordering.eq := by decide
 cases e : D.read x with
 | nan s t =>
  exfalso
  unfold Format.read at e
  rw [D_sign, D_binade, D_inf, D_least] at e
  simp only [] at e
  split at e
  ·cases e
  ·split at e
   ·cases e
   ·split at e
    ·cases e
    ·omega
 | infinity s =>
  simp only [Datum.order, hb]
 | number s m p =>
  simp only [Datum.order]
  rw [Int.compare_eq_eq.2 rfl]
theorem order_negZero {r : Nat} (h : r < 9218868437227405312) : D.order (9223372036854775808 + r) 0 = some (if r = 0 then .eq else .lt) := by
 unfold Format.order
 rw [read_finN h, show D.read 0 = .number false 0 (-1074) by decide]
 simp only [Datum.order, signed, Bool.false_eq_true, if_false, if_true, Nat.zero_shiftLeft]
 congr 1
 split
 ·rename_i h0
  subst h0
  rw [mg_zero, Nat.zero_shiftLeft]
  decide
 ·rename_i h0
  have h1 : 0 < mg r <<< (pl r - min (pl r) (-1074)).toNat := by
   rw [Nat.shiftLeft_eq]
   exact Nat.mul_pos (mg_pos (by omega)) (Nat.pow_pos (by omega))
  exact Int.compare_eq_lt.2 (by omega)
theorem order_zero {x : Nat} (hx : x < 18446744073709551616) (h : x % 9223372036854775808 ≤ 9218868437227405312) : D.order x 0 = some (if x % 9223372036854775808 = 0 then .eq else if x < 9223372036854775808 then .gt else .lt) := by
 rcases Nat.lt_or_ge x 9223372036854775808 with h1 | h1
 ·have e : x % 9223372036854775808 = x := Nat.mod_eq_of_lt h1
  rw [e] at h ⊢
  rcases Nat.lt_or_eq_of_le h with h2 | h2
  ·rw [order_fin h2 (by omega)]
   split
   ·rename_i h0; subst h0; rfl
   ·rw [Nat.compare_eq_gt.2 (by omega)]
  ·subst h2
   rw [order_inf (by omega)]
   rfl
 ·obtain ⟨r, rfl⟩ : ∃ r, x = 9223372036854775808 + r := ⟨x - 9223372036854775808, by omega⟩
  have e : (9223372036854775808 + r) % 9223372036854775808 = r := by omega
  rw [e] at h ⊢
  rcases Nat.lt_or_eq_of_le h with h2 | h2
  ·rw [order_negZero h2]
   rw [if_neg (show ¬ (9223372036854775808 + r < 9223372036854775808) by omega)]
  ·subst h2
   rw [order_infN (by omega)]
   rfl
theorem div_zero : D.div 4607182418800017408 0 = some 9218868437227405312 := by decide
theorem div_zeroN : D.div 4607182418800017408 9223372036854775808 = some (9223372036854775808 + 9218868437227405312) := by decide
theorem neg_pos {r : Nat} (h : r < 9223372036854775808) : Op.negFloat .f64 (9223372036854775808 + r) = r := by
 unfold Op.negFloat
 rw [show 2 ^ (FloatKind.f64.format.exponentBits + FloatKind.f64.format.fractionBits) = 2 ^ 63 by rfl]
 rw [show 9223372036854775808 + r = 2 ^ 63 * 1 + r by omega, Nat.two_pow_add_eq_or_of_lt (by omega) 1]
 apply Nat.eq_of_testBit_eq
 intro i
 simp only [Nat.testBit_xor, Nat.testBit_or, Nat.mul_one]
 by_cases hi : i = 63
 ·subst hi
  rw [Nat.testBit_two_pow_self, Nat.testBit_lt_two_pow (show r < 2 ^ 63 by omega)]
  rfl
 ·rw [Nat.testBit_two_pow_of_ne (by omega)]
  simp
section
variable {P : Program} (w : World)
def floatBits' (op : BinOp) (k : FloatKind) (x y : Nat) : Option Nat :=
 match op with
 | .add => k.format.add x y
 | .sub => k.format.sub x y
 | .mul => k.format.mul x y
 | .quo => k.format.div x y
 | _ => none
theorem run_float_arith (op : BinOp) (t : TypeId) (k : FloatKind) (x y r : Nat) (h : floatBits' op k x y = some r) : (binOp op t (.float k x) (.float k y)).run P w = .ok (.float k r) w := by
 unfold floatBits' at h
 cases op <;> simp only at h <;> first | (cases h; done) | skip
 all_goals simp [binOp, Op.floatArith, h]
def floatToIntVal (src : FloatKind) (bits : Nat) (dst : IntKind) : Option Int :=
 match (src.decode bits).toInt .zero with
 | some n => if dst.min ≤ n ∧ n ≤ dst.max then some n else none
 | none => none
theorem run_convert_float_int (src dst : TypeId) (s : FloatKind) (k : IntKind) (b : Nat) (n : Int) (hs : (P.underlying src).isSome = true) (hd : P.underlying dst = some (.int k)) (h : floatToIntVal s b k = some n) :
  (convert src dst (.float s b)).run P w = .ok (.int k n) w := by
 obtain ⟨u, hs'⟩ := Option.isSome_iff_exists.1 hs
 unfold floatToIntVal at h
 split at h
 ·rename_i m he
  split at h
  ·rename_i hb
   cases h
   cases u <;> simp [convert, run_underlying hs', run_underlying hd, Conv.floatToInt, he, hb.1, hb.2]
  ·cases h
 ·cases h
end
theorem floor_whole {f : Nat} (h : f < 4503599627370496) : floatToIntVal .f64 (whole f) .u64 = some (f : Int) := by
 unfold floatToIntVal FloatKind.decode
 rw [show (FloatKind.f64.format.read (whole f)).toInt .zero = some (f : Int) from int_whole h]
 simp only []
 rw [if_pos]
 exact ⟨by show (0 : Int) ≤ _; omega, by show _ ≤ (18446744073709551615 : Int); omega⟩
theorem or_parts {s e f : Nat} (hs : s = 0 ∨ s = 9223372036854775808) (he : e < 2048) (hf : f < 4503599627370496) : (s ||| e * 4503599627370496) ||| f = s + e * 4503599627370496 + f := by
 have h1 : e * 4503599627370496 ||| f = e * 4503599627370496 + f := by
  rw [show e * 4503599627370496 = 2 ^ 52 * e by omega]
  exact (Nat.two_pow_add_eq_or_of_lt (by omega) e).symm
 rw [Nat.or_assoc, h1]
 rcases hs with rfl | rfl
 ·simp
 ·rw [show (9223372036854775808 : Nat) = 2 ^ 63 * 1 by omega, ← Nat.two_pow_add_eq_or_of_lt (by omega) 1]
  omega
end Go.Proofs.YtgleoebogikooaaGreat.Sx.HFloat
namespace Go.Proofs.YtgleoebogikooaaGreat.Sx
set_option linter.unusedVariables false
set_option linter.unusedSimpArgs false
theorem fl_ne_self (b : Nat) : (FloatKind.f64.format.order b b != some .eq) = isNaN b := by
 unfold isNaN
 by_cases h : 9218868437227405312 < b % 9223372036854775808
 ·rw [show FloatKind.f64.format.order b b = none from HFloat.order_eq_nan h b, decide_eq_true h]; rfl
 ·rw [show FloatKind.f64.format.order b b = _ from HFloat.order_self (by omega), decide_eq_false h]; rfl
theorem fl_eq0 {b : Nat} (hb : b < 18446744073709551616) : (FloatKind.f64.format.order b 0 == some .eq) = decide (b % 9223372036854775808 = 0) := by
 by_cases h : 9218868437227405312 < b % 9223372036854775808
 ·rw [show FloatKind.f64.format.order b 0 = none from HFloat.order_eq_nan h 0, decide_eq_false (by omega)]; rfl
 ·rw [show FloatKind.f64.format.order b 0 = _ from HFloat.order_zero hb (by omega)]
  by_cases h0 : b % 9223372036854775808 = 0
  ·rw [if_pos h0, decide_eq_true h0]; rfl
  ·rw [if_neg h0, decide_eq_false h0]; split <;> rfl
theorem fl_ne0 {b : Nat} (hb : b < 18446744073709551616) : (FloatKind.f64.format.order b 0 != some .eq) = !decide (b % 9223372036854775808 = 0) := by
 rw [bne, fl_eq0 hb]
theorem fl_gt0 {b : Nat} (hb : b < 18446744073709551616) : (FloatKind.f64.format.order b 0 == some .gt) = decide (0 < b ∧ b ≤ 9218868437227405312) := by
 by_cases h : 9218868437227405312 < b % 9223372036854775808
 ·rw [show FloatKind.f64.format.order b 0 = none from HFloat.order_eq_nan h 0, decide_eq_false (by omega)]; rfl
 ·rw [show FloatKind.f64.format.order b 0 = _ from HFloat.order_zero hb (by omega)]
  by_cases h0 : b % 9223372036854775808 = 0
  ·rw [if_pos h0, decide_eq_false (by omega)]; rfl
  ·rw [if_neg h0]
   by_cases h1 : b < 9223372036854775808
   ·rw [if_pos h1, decide_eq_true (by omega)]; rfl
   ·rw [if_neg h1, decide_eq_false (by omega)]; rfl
theorem fl_lt0 {b : Nat} (hb : b < 18446744073709551616) : (FloatKind.f64.format.order b 0 == some .lt) = decide (9223372036854775808 < b ∧ b ≤ 18442240474082181120) := by
 by_cases h : 9218868437227405312 < b % 9223372036854775808
 ·rw [show FloatKind.f64.format.order b 0 = none from HFloat.order_eq_nan h 0, decide_eq_false (by omega)]; rfl
 ·rw [show FloatKind.f64.format.order b 0 = _ from HFloat.order_zero hb (by omega)]
  by_cases h0 : b % 9223372036854775808 = 0
  ·rw [if_pos h0, decide_eq_false (by omega)]; rfl
  ·rw [if_neg h0]
   by_cases h1 : b < 9223372036854775808
   ·rw [if_pos h1, decide_eq_false (by omega)]; rfl
   ·rw [if_neg h1, decide_eq_true (by omega)]; rfl
theorem canon_cases {b : Nat} (hb : b < 18446744073709551616) : (isNaN b = true ∧ canonF b = 9221120237041090560 ∧ 9218868437227405312 < b % 9223372036854775808) ∨ (isNaN b = false ∧ canonF b = b ∧ b % 9223372036854775808 ≤ 9218868437227405312) := by
 unfold canonF
 cases h : isNaN b with
 | true => exact .inl ⟨rfl, rfl, of_decide_eq_true h⟩
 | false => exact .inr ⟨rfl, rfl, by have := of_decide_eq_false h; omega⟩
def fRank (x : Nat) : Int := if x = 9221120237041090560 then 18446744073709551615 else if x % 9223372036854775808 = 0 then 9223372036854775808 else if x < 9223372036854775808 then (x : Int) + 9223372036854775808 else 18446744073709551615 - x
theorem run_bits64 {P : Program} {f : Nat} {fn : Func} (hf : P.funcs[f]? = some fn) (h1 : (fn.name == "runtime.NumGoroutine") = false) (h2 : fn.body.isNone = true) (h3 : Extern.findNext fn = none) (h4 : Extern.find fn = some Extern.MathFloatBits.float64bits) (b : Nat) (w : World) :
  (callFunc f #[.float .f64 b]).run P w = .ok (.value (.int .u64 b)) w := by
 rw [run_callFunc_extern hf h1 h2 h3 h4]
 rfl
theorem run_frombits64 {P : Program} {f : Nat} {fn : Func} (hf : P.funcs[f]? = some fn) (h1 : (fn.name == "runtime.NumGoroutine") = false) (h2 : fn.body.isNone = true) (h3 : Extern.findNext fn = none) (h4 : Extern.find fn = some Extern.MathFloatBits.float64frombits) (b : Int) (w : World) :
  (callFunc f #[.int .u64 b]).run P w = .ok (.value (.float .f64 b.toNat)) w := by
 rw [run_callFunc_extern hf h1 h2 h3 h4]
 rfl
theorem or_top {x : Nat} (h : x < 9223372036854775808) : Go.bits .or .u64 (x : Int) 9223372036854775808 = (x : Int) + 9223372036854775808 := by
 have := bits_or_u64_nat x 9223372036854775808 (by omega) (by omega)
 rw [show ((9223372036854775808 : Nat) : Int) = 9223372036854775808 from rfl] at this
 rw [this]
 have h1 : x ||| 9223372036854775808 = 9223372036854775808 + x := by
  rw [Nat.or_comm, show (9223372036854775808 : Nat) = 2 ^ 63 * 1 by omega, ← Nat.two_pow_add_eq_or_of_lt (by omega) 1]
 rw [h1]
 omega
theorem rank_or {b : Nat} (hb : b < 18446744073709551616) (h : 0 < b ∧ b ≤ 9218868437227405312) : Go.bits .or .u64 (b : Int) 9223372036854775808 = fRank (canonF b) := by
 rw [or_top (by omega)]
 rcases canon_cases hb with ⟨_, _, h3⟩ | ⟨_, h2, _⟩
 ·omega
 ·rw [h2]; unfold fRank; rw [if_neg (by omega), if_neg (by omega), if_pos (by omega)]
theorem rank_not {b : Nat} (hb : b < 18446744073709551616) (h0 : isNaN b = false) (h1 : ¬ b % 9223372036854775808 = 0) (h : ¬ (0 < b ∧ b ≤ 9218868437227405312)) : Go.bits .xor .u64 18446744073709551615 (b : Int) = fRank (canonF b) := by
 have hx : Go.bits .xor .u64 18446744073709551615 (b : Int) = 18446744073709551615 - (b : Int) := by
  have hh : (BitVec.ofInt 64 (18446744073709551615 : Int) ^^^ BitVec.ofInt 64 (b : Int)) = ~~~ BitVec.ofInt 64 (b : Int) := by
   rw [show BitVec.ofInt 64 (18446744073709551615 : Int) = BitVec.allOnes 64 by decide, BitVec.allOnes_xor]
  show IntKind.u64.wrap (((BitVec.ofInt 64 (18446744073709551615 : Int) ^^^ BitVec.ofInt 64 (b : Int)).toNat : Nat) : Int) = _
  rw [hh, BitVec.toNat_not, BitVec.toNat_ofInt]
  rw [IntKind.wrap_u64]
  omega
 rw [hx]
 rcases canon_cases hb with ⟨h2, _⟩ | ⟨_, h2, h3⟩
 ·rw [h2] at h0; cases h0
 ·rw [h2]; unfold fRank; rw [if_neg (by omega), if_neg (by omega), if_neg (by omega)]
theorem rank_nan {b : Nat} (hb : b < 18446744073709551616) (h0 : isNaN b = true) : 18446744073709551615 = fRank (canonF b) := by
 unfold canonF; rw [h0]; rfl
theorem rank_zero {b : Nat} (hb : b < 18446744073709551616) (h1 : b % 9223372036854775808 = 0) : 9223372036854775808 = fRank (canonF b) := by
 rcases canon_cases hb with ⟨_, _, h3⟩ | ⟨_, h2, _⟩
 ·omega
 ·rw [h2]; unfold fRank; rw [if_neg (by omega), if_pos h1]
section
variable {C : Cx} {F : List HA}
theorem fop_at {st : St} (ip : Nat) {op : BinOp} {t t2 ty : Nat} {a b : Operand} {dst : Option Tmp} {rg' : Rg} {x y r : Nat} (he : atP C.B C.fn.ntmps st ip false = some (.binOp op t a b t2, ty, dst, rg'))
  (ha : opv st.tm a = some (.one (.v (.float .f64 x)))) (hb : opv st.tm b = some (.one (.v (.float .f64 y)))) (h : HFloat.floatBits' op .f64 x y = some r)
  (hh : Holds C F ⟨rg', st.K, ptO st.tm dst (.one (.v (.float .f64 r))), st.lb⟩) : Holds C F st :=
 pure_at ip false he fun L w hs => ⟨.one (.v (.float .f64 r)), F, fun w' _ => by
  have h1 : opL L st.tm a = .float .f64 x := by rw [opL_v ha]; rfl
  have h2 : opL L st.tm b = .float .f64 y := by rw [opL_v hb]; rfl
  have := HFloat.run_float_arith (P := C.P) w' op t .f64 x y r h
  have hg : (eqGuard op t a b (.float .f64 x) (.float .f64 y)).run C.P w' = .ok () w' := by
   cases op <;> first | rfl | (unfold HFloat.floatBits' at h; cases h)
  simp only [execOp, opOf, h1, h2, Sem.run_bind, hg, this, Result.andThen_ok, Sem.run_pure, SV.val, SC.val], hs, hh⟩
theorem conv_at {st : St} (ip : Nat) {t t2 ty : Nat} {a : Operand} {k : IntKind} {dst : Option Tmp} {rg' : Rg} {x : Nat} {n : Int} (he : atP C.B C.fn.ntmps st ip false = some (.convert t t2 a, ty, dst, rg'))
  (hs1 : (C.P.underlying t).isSome = true) (hd : C.P.underlying t2 = some (.int k)) (ha : opv st.tm a = some (.one (.v (.float .f64 x)))) (h : HFloat.floatToIntVal .f64 x k = some n)
  (hh : Holds C F ⟨rg', st.K, ptO st.tm dst (.one (.v (.int k n))), st.lb⟩) : Holds C F st :=
 pure_at ip false he fun L w hs => ⟨.one (.v (.int k n)), F, fun w' _ => by
  have h1 : opL L st.tm a = .float .f64 x := by rw [opL_v ha]; rfl
  have := HFloat.run_convert_float_int (P := C.P) w' t t2 .f64 k x n hs1 hd h
  simp only [execOp, opOf, h1, Sem.run_bind, this, Result.andThen_ok, Sem.run_pure, SV.val, SC.val], hs, hh⟩
end
theorem fb_dbls {r : Nat} (h : 4503599627370496 ≤ r) : ∀ k, HFloat.dbls k r = r + k * 4503599627370496
 | 0 => by simp [HFloat.dbls]
 | k + 1 => by
  rw [HFloat.dbls_succ, fb_dbls h k]
  unfold HFloat.dbl
  rw [if_neg (by omega)]
  omega
theorem fb_or {s f : Nat} (hs : s = 0 ∨ s = 9223372036854775808) (hf : f < 9223372036854775808) : Go.bits .or .u64 (s : Int) (f : Int) = ((s + f : Nat) : Int) := by
 rw [bits_or_u64_nat _ _ (by omega) (by omega)]
 congr 1
 rcases hs with rfl | rfl
 ·simp
 ·rw [show (9223372036854775808 : Nat) = 2 ^ 63 * 1 by omega, ← Nat.two_pow_add_eq_or_of_lt (by omega) 1]
theorem fb_or2 {s e f : Nat} (hs : s = 0 ∨ s = 9223372036854775808) (he : e < 2048) (hf : f < 4503599627370496) : Go.bits .or .u64 (Go.bits .or .u64 (s : Int) ((e * 4503599627370496 : Nat) : Int)) (f : Int) = ((s + (e * 4503599627370496 + f) : Nat) : Int) := by
 rw [fb_or hs (by omega), bits_or_u64_nat _ _ (by omega) (by omega)]
 congr 1
 have h1 : s + e * 4503599627370496 = s ||| e * 4503599627370496 := by
  rcases hs with rfl | rfl
  ·simp
  ·rw [show (9223372036854775808 : Nat) = 2 ^ 63 * 1 by omega, ← Nat.two_pow_add_eq_or_of_lt (by omega) 1]
 rw [h1, HFloat.or_parts hs he hf]
 omega
theorem fl_geq2 {x : Nat} (h : x < 9218868437227405312) : (FloatKind.f64.format.order x 4611686018427387904 == some .gt || FloatKind.f64.format.order x 4611686018427387904 == some .eq) = decide (4611686018427387904 ≤ x) := by
 rw [show FloatKind.f64.format.order x 4611686018427387904 = some (compare x 4611686018427387904) from HFloat.order_fin h (by omega)]
 rcases Nat.lt_trichotomy x 4611686018427387904 with h | h | h
 ·rw [Nat.compare_eq_lt.2 h, decide_eq_false (by omega)]; rfl
 ·rw [Nat.compare_eq_eq.2 h, decide_eq_true (by omega)]; rfl
 ·rw [Nat.compare_eq_gt.2 h, decide_eq_true (by omega)]; rfl
theorem fl_lt1 {x : Nat} (h : x < 9218868437227405312) : (FloatKind.f64.format.order x 4607182418800017408 == some .lt) = decide (x < 4607182418800017408) := by
 rw [show FloatKind.f64.format.order x 4607182418800017408 = some (compare x 4607182418800017408) from HFloat.order_fin h (by omega)]
 rcases Nat.lt_trichotomy x 4607182418800017408 with h | h | h
 ·rw [Nat.compare_eq_lt.2 h, decide_eq_true (by omega)]; rfl
 ·rw [Nat.compare_eq_eq.2 h, decide_eq_false (by omega)]; rfl
 ·rw [Nat.compare_eq_gt.2 h, decide_eq_false (by omega)]; rfl
theorem fl_max {x : Nat} (h : x < 9218868437227405312) : (FloatKind.f64.format.order x 9218868437227405311 == some .gt) = false := by
 rw [show FloatKind.f64.format.order x 9218868437227405311 = some (compare x 9218868437227405311) from HFloat.order_fin h (by omega)]
 rcases Nat.lt_or_eq_of_le (show x ≤ 9218868437227405311 by omega) with h | h
 ·rw [Nat.compare_eq_lt.2 h]; rfl
 ·rw [Nat.compare_eq_eq.2 h]; rfl
theorem shr63 (x : Int) : x.fdiv (2 ^ min (Int.toNat 63) IntKind.u64.bits) = x / 9223372036854775808 := by
 rw [show (2 : Int) ^ min (Int.toNat 63) IntKind.u64.bits = 9223372036854775808 by decide]
 exact Int.fdiv_eq_ediv_of_nonneg _ (by decide)
theorem shr52 (x : Int) : x.fdiv (2 ^ min (Int.toNat 52) IntKind.u64.bits) = x / 4503599627370496 := by
 rw [show (2 : Int) ^ min (Int.toNat 52) IntKind.u64.bits = 4503599627370496 by decide]
 exact Int.fdiv_eq_ediv_of_nonneg _ (by decide)
theorem fl_eq_self (b : Nat) : (FloatKind.f64.format.order b b == some .eq) = !isNaN b := by
 have := fl_ne_self b
 rw [bne] at this
 rw [← this, Bool.not_not]
end Go.Proofs.YtgleoebogikooaaGreat.Sx
namespace Go.Proofs.YtgleoebogikooaaGreat.Sx
set_option linter.unusedVariables false
set_option linter.unusedSimpArgs false
open Go.RowKit
def bOf (xs : List Int) : List UInt8 := xs.map fun n => UInt8.ofNat n.toNat
def byOk (l : List Int) : Prop := ∀ x ∈ l, 0 ≤ x ∧ x < 256
end Go.Proofs.YtgleoebogikooaaGreat.Sx
namespace Go.Proofs.YtgleoebogikooaaGreat.Sx
set_option linter.unusedVariables false
set_option linter.unusedSimpArgs false
open Go.RowKit
section
variable {P : Program} {w : World} {m : Nat} {es : Array MapEntry} {cl : Nat} {ks : List Int} {t kt et : Nat}
end
section
variable {C : Cx} {F : List HA}
end
end Go.Proofs.YtgleoebogikooaaGreat.Sx
namespace Go.Proofs.YtgleoebogikooaaGreat.Sx
set_option linter.unusedVariables false
set_option linter.unusedSimpArgs false
open Go.RowKit
section
variable {w0 w : World} {S : Nat → Prop}
end
end Go.Proofs.YtgleoebogikooaaGreat.Sx
namespace Go.Proofs.YtgleoebogikooaaGreat.Sx
set_option linter.unusedVariables false
set_option linter.unusedSimpArgs false
open Go.RowKit
end Go.Proofs.YtgleoebogikooaaGreat.Sx
namespace Go.Proofs.YtgleoebogikooaaGreat.Sx
set_option linter.unusedVariables false
set_option linter.unusedSimpArgs false
open Go.RowKit
def kPureK {γ : Type} (f : γ → List Value) (n : Nat) (hl : ∀ x, (f x).length = n) (h1 : ∀ x, ∀ u ∈ f x, u.oneCell' = true) : Kn γ where
 sz := n
 rd _ x cs := cs = f x
 ow _ _ x cs := cs = f x
 len h := by rw [h]; exact hl _
 one h u hu := by rw [h] at hu; exact h1 _ u hu
 ext _ h := h
 read h := h
 mono _ h := h
 loc _ h := h
section
variable {α γ : Type} {d : Kn α} {f : γ → List Value} {n : Nat} {hl : ∀ x, (f x).length = n} {h1 : ∀ x, ∀ u ∈ f x, u.oneCell' = true} {h : Hp} {S : Nat → Prop}
def hangA (d : Kn α) (f : γ → List Value) (l : List (α × γ)) : HA where
 holds h S := sepL (l.map fun p => elA d p.1 (f p.2)) h S
 mono hs hh := sepL_mono (l := l.map fun p => elA d p.1 (f p.2)) hs hh
 loc hs hh := sepL_loc (l := l.map fun p => elA d p.1 (f p.2)) hs hh
theorem sepL_sub : ∀ {l l' : List HA} {h : Hp} {S : Nat → Prop}, l'.Sublist l → sepL l h S → sepL l' h S
 | _, _, _, _, .slnil, _ => trivial
 | _, _, _, _, .cons _ hs, ⟨_, S2, _, h2, _, _, hl⟩ => sepL_mono h2 (sepL_sub hs hl)
 | _, _, _, _, .cons_cons _ hs, ⟨S1, S2, h1, h2, hd, hA, hl⟩ => ⟨S1, S2, h1, h2, hd, hA, sepL_sub hs hl⟩
theorem hang_sub {l l' : List (α × γ)} (hs : l'.Sublist l) (hh : (hangA d f l).holds h S) : (hangA d f l').holds h S := sepL_sub (hs.map _) hh
theorem sepL_get : ∀ {l : List HA} {h : Hp} {S : Nat → Prop} {i : Nat} {A : HA}, sepL l h S → l[i]? = some A → A.holds h S
 | _ :: _, _, _, 0, _, ⟨S1, _, h1, _, _, hA, _⟩, he => by cases he; exact HA.mono _ h1 hA
 | _ :: _, _, _, i + 1, _, ⟨_, S2, _, h2, _, _, hl⟩, he => HA.mono _ h2 (sepL_get hl (by simpa using he))
theorem hang_get {l : List (α × γ)} {i : Nat} {p : α × γ} (hh : (hangA d f l).holds h S) (hp : l[i]? = some p) : d.ow h S p.1 (f p.2) :=
 sepL_get (i := i) (A := elA d p.1 (f p.2)) hh (by simp [hp])
theorem hang_mk {Rel : α → γ → Prop} (hf : ∀ (S : Nat → Prop) x cs, d.ow h S x cs → ∃ c, Rel x c ∧ cs = f c) : ∀ (xs : List α) (c : Nat → Option Value) (T : Nat → Nat → Prop) (S : Nat → Prop), (∀ i b, T i b → S b) → (∀ i j b, i ≠ j → T i b → ¬ T j b) →
  (∀ i x, xs[i]? = some x → ∃ cs, d.ow h (T i) x cs ∧ ∀ j u, cs[j]? = some u → c (i * d.sz + j) = some u) →
  ∃ l : List (α × γ), l.map Prod.fst = xs ∧ (∀ q ∈ l, Rel q.1 q.2) ∧ (∀ i p, l[i]? = some p → ∀ j u, (f p.2)[j]? = some u → c (i * d.sz + j) = some u) ∧ sepL (l.map fun p => elA d p.1 (f p.2)) h S
 | [], _, _, _, _, _, _ => ⟨[], rfl, fun q hq => by simp at hq, fun i p hp => by simp at hp, trivial⟩
 | x :: r, c, T, S, t1, t2, t3 => by
  obtain ⟨cs, h1, h2⟩ := t3 0 x rfl
  obtain ⟨c0, hrel, rfl⟩ := hf _ _ _ h1
  obtain ⟨l, e1, e0, e2, e3⟩ := hang_mk hf r (fun k => c (d.sz + k)) (fun i => T (i + 1)) (fun b => S b ∧ ¬ T 0 b) (fun i b hb => ⟨t1 _ b hb, fun h0 => t2 0 (i + 1) b (by omega) h0 hb⟩) (fun i j b hne hi hj => t2 (i + 1) (j + 1) b (by omega) hi hj) (fun i y hy => by
   obtain ⟨cs, h3, h4⟩ := t3 (i + 1) y (by simpa using hy)
   exact ⟨cs, h3, fun j u hu => by have := h4 j u hu; rwa [Nat.add_mul, Nat.one_mul, Nat.add_comm (i * d.sz) d.sz, Nat.add_assoc] at this⟩)
  refine ⟨(x, c0) :: l, by rw [List.map_cons, e1], fun q hq => (by rcases List.mem_cons.1 hq with rfl | hq; exact hrel; exact e0 q hq), fun i p hp j u hu => ?_, T 0, fun b => S b ∧ ¬ T 0 b, fun b hb => t1 0 b hb, fun b hb => hb.1, fun b hb hn => hn.2 hb, h1, e3⟩
  cases i with
  | zero => cases hp; exact h2 j u hu
  | succ i =>
   have := e2 i p (by simpa using hp) j u hu
   rwa [Nat.add_mul, Nat.one_mul, Nat.add_comm (i * d.sz) d.sz, Nat.add_assoc]
theorem apart_row {Rel : α → γ → Prop} {e : Nat} {xs : List α} {v : Value} (hn : d.sz = n) (hf : ∀ (h : Hp) (S : Nat → Prop) x cs, d.ow h S x cs → ∃ c, Rel x c ∧ cs = f c) (ho : owRow e d h S xs v) : ∃ l : List (α × γ), l.map Prod.fst = xs ∧ (∀ q ∈ l, Rel q.1 q.2) ∧ sepL [rowA e (kPureK f n hl h1) (l.map Prod.snd) v, hangA d f l] h S := by
 obtain ⟨A, c, rfl, hle, hmax, hcase⟩ := owRow_iff.1 ho
 rcases hcase with rfl | ⟨g, cells, rfl, hg, hcell, hsz, T, t1, t2, t3⟩
 ·have hx : xs = [] := List.eq_nil_of_length_eq_zero (by omega)
  subst hx
  exact ⟨[], rfl, fun q hq => (by simp at hq), fun _ => False, fun _ => False, fun _ h => h.elim, fun _ h => h.elim, fun _ h => h.elim, rowA_holds.2 (owRow_empty A), fun _ => False, fun _ => False, fun _ h => h, fun _ h => h, fun _ h => h.elim, trivial, trivial⟩
 ·obtain ⟨l, e1, e0, e2, e3⟩ := hang_mk (hf h) xs (fun k => cells[k]?) T (fun b => S b ∧ b ≠ g) t1 t2 t3
  have hll : l.length = xs.length := by rw [← e1, List.length_map]
  refine ⟨l, e1, e0, fun b => b = g, fun b => S b ∧ b ≠ g, fun b hb => hb ▸ hg, fun b hb => hb.1, fun b hb hn => hn.2 hb, rowA_holds.2 (owRow_iff.2 ⟨some ⟨g, 0, none⟩, c, by rw [List.length_map, hll], by rw [List.length_map, hll]; exact hle, hmax, .inr ⟨g, cells, rfl, rfl, hcell, by rw [hsz, hn]; rfl, ?_⟩⟩), fun b => S b ∧ b ≠ g, fun _ => False, fun _ h => h, fun _ h => h.elim, fun _ _ h => h, e3, trivial⟩
  refine ⟨fun _ _ => False, fun _ _ h => h.elim, fun _ _ _ _ h => h.elim, fun i x hx => ⟨f x, rfl, fun j u hu => ?_⟩⟩
  rw [List.getElem?_map] at hx
  cases hp : l[i]? with
  | none => rw [hp] at hx; cases hx
  | some p =>
   rw [hp] at hx
   cases hx
   have := e2 i p hp j u hu
   rw [hn] at this
   exact this
theorem els_hang (hz : ∀ x, (f x).length = d.sz) : ∀ (l : List (α × γ)) (c : Nat → Option Value) (S : Nat → Prop), (∀ i p, l[i]? = some p → ∀ j u, (f p.2)[j]? = some u → c (i * d.sz + j) = some u) → sepL (l.map fun p => elA d p.1 (f p.2)) h S → els d h S (l.map Prod.fst) c
 | [], _, _, _, _ => els_nil
 | p :: r, c, S, hc, ⟨S1, S2, s1, s2, sd, hA, hl⟩ => by
  have ih := els_hang hz r (fun k => c (d.sz + k)) S2 (fun i q hq j u hu => by
   have := hc (i + 1) q (by simpa using hq) j u hu
   rwa [Nat.add_mul, Nat.one_mul, Nat.add_comm (i * d.sz) d.sz, Nat.add_assoc] at this) hl
  have h0 : els d h S1 [p.1] (fun k => if k < d.sz then c k else none) := els_one hA (fun j u hu => by
   have hj : j < d.sz := by rw [← hz p.2]; exact (List.getElem?_eq_some_iff.1 hu).1
   have := hc 0 p rfl j u hu
   rw [if_pos hj]
   simpa using this)
  have := els_append h0 ih sd (c := c) (fun k hk u hu => by
   simp only [List.length_singleton, Nat.one_mul] at hk
   rwa [if_pos hk] at hu) (fun k hk u hu => by simpa using hu)
  exact els_mono (fun b hb => hb.elim (s1 b) (s2 b)) this
theorem join_row {e : Nat} {l : List (α × γ)} {v : Value} (hn : d.sz = n) (ho : sepL [rowA e (kPureK f n hl h1) (l.map Prod.snd) v, hangA d f l] h S) : owRow e d h S (l.map Prod.fst) v := by
 obtain ⟨S1, S2, s1, s2, sd, hrow, S3, _, s3, _, _, hh, _⟩ := ho
 obtain ⟨A, c, rfl, hle, hmax, hcase⟩ := owRow_iff.1 (rowA_holds.1 hrow)
 rw [List.length_map] at hle
 refine owRow_iff.2 ⟨A, c, by simp, by simpa using hle, hmax, ?_⟩
 rcases hcase with h0 | ⟨g, cells, hA, hg, hcell, hsz, hels⟩
 ·exact .inl h0
 ·refine .inr ⟨g, cells, hA, s1 g hg, hcell, by rw [hsz, hn]; rfl, ?_⟩
  refine els_mono (S := S3) (fun b hb => ⟨s2 b (s3 b hb), fun e0 => sd g hg (e0 ▸ s3 b hb)⟩) (els_hang (fun x => by rw [hl, hn]) l _ S3 (fun i p hp j u hu => ?_) hh)
  obtain ⟨_, _, _, hel⟩ := hels
  obtain ⟨cs, e1, e2⟩ := hel i p.2 (by simp [hp])
  have e1 : cs = f p.2 := e1
  subst e1
  have := e2 j u hu
  rw [hn]
  exact this
end
section
variable {C : Cx} {F : List HA}
theorem h_apart {α γ : Type} {Rel : α → γ → Prop} {d : Kn α} {f : γ → List Value} {n : Nat} (hl : ∀ x, (f x).length = n) (h1 : ∀ x, ∀ u ∈ f x, u.oneCell' = true) {e : Nat} {xs : List α} {v : Value} {st : St} (hn : d.sz = n) (hf : ∀ (h : Hp) (S : Nat → Prop) x cs, d.ow h S x cs → ∃ c, Rel x c ∧ cs = f c)
  (h : ∀ l : List (α × γ), l.map Prod.fst = xs → (∀ q ∈ l, Rel q.1 q.2) → Holds C (rowA e (kPureK f n hl h1) (l.map Prod.snd) v :: hangA d f l :: F) st) : Holds C (rowA e d xs v :: F) st := by
 intro L w1 w a hs ht hr
 obtain ⟨henv, hll, S, hS, S1, S2, s1, s2, sd, hrow, hF⟩ := hs
 obtain ⟨l, e1, e0, e2⟩ := apart_row (hl := hl) (h1 := h1) hn hf (rowA_holds.1 hrow)
 exact h l e1 e0 L w1 w a ⟨henv, hll, S, hS, sepL_append (l1 := [_, _]).2 ⟨S1, S2, s1, s2, sd, e2, hF⟩⟩ ht hr
theorem call_mutT {A : List HA} {st : St} {f : Nat} {as : List SV} {dst : Option Tmp} {rg' : Rg} (he : atC C.B C.fn.ntmps st false = some (f, as, dst, rg')) (hg : goesB C.P f = true)
  (h : ∀ (L : List Nat) (w : World) (S : Nat → Prop), SOK C (A ++ F) st.lb L w → sepL A w.heap S → (∀ b, S b → b < w.heap.size) → (∃ T, sepL F w.heap T ∧ (∀ b, T b → ¬ S b ∧ b < w.heap.size)) → (∀ x ∈ L, ¬ S x) → Calls C.P f (as.map (SV.val L)).toArray w fun e w' => ∃ (v : SV) (B : List HA), e = .returned (v.val L) ∧ Mut w w' S B ∧
   Holds C (B ++ F) ⟨rg', st.K, ptO st.tm dst v, st.lb⟩) : Holds C (A ++ F) st :=
 call_at false he hg fun L w hs => by
  have hs0 := hs
  obtain ⟨⟨h1, hp⟩, h2, S, hS, hF⟩ := hs
  obtain ⟨S1, S2, h3, h4, hd, hA, hF⟩ := sepL_append.1 hF
  have hs1 : SOK C (A ++ F) st.lb L w := ⟨⟨h1, hp⟩, h2, S, hS, sepL_append.2 ⟨S1, S2, h3, h4, hd, hA, hF⟩⟩
  refine (h L w S1 hs0 hA (fun b hb => (hS b (h3 b hb)).1) ⟨S2, hF, fun b hb => ⟨fun hn => hd b hn hb, (hS b (h4 b hb)).1⟩⟩ (fun x hx hn => (hS x (h3 x hn)).2 hx)).mono ?_
  rintro e w' ⟨v, B, he, hm, hh⟩
  refine ⟨v, B ++ F, st.lb, he, fun hk => by (cases hk), ?_, hh⟩
  refine ⟨⟨⟨hm.os.trans h1.os, hm.tape.trans h1.tape, hm.output.trans h1.output, Nat.le_trans h1.size hm.size⟩, hp⟩, ⟨h2.1, h2.2.1, fun i b hi => ?_⟩, fun b => (S1 b ∨ (w.heap.size ≤ b ∧ b < w'.heap.size)) ∨ S2 b, fun b hb => ?_, sepL_append.2 ⟨fun b => S1 b ∨ (w.heap.size ≤ b ∧ b < w'.heap.size), S2, fun b hb => .inl hb, fun b hb => .inr hb, fun b hb hc => ?_, hm.own, sepL_loc (fun b hb hlt => hm.keep b hlt (fun h5 => hd b h5 hb)) hF⟩⟩
  ·have h5 := h2.2.2 i b hi
   rw [hm.keep _ (Array.getElem?_eq_some_iff.1 h5).1 (fun hs1 => (hS _ (h3 _ hs1)).2 ?_)]
   ·exact h5
   ·have : i < L.length := by rw [← h2.1]; exact (List.getElem?_eq_some_iff.1 hi).1
    rw [List.getD_eq_getElem?_getD, List.getElem?_eq_getElem this]
    exact List.getElem_mem _
  ·rcases hb with (hb | hb) | hb
   ·exact ⟨Nat.lt_of_lt_of_le (hS b (h3 b hb)).1 hm.size, (hS b (h3 b hb)).2⟩
   ·exact ⟨hb.2, h2.notin hb.1⟩
   ·exact ⟨Nat.lt_of_lt_of_le (hS b (h4 b hb)).1 hm.size, (hS b (h4 b hb)).2⟩
  ·rcases hb with hb | hb
   ·exact hd b hb hc
   ·have := (hS b (h4 b hc)).1
    omega
theorem frame_hang {α γ : Type} {d : Kn α} {f : γ → List Value} {l : List (α × γ)} {F : List HA} {w1 w2 : World} {S : Nat → Prop} (hT : ∃ T, sepL F w1.heap T ∧ (∀ b, T b → ¬ S b ∧ b < w1.heap.size)) (n : Nat) (hn : F[n]? = some (hangA d f l))
  (hag : ∀ b, b < w1.heap.size → ¬ S b → w2.heap[b]? = w1.heap[b]?) : ∀ q ∈ l, d.rd w2.heap q.1 (f q.2) := by
 obtain ⟨T, hF, hTS⟩ := hT
 have h2 := sepL_get (sepL_loc (fun b hb hlt => hag b hlt (hTS b hb).1) hF) hn
 intro q hq
 obtain ⟨i, hi, rfl⟩ := List.getElem_of_mem hq
 exact d.read (hang_get h2 (List.getElem?_eq_getElem hi))
end
end Go.Proofs.YtgleoebogikooaaGreat.Sx
namespace Go.Proofs.YtgleoebogikooaaGreat.Sx
set_option linter.unusedVariables false
set_option linter.unusedSimpArgs false
open Go.RowKit
theorem zeroCells_mem {z : Array Value} {n : Nat} {u : Value} (h : u ∈ (Builtin.zeroCells z n).toList) (hz : 0 < z.size) : u ∈ z.toList := by
 simp only [Builtin.zeroCells, Array.toList_map, Array.toList_range, List.mem_map, List.mem_range] at h
 obtain ⟨i, _, rfl⟩ := h
 have hlt : i % z.size < z.size := Nat.mod_lt _ hz
 rw [getElem!_pos z _ hlt]
 exact Array.getElem_mem_toList hlt
section
variable {C : Cx} {F : List HA}
theorem clear_at {γ : Type} {f : γ → List Value} {n : Nat} {hl : ∀ x, (f x).length = n} {h1 : ∀ x, ∀ u ∈ f x, u.oneCell' = true} {ys : List γ} {st : St} {ts t ty e by_ g i n2 c2 c : Nat} {A2 : Option Addr} {dst : Option Tmp} {rg' : Rg} {zc : List Value}
  (he : atB C.B C.fn.ntmps st false = some (.call { callee := .builtin .clear, args := #[.tmp ts], argTypes := #[t] }, ty, dst, rg')) (hT : rowTy C.P t = some (e, n, by_)) (hz : zeroOf C.P e = some zc) (hzc : ∀ u ∈ zc, u.oneCell' = true)
  (hx : lk st.tm ts = some (.one (.v (.slice A2 n2 c2)))) (hA : i < ys.length → A2 = some ((⟨g, 0, none⟩ : Addr).add (i * n))) (hn2 : n2 = ys.length - i) (hi : i ≤ ys.length) (h0 : 0 < ys.length)
  (h : Holds C (rowA e (kPureK f n hl h1) (ys.take i) (.slice (some ⟨g, 0, none⟩) i c) :: F) ⟨rg', st.K, ptO st.tm dst (.one (.v (.tuple #[]))), st.lb⟩) :
  Holds C (rowA e (kPureK f n hl h1) ys (.slice (some ⟨g, 0, none⟩) ys.length c) :: F) st := by
 refine prim_at false he (fun L w hs => ?_)
 obtain ⟨iz, z, hu, hinf, hzz, hsz, hzs, _, hpos⟩ := rowTy_spec hT
 have hzc' : z.cells.toList = zc := by
  simp only [zeroOf, hinf, hzz, Option.some.injEq] at hz
  exact hz
 obtain ⟨S, ⟨S1, S2, a1, a2, a3, hrow, hA0⟩, hS, hmut⟩ := SOK.mut (A := [rowA e (kPureK f n hl h1) ys (.slice (some ⟨g, 0, none⟩) ys.length c)]) (F := F) hs
 obtain ⟨A', c', hv0, hle, hmax, hcase⟩ := owRow_iff.1 (rowA_holds.1 hrow)
 obtain ⟨rfl, rfl⟩ : A' = some ⟨g, 0, none⟩ ∧ c' = c := by
  simp only [Value.slice.injEq] at hv0
  exact ⟨hv0.1.symm, hv0.2.2.symm⟩
 rcases hcase with hc0 | ⟨g', cells, hg', hSg, hg, hcs, T', t1, t2, t3⟩
 ·omega
 cases hg'
 have hcs : cells.size = c' * n := hcs
 have hnew : ∀ (w' : World), (∀ b, b ≠ g → w'.heap[b]? = w.heap[b]?) → ∀ cells' : Array Value, w'.heap[g]? = some (.cells cells' e (0, 0)) → cells'.size = cells.size → (∀ k, k < i * n → cells'[k]? = cells[k]?) → (rowA e (kPureK f n hl h1) (ys.take i) (.slice (some ⟨g, 0, none⟩) i c')).holds w'.heap S := by
  intro w' _ cells' hg2 hsz2 hk2
  refine rowA_holds.2 (owRow_iff.2 ⟨some ⟨g, 0, none⟩, c', by rw [List.length_take]; congr 1; omega, by rw [List.length_take]; omega, hmax, .inr ⟨g, cells', rfl, a1 g hSg, hg2, by rw [hsz2, hcs]; rfl, ?_⟩⟩)
  refine ⟨fun _ _ => False, fun _ _ hb => hb.elim, fun _ _ _ _ hb => hb.elim, fun k x hx => ?_⟩
  rw [List.getElem?_take] at hx
  split at hx
  ·rename_i hki
   obtain ⟨cs, e1, e2⟩ := t3 k x hx
   have e1 : cs = f x := e1
   subst e1
   refine ⟨f x, rfl, fun j u hu => ?_⟩
   have hj : j < n := by rw [← hl x]; exact (List.getElem?_eq_some_iff.1 hu).1
   have := e2 j u hu
   show cells'[k * n + j]? = some u
   rw [hk2 _ (by have h3 : (k + 1) * n ≤ i * n := Nat.mul_le_mul_right _ hki; rw [Nat.add_mul] at h3; omega)]
   exact this
  ·cases hx
 rcases Nat.lt_or_ge i ys.length with hlt | hge
 ·have hA2 := hA hlt
  subst hA2
  have hvl : (Builtin.zeroCells z.cells n2).toList.length = n2 * n := by
   rw [Array.length_toList, size_zeroCells, hzs]
  have hone : ∀ v ∈ (Builtin.zeroCells z.cells n2).toList, v.oneCell' = true := fun v hv => hzc v (by rw [← hzc']; exact zeroCells_mem hv (by omega))
  have hbig : i * n + (Builtin.zeroCells z.cells n2).toList.length ≤ cells.size := by
   rw [hvl, hcs, hn2, ← Nat.add_mul]
   exact Nat.mul_le_mul_right _ (by omega)
  have hst := run_storeCells_at C.P g (i * n) e (Builtin.zeroCells z.cells n2).toList 0 cells w hg (by simpa using hbig) hone
  simp only [Nat.add_zero] at hst
  refine ⟨.one (.v (.tuple #[])), _, st.lb, w.setRow g (cells.toList.take (i * n) ++ (Builtin.zeroCells z.cells n2).toList ++ cells.toList.drop (i * n + (Builtin.zeroCells z.cells n2).toList.length)).toArray, ?_, fun hk => by (cases hk), ?_, h⟩
  ·obtain ⟨m, hm⟩ : ∃ m, n2 = m + 1 := ⟨n2 - 1, by omega⟩
   have e1 : opL L st.tm (.tmp ts) = .slice (some ⟨g, i * n, none⟩) n2 c2 := by rw [opL_tmp hx]; simp only [SV.val, SC.val, add_at, Nat.zero_add]
   have e2 : (Builtin.clear_ #[t] ty #[.slice (some ⟨g, i * n, none⟩) n2 c2]).run C.P w = .ok (.tuple #[]) (w.setRow g (cells.toList.take (i * n) ++ (Builtin.zeroCells z.cells n2).toList ++ cells.toList.drop (i * n + (Builtin.zeroCells z.cells n2).toList.length)).toArray) := by
    subst hm
    simp only [Builtin.clear_, List.getElem?_toArray, List.getElem?_cons_zero, Sem.run_bind, Sem.run_pure, Result.andThen_ok, run_underlying hu, run_zero hinf hzz, hst]
   simp only [opOf, execOp, resolve, invoke, builtin, Sem.run_bind, Sem.run_pure, Result.andThen_ok, List.map_toArray, List.map_cons, List.map_nil, e1, e2, SV.val, SC.val]
  ·refine hmut _ [_] rfl rfl rfl (by simp [World.setRow]) (fun b _ hb => setRow_other w g b _ (fun e0 => hb (e0 ▸ a1 g hSg))) ?_
   refine ⟨_, fun _ => False, fun _ hb => hb, fun _ hb => hb.elim, fun _ _ hb => hb, HA.mono _ (fun b hb => .inl hb) (hnew _ (fun b hb => setRow_other w g b _ hb) _ (setRow_heap w g cells _ e _ hg) ?_ (fun k hk => ?_)), trivial⟩
   ·simp only [List.size_toArray, List.length_append, List.length_take, List.length_drop, Array.length_toList]
    have := hbig
    rw [Array.length_toList] at this
    omega
   ·have hck : k < cells.size := by omega
    simp only [List.getElem?_toArray]
    rw [List.append_assoc, List.getElem?_append_left (by simp; omega), List.getElem?_take_of_lt hk]
    simp
 ·have hie : i = ys.length := by omega
  have hn0 : n2 = 0 := by omega
  subst hn0
  refine ⟨.one (.v (.tuple #[])), _, st.lb, w, ?_, fun hk => by (cases hk), ?_, h⟩
  ·have e1 : opL L st.tm (.tmp ts) = .slice A2 0 c2 := opL_tmp hx
   have e2 : (Builtin.clear_ #[t] ty #[.slice A2 0 c2]).run C.P w = .ok (.tuple #[]) w := by
    cases A2 <;> simp [Builtin.clear_, run_underlying hu]
   simp only [opOf, execOp, resolve, invoke, builtin, Sem.run_bind, Sem.run_pure, Result.andThen_ok, List.map_toArray, List.map_cons, List.map_nil, e1, e2, SV.val, SC.val]
  ·refine hmut w [_] rfl rfl rfl (Nat.le_refl _) (fun b _ _ => rfl) ?_
   exact ⟨_, fun _ => False, fun _ hb => hb, fun _ hb => hb.elim, fun _ _ hb => hb, HA.mono _ (fun b hb => .inl hb) (hnew w (fun b _ => rfl) cells hg rfl (fun k _ => rfl)), trivial⟩
end
end Go.Proofs.YtgleoebogikooaaGreat.Sx
namespace Go.Proofs.YtgleoebogikooaaGreat.Sx
set_option linter.unusedVariables false
set_option linter.unusedSimpArgs false
open Go.RowKit
theorem blk_at {h : Hp} {g ty : Nat} {vs : List Value} (hg : h[g]? = some (.cells vs.toArray ty (0, 0))) (k : Nat) {v : Value} (hv : vs[k]? = some v) : cellH h ((⟨g, 0, none⟩ : Addr).add k) = some v := by
 rw [add_at]
 simp only [cellH, hg, Option.isSome_none, Bool.false_eq_true, if_false, Nat.zero_add]
 simpa using hv
theorem one_el {α : Type} {d : Kn α} {h : Hp} {S : Nat → Prop} {x : α} {cs : List Value} (ho : d.ow h S x cs) : sepL [elA d x cs] h S := ⟨S, fun _ => False, fun _ h => h, fun _ h => h.elim, fun _ _ h => h, ho, trivial⟩
end Go.Proofs.YtgleoebogikooaaGreat.Sx
namespace Go.Proofs.YtgleoebogikooaaGreat.Sx.HFloat
open Ieee
theorem mg_lt (x : Nat) : mg x < 9007199254740992 := by unfold mg; split <;> omega
theorem log2_le {x : Nat} : (mg x).log2 ≤ 52 := by
 rcases Nat.eq_zero_or_pos (mg x) with h | h
 ·rw [h]; decide
 ·have := (Nat.log2_lt (n := mg x) (k := 53) (by omega)).2 (by have := mg_lt x; rw [show (2 : Nat) ^ 53 = 9007199254740992 by decide]; exact this)
  omega
theorem div_pow {x c : Nat} {j : Int} (hp : 0 < x) (hi : x < 9218868437227405312) (hc : D.read c = .number false 4503599627370496 j) : D.div x c = some (D.nearest false (mg x) (pl x - (j + 52))) := by
 unfold Format.div
 rw [read_fin hi, hc, quot_num _ _ _ _ _ _ _ (by omega)]
 have hl := log2_le (x := x)
 have hf : D.fractionBits = 52 := rfl
 have h52 : (4503599627370496 : Nat).log2 = 52 := (Nat.log2_eq_iff (by omega)).2 ⟨by decide, by decide⟩
 rw [hf, h52, Option.map_some]
 obtain ⟨s, hs⟩ : ∃ s : Nat, s + 54 = 52 + 2 + 52 - (mg x).log2 := ⟨52 - (mg x).log2, by omega⟩
 rw [← hs]
 have e : mg x <<< (s + 54) = 4503599627370496 * (mg x * 2 ^ (s + 2)) := by
  rw [Nat.shiftLeft_eq, show s + 54 = (s + 2) + 52 by omega, Nat.pow_add 2 (s + 2) 52, show (2 : Nat) ^ 52 = 4503599627370496 by decide, ← Nat.mul_assoc, Nat.mul_comm]
 rw [e, Nat.mul_div_cancel_left _ (by omega), Nat.mul_mod_right]
 have hw : ∀ (m : Nat) (p : Int), D.write (.number (false ^^ false) (m + ((0 : Nat) != 0).toNat) p) = D.nearest false m p := fun m p => rfl
 rw [hw]
 refine congrArg some ?_
 rw [show 2 * (mg x * 2 ^ (s + 2)) = mg x * 2 ^ (s + 3) by rw [show s + 3 = (s + 2) + 1 by omega, Nat.pow_succ 2 (s + 2)]; generalize 2 ^ (s + 2) = q; rw [Nat.mul_comm 2, Nat.mul_assoc]]
 rw [nearest_ups D false (mg x) (mg_pos hp)]
 congr 1
 omega
theorem half_dbl {y : Nat} (h : dbl y < 9218868437227405312) : D.div (dbl y) 4611686018427387904 = some y := by
 rcases Nat.eq_zero_or_pos y with rfl | hp
 ·decide
 have hd0 : 0 < dbl y := by unfold dbl; split <;> omega
 rw [div_pow hd0 h read_two]
 refine congrArg some ?_
 rcases Nat.lt_or_ge y 4503599627370496 with hs | hn
 ·have e1 : mg (dbl y) = 2 * y := by unfold dbl mg; rw [if_pos hs]; split <;> omega
  have e2 : pl (dbl y) = -1074 := by unfold dbl pl; rw [if_pos hs]; split <;> omega
  have e3 : mg y = y := by unfold mg; rw [if_pos hs]
  have e4 : pl y = -1074 := by unfold pl; rw [if_pos hs]
  rw [e1, e2, nearest_up D false y _ hp]
  have := nearest_fin (r := y) (by omega)
  rw [e3, e4] at this
  exact this
 ·have e0 : dbl y = y + 4503599627370496 := by unfold dbl; rw [if_neg (by omega)]
  have e1 : mg (dbl y) = mg y := by rw [e0]; unfold mg; rw [if_neg (by omega), if_neg (by omega)]; omega
  have e2 : pl (dbl y) - (-51 + 52) = pl y := by rw [e0]; unfold pl; rw [if_neg (by omega), if_neg (by omega)]; omega
  rw [e1, e2]
  exact nearest_fin (by unfold dbl at h; rw [if_neg (by omega)] at h; omega)
theorem whole_parts {f : Nat} (h : f < 4503599627370496) (hf : 0 < f) : mg (whole f) = mg (dbls 1022 f) ∧ pl (whole f) = pl (dbls 1022 f) + 52 ∧ whole f < 9218868437227405312 := by
 obtain ⟨d, hd, hm, hp, hB⟩ := scaled_aux h hf
 have hl := dbls_lt h (Nat.le_refl 1022)
 unfold whole
 rw [if_neg (by omega)]
 generalize dbls 1022 f = y at *
 refine ⟨?_, ?_, by omega⟩
 ·unfold mg; rw [if_neg (by omega), if_neg (by omega)]; omega
 ·unfold pl; rw [if_neg (by omega), if_neg (by omega)]; omega
theorem div_big {f : Nat} (h : f < 4503599627370496) : D.div (whole f) 4841369599423283200 = some (dbls 1022 f) := by
 rcases Nat.eq_zero_or_pos f with rfl | hf
 ·rw [dbls_zero]; decide
 obtain ⟨h1, h2, h3⟩ := whole_parts h hf
 have hw0 : 0 < whole f := by unfold whole; rw [if_neg (by omega)]; omega
 have hl := dbls_lt h (Nat.le_refl 1022)
 rw [div_pow hw0 h3 read_big, h1, h2, show pl (dbls 1022 f) + 52 - (0 + 52) = pl (dbls 1022 f) by omega]
 exact congrArg some (nearest_fin (by omega))
theorem near_whole {f : Nat} (h : f < 4503599627370496) : FloatKind.f64.nearest (f : Int) = whole f := by
 show FloatKind.f64.format.nearest (decide ((f : Int) < 0)) (f : Int).natAbs 0 = _
 rw [decide_eq_false (by omega), Int.natAbs_natCast]
 rcases Nat.eq_zero_or_pos f with rfl | hf
 ·decide
 obtain ⟨d, hd, hm, hp, hB⟩ := scaled_aux h hf
 obtain ⟨h1, h2, h3⟩ := whole_parts h hf
 have h4 := nearest_fin h3
 rw [h1, h2, hm, hp, nearest_ups D false f hf, show -(d : Int) + (d : Int) = 0 by omega] at h4
 exact h4
theorem sgn_pos (m k : Nat) : signed false m k = ((m * 2 ^ k : Nat) : Int) := by simp [signed, Nat.shiftLeft_eq]
theorem add_0_1 : D.add 0 4607182418800017408 = some 4607182418800017408 := by
 unfold Format.add
 rw [show D.read 0 = .number false 0 (-1074) by decide, read_one]
 unfold Datum.sum
 simp only [Option.map_some]
 have e0 : min (-1074) (-52) = (-1074 : Int) := by omega
 rw [e0, show (-1074 - -1074 : Int).toNat = 0 by omega, show (-52 - -1074 : Int).toNat = 1022 by omega, sgn_pos, sgn_pos, Nat.zero_mul]
 obtain ⟨K, hK⟩ : ∃ K : Nat, K = 1022 := ⟨_, rfl⟩
 rw [← hK]
 have hpos : 0 < 4503599627370496 * 2 ^ K := Nat.mul_pos (by omega) (Nat.pow_pos (by omega))
 have e3 : ((0 : Nat) : Int) + ((4503599627370496 * 2 ^ K : Nat) : Int) = ((4503599627370496 * 2 ^ K : Nat) : Int) := Int.zero_add _
 rw [e3]
 have e4 : (if ((4503599627370496 * 2 ^ K : Nat) : Int) = 0 then false && false else decide (((4503599627370496 * 2 ^ K : Nat) : Int) < 0)) = false := by
  rw [if_neg (by omega)]
  exact decide_eq_false (by omega)
 rw [e4, Int.natAbs_natCast]
 have hw : ∀ (m : Nat) (p : Int), D.write (.number false m p) = D.nearest false m p := fun m p => rfl
 rw [hw, nearest_ups D false _ (by omega), hK, show (-1074 : Int) + ((1022 : Nat) : Int) = -52 by omega]
 have h5 := nearest_fin (r := 4607182418800017408) (by omega)
 have h6 : mg 4607182418800017408 = 4503599627370496 := by decide
 have h7 : pl 4607182418800017408 = -52 := by decide
 rw [h6, h7] at h5
 exact congrArg some h5
theorem add_one {f : Nat} (h : f < 4503599627370496) : D.add (dbls 1022 f) 4607182418800017408 = some (4607182418800017408 + f) := by
 rcases Nat.eq_zero_or_pos f with rfl | hf
 ·rw [dbls_zero]; exact add_0_1
 obtain ⟨d, hd, hm, hp, hB⟩ := scaled_aux h hf
 have hl := dbls_lt h (Nat.le_refl 1022)
 have hpl := pl_ge (dbls 1022 f)
 generalize dbls 1022 f = y at *
 unfold Format.add
 rw [read_fin (by omega), hm, read_one, show pl y = -52 - (d : Int) by omega]
 unfold Datum.sum
 simp only [Option.map_some]
 have e0 : min (-52 - (d : Int)) (-52) = -52 - (d : Int) := by omega
 rw [e0]
 have e1 : (-52 - (d : Int) - (-52 - (d : Int))).toNat = 0 := by omega
 have e2 : (-52 - (-52 - (d : Int))).toNat = d := by omega
 rw [e1, e2]
 have e3 : signed false (f * 2 ^ d) 0 + signed false 4503599627370496 d = (((4503599627370496 + f) * 2 ^ d : Nat) : Int) := by
  rw [sgn_pos, sgn_pos, Nat.pow_zero, Nat.mul_one, Nat.add_mul, ← Int.natCast_add, Nat.add_comm]
 rw [e3]
 have hpos : 0 < (4503599627370496 + f) * 2 ^ d := Nat.mul_pos (by omega) (Nat.pow_pos (by omega))
 have e4 : (if (((4503599627370496 + f) * 2 ^ d : Nat) : Int) = 0 then false && false else decide ((((4503599627370496 + f) * 2 ^ d : Nat) : Int) < 0)) = false := by
  rw [if_neg (by omega)]
  exact decide_eq_false (by omega)
 rw [e4, Int.natAbs_natCast]
 have hw : ∀ (m : Nat) (p : Int), D.write (.number false m p) = D.nearest false m p := fun m p => rfl
 rw [hw, nearest_ups D false _ (by omega), show -52 - (d : Int) + (d : Int) = -52 by omega]
 have h5 := nearest_fin (r := 4607182418800017408 + f) (by omega)
 have h6 : mg (4607182418800017408 + f) = 4503599627370496 + f := by unfold mg; rw [if_neg (by omega)]; omega
 have h7 : pl (4607182418800017408 + f) = -52 := by unfold pl; rw [if_neg (by omega)]; omega
 rw [h6, h7] at h5
 exact congrArg some h5
theorem div_zz : D.div 0 0 = none := by decide
end Go.Proofs.YtgleoebogikooaaGreat.Sx.HFloat
namespace Go.Proofs.YtgleoebogikooaaGreat.Sx
set_option linter.unusedVariables false
set_option linter.unusedSimpArgs false
open Go.RowKit
section
variable {C : Cx} {F : List HA}
theorem nan_cut (x y t : Nat) : isNaN ((Question.nanBits .f64 x y).cut t) = true ∧ (Question.nanBits .f64 x y).cut t < 18446744073709551616 := by
 have e : (Question.nanBits .f64 x y).cut t = (t % 2) * 2 ^ 63 + 0x7ff0000000000000 + 1 + (t / 2) % (2 ^ 52 - 1) := rfl
 rw [e]
 unfold isNaN
 have h1 : (t / 2) % (2 ^ 52 - 1) < 2 ^ 52 - 1 := Nat.mod_lt _ (by decide)
 rw [show (2 : Nat) ^ 52 - 1 = 4503599627370495 by decide] at h1 ⊢
 rw [show (2 : Nat) ^ 63 = 9223372036854775808 by decide]
 generalize (t / 2) % 4503599627370495 = q at *
 have h2 : t % 2 = 0 ∨ t % 2 = 1 := by omega
 constructor
 ·apply decide_eq_true
  rcases h2 with h2 | h2 <;> rw [h2] <;> omega
 ·rcases h2 with h2 | h2 <;> rw [h2] <;> omega
theorem nan_at {st : St} (k : Bool) {op : BinOp} {t t2 ty : Nat} {a b : Operand} {dst : Option Tmp} {rg' : Rg} {x y : Nat} (he : atB C.B C.fn.ntmps st k = some (.binOp op t a b t2, ty, dst, rg')) (hop : op = .quo)
  (ha : opv st.tm a = some (.one (.v (.float .f64 x)))) (hb : opv st.tm b = some (.one (.v (.float .f64 y)))) (h : HFloat.D.div x y = none)
  (hh : ∀ r, isNaN r = true → r < 18446744073709551616 → Holds C F ⟨rg', st.K, ptO st.tm dst (.one (.v (.float .f64 r))), st.lb⟩) : Holds C F st := by
 subst hop
 refine prim_at k he (fun L w hs => ?_)
 have h1 : opL L st.tm a = .float .f64 x := by rw [opL_v ha]; rfl
 have h2 : opL L st.tm b = .float .f64 y := by rw [opL_v hb]; rfl
 obtain ⟨n1, n2⟩ := nan_cut x y (w.tape w.drawn (.nanBits .f64 x y))
 refine ⟨.one (.v (.float .f64 ((Question.nanBits .f64 x y).cut (w.tape w.drawn (.nanBits .f64 x y))))), F, st.lb, { w with drawn := w.drawn + 1 }, ?_, fun _ _ _ => rfl, hs.below ⟨rfl, rfl, rfl, Nat.le_refl _, fun _ _ => rfl⟩, hh _ n1 n2⟩
 have h3 : (FloatKind.f64.format.div x y) = none := h
 simp [execOp, opOf, h1, h2, binOp, Op.floatArith, h3, SV.val, SC.val, eqGuard, choose, Sem.run, Question.forced, Sem.run_bind, Result.andThen_ok]
end
end Go.Proofs.YtgleoebogikooaaGreat.Sx
namespace Go.Proofs.YtgleoebogikooaaGreat.Sx
set_option linter.unusedVariables false
set_option linter.unusedSimpArgs false
open Go.RowKit
def strOf (xs : List Int) : ByteArray := ⟨(bOf xs).toArray⟩
theorem bOf_inj : ∀ {xs ys : List Int}, byOk xs → byOk ys → bOf xs = bOf ys → xs = ys
 | [], [], _, _, _ => rfl
 | [], _ :: _, _, _, h => by cases h
 | _ :: _, [], _, _, h => by cases h
 | x :: xs, y :: ys, hx, hy, h => by
  have h1 : UInt8.ofNat x.toNat = UInt8.ofNat y.toNat ∧ bOf xs = bOf ys := by
   simp only [bOf, List.map_cons, List.cons.injEq] at h
   exact h
  have hx0 := hx x List.mem_cons_self
  have hy0 := hy y List.mem_cons_self
  have hn : ∀ z : Int, 0 ≤ z ∧ z < 256 → (UInt8.ofNat z.toNat).toNat = z.toNat := fun z hz => by
   rw [UInt8.toNat_ofNat']
   omega
  have h2 := congrArg UInt8.toNat h1.1
  rw [hn x hx0, hn y hy0] at h2
  have h3 := bOf_inj (fun z hz => hx z (List.mem_cons_of_mem _ hz)) (fun z hz => hy z (List.mem_cons_of_mem _ hz)) h1.2
  rw [h3, show x = y by omega]
theorem str_eq {xs ys : List Int} (hx : byOk xs) (hy : byOk ys) : ((strOf xs).toList == (strOf ys).toList) = decide (xs = ys) := by
 have e : ∀ zs, (strOf zs).toList = bOf zs := fun zs => ByteArray.toList_mk _
 rw [e, e, Bool.eq_iff_iff, beq_iff_eq, decide_eq_true_iff]
 exact ⟨bOf_inj hx hy, fun h => by rw [h]⟩
theorem foldl_push (ns : List Int) : ∀ s : ByteArray, ns.foldl (fun r n => r.push (UInt8.ofNat n.toNat)) s = ⟨s.data ++ (bOf ns).toArray⟩ := by
 induction ns with
 | nil => intro s; simp [bOf]
 | cons n ns ih =>
  intro s
  rw [List.foldl_cons, ih]
  apply ByteArray.ext
  simp [ByteArray.push, bOf]
theorem run_bstr {P : Program} {w : World} {t t2 el : TypeId} {xs : List Int} {v : Value} (hr : rdRow kU8 w.heap xs v) (h1 : P.underlying t = some (.slice el)) (h2 : P.underlying t2 = some .string) (h3 : P.underlying el = some (.int .u8)) :
  (convert t t2 v).run P w = .ok (.string (strOf xs)) w := by
 obtain ⟨A, c, rfl, hc, hA, hel⟩ := hr
 cases A with
 | none =>
  have h0 : xs.length = 0 := by
   rcases Nat.eq_zero_or_pos xs.length with h0 | h0
   ·exact h0
   ·obtain ⟨ad, e⟩ := hA h0
    cases e
  obtain rfl := List.eq_nil_of_length_eq_zero h0
  simp [convert, run_underlying h1, run_underlying h2, run_underlying h3, Conv.bytesToString]
  rfl
 | some a =>
  rw [run_convert_bytes_string w t t2 el (some a) xs.length c h1 h3 h2]
  have hload := run_loadCells_list (P := P) w a (xs.map (Value.int .u8)) (fun j u hu => by
   rw [List.getElem?_map] at hu
   cases hx : xs[j]? with
   | none => rw [hx] at hu; cases hu
   | some x =>
    rw [hx] at hu
    obtain rfl := Option.some.inj hu
    obtain ⟨cs, h4, h5⟩ := hel a rfl j x hx
    obtain rfl : cs = [.int .u8 x] := h4
    have h6 := h5 0 _ rfl
    have e : j * kU8.sz + 0 = j := by show j * 1 + 0 = j; omega
    rw [e] at h6
    exact h6)
  rw [List.length_map] at hload
  rw [run_bytesToString w a xs.length c xs hload, foldl_push]
  congr 3
  simp [strOf]
theorem rd_part {α : Type} {d : Kn α} {hp : Hp} {xs : List α} {A : Option Addr} {c l h sz : Nat} (hr : rdRow d hp xs (.slice A xs.length c)) (hs : sz = d.sz) (hl : l ≤ h) (hh : h ≤ xs.length) :
  h ≤ c ∧ rdRow d hp ((xs.take h).drop l) (.slice (if c = l then A else A.map (·.add (l * sz))) (h - l) (c - l)) := by
 subst hs
 obtain ⟨A', c', e, hle, hne, hel⟩ := hr
 cases e
 have hln : ((xs.take h).drop l).length = h - l := by rw [List.length_drop, List.length_take]; omega
 refine ⟨by omega, _, c - l, by rw [hln], by rw [hln]; omega, fun hp => ?_, fun a ha i x hx => ?_⟩
 ·rw [hln] at hp
  obtain ⟨a, rfl⟩ := hne (by omega)
  rw [if_neg (by omega)]
  exact ⟨_, rfl⟩
 ·have hi : i < ((xs.take h).drop l).length := (List.getElem?_eq_some_iff.1 hx).1
  have hx' : xs[l + i]? = some x := by
   rw [List.getElem?_drop, List.getElem?_take] at hx
   split at hx
   ·exact hx
   ·cases hx
  have hlt : l + i < xs.length := (List.getElem?_eq_some_iff.1 hx').1
  rw [if_neg (by omega)] at ha
  obtain ⟨b, rfl⟩ := hne (by omega)
  cases ha
  obtain ⟨cs, h1, h2⟩ := hel b rfl (l + i) x hx'
  refine ⟨cs, h1, fun j u hu => ?_⟩
  have h3 := h2 j u hu
  rw [add_add, show l * d.sz + (i * d.sz + j) = (l + i) * d.sz + j by rw [Nat.add_mul]; omega]
  exact h3
def byteTy (P : Program) (t t2 : Nat) : Bool :=
 match P.underlying t, P.underlying t2 with
 | some (.slice e), some .string => match P.underlying e with
  | some (.int .u8) => true
  | _ => false
 | _, _ => false
theorem byteTy_spec {P : Program} {t t2 : Nat} (h : byteTy P t t2 = true) : ∃ el, P.underlying t = some (.slice el) ∧ P.underlying t2 = some .string ∧ P.underlying el = some (.int .u8) := by
 unfold byteTy at h
 split at h
 ·rename_i e h1 h2
  split at h
  ·rename_i h3
   exact ⟨e, h1, h2, h3⟩
  ·cases h
 ·cases h
section
variable {C : Cx} {F : List HA}
theorem bstr_atB {st : St} (k : Bool) {t t2 ty : Nat} {a : Operand} {dst : Option Tmp} {rg' : Rg} {v : Value} (xs : List Int) (he : atB C.B C.fn.ntmps st k = some (.convert t t2 a, ty, dst, rg')) (ht : byteTy C.P t t2 = true)
  (ha : opv st.tm a = some (.one (.v v))) (hr : ∀ L w, SOK C F st.lb L w → rdRow kU8 w.heap xs v)
  (hh : Holds C F ⟨rg', st.K, ptO st.tm dst (.one (.v (.string (strOf xs)))), st.lb⟩) : Holds C F st := by
 obtain ⟨el, h1, h2, h3⟩ := byteTy_spec ht
 refine prim_at k he (fun L w hs => ⟨.one (.v (.string (strOf xs))), F, st.lb, w, ?_, fun _ _ _ => rfl, hs, hh⟩)
 have h4 : opL L st.tm a = v := by rw [opL_v ha]; rfl
 have h5 := run_bstr (P := C.P) (w := w) (hr L w hs) h1 h2 h3
 simp only [execOp, opOf, h4, Sem.run_bind, h5, Result.andThen_ok, Sem.run_pure, SV.val, SC.val]
theorem seq_at {st : St} (ip : Nat) {t t2 ty : Nat} {a b : Operand} {dst : Option Tmp} {rg' : Rg} {xs ys : List Int} (he : atP C.B C.fn.ntmps st ip false = some (.binOp .eql t a b t2, ty, dst, rg'))
  (ha : opv st.tm a = some (.one (.v (.string (strOf xs))))) (hb : opv st.tm b = some (.one (.v (.string (strOf ys))))) (hx : byOk xs) (hy : byOk ys)
  (hh : Holds C F ⟨rg', st.K, ptO st.tm dst (.one (.bo (decide (xs = ys)))), st.lb⟩) : Holds C F st :=
 pure_at ip false he fun L w hs => ⟨.one (.bo (decide (xs = ys))), F, fun w' _ => by
  have h1 : opL L st.tm a = .string (strOf xs) := by rw [opL_v ha]; rfl
  have h2 : opL L st.tm b = .string (strOf ys) := by rw [opL_v hb]; rfl
  have h3 := str_eq hx hy
  simp [execOp, opOf, h1, h2, binOp, Op.stringOp, SV.val, SC.val, eqGuard, h3], hs, hh⟩
theorem sne_at {st : St} (ip : Nat) {t t2 ty : Nat} {a b : Operand} {dst : Option Tmp} {rg' : Rg} {xs ys : List Int} (he : atP C.B C.fn.ntmps st ip false = some (.binOp .neq t a b t2, ty, dst, rg'))
  (ha : opv st.tm a = some (.one (.v (.string (strOf xs))))) (hb : opv st.tm b = some (.one (.v (.string (strOf ys))))) (hx : byOk xs) (hy : byOk ys)
  (hh : Holds C F ⟨rg', st.K, ptO st.tm dst (.one (.bo (!decide (xs = ys)))), st.lb⟩) : Holds C F st :=
 pure_at ip false he fun L w hs => ⟨.one (.bo (!decide (xs = ys))), F, fun w' _ => by
  have h1 : opL L st.tm a = .string (strOf xs) := by rw [opL_v ha]; rfl
  have h2 : opL L st.tm b = .string (strOf ys) := by rw [opL_v hb]; rfl
  have h3 := str_eq hx hy
  simp [execOp, opOf, h1, h2, binOp, Op.stringOp, SV.val, SC.val, eqGuard, h3], hs, hh⟩
theorem shr_at {st : St} (ip : Nat) {t t2 ty : Nat} {a b : Operand} {dst : Option Tmp} {rg' : Rg} {k k2 : IntKind} {x y r : Int} (he : atP C.B C.fn.ntmps st ip false = some (.binOp .shr t a b t2, ty, dst, rg'))
  (ha : opv st.tm a = some (.one (.v (.int k x)))) (hb : opv st.tm b = some (.one (.v (.int k2 y)))) (hy : 0 ≤ y) (hr : x.fdiv (2 ^ min y.toNat k.bits) = r)
  (hh : Holds C F ⟨rg', st.K, ptO st.tm dst (.one (.v (.int k r))), st.lb⟩) : Holds C F st :=
 pure_at ip false he fun L w hs => ⟨.one (.v (.int k r)), F, fun w' _ => by
  have h1 : opL L st.tm a = .int k x := by rw [opL_v ha]; rfl
  have h2 : opL L st.tm b = .int k2 y := by rw [opL_v hb]; rfl
  have h3 : ¬ y < 0 := by omega
  simp [execOp, opOf, h1, h2, binOp, Op.shift, h3, SV.val, SC.val, eqGuard, hr], hs, hh⟩
end
end Go.Proofs.YtgleoebogikooaaGreat.Sx
namespace Go.Proofs.YtgleoebogikooaaGreat.Sx
set_option linter.unusedVariables false
set_option linter.unusedSimpArgs false
open Go.RowKit
section
variable {C : Cx} {F : List HA}
theorem grow0_at {α : Type} {d : Kn α} {st : St} {ts tx t tn ty e by_ n : Nat} {dst : Option Tmp} {rg' : Rg} {kq kn : IntKind}
  (he : atB C.B C.fn.ntmps st false = some (.call { callee := .builtin .append, args := #[.tmp ts, .tmp tx], argTypes := #[t, tn] }, ty, dst, rg')) (hT : rowTy C.P t = some (e, d.sz, by_)) (htn : C.P.underlying tn = some (.int kn))
  (hv : lk st.tm ts = some (.one (.v (.slice none 0 0)))) {j : Int} (hx : lk st.tm tx = some (.one (.v (.int kq j)))) (hj : j = (n : Int)) (h0 : 0 < n) (h63 : n ≤ maxLen) (hbytes : n * by_ ≤ 140737488355328)
  (h : ∀ g c, n ≤ c → Holds C (rowA e d [] (.slice (some ⟨g, 0, none⟩) 0 c) :: F) ⟨rg', st.K, ptO st.tm dst (.one (.v (.slice (some ⟨g, 0, none⟩) n c))), st.lb⟩) : Holds C F st := by
 subst hj
 refine prim_at false he (fun L w hs => ?_)
 obtain ⟨i, z, hu, hi, hz, hsz, hzs, hby, hs0⟩ := rowTy_spec hT
 subst hby
 have hr := Lib.run_append_nil_zeros (P := C.P) w t tn ty e i z kq kn hu htn hi hz n h0 (by omega) (by have := h63; simp [maxLen] at this; omega) (by omega)
 have hge := grownCap_ge w n 0 e
 have hcm : grownCap w n 0 e ≤ maxLen := grownCap_le_maxLen w n 0 e h63
 have hsz1 : (w.drew.alloc (.cells (Builtin.zeroCells z.cells n ++ Builtin.zeroCells z.cells (grownCap w n 0 e - n)) e)).heap.size = w.heap.size + 1 := by show (w.heap.push _).size = _; simp
 have hk : ∀ b, b < w.heap.size → (w.drew.alloc (.cells (Builtin.zeroCells z.cells n ++ Builtin.zeroCells z.cells (grownCap w n 0 e - n)) e)).heap[b]? = w.heap[b]? := fun b hb => Below.heap_alloc w.drew _ b hb
 have hfr : Fresh w (w.drew.alloc (.cells (Builtin.zeroCells z.cells n ++ Builtin.zeroCells z.cells (grownCap w n 0 e - n)) e)) [rowA e d [] (.slice (some ⟨w.heap.size, 0, none⟩) 0 (grownCap w n 0 e))] := by
  refine ⟨⟨rfl, rfl, rfl, by omega, fun b hb => hk b hb⟩, fun b => b = w.heap.size, fun b hb => ?_, fun b => b = w.heap.size, fun _ => False, fun _ hb => hb, fun _ hb => hb.elim, fun _ _ hb => hb, rowA_holds.2 (owRow_iff.2 ⟨some ⟨w.heap.size, 0, none⟩, _, by simp, by simp, hcm, .inr ⟨w.heap.size, _, rfl, rfl, heap_alloc_new w.drew _, ?_, els_nil⟩⟩), trivial⟩
  ·subst hb
   exact ⟨Nat.le_refl _, by omega⟩
  ·simp only [Array.size_append, size_zeroCells, hzs, ← Nat.add_mul]
   congr 1
   omega
 refine ⟨.one (.v (.slice (some ⟨w.heap.size, 0, none⟩) n (grownCap w n 0 e))), _, st.lb, _, exec_append ?_, fun hk => by (cases hk), hs.fresh hfr, h _ _ hge⟩
 rw [opL_tmp hv, opL_tmp hx]
 exact hr
end
end Go.Proofs.YtgleoebogikooaaGreat.Sx
namespace Go.Proofs.YtgleoebogikooaaGreat.Sx
set_option linter.unusedVariables false
set_option linter.unusedSimpArgs false
open Go.RowKit
section
variable {C : Cx} {F : List HA}
def stepFx (P : Program) (N : Nat) (B : Code) (k : Bool) (st : St) : Option St := match posB B N st k with
 | some (ops, i, _, rg) => match opStep P N ops st.tm st.lb i with
  | some (tm', lb', k') => bif !k || k' then some ⟨rg, st.K, tm', lb'⟩ else none
  | none => none
 | none => none
theorem stepFx_at (k : Bool) {st : St} (st' : St) (he : stepFx C.P C.fn.ntmps C.B k st = some st') (h : Holds C F st') : Holds C F st := by
 unfold stepFx at he
 split at he
 ·rename_i ops i o rg hp
  split at he
  ·rename_i tm' lb' k' hs
   obtain ⟨hk, he⟩ := bif_some he
   subst he
   exact posB_go hp ((opStep_goes hs).mono (fun h => by subst h; simpa using hk) (fun F' lb1 tm1 hN => by obtain ⟨e1, e2, e3⟩ := hN; subst e1 e2 e3; exact h))
  ·cases he
 ·cases he
def manyB (B : Code) (st : St) (l : List Nat) : Bool :=
 match st.rg with
 | .dr p ds (_ + 1) _ => match sub p B with
  | some (.region _ ops true) => match Region.ready .any ops ds.toArray with
   | [] => false
   | a :: r => (a :: r).all fun x => l.any (Nat.beq x)
  | _ => false
 | _ => false
theorem many_at {st : St} (l : List Nat) (he : manyB C.B st l = true) (h : ∀ i ∈ l, Holds C F (fxOf st i)) : Holds C F st := by
 obtain ⟨rg, K, tm, lb⟩ := st
 intro L w1 w a hs ht hr
 cases rg with
 | no => cases he
 | sq p k => cases he
 | fx p l f m k => cases he
 | dr p ds f m =>
  cases f with
  | zero => cases he
  | succ f =>
   simp only [manyB] at he
   split at he
   ·rename_i id ops hc
    split at he
    ·cases he
    ·rename_i x r hrd
     refine ⟨id, ops, hc, fun h0 => (by rw [hrd] at h0; cases h0), fun k hk => ?_⟩
     rw [hrd] at hk
     obtain ⟨y, hy, e1⟩ := List.any_eq_true.1 (List.all_eq_true.1 he k hk)
     obtain rfl := Nat.eq_of_beq_eq_true e1
     obtain ⟨id', ops', hc', hw⟩ := h k hy L w1 w a hs ht hr
     rw [hc] at hc'
     cases hc'
     exact hw
   ·cases he
theorem three_at {st : St} (i j k : Nat) (he : manyB C.B st [i, j, k] = true) (h1 : Holds C F (fxOf st i)) (h2 : Holds C F (fxOf st j)) (h3 : Holds C F (fxOf st k)) : Holds C F st :=
 many_at _ he fun x hx => by
  rcases List.mem_cons.1 hx with rfl | hx
  ·exact h1
  rcases List.mem_cons.1 hx with rfl | hx
  ·exact h2
  ·rw [List.mem_singleton.1 hx]; exact h3
end
theorem rd_blk {α : Type} {d : Kn α} {h : Hp} {g ty : Nat} {vs : List Value} {xs : List α} (hb : h[g]? = some (.cells vs.toArray ty (0, 0))) (hsz : d.sz = 1) (hl : vs.length = xs.length)
  (hel : ∀ (i : Nat) x v, xs[i]? = some x → vs[i]? = some v → d.rd h x [v]) : rdRow d h xs (.slice (some ⟨g, 0, none⟩) xs.length xs.length) := by
 refine ⟨_, _, rfl, Nat.le_refl _, fun _ => ⟨_, rfl⟩, fun a ha i x hx => ?_⟩
 cases ha
 have hi : i < vs.length := by rw [hl]; exact (List.getElem?_eq_some_iff.1 hx).1
 refine ⟨_, hel i x vs[i] hx (List.getElem?_eq_getElem hi), fun j u hu => ?_⟩
 rcases j with _ | j
 ·obtain rfl : vs[i] = u := by simpa using hu
  rw [hsz, Nat.mul_one, Nat.add_zero]
  exact blk_at hb i (List.getElem?_eq_getElem hi)
 ·simp at hu
theorem rd_lit1 {h : Hp} {g ty : Nat} {n : Int} (hb : h[g]? = some (.cells #[.int .u8 n] ty (0, 0))) : rdRow kU8 h [n] (.slice (some ⟨g, 0, none⟩) 1 1) :=
 rd_blk (vs := [.int .u8 n]) hb rfl rfl fun i x v hx hv => by
  rcases i with _ | i
  ·obtain rfl : n = x := by simpa using hx
   obtain rfl : Value.int .u8 n = v := by simpa using hv
   rfl
  ·simp at hx
theorem rd_six {h : Hp} {g ty e : Nat} {v0 v1 v2 v3 v4 v5 : Value} {x0 x1 x2 x3 x4 x5 : List Int} (hb : h[g]? = some (.cells #[v0, v1, v2, v3, v4, v5] ty (0, 0))) (r0 : rdRow kU8 h x0 v0) (r1 : rdRow kU8 h x1 v1) (r2 : rdRow kU8 h x2 v2) (r3 : rdRow kU8 h x3 v3) (r4 : rdRow kU8 h x4 v4) (r5 : rdRow kU8 h x5 v5) :
  rdRow (kRow e kU8) h [x0, x1, x2, x3, x4, x5] (.slice (some ⟨g, 0, none⟩) 6 6) :=
 rd_blk (vs := [v0, v1, v2, v3, v4, v5]) hb rfl rfl fun i x v hx hv => by
  rcases i with _ | _ | _ | _ | _ | _ | i
  ·obtain rfl : x0 = x := by simpa using hx
   obtain rfl : v0 = v := by simpa using hv
   exact ⟨_, rfl, r0⟩
  ·obtain rfl : x1 = x := by simpa using hx
   obtain rfl : v1 = v := by simpa using hv
   exact ⟨_, rfl, r1⟩
  ·obtain rfl : x2 = x := by simpa using hx
   obtain rfl : v2 = v := by simpa using hv
   exact ⟨_, rfl, r2⟩
  ·obtain rfl : x3 = x := by simpa using hx
   obtain rfl : v3 = v := by simpa using hv
   exact ⟨_, rfl, r3⟩
  ·obtain rfl : x4 = x := by simpa using hx
   obtain rfl : v4 = v := by simpa using hv
   exact ⟨_, rfl, r4⟩
  ·obtain rfl : x5 = x := by simpa using hx
   obtain rfl : v5 = v := by simpa using hv
   exact ⟨_, rfl, r5⟩
  ·simp at hx
end Go.Proofs.YtgleoebogikooaaGreat.Sx
