/- Walks of functions of the program: what each call returns and what it leaves in memory. Conditions: those that each theorem names. -/
import Derived.Test.YtgleoebogikooaaGreatC3
import Derived.Test.YtgleoebogikooaaGreatSxC
namespace Go.Proofs.YtgleoebogikooaaGreat.Dk
set_option linter.unusedVariables false
set_option linter.unusedSimpArgs false
open Go.Proofs.YtgleoebogikooaaGreat.Sx Go.Proofs Go.RowKit
set_option maxRecDepth 100000
set_option maxHeartbeats 1000000
def leI : Nat → Int → List Int
 | 0, _ => []
 | s + 1, n => n % 256 :: leI s (n / 256)
def pw : Nat → Int
 | 0 => 1
 | s + 1 => 256 * pw s
def ofLE : List Int → Int
 | [] => 0
 | b :: r => b + 256 * ofLE r
theorem leI_len : ∀ (s : Nat) (n : Int), (leI s n).length = s
 | 0, _ => rfl
 | s + 1, n => by simp [leI, leI_len s]
theorem leI_by : ∀ (s : Nat) (n : Int), byOk (leI s n)
 | 0, _, x, h => by simp [leI] at h
 | s + 1, n, x, h => by
  rcases List.mem_cons.1 h with rfl | h
  ·omega
  ·exact leI_by s _ x h
theorem pw_pos : ∀ s, 0 < pw s
 | 0 => by decide
 | s + 1 => by have := pw_pos s; simp only [pw]; omega
theorem pw_two : ∀ s, (2 : Int) ^ (8 * s) = pw s
 | 0 => rfl
 | s + 1 => by
  rw [show 8 * (s + 1) = 8 * s + 8 by omega, Int.pow_add, pw_two s, pw, show (2 : Int) ^ 8 = 256 by decide, Int.mul_comm]
theorem pw_mono : ∀ {s t : Nat}, s ≤ t → pw s ≤ pw t
 | 0, t, _ => by have := pw_pos t; simp only [pw]; omega
 | s + 1, 0, h => by omega
 | s + 1, t + 1, h => by have := pw_mono (s := s) (t := t) (by omega); simp only [pw]; omega
theorem ofLE_bnd : ∀ {l : List Int}, byOk l → 0 ≤ ofLE l ∧ ofLE l < pw l.length
 | [], _ => by simp [ofLE, pw]
 | b :: r, h => by
  have h1 := ofLE_bnd (l := r) (fun x hx => h x (List.mem_cons_of_mem _ hx))
  have h2 := h b List.mem_cons_self
  simp only [ofLE, List.length_cons, pw]
  omega
theorem leI_step {s i : Nat} {m : Int} (h : i < s) : leI (s - i) m = m % 256 :: leI (s - (i + 1)) (m / 256) := by
 rw [show s - i = (s - (i + 1)) + 1 by omega]
 rfl
theorem pw_step {s i : Nat} (h : i < s) : pw (s - i) = 256 * pw (s - (i + 1)) := by
 rw [show s - i = (s - (i + 1)) + 1 by omega]
 rfl
theorem byOk_drop {l : List Int} (h : byOk l) (n : Nat) : byOk (l.drop n) := fun x hx => h x (List.mem_of_mem_drop hx)
theorem byOk_take {l : List Int} (h : byOk l) (n : Nat) : byOk (l.take n) := fun x hx => h x (List.mem_of_mem_take hx)
theorem byOk_app {a b : List Int} (h : byOk a) (h2 : byOk b) : byOk (a ++ b) := fun x hx => (List.mem_append.1 hx).elim (h x) (h2 x)
theorem byOk_cons {a : Int} {b : List Int} (h : 0 ≤ a ∧ a < 256) (h2 : byOk b) : byOk (a :: b) := fun x hx => (List.mem_cons.1 hx).elim (fun e => e ▸ h) (h2 x)
theorem or8 {a x : Int} (h0 : 0 ≤ a) (h1 : a < 72057594037927936) (hx : 0 ≤ x ∧ x < 256) : Go.bits .or .u64 (IntKind.u64.wrap (a * 2 ^ min (Int.toNat 8) IntKind.u64.bits)) x = a * 256 + x := by
 obtain ⟨a, rfl⟩ := Int.eq_ofNat_of_zero_le h0
 obtain ⟨x, rfl⟩ := Int.eq_ofNat_of_zero_le hx.1
 have e1 : IntKind.u64.wrap ((a : Int) * 2 ^ min (Int.toNat 8) IntKind.u64.bits) = ((a * 256 : Nat) : Int) := by
  rw [show (2 : Int) ^ min (Int.toNat 8) IntKind.u64.bits = 256 by decide, IntKind.wrap_u64]
  omega
 rw [e1, bits_or_u64_nat _ _ (by omega) (by omega)]
 have e2 : a * 256 ||| x = a * 256 + x := by
  rw [show a * 256 = 2 ^ 8 * a by omega, ← Nat.two_pow_add_eq_or_of_lt (by omega) a]
 rw [e2]
 omega
theorem seg_step {b : List Int} {at_ s j : Nat} (h : at_ + s ≤ b.length) (hj : j < s) : ((b.drop at_).take s).drop j = (b[at_ + j]'(by omega)) :: ((b.drop at_).take s).drop (j + 1) := by
 have hl : ((b.drop at_).take s).length = s := by rw [List.length_take, List.length_drop]; omega
 rw [List.drop_eq_getElem_cons (by omega)]
 congr 1
 rw [List.getElem_take, List.getElem_drop]
def beI : Nat → Int → List Int
 | 0, _ => []
 | s + 1, n => (n / pw s) % 256 :: beI s n
def beF (a x : Int) : Int := (a * 256) % 18446744073709551616 + x
def be (l : List Int) : Int := l.foldl beF 0
theorem beI_len : ∀ (s : Nat) (n : Int), (beI s n).length = s
 | 0, _ => rfl
 | s + 1, n => by simp [beI, beI_len s]
theorem beI_by : ∀ (s : Nat) (n : Int), byOk (beI s n)
 | 0, _, x, h => by simp [beI] at h
 | s + 1, n, x, h => by
  rcases List.mem_cons.1 h with rfl | h
  ·omega
  ·exact beI_by s _ x h
theorem beF_bnd {a x : Int} (h : 0 ≤ a ∧ a < 18446744073709551616) (hx : 0 ≤ x ∧ x < 256) : 0 ≤ beF a x ∧ beF a x < 18446744073709551616 := by
 unfold beF
 omega
theorem be_bndF : ∀ {l : List Int} {a : Int}, byOk l → (0 ≤ a ∧ a < 18446744073709551616) → 0 ≤ l.foldl beF a ∧ l.foldl beF a < 18446744073709551616
 | [], _, _, h => h
 | b :: r, a, h, ha => be_bndF (l := r) (fun x hx => h x (List.mem_cons_of_mem _ hx)) (beF_bnd ha (h b List.mem_cons_self))
theorem be_bnd {l : List Int} (h : byOk l) : 0 ≤ be l ∧ be l < 18446744073709551616 := be_bndF h (by omega)
theorem be_take {l : List Int} {i : Nat} (h : i < l.length) : be (l.take (i + 1)) = beF (be (l.take i)) l[i] := by
 unfold be
 rw [List.take_succ_eq_append_getElem h, List.foldl_append]
 rfl
theorem or8w {a x : Int} (h0 : 0 ≤ a) (h1 : a < 18446744073709551616) (hx : 0 ≤ x ∧ x < 256) : Go.bits .or .u64 (IntKind.u64.wrap (a * 2 ^ min (Int.toNat 8) IntKind.u64.bits)) x = beF a x := by
 unfold beF
 obtain ⟨a, rfl⟩ := Int.eq_ofNat_of_zero_le h0
 obtain ⟨x, rfl⟩ := Int.eq_ofNat_of_zero_le hx.1
 have e1 : IntKind.u64.wrap ((a : Int) * 2 ^ min (Int.toNat 8) IntKind.u64.bits) = (((a % 72057594037927936) * 256 : Nat) : Int) := by
  rw [show (2 : Int) ^ min (Int.toNat 8) IntKind.u64.bits = 256 by decide, IntKind.wrap_u64]
  omega
 rw [e1, bits_or_u64_nat _ _ (by omega) (by omega)]
 have e2 : (a % 72057594037927936) * 256 ||| x = (a % 72057594037927936) * 256 + x := by
  rw [show (a % 72057594037927936) * 256 = 2 ^ 8 * (a % 72057594037927936) by omega, ← Nat.two_pow_add_eq_or_of_lt (by omega) (a % 72057594037927936)]
 rw [e2]
 omega
theorem and255 {x : Int} (h0 : 0 ≤ x) (h1 : x < 18446744073709551616) : Go.bits .and .u64 x 255 = x % 256 := by
 obtain ⟨a, rfl⟩ := Int.eq_ofNat_of_zero_le h0
 have := bits_and_u64_nat a 255 (by omega) (by omega)
 rw [show ((255 : Nat) : Int) = 255 by rfl] at this
 rw [this, show (255 : Nat) = 2 ^ 8 - 1 by decide, Nat.and_two_pow_sub_one_eq_mod]
 omega
theorem xor63 {x : Int} (h0 : 0 ≤ x) (h1 : x < 18446744073709551616) : Go.bits .xor .u64 x 9223372036854775808 = if x < 9223372036854775808 then x + 9223372036854775808 else x - 9223372036854775808 := by
 obtain ⟨a, rfl⟩ := Int.eq_ofNat_of_zero_le h0
 have := bits_xor_u64_nat a 9223372036854775808 (by omega) (by omega)
 rw [show ((9223372036854775808 : Nat) : Int) = 9223372036854775808 by rfl] at this
 rw [this]
 have e : a ^^^ 9223372036854775808 = if a < 9223372036854775808 then a + 9223372036854775808 else a - 9223372036854775808 := by
  have hb : ∀ r, r < 9223372036854775808 → r ^^^ 9223372036854775808 = r + 9223372036854775808 := fun r hr => by
   apply Nat.eq_of_testBit_eq
   intro i
   have h63 : (9223372036854775808 : Nat) = 2 ^ 63 := by decide
   rw [Nat.testBit_xor, h63, Nat.add_comm, Nat.testBit_two_pow]
   rcases Nat.lt_trichotomy i 63 with h | h | h
   ·rw [Nat.testBit_two_pow_add_gt h, decide_eq_false (by omega), Bool.xor_false]
   ·subst h
    rw [Nat.testBit_two_pow_add_eq]; simp
   ·rw [Nat.testBit_lt_two_pow (x := r) (i := i) (by rw [h63] at hr; exact Nat.lt_of_lt_of_le hr (Nat.pow_le_pow_right (by omega) (by omega)))]
    rw [Nat.testBit_lt_two_pow (i := i) (by
     have : (2 : Nat) ^ 64 ≤ 2 ^ i := Nat.pow_le_pow_right (by omega) (by omega)
     rw [h63] at hr
     have h4 : (2 : Nat) ^ 64 = 2 ^ 63 + 2 ^ 63 := by decide
     omega), decide_eq_false (by omega)]
    rfl
  split
  ·rename_i h; exact hb a h
  ·rename_i h
   have h2 := hb (a - 9223372036854775808) (by omega)
   rw [show a - 9223372036854775808 + 9223372036854775808 = a by omega] at h2
   conv => lhs; rw [← h2]
   rw [Nat.xor_assoc, Nat.xor_self, Nat.xor_zero]
 rw [e]
 split <;> split <;> omega
theorem iPutNum_ok (n : Int) (s : Nat) (w : World) (h0 : 0 ≤ n) (h63 : n < 9223372036854775808) (hs : 1 ≤ s ∧ s ≤ 7) (hn : n < pw s) :
  Calls Tryz.prog 123 #[.int .i64 n, .int .i64 s] w fun e w' => ∃ (B : Option Addr) (d : Nat), e = .returned (.slice B (leI s n).length d) ∧ Fresh w w' [rowA 5 kU8 (leI s n) (.slice B (leI s n).length d)] := by
 refine enter (args := [.one (.v (.int .i64 n)), .one (.v (.int .i64 s))]) Tryz.func123 (c := bodyOf Tryz.f123) rfl rfl (start_LOK _) (start_old w) ?_
 have nf_8 : IntKind.i64.wrap ((8 : Int) * (s : Int)) = ((8 * s : Nat) : Int) := by rw [IntKind.wrap_i64]; omega
 refine gn 0 (Rg.sq (bitL 3 1) 1) [kCd (bitL 3 5), KI.code [true, true]] [(0, vI n), (1, vI (↑s : Int)), (6, vI (↑s : Int))] [] ?_
 refine cpk 94 [vI (↑s : Int), vI 1, vI 8] (some 7) (Rg.sq (bitL 3 1) 2) (.one (.bo (decide (1 ≤ (↑s : Int)) && decide ((↑s : Int) ≤ 8)))) (fun L w1 hs => (within_ok ((↑s : Int)) (1) (8) w1)) ?_
 refine gn 0 (Rg.sq (bitL 3 1) 4) [kCd (bitL 3 5), KI.code [true, true]] [(0, vI n), (1, vI (↑s : Int)), (9, vB !(decide (1 ≤ (↑s : Int)) && decide ((↑s : Int) ≤ 8)))] [] ?_
 refine spl 9 (!(decide (1 ≤ (↑s : Int)) && decide ((↑s : Int) ≤ 8))) ?_ ?_
 ·intro hb1
  try simp only [sbb] at hb1
  (exfalso; omega)
 intro hb1
 try simp only [sbb] at hb1
 refine gn 0 (Rg.sq (bitL 3 1) 8) [kCd (bitL 3 5), KI.code [true, true]] [(0, vI n), (1, vI (↑s : Int)), (13, vB (decide (n < 0)))] [] ?_
 refine spl 13 (decide (n < 0)) ?_ ?_
 ·intro hb2
  replace hb2 := of_decide_eq_true hb2
  (exfalso; omega)
 intro hb2
 replace hb2 := of_decide_eq_false hb2
 refine gn 0 (Rg.sq (bitL 3 1) 11) [kCd (bitL 3 5), KI.code [true, true]] [(0, vI n), (1, vI (↑s : Int)), (13, vL false), (16, vB (decide ((↑s : Int) < 8)))] [] ?_
 refine spl 16 (decide ((↑s : Int) < 8)) ?_ ?_
 rotate_left
 ·intro hb3
  replace hb3 := of_decide_eq_false hb3
  (exfalso; omega)
 intro hb3
 replace hb3 := of_decide_eq_true hb3
 refine gn 0 (Rg.sq (bitL 3 1) 14) [kCd (bitL 3 5), KI.code [true, true]] [(0, vI n), (1, vI (↑s : Int)), (13, vL false), (16, vL true), (17, vI n), (19, vI (IntKind.i64.wrap ((8 : Int) * (↑s : Int))))] [] ?_
 try simp only [flx, nf_8]
 refine shr_at 14 (by kernel_rfl : atP _ _ _ 14 false = some (Op.binOp BinOp.shr 3 (tmpO 17) (tmpO 19) 3, 3, some 20, Rg.sq (bitL 3 1) 15)) (r := 0) rfl rfl (by omega) (by
  rw [Int.toNat_natCast, Nat.min_eq_left (show 8 * s ≤ IntKind.i64.bits by show 8 * s ≤ 64; omega), pw_two, Int.fdiv_eq_ediv_of_nonneg _ (by have := pw_pos s; omega)]
  exact Int.ediv_eq_zero_of_lt h0 hn) ?_
 refine gn 0 Rg.no [kCd (bitL 3 5), KI.code [true, true]] [(0, vI n), (1, vI (↑s : Int)), (23, vB false)] [] ?_
 refine ltk 23 false ?_
 refine gn 0 Rg.no [kLp (bitL 7 119), KI.block 0, kCd (bitL 4 15)] [(0, vI n), (5, vS none 0 0), (24, vI (↑s : Int)), (25, vI 0)] [] ?_
 refine h_nil 5 kU8 ?_
 refine loop_at (ι := Nat × List Int × Int × Option Addr × Nat) (fun q => [(25, .one (.v (.int .i64 q.1))), (0, .one (.v (.int .i64 q.2.2.1))), (5, .one (.v (.slice q.2.2.2.1 q.2.1.length q.2.2.2.2)))]) (fun _ => []) (fun q => [rowA 5 kU8 q.2.1 (.slice q.2.2.2.1 q.2.1.length q.2.2.2.2), oldA w]) (fun q => q.1 ≤ s ∧ q.2.1.length = q.1 ∧ leI s n = q.2.1 ++ leI (s - q.1) q.2.2.1 ∧ 0 ≤ q.2.2.1 ∧ q.2.2.1 ≤ n ∧ q.2.2.1 < pw (s - q.1)) (fun q => s - q.1) (0, [], n, none, 0) rfl rfl rfl ⟨Nat.zero_le _, rfl, rfl, h0, Int.le_refl _, hn⟩ ?_
 rintro ⟨i, out, m, B, d⟩ ⟨hi, hol, hle, hm0, hmn, hmp⟩ ih
 simp only at hi hol hle hm0 hmn hmp ih ⊢
 rcases Nat.lt_or_ge i s with hlt | hge
 ·have hst := leI_step (m := m) hlt
  have hps := pw_step hlt
  have nf_1 : m.fdiv (2 ^ min (Int.toNat 8) IntKind.i64.bits) = m / 256 := by rw [show (2 : Int) ^ min (Int.toNat 8) IntKind.i64.bits = 256 by decide]; exact Int.fdiv_eq_ediv_of_nonneg _ (by omega)
  have nf_2 : IntKind.u8.wrap m = m % 256 := rfl
  have nf_3 : m.tmod 256 = m % 256 := Int.tmod_eq_emod_of_nonneg hm0
  have nf_4 : IntKind.u8.wrap (m % 256) = m % 256 := by show (m % 256) % 256 = _; omega
  have nf_5 : m.tdiv 256 = m / 256 := Int.tdiv_eq_ediv_of_nonneg hm0
  have nf_6 : IntKind.i64.wrap (m / 256) = m / 256 := by rw [IntKind.wrap_i64]; omega
  refine gn 0 Rg.no [kCd (bitL 9 247), kCd (bitL 9 503), kLp (bitL 7 119), KI.block 0, kCd (bitL 4 15)] [(0, vI m), (5, vS B out.length d), (24, vI (↑s : Int)), (25, vI (↑i : Int)), (26, vB (decide ((↑i : Int) < (↑s : Int))))] [] ?_
  refine spl 26 (decide ((↑i : Int) < (↑s : Int))) ?_ ?_
  rotate_left
  ·intro hb4
   replace hb4 := of_decide_eq_false hb4
   (exfalso; omega)
  intro hb4
  replace hb4 := of_decide_eq_true hb4
  refine gn 1 (Rg.sq (bitL 12 1527) 4) [kCd (bitL 12 3575), KI.block 1, kCd (bitL 10 1015), kLp (bitL 7 119), KI.block 0, kCd (bitL 4 15)] [(0, vI m), (24, vI (↑s : Int)), (25, vI (↑i : Int)), (27, vS B out.length d), (30, SV.one (SC.sl 0 0 1 1))] [LB.mk [SC.v (Value.int IntKind.u8 (IntKind.u8.wrap m))] 5] ?_
  try simp only [flx, nf_8, nf_1, nf_2, nf_3, nf_4, nf_5, nf_6]
  refine append_scl [m % 256] (by_ := 1) (e := 5) (by kernel_rfl : atB _ _ _ false = some (Op.call (Call.mk (Callee.builtin Builtin.append) #[tmpO 27, tmpO 30] #[44, 44]), 44, some 31, Rg.sq (bitL 12 1527) 5)) (by kernel_rfl) rfl rfl rfl rfl rfl (by simp [maxLen]; omega) (by simp; omega) ?_
  intro B' d'
  refine gn 0 Rg.no [kLp (bitL 7 119), KI.block 0, kCd (bitL 4 15)] [(0, vI (m.fdiv (2 ^ min (Int.toNat 8) IntKind.i64.bits))), (5, vS B' (out ++ [m % 256]).length d'), (24, vI (↑s : Int)), (25, vI (IntKind.i64.wrap ((↑i : Int) + 1)))] [] ?_
  try simp only [flx, nf_8, nf_1, nf_2, nf_3, nf_4, nf_5, nf_6]
  rw [wrap_succ (by omega)]
  exact ih (i + 1, out ++ [m % 256], m / 256, B', d') ⟨hlt, by simp [hol], by simp only [List.append_assoc, List.singleton_append]; rw [hle, hst], by simp only; omega, by simp only; omega, by simp only; omega⟩ (by simp only; omega)
 ·obtain rfl : i = s := by omega
  have hout : leI i n = out := by rw [hle, Nat.sub_self]; simp [leI]
  refine gn 0 Rg.no [kCd (bitL 9 247), kCd (bitL 9 503), kLp (bitL 7 119), KI.block 0, kCd (bitL 4 15)] [(0, vI m), (5, vS B out.length d), (24, vI (↑i : Int)), (25, vI (↑i : Int)), (26, vB (decide ((↑i : Int) < (↑i : Int))))] [] ?_
  refine spl 26 (decide ((↑i : Int) < (↑i : Int))) ?_ ?_
  ·intro hb4
   replace hb4 := of_decide_eq_true hb4
   (exfalso; omega)
  ·intro hb4
   replace hb4 := of_decide_eq_false hb4
   refine gn 0 Rg.no [kCd (bitL 5 31)] [(4, vS B out.length d)] [] ?_
   refine rtk [vS B out.length d] ?_
   intro L w1 hs
   rw [hout]; exact ⟨_, _, rfl, hs.out (As := [_])⟩
theorem sPutNum_ok (n : Int) (s : Nat) (w : World) (h0 : 0 ≤ n) (h63 : n < 9223372036854775808) (hs : 1 ≤ s ∧ s ≤ 7) (hn : n < pw s) :
  Calls Tryz.prog 83 #[.int .i64 n, .int .i64 s] w fun e w' => ∃ (B : Option Addr) (d : Nat), e = .returned (.slice B (leI s n).length d) ∧ Fresh w w' [rowA 5 kU8 (leI s n) (.slice B (leI s n).length d)] := by
 refine enter (args := [.one (.v (.int .i64 n)), .one (.v (.int .i64 s))]) Tryz.func83 (c := bodyOf Tryz.f83) rfl rfl (start_LOK _) (start_old w) ?_
 refine gn 0 (Rg.sq (bitL 4 3) 3) [kCd (bitL 4 11), kCd (bitL 3 7)] [(0, vI n), (1, vI (↑s : Int)), (5, vS none 0 0), (9, vB (decide ((↑s : Int) < 1)))] [] ?_
 refine spl 9 (decide ((↑s : Int) < 1)) ?_ ?_
 ·intro hb1
  replace hb1 := of_decide_eq_true hb1
  (exfalso; omega)
 intro hb1
 replace hb1 := of_decide_eq_false hb1
 refine gn 0 (Rg.sq (bitL 4 3) 7) [kCd (bitL 4 11), kCd (bitL 3 7)] [(0, vI n), (1, vI (↑s : Int)), (5, vS none 0 0), (13, vB (decide ((↑s : Int) > 8)))] [] ?_
 refine spl 13 (decide ((↑s : Int) > 8)) ?_ ?_
 ·intro hb2
  replace hb2 := of_decide_eq_true hb2
  (exfalso; omega)
 intro hb2
 replace hb2 := of_decide_eq_false hb2
 refine gn 0 Rg.no [kCd (bitL 4 11), kCd (bitL 3 7)] [(0, vI n), (1, vI (↑s : Int)), (5, vS none 0 0), (16, vB (decide (n < 0)))] [] ?_
 refine spl 16 (decide (n < 0)) ?_ ?_
 ·intro hb3
  replace hb3 := of_decide_eq_true hb3
  (exfalso; omega)
 intro hb3
 replace hb3 := of_decide_eq_false hb3
 refine gn 0 Rg.no [kLp (bitL 7 119), KI.block 0, kCd (bitL 4 15)] [(0, vI n), (1, vI (↑s : Int)), (5, vS none 0 0), (6, vI 0)] [] ?_
 refine h_nil 5 kU8 ?_
 refine loop_at (ι := Nat × List Int × Int × Option Addr × Nat) (fun q => [(6, .one (.v (.int .i64 q.1))), (0, .one (.v (.int .i64 q.2.2.1))), (5, .one (.v (.slice q.2.2.2.1 q.2.1.length q.2.2.2.2)))]) (fun _ => []) (fun q => [rowA 5 kU8 q.2.1 (.slice q.2.2.2.1 q.2.1.length q.2.2.2.2), oldA w]) (fun q => q.1 ≤ s ∧ q.2.1.length = q.1 ∧ leI s n = q.2.1 ++ leI (s - q.1) q.2.2.1 ∧ 0 ≤ q.2.2.1 ∧ q.2.2.1 ≤ n ∧ q.2.2.1 < pw (s - q.1)) (fun q => s - q.1) (0, [], n, none, 0) rfl rfl rfl ⟨Nat.zero_le _, rfl, rfl, h0, Int.le_refl _, hn⟩ ?_
 rintro ⟨i, out, m, B, d⟩ ⟨hi, hol, hle, hm0, hmn, hmp⟩ ih
 simp only at hi hol hle hm0 hmn hmp ih ⊢
 rcases Nat.lt_or_ge i s with hlt | hge
 ·have hst := leI_step (m := m) hlt
  have hps := pw_step hlt
  have nf_1 : m.fdiv (2 ^ min (Int.toNat 8) IntKind.i64.bits) = m / 256 := by rw [show (2 : Int) ^ min (Int.toNat 8) IntKind.i64.bits = 256 by decide]; exact Int.fdiv_eq_ediv_of_nonneg _ (by omega)
  have nf_2 : IntKind.u8.wrap m = m % 256 := rfl
  have nf_3 : m.tmod 256 = m % 256 := Int.tmod_eq_emod_of_nonneg hm0
  have nf_4 : IntKind.u8.wrap (m % 256) = m % 256 := by show (m % 256) % 256 = _; omega
  have nf_5 : m.tdiv 256 = m / 256 := Int.tdiv_eq_ediv_of_nonneg hm0
  have nf_6 : IntKind.i64.wrap (m / 256) = m / 256 := by rw [IntKind.wrap_i64]; omega
  refine gn 0 Rg.no [kCd (bitL 9 375), kCd (bitL 8 247), kLp (bitL 7 119), KI.block 0, kCd (bitL 4 15)] [(0, vI m), (1, vI (↑s : Int)), (5, vS B out.length d), (6, vI (↑i : Int)), (20, vB (decide ((↑i : Int) < (↑s : Int))))] [] ?_
  refine spl 20 (decide ((↑i : Int) < (↑s : Int))) ?_ ?_
  rotate_left
  ·intro hb4
   replace hb4 := of_decide_eq_false hb4
   (exfalso; omega)
  intro hb4
  replace hb4 := of_decide_eq_true hb4
  refine gn 1 (Rg.sq (bitL 11 759) 5) [kCd (bitL 11 1783), KI.block 1, kCd (bitL 9 503), kLp (bitL 7 119), KI.block 0, kCd (bitL 4 15)] [(0, vI m), (1, vI (↑s : Int)), (6, vI (↑i : Int)), (23, vS B out.length d), (27, SV.one (SC.sl 0 0 1 1))] [LB.mk [SC.v (Value.int IntKind.u8 (IntKind.u8.wrap (m.tmod 256)))] 5] ?_
  try simp only [flx, nf_1, nf_2, nf_3, nf_4, nf_5, nf_6]
  refine append_scl [m % 256] (by_ := 1) (e := 5) (by kernel_rfl : atB _ _ _ false = some (Op.call (Call.mk (Callee.builtin Builtin.append) #[tmpO 23, tmpO 27] #[44, 44]), 44, some 28, Rg.sq (bitL 11 759) 6)) (by kernel_rfl) rfl rfl rfl rfl rfl (by simp [maxLen]; omega) (by simp; omega) ?_
  intro B' d'
  refine gn 0 Rg.no [kLp (bitL 7 119), KI.block 0, kCd (bitL 4 15)] [(0, vI (IntKind.i64.wrap (m.tdiv 256))), (1, vI (↑s : Int)), (5, vS B' (out ++ [m % 256]).length d'), (6, vI (IntKind.i64.wrap ((↑i : Int) + 1)))] [] ?_
  try simp only [flx, nf_1, nf_2, nf_3, nf_4, nf_5, nf_6]
  rw [wrap_succ (by omega)]
  exact ih (i + 1, out ++ [m % 256], m / 256, B', d') ⟨hlt, by simp [hol], by simp only [List.append_assoc, List.singleton_append]; rw [hle, hst], by simp only; omega, by simp only; omega, by simp only; omega⟩ (by simp only; omega)
 ·obtain rfl : i = s := by omega
  have hout : leI i n = out := by rw [hle, Nat.sub_self]; simp [leI]
  have hp0 : m < 1 := by rw [Nat.sub_self] at hmp; exact hmp
  refine gn 0 Rg.no [kCd (bitL 9 375), kCd (bitL 8 247), kLp (bitL 7 119), KI.block 0, kCd (bitL 4 15)] [(0, vI m), (1, vI (↑i : Int)), (5, vS B out.length d), (6, vI (↑i : Int)), (20, vB (decide ((↑i : Int) < (↑i : Int))))] [] ?_
  refine spl 20 (decide ((↑i : Int) < (↑i : Int))) ?_ ?_
  ·intro hb4
   replace hb4 := of_decide_eq_true hb4
   (exfalso; omega)
  ·intro hb4
   replace hb4 := of_decide_eq_false hb4
   refine gn 0 Rg.no [kCd (bitL 6 47), kCd (bitL 5 31)] [(5, vS B out.length d), (32, vB (decide (m > 0)))] [] ?_
   refine spl 32 (decide (m > 0)) ?_ ?_
   ·intro hb5
    replace hb5 := of_decide_eq_true hb5
    (exfalso; omega)
   ·intro hb5
    replace hb5 := of_decide_eq_false hb5
    refine gn 0 Rg.no [kCd (bitL 6 63)] [(4, vS B out.length d)] [] ?_
    refine rtk [vS B out.length d] ?_
    intro L w1 hs
    rw [hout]; exact ⟨_, _, rfl, hs.out (As := [_])⟩
theorem hasBytes_ok (b : List Int) (vb : Value) (at_ : Int) (n : Int) (w : World) (hb : rdRow kU8 w.heap b vb) (hl : b.length ≤ 1048576) (ha : -1048576 ≤ at_ ∧ at_ ≤ 1048576) :
  Calls Tryz.prog 115 #[vb, .int .i64 at_, .int .i64 n] w fun e w' => e = .returned (.bool (decide (0 ≤ at_) && decide (at_ ≤ b.length) && decide (n ≤ b.length - at_))) ∧ Below w.heap.size w w' := by
 obtain ⟨Ab, cb, rfl⟩ := rdRow_form hb
 refine enter (args := [.one (.v (.slice Ab b.length cb)), .one (.v (.int .i64 at_)), .one (.v (.int .i64 n))]) Tryz.func115 (c := bodyOf Tryz.f115) rfl rfl (start_LOK _) (start_old w) ?_
 have nf_1 : IntKind.i64.wrap ((b.length : Int) - at_) = b.length - at_ := by rw [IntKind.wrap_i64]; omega
 refine gn 0 (Rg.sq [true, false] 3) [KI.code [true, true]] [(0, vS Ab b.length cb), (1, vI at_), (2, vI n), (7, vI at_), (9, vI (↑b.length : Int))] [] ?_
 refine cpk 94 [vI at_, vI 0, vI (↑b.length : Int)] (some 10) (Rg.sq [true, false] 4) (.one (.bo (decide (0 ≤ at_) && decide (at_ ≤ (↑b.length : Int))))) (fun L w1 hs => (within_ok (at_) (0) ((↑b.length : Int)) w1)) ?_
 refine gn 0 (Rg.sq [true, false] 5) [KI.code [true, true]] [(0, vS Ab b.length cb), (1, vI at_), (2, vI n), (11, vB (decide (0 ≤ at_) && decide (at_ ≤ (↑b.length : Int))))] [] ?_
 refine spl 11 (decide (0 ≤ at_) && decide (at_ ≤ (↑b.length : Int))) ?_ ?_
 ·intro hb1
  try simp only [sbb] at hb1
  refine gn 0 Rg.no [KI.code [true, true]] [(6, vB (decide (n ≤ IntKind.i64.wrap ((↑b.length : Int) - at_))))] [] ?_
  try simp only [flx, nf_1]
  refine rtk [vB (decide (n ≤ (↑b.length : Int) - at_))] ?_
  intro L w1 hs
  exact ⟨retB (by rw [Bool.eq_iff_iff]; simp only [Bool.and_eq_true, Bool.or_eq_true, Bool.not_eq_true', Bool.not_eq_false', Bool.and_eq_false_imp, Bool.or_eq_false_iff, decide_eq_true_eq, decide_eq_false_iff_not, beq_iff_eq, bne_iff_ne, Bool.false_eq_true, Bool.true_eq_false, ne_eq, true_iff, false_iff, iff_true, iff_false]; omega), hs.out0⟩
 ·intro hb1
  try simp only [sbb] at hb1
  refine gn 0 Rg.no [KI.code [true, true]] [(6, vL false)] [] ?_
  refine rtk [vL false] ?_
  intro L w1 hs
  exact ⟨retB (by rw [Bool.eq_iff_iff]; simp only [Bool.and_eq_true, Bool.or_eq_true, Bool.not_eq_true', Bool.not_eq_false', Bool.and_eq_false_imp, Bool.or_eq_false_iff, decide_eq_true_eq, decide_eq_false_iff_not, beq_iff_eq, bne_iff_ne, Bool.false_eq_true, Bool.true_eq_false, ne_eq, true_iff, false_iff, iff_true, iff_false]; omega), hs.out0⟩
theorem iGetNum_ok (b : List Int) (vb : Value) (at_ : Nat) (s : Nat) (w : World) (hb : rdRow kU8 w.heap b vb) (hby : byOk b) (hl : b.length ≤ 1048576) (hat : at_ ≤ 1048576) (hs : 1 ≤ s ∧ s ≤ 7) :
  Calls Tryz.prog 105 #[vb, .int .i64 at_, .int .i64 s] w fun e w' => e = .returned (.tuple #[.int .i64 (if at_ + s ≤ b.length then ofLE ((b.drop at_).take s) else 0), .bool (decide (at_ + s ≤ b.length))]) ∧ Below w.heap.size w w' := by
 obtain ⟨A, c, rfl⟩ := rdRow_form hb
 refine enter (args := [.one (.v (.slice A b.length c)), .one (.v (.int .i64 at_)), .one (.v (.int .i64 s))]) Tryz.func105 (c := bodyOf Tryz.f105) rfl rfl (start_LOK _) (start_old w) ?_
 have nf_10 : IntKind.i64.wrap ((b.length : Int) - (at_ : Int)) = (b.length : Int) - at_ := by rw [IntKind.wrap_i64]; omega
 by_cases hin : at_ + s ≤ b.length
 ·rw [if_pos hin, decide_eq_true hin]
  have hm8 := pw_mono hs.2
  have hp7 : pw 7 = 72057594037927936 := rfl
  have hbs := ofLE_bnd (byOk_take (byOk_drop hby at_) s)
  have hls : ((b.drop at_).take s).length = s := by rw [List.length_take, List.length_drop]; omega
  rw [hls] at hbs
  have nf_0 : IntKind.i64.wrap ((s : Int) - 1) = (s : Int) - 1 := by rw [IntKind.wrap_i64]; omega
  refine gn 0 (Rg.sq (bitL 3 1) 1) [kCd (bitL 3 5), KI.code [true, true]] [(0, vS A b.length c), (1, vI (↑at_ : Int)), (2, vI (↑s : Int)), (10, vI (↑s : Int))] [] ?_
  refine cpk 94 [vI (↑s : Int), vI 1, vI 8] (some 11) (Rg.sq (bitL 3 1) 2) (.one (.bo (decide (1 ≤ (↑s : Int)) && decide ((↑s : Int) ≤ 8)))) (fun L w1 hs => (within_ok ((↑s : Int)) (1) (8) w1)) ?_
  refine gn 0 (Rg.sq (bitL 3 1) 4) [kCd (bitL 3 5), KI.code [true, true]] [(0, vS A b.length c), (1, vI (↑at_ : Int)), (2, vI (↑s : Int)), (13, vB !(decide (1 ≤ (↑s : Int)) && decide ((↑s : Int) ≤ 8)))] [] ?_
  refine spl 13 (!(decide (1 ≤ (↑s : Int)) && decide ((↑s : Int) ≤ 8))) ?_ ?_
  ·intro hb1
   try simp only [sbb] at hb1
   (exfalso; omega)
  intro hb1
  try simp only [sbb] at hb1
  refine gn 0 (Rg.sq (bitL 3 1) 7) [kCd (bitL 3 5), KI.code [true, true]] [(0, vS A b.length c), (1, vI (↑at_ : Int)), (2, vI (↑s : Int)), (13, vL false), (14, vS A b.length c), (15, vI (↑at_ : Int)), (16, vI (↑s : Int))] [] ?_
  refine cpk 115 [vS A b.length c, vI (↑at_ : Int), vI (↑s : Int)] (some 17) (Rg.sq (bitL 3 1) 8) (.one (.bo (decide (0 ≤ (↑at_ : Int)) && decide ((↑at_ : Int) ≤ (↑b.length : Int)) && decide ((↑s : Int) ≤ (↑b.length : Int) - (↑at_ : Int))))) (fun L w1 hs => (hasBytes_ok (b) (Value.slice A b.length c) ((↑at_ : Int)) ((↑s : Int)) w1 (rdRow_ext (hs.old 0 rfl) hb) ‹_› (by omega))) ?_
  refine gn 0 Rg.no [kCd (bitL 3 5), KI.code [true, true]] [(0, vS A b.length c), (1, vI (↑at_ : Int)), (2, vI (↑s : Int)), (19, vB !(decide (0 ≤ (↑at_ : Int)) && decide ((↑at_ : Int) ≤ (↑b.length : Int)) && decide ((↑s : Int) ≤ (↑b.length : Int) - (↑at_ : Int))))] [] ?_
  refine spl 19 (!(decide (0 ≤ (↑at_ : Int)) && decide ((↑at_ : Int) ≤ (↑b.length : Int)) && decide ((↑s : Int) ≤ (↑b.length : Int) - (↑at_ : Int)))) ?_ ?_
  ·intro hb2
   try simp only [sbb] at hb2
   (exfalso; omega)
  intro hb2
  try simp only [sbb] at hb2
  refine gn 0 Rg.no [kLp (bitL 7 119), KI.block 0, kCd (bitL 4 15)] [(0, vS A b.length c), (1, vI (↑at_ : Int)), (8, SV.one (SC.v (Value.int IntKind.u64 0))), (9, vI (IntKind.i64.wrap ((↑s : Int) - 1)))] [] ?_
  try simp only [flx, nf_10, nf_0]
  refine loop_at (ι := Nat) (fun j => [(8, .one (.v (.int .u64 (ofLE (((b.drop at_).take s).drop j))))), (9, .one (.v (.int .i64 ((j : Int) - 1))))]) (fun _ => []) (fun _ => [oldA w]) (fun j => j ≤ s) (fun j => j) s (by rw [show ((b.drop at_).take s).drop s = [] from List.drop_eq_nil_of_le (by omega)]; rfl) rfl rfl (Nat.le_refl _) ?_
  intro j hj ih
  rcases Nat.eq_zero_or_pos j with rfl | hj0
  ·rw [List.drop_zero]
   have hu : IntKind.i64.wrap (ofLE ((b.drop at_).take s)) = ofLE ((b.drop at_).take s) := by rw [IntKind.wrap_i64]; omega
   generalize ofLE ((b.drop at_).take s) = acc at *
   have nf_9 := hu
   refine gn 0 Rg.no [kCd (bitL 9 375), kCd (bitL 8 247), kLp (bitL 7 119), KI.block 0, kCd (bitL 4 15)] [(0, vS A b.length c), (1, vI (↑at_ : Int)), (8, SV.one (SC.v (Value.int IntKind.u64 acc))), (9, vI (-1)), (23, vB false)] [] ?_
   refine ltk 23 false ?_
   refine gn 0 Rg.no [kCd (bitL 6 47), kCd (bitL 5 31)] [(8, SV.one (SC.v (Value.int IntKind.u64 acc))), (37, vB (decide (acc ≥ 9223372036854775808)))] [] ?_
   refine spl 37 (decide (acc ≥ 9223372036854775808)) ?_ ?_
   ·intro hb3
    replace hb3 := of_decide_eq_true hb3
    (exfalso; omega)
   ·intro hb3
    replace hb3 := of_decide_eq_false hb3
    refine gn 0 Rg.no [kCd (bitL 6 63)] [(6, vI (IntKind.i64.wrap acc)), (7, vL true)] [] ?_
    try simp only [flx, nf_10, nf_0, nf_9]
    refine rtk [vI acc, vL true] ?_
    intro L w1 hs
    exact ⟨rfl, hs.out0⟩
  have hst := seg_step (j := j - 1) hin (by omega)
  rw [show j - 1 + 1 = j by omega] at hst
  have hk := ofLE_bnd (byOk_drop (byOk_take (byOk_drop hby at_) s) j)
  have hdl : (((b.drop at_).take s).drop j).length = s - j := by rw [List.length_drop, hls]
  have hpm := pw_mono (s := (((b.drop at_).take s).drop j).length) (t := 6) (by omega)
  have hp6 : pw 6 = 281474976710656 := rfl
  have hx := hby _ (List.getElem_mem (show at_ + (j - 1) < b.length by omega))
  have hof : ofLE (((b.drop at_).take s).drop (j - 1)) = b[at_ + (j - 1)]'(by omega) + 256 * ofLE (((b.drop at_).take s).drop j) := by rw [hst]; rfl
  generalize ofLE (((b.drop at_).take s).drop j) = acc at *
  have nf_1 : IntKind.i64.wrap ((at_ : Int) + ((j : Int) - 1)) = ((at_ + (j - 1) : Nat) : Int) := by rw [IntKind.wrap_i64]; omega
  have nf_2 : IntKind.i64.wrap ((j : Int) - 1 - 1) = ((j - 1 : Nat) : Int) - 1 := by rw [IntKind.wrap_i64]; omega
  have nf_3 : IntKind.u64.wrap (b[at_ + (j - 1)]'(by omega)) = b[at_ + (j - 1)]'(by omega) := by rw [IntKind.wrap_u64]; omega
  have nf_4 : IntKind.u64.wrap (((BitVec.ofInt IntKind.u64.bits (IntKind.u64.wrap (acc * 2 ^ min (Int.toNat 8) IntKind.u64.bits)) ||| BitVec.ofInt IntKind.u64.bits (b[at_ + (j - 1)]'(by omega))).toNat : Nat) : Int) = acc * 256 + b[at_ + (j - 1)]'(by omega) := or8 hk.1 (by omega) hx
  refine gn 0 Rg.no [kCd (bitL 9 375), kCd (bitL 8 247), kLp (bitL 7 119), KI.block 0, kCd (bitL 4 15)] [(0, vS A b.length c), (1, vI (↑at_ : Int)), (8, SV.one (SC.v (Value.int IntKind.u64 acc))), (9, vI ((↑j : Int) - 1)), (23, vB (decide ((↑j : Int) - 1 ≥ 0)))] [] ?_
  refine spl 23 (decide ((↑j : Int) - 1 ≥ 0)) ?_ ?_
  ·intro hb3
   replace hb3 := of_decide_eq_true hb3
   refine gn 0 (Rg.sq (bitL 10 759) 6) [KI.block 1, kCd (bitL 9 503), kLp (bitL 7 119), KI.block 0, kCd (bitL 4 15)] [(0, vS A b.length c), (1, vI (↑at_ : Int)), (9, vI ((↑j : Int) - 1)), (27, SV.one (SC.v (Value.int IntKind.u64 (IntKind.u64.wrap (acc * 2 ^ min (Int.toNat 8) IntKind.u64.bits))))), (28, vS A b.length c), (31, vI (IntKind.i64.wrap ((↑at_ : Int) + ((↑j : Int) - 1))))] [] ?_
   try simp only [flx, nf_10, nf_0, nf_1, nf_2, nf_3, nf_4]
   refine index_at 6 (by kernel_rfl : atP _ _ _ 6 false = some (Op.indexAddr 44 (tmpO 28) (tmpO 31), 0, some 32, Rg.sq (bitL 10 759) 7)) (ni := at_ + (j - 1)) (sz := 1) (by kernel_rfl) rfl rfl rfl (by omega) (fun L w1 hs => rd_some (i := at_ + (j - 1)) (rdRow_ext (hs.old 0 rfl) hb) (by omega)) ?_
   intro a_1 ha_1
   cases ha_1
   refine gn 0 (Rg.sq (bitL 10 759) 7) [KI.block 1, kCd (bitL 9 503), kLp (bitL 7 119), KI.block 0, kCd (bitL 4 15)] [(0, vS (some a_1) b.length c), (1, vI (↑at_ : Int)), (9, vI ((↑j : Int) - 1)), (27, SV.one (SC.v (Value.int IntKind.u64 (IntKind.u64.wrap (acc * 2 ^ min (Int.toNat 8) IntKind.u64.bits))))), (32, vP (a_1.add ((at_ + (j - 1)) * 1)))] [] ?_
   refine load_one 7 (by kernel_rfl : atP _ _ _ 7 true = some (Op.load 5 (tmpO 32), 5, some 33, Rg.sq (bitL 10 759) 8)) (n := 1) (by kernel_rfl) rfl ?_
   intro L w1 hs
   refine ⟨.v (Value.int IntKind.u8 ((b)[at_ + (j - 1)]'(by omega))), rd_sc (rdRow_ext (hs.old 0 rfl) hb) (by omega), ?_⟩
   clear hs
   refine gn 0 Rg.no [kLp (bitL 7 119), KI.block 0, kCd (bitL 4 15)] [(0, vS (some a_1) b.length c), (1, vI (↑at_ : Int)), (8, SV.one (SC.v (Value.int IntKind.u64 (IntKind.u64.wrap (↑(BitVec.ofInt IntKind.u64.bits (IntKind.u64.wrap (acc * 2 ^ min (Int.toNat 8) IntKind.u64.bits)) ||| BitVec.ofInt IntKind.u64.bits (IntKind.u64.wrap b[at_ + (j - 1)])).toNat : Int))))), (9, vI (IntKind.i64.wrap ((↑j : Int) - 1 - 1)))] [] ?_
   try simp only [flx, nf_10, nf_0, nf_1, nf_2, nf_3, nf_4]
   rw [show acc * 256 + b[at_ + (j - 1)]'(by omega) = ofLE (((b.drop at_).take s).drop (j - 1)) by rw [hof]; omega]; exact ih (j - 1) (by omega) (by omega)
  ·intro hb3
   replace hb3 := of_decide_eq_false hb3
   (exfalso; omega)
 ·rw [if_neg hin, decide_eq_false hin]
  refine gn 0 (Rg.sq (bitL 3 1) 1) [kCd (bitL 3 5), KI.code [true, true]] [(0, vS A b.length c), (1, vI (↑at_ : Int)), (2, vI (↑s : Int)), (10, vI (↑s : Int))] [] ?_
  refine cpk 94 [vI (↑s : Int), vI 1, vI 8] (some 11) (Rg.sq (bitL 3 1) 2) (.one (.bo (decide (1 ≤ (↑s : Int)) && decide ((↑s : Int) ≤ 8)))) (fun L w1 hs => (within_ok ((↑s : Int)) (1) (8) w1)) ?_
  refine gn 0 (Rg.sq (bitL 3 1) 4) [kCd (bitL 3 5), KI.code [true, true]] [(0, vS A b.length c), (1, vI (↑at_ : Int)), (2, vI (↑s : Int)), (13, vB !(decide (1 ≤ (↑s : Int)) && decide ((↑s : Int) ≤ 8)))] [] ?_
  refine spl 13 (!(decide (1 ≤ (↑s : Int)) && decide ((↑s : Int) ≤ 8))) ?_ ?_
  ·intro hb1
   try simp only [sbb] at hb1
   (exfalso; omega)
  ·intro hb1
   try simp only [sbb] at hb1
   refine gn 0 (Rg.sq (bitL 3 1) 7) [kCd (bitL 3 5), KI.code [true, true]] [(0, vS A b.length c), (1, vI (↑at_ : Int)), (2, vI (↑s : Int)), (13, vL false), (14, vS A b.length c), (15, vI (↑at_ : Int)), (16, vI (↑s : Int))] [] ?_
   refine cpk 115 [vS A b.length c, vI (↑at_ : Int), vI (↑s : Int)] (some 17) (Rg.sq (bitL 3 1) 8) (.one (.bo (decide (0 ≤ (↑at_ : Int)) && decide ((↑at_ : Int) ≤ (↑b.length : Int)) && decide ((↑s : Int) ≤ (↑b.length : Int) - (↑at_ : Int))))) (fun L w1 hs => (hasBytes_ok (b) (Value.slice A b.length c) ((↑at_ : Int)) ((↑s : Int)) w1 (rdRow_ext (hs.old 0 rfl) hb) ‹_› (by omega))) ?_
   refine gn 0 Rg.no [kCd (bitL 3 5), KI.code [true, true]] [(0, vS A b.length c), (1, vI (↑at_ : Int)), (2, vI (↑s : Int)), (19, vB !(decide (0 ≤ (↑at_ : Int)) && decide ((↑at_ : Int) ≤ (↑b.length : Int)) && decide ((↑s : Int) ≤ (↑b.length : Int) - (↑at_ : Int))))] [] ?_
   refine spl 19 (!(decide (0 ≤ (↑at_ : Int)) && decide ((↑at_ : Int) ≤ (↑b.length : Int)) && decide ((↑s : Int) ≤ (↑b.length : Int) - (↑at_ : Int)))) ?_ ?_
   ·intro hb2
    try simp only [sbb] at hb2
    refine gn 0 Rg.no [kCd (bitL 5 21), KI.code [true, true]] [(6, vI 0), (7, vL false)] [] ?_
    refine rtk [vI 0, vL false] ?_
    intro L w1 hs
    exact ⟨rfl, hs.out0⟩
   ·intro hb2
    try simp only [sbb] at hb2
    (exfalso; omega)
theorem sGetNum_ok (b : List Int) (vb : Value) (at_ : Nat) (s : Nat) (w : World) (hb : rdRow kU8 w.heap b vb) (hby : byOk b) (hl : b.length ≤ 1048576) (hat : at_ ≤ 1048576) (hs : 1 ≤ s ∧ s ≤ 7) :
  Calls Tryz.prog 51 #[vb, .int .i64 at_, .int .i64 s] w fun e w' => e = .returned (.tuple #[.int .i64 (if at_ + s ≤ b.length then ofLE ((b.drop at_).take s) else 0), .bool (decide (at_ + s ≤ b.length))]) ∧ Below w.heap.size w w' := by
 obtain ⟨A, c, rfl⟩ := rdRow_form hb
 refine enter (args := [.one (.v (.slice A b.length c)), .one (.v (.int .i64 at_)), .one (.v (.int .i64 s))]) Tryz.func51 (c := bodyOf Tryz.f51) rfl rfl (start_LOK _) (start_old w) ?_
 have nf_10 : IntKind.i64.wrap ((b.length : Int) - (at_ : Int)) = (b.length : Int) - at_ := by rw [IntKind.wrap_i64]; omega
 by_cases hin : at_ + s ≤ b.length
 ·rw [if_pos hin, decide_eq_true hin]
  have hm8 := pw_mono hs.2
  have hp7 : pw 7 = 72057594037927936 := rfl
  have hbs := ofLE_bnd (byOk_take (byOk_drop hby at_) s)
  have hls : ((b.drop at_).take s).length = s := by rw [List.length_take, List.length_drop]; omega
  rw [hls] at hbs
  have nf_0 : IntKind.i64.wrap ((s : Int) - 1) = (s : Int) - 1 := by rw [IntKind.wrap_i64]; omega
  refine gn 0 (Rg.sq (bitL 3 1) 3) [kCd (bitL 3 5), KI.code [true, true]] [(0, vS A b.length c), (1, vI (↑at_ : Int)), (2, vI (↑s : Int)), (13, vB (decide ((↑s : Int) < 1)))] [] ?_
  refine spl 13 (decide ((↑s : Int) < 1)) ?_ ?_
  ·intro hb1
   replace hb1 := of_decide_eq_true hb1
   (exfalso; omega)
  intro hb1
  replace hb1 := of_decide_eq_false hb1
  refine gn 0 (Rg.sq (bitL 3 1) 7) [kCd (bitL 3 5), KI.code [true, true]] [(0, vS A b.length c), (1, vI (↑at_ : Int)), (2, vI (↑s : Int)), (17, vB (decide ((↑s : Int) > 8)))] [] ?_
  refine spl 17 (decide ((↑s : Int) > 8)) ?_ ?_
  ·intro hb2
   replace hb2 := of_decide_eq_true hb2
   (exfalso; omega)
  intro hb2
  replace hb2 := of_decide_eq_false hb2
  refine gn 0 (Rg.sq (bitL 3 1) 11) [kCd (bitL 3 5), KI.code [true, true]] [(0, vS A b.length c), (1, vI (↑at_ : Int)), (2, vI (↑s : Int)), (21, vB (decide ((↑at_ : Int) < 0)))] [] ?_
  refine spl 21 (decide ((↑at_ : Int) < 0)) ?_ ?_
  ·intro hb3
   replace hb3 := of_decide_eq_true hb3
   (exfalso; omega)
  intro hb3
  replace hb3 := of_decide_eq_false hb3
  refine gn 0 (Rg.sq (bitL 3 1) 17) [kCd (bitL 3 5), KI.code [true, true]] [(0, vS A b.length c), (1, vI (↑at_ : Int)), (2, vI (↑s : Int)), (27, vB (decide ((↑at_ : Int) > (↑b.length : Int))))] [] ?_
  refine spl 27 (decide ((↑at_ : Int) > (↑b.length : Int))) ?_ ?_
  ·intro hb4
   replace hb4 := of_decide_eq_true hb4
   (exfalso; omega)
  intro hb4
  replace hb4 := of_decide_eq_false hb4
  refine gn 0 Rg.no [kCd (bitL 3 5), KI.code [true, true]] [(0, vS A b.length c), (1, vI (↑at_ : Int)), (2, vI (↑s : Int)), (34, vB (decide ((↑s : Int) > IntKind.i64.wrap ((↑b.length : Int) - (↑at_ : Int)))))] [] ?_
  try simp only [flx, nf_10, nf_0]
  refine spl 34 (decide ((↑s : Int) > (↑b.length : Int) - (↑at_ : Int))) ?_ ?_
  ·intro hb5
   replace hb5 := of_decide_eq_true hb5
   (exfalso; omega)
  intro hb5
  replace hb5 := of_decide_eq_false hb5
  refine gn 0 Rg.no [kLp (bitL 7 119), KI.block 0, kCd (bitL 4 15)] [(0, vS A b.length c), (1, vI (↑at_ : Int)), (8, vI 0), (9, vI (IntKind.i64.wrap ((↑s : Int) - 1)))] [] ?_
  try simp only [flx, nf_10, nf_0]
  refine loop_at (ι := Nat) (fun j => [(8, .one (.v (.int .i64 (ofLE (((b.drop at_).take s).drop j))))), (9, .one (.v (.int .i64 ((j : Int) - 1))))]) (fun _ => []) (fun _ => [oldA w]) (fun j => j ≤ s) (fun j => j) s (by rw [show ((b.drop at_).take s).drop s = [] from List.drop_eq_nil_of_le (by omega)]; rfl) rfl rfl (Nat.le_refl _) ?_
  intro j hj ih
  rcases Nat.eq_zero_or_pos j with rfl | hj0
  ·rw [List.drop_zero]
   have hu : IntKind.i64.wrap (ofLE ((b.drop at_).take s)) = ofLE ((b.drop at_).take s) := by rw [IntKind.wrap_i64]; omega
   generalize ofLE ((b.drop at_).take s) = acc at *
   have nf_9 := hu
   refine gn 0 Rg.no [kCd (bitL 9 375), kCd (bitL 8 247), kLp (bitL 7 119), KI.block 0, kCd (bitL 4 15)] [(0, vS A b.length c), (1, vI (↑at_ : Int)), (8, vI acc), (9, vI (-1)), (38, vB false)] [] ?_
   refine ltk 38 false ?_
   refine gn 0 Rg.no [kCd (bitL 5 31)] [(6, vI acc), (7, vL true)] [] ?_
   refine rtk [vI acc, vL true] ?_
   intro L w1 hs
   exact ⟨rfl, hs.out0⟩
  have hst := seg_step (j := j - 1) hin (by omega)
  rw [show j - 1 + 1 = j by omega] at hst
  have hk := ofLE_bnd (byOk_drop (byOk_take (byOk_drop hby at_) s) j)
  have hdl : (((b.drop at_).take s).drop j).length = s - j := by rw [List.length_drop, hls]
  have hpm := pw_mono (s := (((b.drop at_).take s).drop j).length) (t := 6) (by omega)
  have hp6 : pw 6 = 281474976710656 := rfl
  have hx := hby _ (List.getElem_mem (show at_ + (j - 1) < b.length by omega))
  have hof : ofLE (((b.drop at_).take s).drop (j - 1)) = b[at_ + (j - 1)]'(by omega) + 256 * ofLE (((b.drop at_).take s).drop j) := by rw [hst]; rfl
  generalize ofLE (((b.drop at_).take s).drop j) = acc at *
  have nf_1 : IntKind.i64.wrap ((at_ : Int) + ((j : Int) - 1)) = ((at_ + (j - 1) : Nat) : Int) := by rw [IntKind.wrap_i64]; omega
  have nf_2 : IntKind.i64.wrap ((j : Int) - 1 - 1) = ((j - 1 : Nat) : Int) - 1 := by rw [IntKind.wrap_i64]; omega
  have nf_3 : IntKind.i64.wrap (b[at_ + (j - 1)]'(by omega)) = b[at_ + (j - 1)]'(by omega) := by rw [IntKind.wrap_i64]; omega
  have nf_4 : IntKind.i64.wrap (IntKind.i64.wrap (acc * 256) + b[at_ + (j - 1)]'(by omega)) = acc * 256 + b[at_ + (j - 1)]'(by omega) := by rw [IntKind.wrap_i64, IntKind.wrap_i64]; omega
  refine gn 0 Rg.no [kCd (bitL 9 375), kCd (bitL 8 247), kLp (bitL 7 119), KI.block 0, kCd (bitL 4 15)] [(0, vS A b.length c), (1, vI (↑at_ : Int)), (8, vI acc), (9, vI ((↑j : Int) - 1)), (38, vB (decide ((↑j : Int) - 1 ≥ 0)))] [] ?_
  refine spl 38 (decide ((↑j : Int) - 1 ≥ 0)) ?_ ?_
  ·intro hb6
   replace hb6 := of_decide_eq_true hb6
   refine gn 0 (Rg.sq (bitL 11 759) 4) [kCd (bitL 11 1783), KI.block 1, kCd (bitL 9 503), kLp (bitL 7 119), KI.block 0, kCd (bitL 4 15)] [(0, vS A b.length c), (1, vI (↑at_ : Int)), (8, vI acc), (9, vI ((↑j : Int) - 1)), (41, vS A b.length c), (44, vI (IntKind.i64.wrap ((↑at_ : Int) + ((↑j : Int) - 1))))] [] ?_
   try simp only [flx, nf_10, nf_0, nf_1, nf_2, nf_3, nf_4]
   refine index_at 4 (by kernel_rfl : atP _ _ _ 4 false = some (Op.indexAddr 44 (tmpO 41) (tmpO 44), 0, some 45, Rg.sq (bitL 11 759) 5)) (ni := at_ + (j - 1)) (sz := 1) (by kernel_rfl) rfl rfl rfl (by omega) (fun L w1 hs => rd_some (i := at_ + (j - 1)) (rdRow_ext (hs.old 0 rfl) hb) (by omega)) ?_
   intro a_1 ha_1
   cases ha_1
   refine gn 0 (Rg.sq (bitL 11 759) 5) [kCd (bitL 11 1783), KI.block 1, kCd (bitL 9 503), kLp (bitL 7 119), KI.block 0, kCd (bitL 4 15)] [(0, vS (some a_1) b.length c), (1, vI (↑at_ : Int)), (8, vI acc), (9, vI ((↑j : Int) - 1)), (45, vP (a_1.add ((at_ + (j - 1)) * 1)))] [] ?_
   refine load_one 5 (by kernel_rfl : atP _ _ _ 5 true = some (Op.load 5 (tmpO 45), 5, some 46, Rg.sq (bitL 11 759) 6)) (n := 1) (by kernel_rfl) rfl ?_
   intro L w1 hs
   refine ⟨.v (Value.int IntKind.u8 ((b)[at_ + (j - 1)]'(by omega))), rd_sc (rdRow_ext (hs.old 0 rfl) hb) (by omega), ?_⟩
   clear hs
   refine gn 0 (Rg.sq (bitL 13 1783) 3) [kCd (bitL 13 5879), kCd (bitL 12 3831), KI.block 1, kCd (bitL 9 503), kLp (bitL 7 119), KI.block 0, kCd (bitL 4 15)] [(0, vS (some a_1) b.length c), (1, vI (↑at_ : Int)), (8, vI acc), (9, vI ((↑j : Int) - 1)), (10, vI (IntKind.i64.wrap b[at_ + (j - 1)])), (50, vB ((↑j : Int) - 1 == 7))] [] ?_
   try simp only [flx, nf_10, nf_0, nf_1, nf_2, nf_3, nf_4]
   refine spl 50 ((↑j : Int) - 1 == 7) ?_ ?_
   ·intro hb7
    replace hb7 := beq_iff_eq.1 hb7
    (exfalso; omega)
   ·intro hb7
    replace hb7 := beq_eq_false_iff_ne.1 hb7
    refine gn 0 Rg.no [kLp (bitL 7 119), KI.block 0, kCd (bitL 4 15)] [(0, vS (some a_1) b.length c), (1, vI (↑at_ : Int)), (8, vI (IntKind.i64.wrap (IntKind.i64.wrap (acc * 256) + b[at_ + (j - 1)]))), (9, vI (IntKind.i64.wrap ((↑j : Int) - 1 - 1)))] [] ?_
    try simp only [flx, nf_10, nf_0, nf_1, nf_2, nf_3, nf_4]
    rw [show acc * 256 + b[at_ + (j - 1)]'(by omega) = ofLE (((b.drop at_).take s).drop (j - 1)) by rw [hof]; omega]; exact ih (j - 1) (by omega) (by omega)
  ·intro hb6
   replace hb6 := of_decide_eq_false hb6
   (exfalso; omega)
 ·rw [if_neg hin, decide_eq_false hin]
  refine gn 0 (Rg.sq (bitL 3 1) 3) [kCd (bitL 3 5), KI.code [true, true]] [(0, vS A b.length c), (1, vI (↑at_ : Int)), (2, vI (↑s : Int)), (13, vB (decide ((↑s : Int) < 1)))] [] ?_
  refine spl 13 (decide ((↑s : Int) < 1)) ?_ ?_
  ·intro hb1
   replace hb1 := of_decide_eq_true hb1
   (exfalso; omega)
  ·intro hb1
   replace hb1 := of_decide_eq_false hb1
   refine gn 0 (Rg.sq (bitL 3 1) 7) [kCd (bitL 3 5), KI.code [true, true]] [(0, vS A b.length c), (1, vI (↑at_ : Int)), (2, vI (↑s : Int)), (17, vB (decide ((↑s : Int) > 8)))] [] ?_
   refine spl 17 (decide ((↑s : Int) > 8)) ?_ ?_
   ·intro hb2
    replace hb2 := of_decide_eq_true hb2
    (exfalso; omega)
   ·intro hb2
    replace hb2 := of_decide_eq_false hb2
    refine gn 0 (Rg.sq (bitL 3 1) 11) [kCd (bitL 3 5), KI.code [true, true]] [(0, vS A b.length c), (1, vI (↑at_ : Int)), (2, vI (↑s : Int)), (21, vB (decide ((↑at_ : Int) < 0)))] [] ?_
    refine spl 21 (decide ((↑at_ : Int) < 0)) ?_ ?_
    ·intro hb3
     replace hb3 := of_decide_eq_true hb3
     (exfalso; omega)
    ·intro hb3
     replace hb3 := of_decide_eq_false hb3
     refine gn 0 (Rg.sq (bitL 3 1) 17) [kCd (bitL 3 5), KI.code [true, true]] [(0, vS A b.length c), (1, vI (↑at_ : Int)), (2, vI (↑s : Int)), (27, vB (decide ((↑at_ : Int) > (↑b.length : Int))))] [] ?_
     refine spl 27 (decide ((↑at_ : Int) > (↑b.length : Int))) ?_ ?_
     ·intro hb4
      replace hb4 := of_decide_eq_true hb4
      refine gn 0 Rg.no [kCd (bitL 5 21), KI.code [true, true]] [(6, vI 0), (7, vL false)] [] ?_
      refine rtk [vI 0, vL false] ?_
      intro L w1 hs
      exact ⟨rfl, hs.out0⟩
     ·intro hb4
      replace hb4 := of_decide_eq_false hb4
      refine gn 0 Rg.no [kCd (bitL 3 5), KI.code [true, true]] [(0, vS A b.length c), (1, vI (↑at_ : Int)), (2, vI (↑s : Int)), (34, vB (decide ((↑s : Int) > IntKind.i64.wrap ((↑b.length : Int) - (↑at_ : Int)))))] [] ?_
      try simp only [flx, nf_10]
      refine spl 34 (decide ((↑s : Int) > (↑b.length : Int) - (↑at_ : Int))) ?_ ?_
      ·intro hb5
       replace hb5 := of_decide_eq_true hb5
       refine gn 0 Rg.no [kCd (bitL 5 21), KI.code [true, true]] [(6, vI 0), (7, vL false)] [] ?_
       refine rtk [vI 0, vL false] ?_
       intro L w1 hs
       exact ⟨rfl, hs.out0⟩
      ·intro hb5
       replace hb5 := of_decide_eq_false hb5
       (exfalso; omega)
end Go.Proofs.YtgleoebogikooaaGreat.Dk
