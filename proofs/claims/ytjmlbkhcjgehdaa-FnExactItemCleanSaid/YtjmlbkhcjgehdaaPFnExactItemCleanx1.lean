-- Written by hv.py, a program of this session's own, over the kit's print: FnExactItemClean
import Derived.Test.YtjmlbkhcjgehdaaPFnExactItemCleanx0
namespace Go.Proofs.Ytjmlbkhcjgehdaa.PFnExactItemClean
open Go.RowKit Go.Proofs.YtjmlbkhcjgehdaaW.PrintWords Go.Proofs.YtjmlbkhcjgehdaaW.PrintLast Go.Proofs.YtjmlbkhcjgehdaaW.PrintMore Go.Proofs.Ytjmlbkhcjgehdaa.HFl Go.Proofs.Ytjmlbkhcjgehdaa.HMap Go.Proofs.Ytjmlbkhcjgehdaa.HMore Go.Proofs.Ytjmlbkhcjgehdaa
attribute [local go_sem] max2_int min2_int max_two min_two max_three min_three max_four min_four   -- for this text's walks alone
set_option linter.unusedVariables false
set_option linter.unusedSimpArgs false

/-! ### laws_szByteS: function 60 -/
def laws_szByteS.f (l0 : List Int) (a1 : Int) : Option (Int) := if (wrap64 (a1 - (l0.length : Int))) < 0 then (some (-1)) else (some (wrap64 (a1 - (l0.length : Int))))
set_option maxHeartbeats 8000000 in
set_option maxRecDepth 100000 in
theorem laws_szByteS.calls (A0 : Option Addr) (c0 : Nat) (l0 : List Int) (a1 : Int) (r : Int) (w : World) (hr0 : Kd.C (Kd.int .u8) w A0 l0.length l0) (hc0 : l0.length ≤ c0) (h : laws_szByteS.f l0 a1 = some r) :
    Calls Try.prog 60 #[.slice A0 l0.length c0, .int .i64 a1] w fun e w' => e = .returned (.int .i64 r) ∧ Drawn0 w w' := by
  have HR0 := Aside0.mk hr0
  have HC0 := Aside0.mk hc0
  clear hr0 hc0
  have H : (if (wrap64 (a1 - (l0.length : Int))) < 0 then (some (-1)) else (some (wrap64 (a1 - (l0.length : Int))))) = some r := h
  clear h
  by_cases c3 : (wrap64 (a1 - (l0.length : Int))) < 0
  · rw [if_pos c3] at H
    have c3b0 : decide ((wrap64 (a1 - (l0.length : Int))) < 0) = true := decide_eq_true c3
    clear c3
    obtain rfl := Option.some.inj H
    go_enter Try.func60, Try.ntmps60
    go_wp2
    go_ret
    exact ⟨by first | rfl | (simp; done) | (simp [*]; done), by repeat (first | exact Drawn0.refl _ | apply Drawn0.step)⟩
  · rw [if_neg c3] at H
    have c3b0 : decide ((wrap64 (a1 - (l0.length : Int))) < 0) = false := decide_eq_false c3
    clear c3
    obtain rfl := Option.some.inj H
    go_enter Try.func60, Try.ntmps60
    go_wp2
    go_ret
    exact ⟨by first | rfl | (simp; done) | (simp [*]; done), by repeat (first | exact Drawn0.refl _ | apply Drawn0.step)⟩

/-! ### laws_szItem: function 13 -/
def laws_szItem.f (a0_0 : Int) (a0_1 : Int) (a0_2 : Nat) (l0_3 : List Int) (a1 : Int) : Option (Int) := (laws_szByteS.f l0_3 a1).bind fun t102 => (if t102 < 0 then (some (-1)) else (some t102))
set_option maxHeartbeats 8000000 in
set_option maxRecDepth 100000 in
theorem laws_szItem.calls (a0_0 : Int) (a0_1 : Int) (a0_2 : Nat) (A0_3 : Option Addr) (c0_3 : Nat) (l0_3 : List Int) (a1 : Int) (r : Int) (w : World) (hr0_3 : Kd.C (Kd.int .u8) w A0_3 l0_3.length l0_3) (hc0_3 : l0_3.length ≤ c0_3) (h : laws_szItem.f a0_0 a0_1 a0_2 l0_3 a1 = some r) :
    Calls Try.prog 13 #[.agg #[.int .i64 a0_0, .int .i64 a0_1, .float .f64 a0_2, .slice A0_3 l0_3.length c0_3], .int .i64 a1] w fun e w' => e = .returned (.int .i64 r) ∧ Below w.heap.size w w' := by
  have hu25 := Try.underlying25
  have HR0_3 := Aside0.mk hr0_3
  have HC0_3 := Aside0.mk hc0_3
  clear hr0_3 hc0_3
  have HB := Aside0.mk (Below.refl w.heap.size w)
  have H : ((laws_szByteS.f l0_3 a1).bind fun t102 => (if t102 < 0 then (some (-1)) else (some t102))) = some r := h
  clear h
  replace H := Option.bind_eq_some_iff.mp H
  obtain ⟨t102, A30, H⟩ := H
  replace H : (if t102 < 0 then (some (-1)) else (some t102)) = some r := H
  have A3 := Aside0.mk A30
  clear A30
  by_cases c4 : t102 < 0
  · rw [if_pos c4] at H
    have c4b0 : decide (t102 < 0) = true := decide_eq_true c4
    clear c4
    obtain rfl := Option.some.inj H
    go_enter Try.func13, Try.ntmps13
    go_wp2_with (first | ((with_reducible refine gate_dst (N := 2) rfl ?_); refine box_event ?hg (N := 2) ?hd (cs := #[.int .i64 a0_0, .int .i64 a0_1, .float .f64 a0_2, .slice A0_3 l0_3.length c0_3]) (t := 25) ?hr ?_; (case hd => rfl); (case hg => rfl); (case hr => first | (go_simp; done) | (go_simp; rfl)); intro gb101 hg w5 hbox hb; have n0_ := Aside0.mk (below_step (by repeat (first | (with_reducible first | exact HB.out | apply below_alloc | apply pw_below_drewN | apply below_drew1) | exact HB.out)) hb); have n1_ := Aside0.mk (hbox); have n2_ := Aside0.mk ((by rw [hg]; exact (below_size (by repeat (first | (with_reducible first | exact HB.out | apply below_alloc | apply pw_below_drewN | apply below_drew1) | exact HB.out))) : w.heap.size ≤ gb101)); have n3_ := Aside0.mk ((by rw [hg]; exact (below_size (by repeat (first | (with_reducible first | exact HB.out | apply below_alloc | apply pw_below_drewN | apply below_drew1) | exact HB.out))) : w.heap.size ≤ gb101)); clear HB; have HB := n0_; have BK101 := n1_; have GW101 := n2_; have GE101 := n3_; clear n0_ n1_ n2_ n3_; clear hb hbox hg; have hcz6_0 : w5.cell? ⟨gb101, 0, none⟩ = some (.int .i64 a0_0) := (blk_cell BK101.out 0).trans rfl; have hcz6_1 : w5.cell? ⟨gb101, 1, none⟩ = some (.int .i64 a0_1) := (blk_cell BK101.out 1).trans rfl; have hcz6_2 : w5.cell? ⟨gb101, 2, none⟩ = some (.float .f64 a0_2) := (blk_cell BK101.out 2).trans rfl; have hcz6_3 : w5.cell? ⟨gb101, 3, none⟩ = some (.slice A0_3 l0_3.length c0_3) := (blk_cell BK101.out 3).trans rfl; have hfz6_0 := blk_frozen BK101.out 0; have hfz6_1 := blk_frozen BK101.out 1; have hfz6_2 := blk_frozen BK101.out 2; have hfz6_3 := blk_frozen BK101.out 3) | ((with_reducible refine gate_callee (f := 60) rfl ?_); refine goesL_ (some 8) rfl rfl Try.func60 (by kernel_rfl) rfl #[.slice A0_3 l0_3.length c0_3, .int .i64 a1] rfl (by (try simp only [List.map_toArray, List.map_cons, List.map_nil]); first | done | rfl | (simp only [List.length_drop, List.length_take]; rfl)) ?_; (with_reducible refine (laws_szByteS.calls _ _ l0_3 a1 t102 _ ?side1 ?side2 A3.out).mono ?_); (case side1 => repeat (first | exact (Kd.C_below HR0_3.out HB.out) | (with_reducible refine Kd.C_alloc ?_ _) | (with_reducible refine Kd.C_drewN ?_ _) | (with_reducible refine Kd.C_drew ?_))); (case side2 => exact HC0_3.out); rintro e w' ⟨rfl, ⟨nd, rfl⟩⟩; refine ⟨_, rfl, ?_⟩))
    go_ret
    exact ⟨by first | rfl | (simp [errW_none, errW_some] <;> rfl) | (simp [*, errW_none, errW_some] <;> rfl), by repeat (first | (with_reducible first | exact HB.out | apply below_alloc | apply pw_below_drewN | apply below_drew1 | refine below_set ?_ GE101.out) | exact HB.out)⟩
  · rw [if_neg c4] at H
    have c4b0 : decide (t102 < 0) = false := decide_eq_false c4
    clear c4
    obtain rfl := Option.some.inj H
    go_enter Try.func13, Try.ntmps13
    go_wp2_with (first | ((with_reducible refine gate_dst (N := 2) rfl ?_); refine box_event ?hg (N := 2) ?hd (cs := #[.int .i64 a0_0, .int .i64 a0_1, .float .f64 a0_2, .slice A0_3 l0_3.length c0_3]) (t := 25) ?hr ?_; (case hd => rfl); (case hg => rfl); (case hr => first | (go_simp; done) | (go_simp; rfl)); intro gb101 hg w7 hbox hb; have n0_ := Aside0.mk (below_step (by repeat (first | (with_reducible first | exact HB.out | apply below_alloc | apply pw_below_drewN | apply below_drew1) | exact HB.out)) hb); have n1_ := Aside0.mk (hbox); have n2_ := Aside0.mk ((by rw [hg]; exact (below_size (by repeat (first | (with_reducible first | exact HB.out | apply below_alloc | apply pw_below_drewN | apply below_drew1) | exact HB.out))) : w.heap.size ≤ gb101)); have n3_ := Aside0.mk ((by rw [hg]; exact (below_size (by repeat (first | (with_reducible first | exact HB.out | apply below_alloc | apply pw_below_drewN | apply below_drew1) | exact HB.out))) : w.heap.size ≤ gb101)); clear HB; have HB := n0_; have BK101 := n1_; have GW101 := n2_; have GE101 := n3_; clear n0_ n1_ n2_ n3_; clear hb hbox hg; have hcz8_0 : w7.cell? ⟨gb101, 0, none⟩ = some (.int .i64 a0_0) := (blk_cell BK101.out 0).trans rfl; have hcz8_1 : w7.cell? ⟨gb101, 1, none⟩ = some (.int .i64 a0_1) := (blk_cell BK101.out 1).trans rfl; have hcz8_2 : w7.cell? ⟨gb101, 2, none⟩ = some (.float .f64 a0_2) := (blk_cell BK101.out 2).trans rfl; have hcz8_3 : w7.cell? ⟨gb101, 3, none⟩ = some (.slice A0_3 l0_3.length c0_3) := (blk_cell BK101.out 3).trans rfl; have hfz8_0 := blk_frozen BK101.out 0; have hfz8_1 := blk_frozen BK101.out 1; have hfz8_2 := blk_frozen BK101.out 2; have hfz8_3 := blk_frozen BK101.out 3) | ((with_reducible refine gate_callee (f := 60) rfl ?_); refine goesL_ (some 8) rfl rfl Try.func60 (by kernel_rfl) rfl #[.slice A0_3 l0_3.length c0_3, .int .i64 a1] rfl (by (try simp only [List.map_toArray, List.map_cons, List.map_nil]); first | done | rfl | (simp only [List.length_drop, List.length_take]; rfl)) ?_; (with_reducible refine (laws_szByteS.calls _ _ l0_3 a1 t102 _ ?side1 ?side2 A3.out).mono ?_); (case side1 => repeat (first | exact (Kd.C_below HR0_3.out HB.out) | (with_reducible refine Kd.C_alloc ?_ _) | (with_reducible refine Kd.C_drewN ?_ _) | (with_reducible refine Kd.C_drew ?_))); (case side2 => exact HC0_3.out); rintro e w' ⟨rfl, ⟨nd, rfl⟩⟩; refine ⟨_, rfl, ?_⟩))
    go_ret
    exact ⟨by first | rfl | (simp [errW_none, errW_some] <;> rfl) | (simp [*, errW_none, errW_some] <;> rfl), by repeat (first | (with_reducible first | exact HB.out | apply below_alloc | apply pw_below_drewN | apply below_drew1 | refine below_set ?_ GE101.out) | exact HB.out)⟩

/-! ### spec_FloatBits: function 120, by hand -/
def spec_FloatBits.f (a : Nat) : Option Int := if a < 18446744073709551616 then some ((HFloat.canon a : Nat) : Int) else none
theorem fb_geq {x : Nat} (h : x < 9218868437227405312) : (HFloat.fgt x 4611686018427387904 || HFloat.feq x 4611686018427387904) = decide (4611686018427387904 ≤ x) := by
  rw [HFloat.fgt_eq, HFloat.feq_eq]
  rw [show FloatKind.f64.format.order x 4611686018427387904 = some (compare x 4611686018427387904) from HFloat.order_fin h (by omega)]
  rcases Nat.lt_trichotomy x 4611686018427387904 with h | h | h
  · rw [Nat.compare_eq_lt.2 h, decide_eq_false (by omega)]; rfl
  · rw [Nat.compare_eq_eq.2 h, decide_eq_true (by omega)]; rfl
  · rw [Nat.compare_eq_gt.2 h, decide_eq_true (by omega)]; rfl
theorem fb_lss {x : Nat} (h : x < 9218868437227405312) : (HFloat.flt x 4607182418800017408) = decide (x < 4607182418800017408) := by
  rw [HFloat.flt_eq]
  rw [show FloatKind.f64.format.order x 4607182418800017408 = some (compare x 4607182418800017408) from HFloat.order_fin h (by omega)]
  rcases Nat.lt_trichotomy x 4607182418800017408 with h | h | h
  · rw [Nat.compare_eq_lt.2 h, decide_eq_true (by omega)]; rfl
  · rw [Nat.compare_eq_eq.2 h, decide_eq_false (by omega)]; rfl
  · rw [Nat.compare_eq_gt.2 h, decide_eq_false (by omega)]; rfl
theorem fb_max {x : Nat} (h : x < 9218868437227405312) : (HFloat.fgt x 9218868437227405311) = false := by
  rw [HFloat.fgt_eq]
  rw [show FloatKind.f64.format.order x 9218868437227405311 = some (compare x 9218868437227405311) from HFloat.order_fin h (by omega)]
  rcases Nat.lt_or_eq_of_le (show x ≤ 9218868437227405311 by omega) with h | h
  · rw [Nat.compare_eq_lt.2 h]; rfl
  · rw [Nat.compare_eq_eq.2 h]; rfl
theorem fb_zero {x : Nat} (h : x ≤ 9218868437227405312) (h0 : 0 < x) : (HFloat.feq x 0) = false := by
  rw [HFloat.feq_eq]
  have := HFloat.order_zero (x := x) (by omega) (by omega)
  rw [show FloatKind.f64.format.order x 0 = _ from this, if_neg (by omega), if_pos (by omega)]
  rfl
theorem fb_dbls {r : Nat} (h : 4503599627370496 ≤ r) : ∀ k, HFloat.dbls k r = r + k * 4503599627370496
  | 0 => by simp [HFloat.dbls]
  | k + 1 => by
    rw [HFloat.dbls_succ, fb_dbls h k]
    unfold HFloat.dbl
    rw [if_neg (by omega)]
    omega
theorem fb_or {s f : Nat} (hs : s = 0 ∨ s = 9223372036854775808) (hf : f < 9223372036854775808) : Go.bits .or .u64 (s : Int) (f : Int) = ((s + f : Nat) : Int) := by
  rw [bits_or_u64_nat _ _ (by omega) (by omega)]
  congr 1
  rcases hs with rfl | rfl
  · simp
  · rw [show (9223372036854775808 : Nat) = 2 ^ 63 * 1 by omega, ← Nat.two_pow_add_eq_or_of_lt (by omega) 1]
theorem fb_or2 {s e f : Nat} (hs : s = 0 ∨ s = 9223372036854775808) (he : e < 2048) (hf : f < 4503599627370496) : Go.bits .or .u64 (Go.bits .or .u64 (s : Int) ((e * 4503599627370496 : Nat) : Int)) (f : Int) = ((s + (e * 4503599627370496 + f) : Nat) : Int) := by
  rw [fb_or hs (by omega), bits_or_u64_nat _ _ (by omega) (by omega)]
  congr 1
  have h1 : s + e * 4503599627370496 = s ||| e * 4503599627370496 := by
    rcases hs with rfl | rfl
    · simp
    · rw [show (9223372036854775808 : Nat) = 2 ^ 63 * 1 by omega, ← Nat.two_pow_add_eq_or_of_lt (by omega) 1]
  rw [h1, HFloat.or_parts hs he hf]
  omega
set_option maxHeartbeats 4000000 in
set_option maxRecDepth 100000 in
theorem spec_FloatBits.calls (a0 : Nat) (r : Int) (w : World) (h : spec_FloatBits.f a0 = some r) :
    Calls Try.prog 120 #[.float .f64 a0] w fun e w' => e = .returned (.int .u64 r) ∧ ∃ nd, w' = w.drewN nd := by
  obtain ⟨hlt, rfl⟩ : a0 < 18446744073709551616 ∧ ((HFloat.canon a0 : Nat) : Int) = r := by
    unfold spec_FloatBits.f at h
    split at h
    · exact ⟨by assumption, Option.some.inj h⟩
    · cases h
  clear h
  by_cases hN : 9218868437227405312 < a0 % 9223372036854775808
  · have q1 : (!HFloat.feq a0 a0) = true := by rw [HFloat.feq_eq, show FloatKind.f64.format.order a0 a0 = none from HFloat.order_eq_nan hN a0]; rfl
    have qc : HFloat.canon a0 = 9221120237041090560 := by unfold HFloat.canon HFloat.isN; rw [decide_eq_true hN]; rfl
    clear hN hlt
    go_enter Try.func120, Try.ntmps120
    go_wp2
    go_ret
    exact ⟨by rw [qc]; rfl, 0, rfl⟩
  have hM : a0 % 9223372036854775808 ≤ 9218868437227405312 := by omega
  have q1 : (!HFloat.feq a0 a0) = false := by rw [HFloat.feq_eq, show FloatKind.f64.format.order a0 a0 = _ from HFloat.order_self hM]; rfl
  have qc : HFloat.canon a0 = a0 := by unfold HFloat.canon HFloat.isN; rw [decide_eq_false hN]; rfl
  rw [qc]
  have qz := HFloat.order_zero hlt hM
  by_cases hz : a0 % 9223372036854775808 = 0
  · rw [if_pos hz] at qz
    have q2 : (HFloat.flt a0 0) = false := by rw [HFloat.flt_eq, show FloatKind.f64.format.order a0 0 = _ from qz]; rfl
    have q3 : (HFloat.feq a0 0) = true := by rw [HFloat.feq_eq, show FloatKind.f64.format.order a0 0 = _ from qz]; rfl
    obtain rfl | rfl : a0 = 0 ∨ a0 = 9223372036854775808 := by omega
    · have q4 : ∀ w : World, (binOp .quo 22 (.float .f64 4607182418800017408) (.float .f64 0)).run Try.prog w = .ok (.float .f64 9218868437227405312) w := fun w => HFloat.run_float_arith w .quo 22 .f64 _ _ _ HFloat.div_zero
      have q5 : (HFloat.flt 9218868437227405312 0) = false := by rw [HFloat.flt_eq, show FloatKind.f64.format.order 9218868437227405312 0 = _ from HFloat.order_inf (by omega)]; rfl
      clear hlt hN hM qc qz hz
      go_enter Try.func120, Try.ntmps120
      go_wp2
      go_ret
      exact ⟨by rfl, 0, rfl⟩
    · have q4 : ∀ w : World, (binOp .quo 22 (.float .f64 4607182418800017408) (.float .f64 9223372036854775808)).run Try.prog w = .ok (.float .f64 (9223372036854775808 + 9218868437227405312)) w := fun w => HFloat.run_float_arith w .quo 22 .f64 _ _ _ HFloat.div_zeroN
      have q5 : (HFloat.flt (9223372036854775808 + 9218868437227405312) 0) = true := by rw [HFloat.flt_eq, show FloatKind.f64.format.order (9223372036854775808 + 9218868437227405312) 0 = _ from HFloat.order_infN (by omega)]; rfl
      have q6 : Op.negFloat .f64 9223372036854775808 = 0 := HFloat.neg_pos (r := 0) (by omega)
      have q7 : (HFloat.feq 0 0) = true := by rw [HFloat.feq_eq, show FloatKind.f64.format.order 0 0 = _ from HFloat.order_self_fin (by omega)]; rfl
      clear hlt hN hM qc qz hz
      go_enter Try.func120, Try.ntmps120
      go_wp2
      go_ret
      exact ⟨by rfl, 0, rfl⟩
  rw [if_neg hz] at qz
  have q3 : (HFloat.feq a0 0) = false := by
    rw [HFloat.feq_eq]
    rw [show FloatKind.f64.format.order a0 0 = _ from qz]
    split <;> rfl
  by_cases hs : a0 < 9223372036854775808
  · obtain ⟨x, hx0⟩ : ∃ x : Nat, x = a0 := ⟨_, rfl⟩
    subst hx0
    rw [if_pos hs] at qz
    have q2 : (HFloat.flt x 0) = false := by rw [HFloat.flt_eq, show FloatKind.f64.format.order x 0 = _ from qz]; rfl
    have h0x : x % 9223372036854775808 = x := Nat.mod_eq_of_lt hs
    rw [h0x] at hM hz hN
    clear h0x; have h0x : 0 < x := by omega
    clear qz qc hlt hN hz
    by_cases hI : x = 9218868437227405312
    · subst hI
      have q8 : (HFloat.fgt 9218868437227405312 9218868437227405311) = true := by rw [HFloat.fgt_eq, show FloatKind.f64.format.order 9218868437227405312 9218868437227405311 = _ from HFloat.order_inf (by omega)]; rfl
      go_enter Try.func120, Try.ntmps120
      go_wp2
      go_ret
      exact ⟨by rfl, 0, rfl⟩
    have hx : x < 9218868437227405312 := by omega
    have q8 : (HFloat.fgt x 9218868437227405311) = false := fb_max hx
    have HX := Aside0.mk hx
    by_cases hA : 4607182418800017408 ≤ x
    · -- at least one
      obtain ⟨n, f, hn, hf, he⟩ : ∃ n f : Nat, n < 1024 ∧ f < 4503599627370496 ∧ x = 4607182418800017408 + n * 4503599627370496 + f := ⟨x / 4503599627370496 - 1023, x % 4503599627370496, by omega, Nat.mod_lt _ (by omega), by omega⟩
      have HN := Aside0.mk hn
      have HF := Aside0.mk hf
      have HE := Aside0.mk he
      clear hn hf hx hA hI h0x he
      go_enter Try.func120, Try.ntmps120
      go_wp2
      go_loop [4, 5] (fun v e => ∃ k y : Nat, k ≤ n ∧ Aside0 (y + k * 4503599627370496 = x) ∧ v = .float .f64 y ∧ e = .int .i64 k) (fun _ e => n - (intOf e).toNat)
      case atStart => exact ⟨0, x, Nat.zero_le _, ⟨by simp⟩, rfl, rfl⟩
      case round =>
        obtain ⟨k, y, hk, HY, rfl, rfl⟩ := hrel
        have hn := HN.out; have hf := HF.out; have hx := HX.out; have hy := HY.out; have he := HE.out
        by_cases hlt : k < n
        · have p1 : (HFloat.fgt y 4611686018427387904 || HFloat.feq y 4611686018427387904) = true := by rw [fb_geq (by omega), decide_eq_true (by omega)]
          obtain ⟨z, hz⟩ : ∃ z, z = y - 4503599627370496 := ⟨_, rfl⟩
          have HZ := Aside0.mk (show z + (k + 1) * 4503599627370496 = x by omega)
          have p2 : ∀ w : World, (binOp .quo 22 (.float .f64 y) (.float .f64 4611686018427387904)).run Try.prog w = .ok (.float .f64 z) w := fun w => HFloat.run_float_arith w .quo 22 .f64 _ _ _ (by rw [hz]; exact HFloat.div_two (by omega) (by omega))
          clear hf hx hy he hz
          go_wp2
          go_round
          case rel => exact ⟨k + 1, z, by omega, HZ, rfl, by go_num⟩
          case measure => simp [intOf]; omega
        · obtain rfl : k = n := by omega
          have hy2 : y = 4607182418800017408 + f := by omega
          have p1 : (HFloat.fgt y 4611686018427387904 || HFloat.feq y 4611686018427387904) = false := by rw [fb_geq (by omega), decide_eq_false (by omega)]
          have p2 : (HFloat.flt y 4607182418800017408) = false := by rw [fb_lss (by omega), decide_eq_false (by omega)]
          have p3 : ∀ w : World, (binOp .sub 22 (.float .f64 y) (.float .f64 4607182418800017408)).run Try.prog w = .ok (.float .f64 (HFloat.dbls 1022 f)) w := fun w => HFloat.run_float_arith w .sub 22 .f64 _ _ _ (by rw [hy2]; exact HFloat.sub_one hf)
          have p4 : ∀ w : World, (binOp .mul 22 (.float .f64 (HFloat.dbls 1022 f)) (.float .f64 4841369599423283200)).run Try.prog w = .ok (.float .f64 (HFloat.whole f)) w := fun w => HFloat.run_float_arith w .mul 22 .f64 _ _ _ (HFloat.mul_big hf)
          have p5 : ∀ w : World, (convert 22 144 (.float .f64 (HFloat.whole f))).run Try.prog w = .ok (.int .u64 f) w := fun w => HFloat.run_convert_float_int w 22 144 .f64 .u64 _ _ (by kernel_rfl) Try.underlying144 (HFloat.floor_whole hf)
          clear hn hf hx hy he hy2
          go_wp2
          go_loop [4, 5] (fun v e => v = .float .f64 y ∧ e = .int .i64 k) (fun _ _ => 0)
          case atStart => exact ⟨rfl, rfl⟩
          case round =>
            obtain ⟨rfl, rfl⟩ := hrel
            go_wp2
            go_ret
            have hn := HN.out; have hf := HF.out; have hx := HX.out; have he := HE.out
            refine ⟨?_, 0, rfl⟩
            have w1 : IntKind.u64.wrap (IntKind.u64.wrap (wrap64 ((k : Int) + 1023)) * 4503599627370496) = (((k + 1023) * 4503599627370496 : Nat) : Int) := by
              rw [IntKind.wrap_u64, IntKind.wrap_u64]
              unfold wrap64
              omega
            have e' : Go.bits .or .u64 (Go.bits .or .u64 (0 : Int) (IntKind.u64.wrap (IntKind.u64.wrap (wrap64 ((k : Int) + 1023)) * 4503599627370496))) (f : Int) = ((x : Nat) : Int) := by
              rw [w1]
              exact (fb_or2 (s := 0) (e := k + 1023) (f := f) (Or.inl rfl) (by omega) hf).trans (congrArg (fun z : Nat => (z : Int)) (by omega))
            exact congrArg (fun z : Int => Ending.returned (Value.int .u64 z)) e'
    by_cases hB : 4503599627370496 ≤ x
    · -- below one
      obtain ⟨n, f, hn, hn2, hf, he⟩ : ∃ n f : Nat, n < 1023 ∧ 0 < n ∧ f < 4503599627370496 ∧ x + n * 4503599627370496 = 4607182418800017408 + f := ⟨1023 - x / 4503599627370496, x % 4503599627370496, by omega, by omega, Nat.mod_lt _ (by omega), by omega⟩
      have HN := Aside0.mk hn
      have HN2 := Aside0.mk hn2
      have HF := Aside0.mk hf
      have HE := Aside0.mk he
      have HB := Aside0.mk hB
      have p1 : (HFloat.fgt x 4611686018427387904 || HFloat.feq x 4611686018427387904) = false := by rw [fb_geq (by omega), decide_eq_false (by omega)]
      clear hn hn2 hf hx hA hI h0x hB he
      go_enter Try.func120, Try.ntmps120
      go_wp2
      go_loop [4, 5] (fun v e => v = .float .f64 x ∧ e = .int .i64 0) (fun _ _ => 0)
      case atStart => exact ⟨rfl, rfl⟩
      case round =>
        obtain ⟨rfl, rfl⟩ := hrel
        go_wp2
        go_loop [4, 5] (fun v e => ∃ k y : Nat, k ≤ n ∧ Aside0 (x + k * 4503599627370496 = y) ∧ v = .float .f64 y ∧ e = .int .i64 (-(k : Int))) (fun _ e => n - (-(intOf e)).toNat)
        case atStart => exact ⟨0, x, Nat.zero_le _, ⟨by simp⟩, rfl, rfl⟩
        case round =>
          obtain ⟨k, y, hk, HY, rfl, rfl⟩ := hrel
          have hn := HN.out; have hf := HF.out; have hx := HX.out; have hy := HY.out; have he := HE.out; have hB := HB.out
          by_cases hlt : k < n
          · have p2 : (HFloat.flt y 4607182418800017408) = true := by rw [fb_lss (by omega), decide_eq_true (by omega)]
            obtain ⟨z, hz⟩ : ∃ z, z = y + 4503599627370496 := ⟨_, rfl⟩
            have HZ := Aside0.mk (show x + (k + 1) * 4503599627370496 = z by rw [hz, ← hy, Nat.add_mul, Nat.one_mul, Nat.add_assoc])
            have hd : HFloat.dbl y = z := by unfold HFloat.dbl; rw [if_neg (by omega)]; exact hz.symm
            have p3 : ∀ w : World, (binOp .mul 22 (.float .f64 y) (.float .f64 4611686018427387904)).run Try.prog w = .ok (.float .f64 z) w := fun w => HFloat.run_float_arith w .mul 22 .f64 _ _ _ (by rw [← hd]; exact HFloat.mul_two (by omega))
            have p6 : decide ((k : Int) < 1022) = true := decide_eq_true (by omega)
            clear hf hx hy he hB hz hd
            go_wp2
            go_round
            case rel => exact ⟨k + 1, z, by omega, HZ, rfl, by go_num⟩
            case measure => simp [intOf]; omega
          · obtain rfl : k = n := by omega
            have hy2 : y = 4607182418800017408 + f := by omega
            have p2 : (HFloat.flt y 4607182418800017408) = false := by rw [fb_lss (by omega), decide_eq_false (by omega)]
            have p3 : ∀ w : World, (binOp .sub 22 (.float .f64 y) (.float .f64 4607182418800017408)).run Try.prog w = .ok (.float .f64 (HFloat.dbls 1022 f)) w := fun w => HFloat.run_float_arith w .sub 22 .f64 _ _ _ (by rw [hy2]; exact HFloat.sub_one hf)
            have p4 : ∀ w : World, (binOp .mul 22 (.float .f64 (HFloat.dbls 1022 f)) (.float .f64 4841369599423283200)).run Try.prog w = .ok (.float .f64 (HFloat.whole f)) w := fun w => HFloat.run_float_arith w .mul 22 .f64 _ _ _ (HFloat.mul_big hf)
            have p5 : ∀ w : World, (convert 22 144 (.float .f64 (HFloat.whole f))).run Try.prog w = .ok (.int .u64 f) w := fun w => HFloat.run_convert_float_int w 22 144 .f64 .u64 _ _ (by kernel_rfl) Try.underlying144 (HFloat.floor_whole hf)
            clear hn hf hx hy he hB hy2
            go_wp2
            go_ret
            have hn := HN.out; have hf := HF.out; have hx := HX.out; have he := HE.out; have hB := HB.out
            refine ⟨?_, 0, rfl⟩
            have w1 : IntKind.u64.wrap (IntKind.u64.wrap (wrap64 (-(k : Int) + 1023)) * 4503599627370496) = (((1023 - k) * 4503599627370496 : Nat) : Int) := by
              rw [IntKind.wrap_u64, IntKind.wrap_u64]
              unfold wrap64
              omega
            have e' : Go.bits .or .u64 (Go.bits .or .u64 (0 : Int) (IntKind.u64.wrap (IntKind.u64.wrap (wrap64 (-(k : Int) + 1023)) * 4503599627370496))) (f : Int) = ((x : Nat) : Int) := by
              rw [w1]
              exact (fb_or2 (s := 0) (e := 1023 - k) (f := f) (Or.inl rfl) (by omega) hf).trans (congrArg (fun z : Nat => (z : Int)) (by omega))
            exact congrArg (fun z : Int => Ending.returned (Value.int .u64 z)) e'
    · -- less than the least normal one
      have p1 : (HFloat.fgt x 4611686018427387904 || HFloat.feq x 4611686018427387904) = false := by rw [fb_geq (by omega), decide_eq_false (by omega)]
      have HS := Aside0.mk (show x < 4503599627370496 by omega)
      clear hx hA hI h0x
      go_enter Try.func120, Try.ntmps120
      go_wp2
      go_loop [4, 5] (fun v e => v = .float .f64 x ∧ e = .int .i64 0) (fun _ _ => 0)
      case atStart => exact ⟨rfl, rfl⟩
      case round =>
        obtain ⟨rfl, rfl⟩ := hrel
        go_wp2
        go_loop [4, 5] (fun v e => ∃ k : Nat, k ≤ 1022 ∧ v = .float .f64 (HFloat.dbls k x) ∧ e = .int .i64 (-(k : Int))) (fun _ e => 1022 - (-(intOf e)).toNat)
        case atStart => exact ⟨0, Nat.zero_le _, rfl, rfl⟩
        case round =>
          obtain ⟨k, hk, rfl, rfl⟩ := hrel
          have hl := HFloat.dbls_lt HS.out hk
          have p1 : (HFloat.flt (HFloat.dbls k x) 4607182418800017408) = true := by rw [fb_lss (by omega), decide_eq_true hl]
          by_cases hlt : k < 1022
          · have p2 : ∀ w : World, (binOp .mul 22 (.float .f64 (HFloat.dbls k x)) (.float .f64 4611686018427387904)).run Try.prog w = .ok (.float .f64 (HFloat.dbls (k + 1) x)) w := fun w => HFloat.run_float_arith w .mul 22 .f64 _ _ _ (by have h2 := HFloat.dbls_lt HS.out (show k + 1 ≤ 1022 by omega); rw [HFloat.dbls_succ] at h2 ⊢; exact HFloat.mul_two (by omega))
            have p6 : decide ((k : Int) < 1022) = true := decide_eq_true (by omega)
            clear hl
            go_wp2
            go_round
            case rel => exact ⟨k + 1, by omega, rfl, by go_num⟩
            case measure => simp [intOf]; omega
          · obtain rfl : k = 1022 := by omega
            have p4 : ∀ w : World, (binOp .mul 22 (.float .f64 (HFloat.dbls 1022 x)) (.float .f64 4841369599423283200)).run Try.prog w = .ok (.float .f64 (HFloat.whole x)) w := fun w => HFloat.run_float_arith w .mul 22 .f64 _ _ _ (HFloat.mul_big HS.out)
            have p5 : ∀ w : World, (convert 22 144 (.float .f64 (HFloat.whole x))).run Try.prog w = .ok (.int .u64 x) w := fun w => HFloat.run_convert_float_int w 22 144 .f64 .u64 _ _ (by kernel_rfl) Try.underlying144 (HFloat.floor_whole HS.out)
            clear hl
            go_wp2
            go_ret
            refine ⟨?_, 0, rfl⟩
            have hs := HS.out
            have e' : Go.bits .or .u64 (0 : Int) (x : Int) = ((x : Nat) : Int) := (fb_or (s := 0) (f := x) (Or.inl rfl) (by omega)).trans (congrArg (fun z : Nat => (z : Int)) (by omega))
            exact congrArg (fun z : Int => Ending.returned (Value.int .u64 z)) e'
  · obtain ⟨x, rfl⟩ : ∃ x : Nat, a0 = 9223372036854775808 + x := ⟨a0 - 9223372036854775808, by omega⟩
    rw [if_neg hs] at qz
    have q2 : (HFloat.flt (9223372036854775808 + x) 0) = true := by rw [HFloat.flt_eq, show FloatKind.f64.format.order (9223372036854775808 + x) 0 = _ from qz]; rfl
    have h0x : (9223372036854775808 + x) % 9223372036854775808 = x := by omega
    rw [h0x] at hM hz hN
    clear h0x; have h0x : 0 < x := by omega
    have q3 : (HFloat.feq x 0) = false := fb_zero hM h0x
    have q6 : Op.negFloat .f64 (9223372036854775808 + x) = x := HFloat.neg_pos (by omega)
    clear qz qc hlt hN hz
    by_cases hI : x = 9218868437227405312
    · subst hI
      have q8 : (HFloat.fgt 9218868437227405312 9218868437227405311) = true := by rw [HFloat.fgt_eq, show FloatKind.f64.format.order 9218868437227405312 9218868437227405311 = _ from HFloat.order_inf (by omega)]; rfl
      go_enter Try.func120, Try.ntmps120
      go_wp2
      go_ret
      exact ⟨by rfl, 0, rfl⟩
    have hx : x < 9218868437227405312 := by omega
    have q8 : (HFloat.fgt x 9218868437227405311) = false := fb_max hx
    have HX := Aside0.mk hx
    by_cases hA : 4607182418800017408 ≤ x
    · -- at least one
      obtain ⟨n, f, hn, hf, he⟩ : ∃ n f : Nat, n < 1024 ∧ f < 4503599627370496 ∧ x = 4607182418800017408 + n * 4503599627370496 + f := ⟨x / 4503599627370496 - 1023, x % 4503599627370496, by omega, Nat.mod_lt _ (by omega), by omega⟩
      have HN := Aside0.mk hn
      have HF := Aside0.mk hf
      have HE := Aside0.mk he
      clear hn hf hx hA hI h0x he
      go_enter Try.func120, Try.ntmps120
      go_wp2
      go_loop [4, 5] (fun v e => ∃ k y : Nat, k ≤ n ∧ Aside0 (y + k * 4503599627370496 = x) ∧ v = .float .f64 y ∧ e = .int .i64 k) (fun _ e => n - (intOf e).toNat)
      case atStart => exact ⟨0, x, Nat.zero_le _, ⟨by simp⟩, rfl, rfl⟩
      case round =>
        obtain ⟨k, y, hk, HY, rfl, rfl⟩ := hrel
        have hn := HN.out; have hf := HF.out; have hx := HX.out; have hy := HY.out; have he := HE.out
        by_cases hlt : k < n
        · have p1 : (HFloat.fgt y 4611686018427387904 || HFloat.feq y 4611686018427387904) = true := by rw [fb_geq (by omega), decide_eq_true (by omega)]
          obtain ⟨z, hz⟩ : ∃ z, z = y - 4503599627370496 := ⟨_, rfl⟩
          have HZ := Aside0.mk (show z + (k + 1) * 4503599627370496 = x by omega)
          have p2 : ∀ w : World, (binOp .quo 22 (.float .f64 y) (.float .f64 4611686018427387904)).run Try.prog w = .ok (.float .f64 z) w := fun w => HFloat.run_float_arith w .quo 22 .f64 _ _ _ (by rw [hz]; exact HFloat.div_two (by omega) (by omega))
          clear hf hx hy he hz
          go_wp2
          go_round
          case rel => exact ⟨k + 1, z, by omega, HZ, rfl, by go_num⟩
          case measure => simp [intOf]; omega
        · obtain rfl : k = n := by omega
          have hy2 : y = 4607182418800017408 + f := by omega
          have p1 : (HFloat.fgt y 4611686018427387904 || HFloat.feq y 4611686018427387904) = false := by rw [fb_geq (by omega), decide_eq_false (by omega)]
          have p2 : (HFloat.flt y 4607182418800017408) = false := by rw [fb_lss (by omega), decide_eq_false (by omega)]
          have p3 : ∀ w : World, (binOp .sub 22 (.float .f64 y) (.float .f64 4607182418800017408)).run Try.prog w = .ok (.float .f64 (HFloat.dbls 1022 f)) w := fun w => HFloat.run_float_arith w .sub 22 .f64 _ _ _ (by rw [hy2]; exact HFloat.sub_one hf)
          have p4 : ∀ w : World, (binOp .mul 22 (.float .f64 (HFloat.dbls 1022 f)) (.float .f64 4841369599423283200)).run Try.prog w = .ok (.float .f64 (HFloat.whole f)) w := fun w => HFloat.run_float_arith w .mul 22 .f64 _ _ _ (HFloat.mul_big hf)
          have p5 : ∀ w : World, (convert 22 144 (.float .f64 (HFloat.whole f))).run Try.prog w = .ok (.int .u64 f) w := fun w => HFloat.run_convert_float_int w 22 144 .f64 .u64 _ _ (by kernel_rfl) Try.underlying144 (HFloat.floor_whole hf)
          clear hn hf hx hy he hy2
          go_wp2
          go_loop [4, 5] (fun v e => v = .float .f64 y ∧ e = .int .i64 k) (fun _ _ => 0)
          case atStart => exact ⟨rfl, rfl⟩
          case round =>
            obtain ⟨rfl, rfl⟩ := hrel
            go_wp2
            go_ret
            have hn := HN.out; have hf := HF.out; have hx := HX.out; have he := HE.out
            refine ⟨?_, 0, rfl⟩
            have w1 : IntKind.u64.wrap (IntKind.u64.wrap (wrap64 ((k : Int) + 1023)) * 4503599627370496) = (((k + 1023) * 4503599627370496 : Nat) : Int) := by
              rw [IntKind.wrap_u64, IntKind.wrap_u64]
              unfold wrap64
              omega
            have e' : Go.bits .or .u64 (Go.bits .or .u64 (9223372036854775808 : Int) (IntKind.u64.wrap (IntKind.u64.wrap (wrap64 ((k : Int) + 1023)) * 4503599627370496))) (f : Int) = ((9223372036854775808 + x : Nat) : Int) := by
              rw [w1]
              exact (fb_or2 (s := 9223372036854775808) (e := k + 1023) (f := f) (Or.inr rfl) (by omega) hf).trans (congrArg (fun z : Nat => (z : Int)) (by omega))
            exact congrArg (fun z : Int => Ending.returned (Value.int .u64 z)) e'
    by_cases hB : 4503599627370496 ≤ x
    · -- below one
      obtain ⟨n, f, hn, hn2, hf, he⟩ : ∃ n f : Nat, n < 1023 ∧ 0 < n ∧ f < 4503599627370496 ∧ x + n * 4503599627370496 = 4607182418800017408 + f := ⟨1023 - x / 4503599627370496, x % 4503599627370496, by omega, by omega, Nat.mod_lt _ (by omega), by omega⟩
      have HN := Aside0.mk hn
      have HN2 := Aside0.mk hn2
      have HF := Aside0.mk hf
      have HE := Aside0.mk he
      have HB := Aside0.mk hB
      have p1 : (HFloat.fgt x 4611686018427387904 || HFloat.feq x 4611686018427387904) = false := by rw [fb_geq (by omega), decide_eq_false (by omega)]
      clear hn hn2 hf hx hA hI h0x hB he
      go_enter Try.func120, Try.ntmps120
      go_wp2
      go_loop [4, 5] (fun v e => v = .float .f64 x ∧ e = .int .i64 0) (fun _ _ => 0)
      case atStart => exact ⟨rfl, rfl⟩
      case round =>
        obtain ⟨rfl, rfl⟩ := hrel
        go_wp2
        go_loop [4, 5] (fun v e => ∃ k y : Nat, k ≤ n ∧ Aside0 (x + k * 4503599627370496 = y) ∧ v = .float .f64 y ∧ e = .int .i64 (-(k : Int))) (fun _ e => n - (-(intOf e)).toNat)
        case atStart => exact ⟨0, x, Nat.zero_le _, ⟨by simp⟩, rfl, rfl⟩
        case round =>
          obtain ⟨k, y, hk, HY, rfl, rfl⟩ := hrel
          have hn := HN.out; have hf := HF.out; have hx := HX.out; have hy := HY.out; have he := HE.out; have hB := HB.out
          by_cases hlt : k < n
          · have p2 : (HFloat.flt y 4607182418800017408) = true := by rw [fb_lss (by omega), decide_eq_true (by omega)]
            obtain ⟨z, hz⟩ : ∃ z, z = y + 4503599627370496 := ⟨_, rfl⟩
            have HZ := Aside0.mk (show x + (k + 1) * 4503599627370496 = z by rw [hz, ← hy, Nat.add_mul, Nat.one_mul, Nat.add_assoc])
            have hd : HFloat.dbl y = z := by unfold HFloat.dbl; rw [if_neg (by omega)]; exact hz.symm
            have p3 : ∀ w : World, (binOp .mul 22 (.float .f64 y) (.float .f64 4611686018427387904)).run Try.prog w = .ok (.float .f64 z) w := fun w => HFloat.run_float_arith w .mul 22 .f64 _ _ _ (by rw [← hd]; exact HFloat.mul_two (by omega))
            have p6 : decide ((k : Int) < 1022) = true := decide_eq_true (by omega)
            clear hf hx hy he hB hz hd
            go_wp2
            go_round
            case rel => exact ⟨k + 1, z, by omega, HZ, rfl, by go_num⟩
            case measure => simp [intOf]; omega
          · obtain rfl : k = n := by omega
            have hy2 : y = 4607182418800017408 + f := by omega
            have p2 : (HFloat.flt y 4607182418800017408) = false := by rw [fb_lss (by omega), decide_eq_false (by omega)]
            have p3 : ∀ w : World, (binOp .sub 22 (.float .f64 y) (.float .f64 4607182418800017408)).run Try.prog w = .ok (.float .f64 (HFloat.dbls 1022 f)) w := fun w => HFloat.run_float_arith w .sub 22 .f64 _ _ _ (by rw [hy2]; exact HFloat.sub_one hf)
            have p4 : ∀ w : World, (binOp .mul 22 (.float .f64 (HFloat.dbls 1022 f)) (.float .f64 4841369599423283200)).run Try.prog w = .ok (.float .f64 (HFloat.whole f)) w := fun w => HFloat.run_float_arith w .mul 22 .f64 _ _ _ (HFloat.mul_big hf)
            have p5 : ∀ w : World, (convert 22 144 (.float .f64 (HFloat.whole f))).run Try.prog w = .ok (.int .u64 f) w := fun w => HFloat.run_convert_float_int w 22 144 .f64 .u64 _ _ (by kernel_rfl) Try.underlying144 (HFloat.floor_whole hf)
            clear hn hf hx hy he hB hy2
            go_wp2
            go_ret
            have hn := HN.out; have hf := HF.out; have hx := HX.out; have he := HE.out; have hB := HB.out
            refine ⟨?_, 0, rfl⟩
            have w1 : IntKind.u64.wrap (IntKind.u64.wrap (wrap64 (-(k : Int) + 1023)) * 4503599627370496) = (((1023 - k) * 4503599627370496 : Nat) : Int) := by
              rw [IntKind.wrap_u64, IntKind.wrap_u64]
              unfold wrap64
              omega
            have e' : Go.bits .or .u64 (Go.bits .or .u64 (9223372036854775808 : Int) (IntKind.u64.wrap (IntKind.u64.wrap (wrap64 (-(k : Int) + 1023)) * 4503599627370496))) (f : Int) = ((9223372036854775808 + x : Nat) : Int) := by
              rw [w1]
              exact (fb_or2 (s := 9223372036854775808) (e := 1023 - k) (f := f) (Or.inr rfl) (by omega) hf).trans (congrArg (fun z : Nat => (z : Int)) (by omega))
            exact congrArg (fun z : Int => Ending.returned (Value.int .u64 z)) e'
    · -- less than the least normal one
      have p1 : (HFloat.fgt x 4611686018427387904 || HFloat.feq x 4611686018427387904) = false := by rw [fb_geq (by omega), decide_eq_false (by omega)]
      have HS := Aside0.mk (show x < 4503599627370496 by omega)
      clear hx hA hI h0x
      go_enter Try.func120, Try.ntmps120
      go_wp2
      go_loop [4, 5] (fun v e => v = .float .f64 x ∧ e = .int .i64 0) (fun _ _ => 0)
      case atStart => exact ⟨rfl, rfl⟩
      case round =>
        obtain ⟨rfl, rfl⟩ := hrel
        go_wp2
        go_loop [4, 5] (fun v e => ∃ k : Nat, k ≤ 1022 ∧ v = .float .f64 (HFloat.dbls k x) ∧ e = .int .i64 (-(k : Int))) (fun _ e => 1022 - (-(intOf e)).toNat)
        case atStart => exact ⟨0, Nat.zero_le _, rfl, rfl⟩
        case round =>
          obtain ⟨k, hk, rfl, rfl⟩ := hrel
          have hl := HFloat.dbls_lt HS.out hk
          have p1 : (HFloat.flt (HFloat.dbls k x) 4607182418800017408) = true := by rw [fb_lss (by omega), decide_eq_true hl]
          by_cases hlt : k < 1022
          · have p2 : ∀ w : World, (binOp .mul 22 (.float .f64 (HFloat.dbls k x)) (.float .f64 4611686018427387904)).run Try.prog w = .ok (.float .f64 (HFloat.dbls (k + 1) x)) w := fun w => HFloat.run_float_arith w .mul 22 .f64 _ _ _ (by have h2 := HFloat.dbls_lt HS.out (show k + 1 ≤ 1022 by omega); rw [HFloat.dbls_succ] at h2 ⊢; exact HFloat.mul_two (by omega))
            have p6 : decide ((k : Int) < 1022) = true := decide_eq_true (by omega)
            clear hl
            go_wp2
            go_round
            case rel => exact ⟨k + 1, by omega, rfl, by go_num⟩
            case measure => simp [intOf]; omega
          · obtain rfl : k = 1022 := by omega
            have p4 : ∀ w : World, (binOp .mul 22 (.float .f64 (HFloat.dbls 1022 x)) (.float .f64 4841369599423283200)).run Try.prog w = .ok (.float .f64 (HFloat.whole x)) w := fun w => HFloat.run_float_arith w .mul 22 .f64 _ _ _ (HFloat.mul_big HS.out)
            have p5 : ∀ w : World, (convert 22 144 (.float .f64 (HFloat.whole x))).run Try.prog w = .ok (.int .u64 x) w := fun w => HFloat.run_convert_float_int w 22 144 .f64 .u64 _ _ (by kernel_rfl) Try.underlying144 (HFloat.floor_whole HS.out)
            clear hl
            go_wp2
            go_ret
            refine ⟨?_, 0, rfl⟩
            have hs := HS.out
            have e' : Go.bits .or .u64 (9223372036854775808 : Int) (x : Int) = ((9223372036854775808 + x : Nat) : Int) := (fb_or (s := 9223372036854775808) (f := x) (Or.inr rfl) (by omega)).trans (congrArg (fun z : Nat => (z : Int)) (by omega))
            exact congrArg (fun z : Int => Ending.returned (Value.int .u64 z)) e'

/-! ### spec_ItemOk: function 61 -/
mutual
def spec_ItemOk.j0 : Nat → Bool → Int → Int → Nat → List Int → Option (Bool)
  | 0, _, _, _, _, _ => none
  | k + 1, x16, x104000, x104001, x104002, x104003 => if x16 = true then (some false) else (if x104000 = 1 then (spec_ItemOk.j1 k false x104000 x104001 x104002 x104003) else (spec_ItemOk.j1 k (x104001 != 0) x104000 x104001 x104002 x104003))
def spec_ItemOk.j1 : Nat → Bool → Int → Int → Nat → List Int → Option (Bool)
  | 0, _, _, _, _, _ => none
  | k + 1, x24, x104000, x104001, x104002, x104003 => if x24 = true then (some false) else (if x104000 = 2 then (if x104000 = 3 then (some true) else (some ((x104003.length : Int) == 0))) else ((spec_FloatBits.f x104002).bind fun t104 => (if t104 = 0 then (if x104000 = 3 then (some true) else (some ((x104003.length : Int) == 0))) else (some false))))
end
def spec_ItemOk.f (k : Nat) (a0_0 : Int) (a0_1 : Int) (a0_2 : Nat) (l0_3 : List Int) : Option (Bool) := if a0_0 < 0 then (spec_ItemOk.j0 k true a0_0 a0_1 a0_2 l0_3) else (if a0_0 > 3 then (spec_ItemOk.j0 k true a0_0 a0_1 a0_2 l0_3) else (spec_ItemOk.j0 k (decide ((l0_3.length : Int) > 40)) a0_0 a0_1 a0_2 l0_3))
theorem spec_ItemOk.mono_l : ∀ k, (∀ y0 y1 y2 y3 y4, LeO (spec_ItemOk.j0 k y0 y1 y2 y3 y4) (spec_ItemOk.j0 (k + 1) y0 y1 y2 y3 y4)) ∧ (∀ y0 y1 y2 y3 y4, LeO (spec_ItemOk.j1 k y0 y1 y2 y3 y4) (spec_ItemOk.j1 (k + 1) y0 y1 y2 y3 y4))
  | 0 => ⟨fun _ _ _ _ _ r h => by simp [spec_ItemOk.j0] at h, fun _ _ _ _ _ r h => by simp [spec_ItemOk.j1] at h⟩
  | k + 1 => by
    obtain ⟨ih0, ih1⟩ := spec_ItemOk.mono_l k
    refine ⟨?_, ?_⟩
    · intro y0 y1 y2 y3 y4
      unfold spec_ItemOk.j0
      repeat' first
      | (with_reducible exact ih0 _ _ _ _ _)
      | (with_reducible exact ih1 _ _ _ _ _)
      | (with_reducible exact LeO.refl _)
      | (with_reducible exact LeO.none _)
      | (with_reducible refine LeO.ite ?_ ?_)
      | (with_reducible refine LeO.bind ?_ (fun _ => ?_))
      | exact ih0 _ _ _ _ _
      | exact ih1 _ _ _ _ _
      | exact LeO.none _
      | refine LeO.ite ?_ ?_
      | refine LeO.bind ?_ (fun _ => ?_)
    · intro y0 y1 y2 y3 y4
      unfold spec_ItemOk.j1
      repeat' first
      | (with_reducible exact ih0 _ _ _ _ _)
      | (with_reducible exact ih1 _ _ _ _ _)
      | (with_reducible exact LeO.refl _)
      | (with_reducible exact LeO.none _)
      | (with_reducible refine LeO.ite ?_ ?_)
      | (with_reducible refine LeO.bind ?_ (fun _ => ?_))
      | exact ih0 _ _ _ _ _
      | exact ih1 _ _ _ _ _
      | exact LeO.none _
      | refine LeO.ite ?_ ?_
      | refine LeO.bind ?_ (fun _ => ?_)
theorem spec_ItemOk.mono : ∀ a0 a1 a2 a3 k, LeO (spec_ItemOk.f k a0 a1 a2 a3) (spec_ItemOk.f (k + 1) a0 a1 a2 a3) := by
  intro a0 a1 a2 a3 k
  obtain ⟨ih0, ih1⟩ := spec_ItemOk.mono_l k
  unfold spec_ItemOk.f
  repeat' first
      | (with_reducible exact ih0 _ _ _ _ _)
      | (with_reducible exact ih1 _ _ _ _ _)
      | (with_reducible exact LeO.refl _)
      | (with_reducible exact LeO.none _)
      | (with_reducible refine LeO.ite ?_ ?_)
      | (with_reducible refine LeO.bind ?_ (fun _ => ?_))
      | exact ih0 _ _ _ _ _
      | exact ih1 _ _ _ _ _
      | exact LeO.none _
      | refine LeO.ite ?_ ?_
      | refine LeO.bind ?_ (fun _ => ?_)
set_option maxHeartbeats 8000000 in
set_option maxRecDepth 100000 in
theorem spec_ItemOk.calls (k : Nat) (a0_0 : Int) (a0_1 : Int) (a0_2 : Nat) (A0_3 : Option Addr) (c0_3 : Nat) (l0_3 : List Int) (r : Bool) (w : World) (hr0_3 : Kd.C (Kd.int .u8) w A0_3 l0_3.length l0_3) (hc0_3 : l0_3.length ≤ c0_3) (h : spec_ItemOk.f k a0_0 a0_1 a0_2 l0_3 = some r) :
    Calls Try.prog 61 #[.agg #[.int .i64 a0_0, .int .i64 a0_1, .float .f64 a0_2, .slice A0_3 l0_3.length c0_3]] w fun e w' => e = .returned (.bool r) ∧ Below w.heap.size w w' := by
  have hu27 := Try.underlying27
  have HR0_3 := Aside0.mk hr0_3
  have HC0_3 := Aside0.mk hc0_3
  clear hr0_3 hc0_3
  have HB := Aside0.mk (Below.refl w.heap.size w)
  have H : (if a0_0 < 0 then (spec_ItemOk.j0 k true a0_0 a0_1 a0_2 l0_3) else (if a0_0 > 3 then (spec_ItemOk.j0 k true a0_0 a0_1 a0_2 l0_3) else (spec_ItemOk.j0 k (decide ((l0_3.length : Int) > 40)) a0_0 a0_1 a0_2 l0_3))) = some r := h
  clear h
  have HC2 := Aside0.mk H
  clear H
  go_enter Try.func61, Try.ntmps61
  go_upto_region 1 with (first | ((with_reducible refine gate_dst (N := 1) rfl ?_); (try (refine gate_guard (by rfl) ?_; dsimp only)); refine box_event ?hg (N := 1) ?hd (cs := #[.int .i64 a0_0, .int .i64 a0_1, .float .f64 a0_2, .slice A0_3 l0_3.length c0_3]) (t := 27) ?hr ?_; (case hd => rfl); (case hg => rfl); (case hr => first | (go_simp; done) | (go_simp; rfl)); intro gb103 hg w3 hbox hb; have n0_ := Aside0.mk (below_step (by repeat (first | (with_reducible first | exact HB.out | apply below_alloc | apply pw_below_drewN | apply below_drew1) | exact HB.out)) hb); have n1_ := Aside0.mk (hbox); have n2_ := Aside0.mk ((by rw [hg]; exact (below_size (by repeat (first | (with_reducible first | exact HB.out | apply below_alloc | apply pw_below_drewN | apply below_drew1) | exact HB.out))) : w.heap.size ≤ gb103)); have n3_ := Aside0.mk ((by rw [hg]; exact (below_size (by repeat (first | (with_reducible first | exact HB.out | apply below_alloc | apply pw_below_drewN | apply below_drew1) | exact HB.out))) : w.heap.size ≤ gb103)); clear HB; have HB := n0_; have BK103 := n1_; have GW103 := n2_; have GE103 := n3_; clear n0_ n1_ n2_ n3_; clear hb hbox hg))
  (try simp only [Act.put, List.setIfInBounds_toArray, List.set_cons_zero, List.set_cons_succ])
  go_cut [16] (fun v16 wc => ∃ (kq : Nat) (x16_1 : Bool), v16 = .bool x16_1 ∧ Aside0 (spec_ItemOk.j0 kq x16_1 a0_0 a0_1 a0_2 l0_3 = some r) ∧ Aside0 (kq ≤ k) ∧ Aside0 (wc.heap[gb103]? = some (.cells #[.int .i64 a0_0, .int .i64 a0_1, .float .f64 a0_2, (.slice A0_3 l0_3.length c0_3)] 27 (0, 0))) ∧ Aside0 (Below w.heap.size w wc))
  case first =>
    have H := HC2.out
    clear HC2
    by_cases c4 : a0_0 < 0
    · rw [if_pos c4] at H
      have c4b0 : decide (a0_0 < 0) = true := decide_eq_true c4
      clear c4
      (first | rw [c4b0] | (simp only [i64_w, i32_w]; rw [c4b0]) | skip)
      have H' := Aside0.mk H
      clear H
      have hcz5_0 : w3.cell? ⟨gb103, 0, none⟩ = some (.int .i64 a0_0) := (blk_cell BK103.out 0).trans rfl
      have hcz5_1 : w3.cell? ⟨gb103, 1, none⟩ = some (.int .i64 a0_1) := (blk_cell BK103.out 1).trans rfl
      have hcz5_2 : w3.cell? ⟨gb103, 2, none⟩ = some (.float .f64 a0_2) := (blk_cell BK103.out 2).trans rfl
      have hcz5_3 : w3.cell? ⟨gb103, 3, none⟩ = some (.slice A0_3 l0_3.length c0_3) := (blk_cell BK103.out 3).trans rfl
      have hfz5_0 := blk_frozen BK103.out 0
      have hfz5_1 := blk_frozen BK103.out 1
      have hfz5_2 := blk_frozen BK103.out 2
      have hfz5_3 := blk_frozen BK103.out 3
      go_wp2
      go_meet
      case rel => exact ⟨_, (true), (by first | rfl | (simp; done) | (simp [*]; done)), H', ⟨by first | omega | exact Nat.le_refl _⟩, ⟨by (with_reducible repeat (first | refine blk_drewN ?_ _ | refine blk_drew ?_ | refine blk_alloc ?_ _)); exact BK103.out⟩, ⟨by repeat (first | (with_reducible first | exact HB.out | apply below_alloc | apply pw_below_drewN | apply below_drew1 | refine below_set ?_ GE103.out) | exact HB.out)⟩⟩
    · rw [if_neg c4] at H
      have c4b0 : decide (a0_0 < 0) = false := decide_eq_false c4
      clear c4
      (first | rw [c4b0] | (simp only [i64_w, i32_w]; rw [c4b0]) | skip)
      by_cases c6 : a0_0 > 3
      · rw [if_pos c6] at H
        have c6b0 : decide (3 < a0_0) = true := decide_eq_true c6
        clear c6
        have H' := Aside0.mk H
        clear H
        have hcz7_0 : w3.cell? ⟨gb103, 0, none⟩ = some (.int .i64 a0_0) := (blk_cell BK103.out 0).trans rfl
        have hcz7_1 : w3.cell? ⟨gb103, 1, none⟩ = some (.int .i64 a0_1) := (blk_cell BK103.out 1).trans rfl
        have hcz7_2 : w3.cell? ⟨gb103, 2, none⟩ = some (.float .f64 a0_2) := (blk_cell BK103.out 2).trans rfl
        have hcz7_3 : w3.cell? ⟨gb103, 3, none⟩ = some (.slice A0_3 l0_3.length c0_3) := (blk_cell BK103.out 3).trans rfl
        have hfz7_0 := blk_frozen BK103.out 0
        have hfz7_1 := blk_frozen BK103.out 1
        have hfz7_2 := blk_frozen BK103.out 2
        have hfz7_3 := blk_frozen BK103.out 3
        go_wp2
        go_meet
        case rel => exact ⟨_, (true), (by first | rfl | (simp; done) | (simp [*]; done)), H', ⟨by first | omega | exact Nat.le_refl _⟩, ⟨by (with_reducible repeat (first | refine blk_drewN ?_ _ | refine blk_drew ?_ | refine blk_alloc ?_ _)); exact BK103.out⟩, ⟨by repeat (first | (with_reducible first | exact HB.out | apply below_alloc | apply pw_below_drewN | apply below_drew1 | refine below_set ?_ GE103.out) | exact HB.out)⟩⟩
      · rw [if_neg c6] at H
        have c6b0 : decide (3 < a0_0) = false := decide_eq_false c6
        clear c6
        have H' := Aside0.mk H
        clear H
        have hcz8_0 : w3.cell? ⟨gb103, 0, none⟩ = some (.int .i64 a0_0) := (blk_cell BK103.out 0).trans rfl
        have hcz8_1 : w3.cell? ⟨gb103, 1, none⟩ = some (.int .i64 a0_1) := (blk_cell BK103.out 1).trans rfl
        have hcz8_2 : w3.cell? ⟨gb103, 2, none⟩ = some (.float .f64 a0_2) := (blk_cell BK103.out 2).trans rfl
        have hcz8_3 : w3.cell? ⟨gb103, 3, none⟩ = some (.slice A0_3 l0_3.length c0_3) := (blk_cell BK103.out 3).trans rfl
        have hfz8_0 := blk_frozen BK103.out 0
        have hfz8_1 := blk_frozen BK103.out 1
        have hfz8_2 := blk_frozen BK103.out 2
        have hfz8_3 := blk_frozen BK103.out 3
        go_wp2
        go_meet
        case rel => exact ⟨_, (decide ((l0_3.length : Int) > 40)), (by first | rfl | (simp; done) | (simp [*]; done)), H', ⟨by first | omega | exact Nat.le_refl _⟩, ⟨by (with_reducible repeat (first | refine blk_drewN ?_ _ | refine blk_drew ?_ | refine blk_alloc ?_ _)); exact BK103.out⟩, ⟨by repeat (first | (with_reducible first | exact HB.out | apply below_alloc | apply pw_below_drewN | apply below_drew1 | refine below_set ?_ GE103.out) | exact HB.out)⟩⟩
  case rest =>
    clear HC2
    try clear p2
    try clear c4
    try clear c4b0
    try clear c6
    try clear c6b0
    try clear hcz5_0
    try clear hcz5_1
    try clear hcz5_2
    try clear hcz5_3
    try clear hcz7_0
    try clear hcz7_1
    try clear hcz7_2
    try clear hcz7_3
    try clear hcz8_0
    try clear hcz8_1
    try clear hcz8_2
    try clear hcz8_3
    try clear hfz5_0
    try clear hfz5_1
    try clear hfz5_2
    try clear hfz5_3
    try clear hfz7_0
    try clear hfz7_1
    try clear hfz7_2
    try clear hfz7_3
    try clear hfz8_0
    try clear hfz8_1
    try clear hfz8_2
    try clear hfz8_3
    obtain ⟨kq, x16_1, rfl, HA, HJ1, BK103, HB⟩ := hcut
    cases kq with
    | zero => exact absurd HA.out (by simp [spec_ItemOk.j0])
    | succ kj1 =>
      have H := HA.out
      clear HA
      simp only [spec_ItemOk.j0] at H
      by_cases c9 : x16_1 = true
      · subst c9
        have H1 : (some false) = some r := by rw [if_pos rfl] at H; exact H
        clear H
        have H := H1
        clear H1
        obtain rfl := Option.some.inj H
        go_wp2
        go_ret
        exact ⟨by first | rfl | (simp [errW_none, errW_some] <;> rfl) | (simp [*, errW_none, errW_some] <;> rfl), by repeat (first | (with_reducible first | exact HB.out | apply below_alloc | apply pw_below_drewN | apply below_drew1 | refine below_set ?_ GE103.out) | exact HB.out)⟩
      · replace c9 := Bool.eq_false_iff.mpr c9
        subst c9
        have H1 : (if a0_0 = 1 then (spec_ItemOk.j1 kj1 false a0_0 a0_1 a0_2 l0_3) else (spec_ItemOk.j1 kj1 (a0_1 != 0) a0_0 a0_1 a0_2 l0_3)) = some r := by rw [if_neg (show ¬ (false = true) by decide)] at H; exact H
        clear H
        have H := H1
        clear H1
        have HC10 := Aside0.mk H
        clear H
        go_upto_region 3 with (fail)
        go_cut [24] (fun v24 wc => ∃ (kq : Nat) (x24_9 : Bool), v24 = .bool x24_9 ∧ Aside0 (spec_ItemOk.j1 kq x24_9 a0_0 a0_1 a0_2 l0_3 = some r) ∧ Aside0 (kq ≤ kj1) ∧ Aside0 (wc.heap[gb103]? = some (.cells #[.int .i64 a0_0, .int .i64 a0_1, .float .f64 a0_2, (.slice A0_3 l0_3.length c0_3)] 27 (0, 0))) ∧ Aside0 (Below w.heap.size w wc))
        case first =>
          have H := HC10.out
          clear HC10
          by_cases c11 : a0_0 = 1
          · rw [if_pos c11] at H
            have c11b0 : (a0_0 == 1) = true := beq_iff_eq.mpr c11
            have c11b1 : (a0_0 != 1) = false := bne_eq_false_iff_eq.mpr c11
            clear c11
            (first | rw [c11b0] | (simp only [i64_w, i32_w]; rw [c11b0]) | skip)
            have H' := Aside0.mk H
            clear H
            have hcz12_0 : wc.cell? ⟨gb103, 0, none⟩ = some (.int .i64 a0_0) := (blk_cell BK103.out 0).trans rfl
            have hcz12_1 : wc.cell? ⟨gb103, 1, none⟩ = some (.int .i64 a0_1) := (blk_cell BK103.out 1).trans rfl
            have hcz12_2 : wc.cell? ⟨gb103, 2, none⟩ = some (.float .f64 a0_2) := (blk_cell BK103.out 2).trans rfl
            have hcz12_3 : wc.cell? ⟨gb103, 3, none⟩ = some (.slice A0_3 l0_3.length c0_3) := (blk_cell BK103.out 3).trans rfl
            have hfz12_0 := blk_frozen BK103.out 0
            have hfz12_1 := blk_frozen BK103.out 1
            have hfz12_2 := blk_frozen BK103.out 2
            have hfz12_3 := blk_frozen BK103.out 3
            go_wp2
            go_meet
            case rel => exact ⟨_, (false), (by first | rfl | (simp; done) | (simp [*]; done)), H', ⟨by have := HJ1.out; first | omega | exact Nat.le_refl _⟩, ⟨by (with_reducible repeat (first | refine blk_drewN ?_ _ | refine blk_drew ?_ | refine blk_alloc ?_ _)); exact BK103.out⟩, ⟨by repeat (first | (with_reducible first | exact HB.out | apply below_alloc | apply pw_below_drewN | apply below_drew1 | refine below_set ?_ GE103.out) | exact HB.out)⟩⟩
          · rw [if_neg c11] at H
            have c11b0 : (a0_0 == 1) = false := beq_eq_false_iff_ne.mpr c11
            have c11b1 : (a0_0 != 1) = true := bne_iff_ne.mpr c11
            (first | rw [c11b0] | (simp only [i64_w, i32_w]; rw [c11b0]) | skip)
            have H' := Aside0.mk H
            clear H
            have hcz13_0 : wc.cell? ⟨gb103, 0, none⟩ = some (.int .i64 a0_0) := (blk_cell BK103.out 0).trans rfl
            have hcz13_1 : wc.cell? ⟨gb103, 1, none⟩ = some (.int .i64 a0_1) := (blk_cell BK103.out 1).trans rfl
            have hcz13_2 : wc.cell? ⟨gb103, 2, none⟩ = some (.float .f64 a0_2) := (blk_cell BK103.out 2).trans rfl
            have hcz13_3 : wc.cell? ⟨gb103, 3, none⟩ = some (.slice A0_3 l0_3.length c0_3) := (blk_cell BK103.out 3).trans rfl
            have hfz13_0 := blk_frozen BK103.out 0
            have hfz13_1 := blk_frozen BK103.out 1
            have hfz13_2 := blk_frozen BK103.out 2
            have hfz13_3 := blk_frozen BK103.out 3
            go_wp2
            go_meet
            case rel => exact ⟨_, ((a0_1 != 0)), (by first | rfl | (simp; done) | (simp [*]; done)), H', ⟨by have := HJ1.out; first | omega | exact Nat.le_refl _⟩, ⟨by (with_reducible repeat (first | refine blk_drewN ?_ _ | refine blk_drew ?_ | refine blk_alloc ?_ _)); exact BK103.out⟩, ⟨by repeat (first | (with_reducible first | exact HB.out | apply below_alloc | apply pw_below_drewN | apply below_drew1 | refine below_set ?_ GE103.out) | exact HB.out)⟩⟩
        case rest =>
          clear HC10
          try clear c1
          try clear p2
          try clear c4
          try clear c4b0
          try clear c6
          try clear c6b0
          try clear c9
          try clear c11
          try clear c11b0
          try clear c11b1
          try clear hcz12_0
          try clear hcz12_1
          try clear hcz12_2
          try clear hcz12_3
          try clear hcz13_0
          try clear hcz13_1
          try clear hcz13_2
          try clear hcz13_3
          try clear hcz5_0
          try clear hcz5_1
          try clear hcz5_2
          try clear hcz5_3
          try clear hcz7_0
          try clear hcz7_1
          try clear hcz7_2
          try clear hcz7_3
          try clear hcz8_0
          try clear hcz8_1
          try clear hcz8_2
          try clear hcz8_3
          try clear hfz12_0
          try clear hfz12_1
          try clear hfz12_2
          try clear hfz12_3
          try clear hfz13_0
          try clear hfz13_1
          try clear hfz13_2
          try clear hfz13_3
          try clear hfz5_0
          try clear hfz5_1
          try clear hfz5_2
          try clear hfz5_3
          try clear hfz7_0
          try clear hfz7_1
          try clear hfz7_2
          try clear hfz7_3
          try clear hfz8_0
          try clear hfz8_1
          try clear hfz8_2
          try clear hfz8_3
          try clear p2
          obtain ⟨kq, x24_9, rfl, HA, HJ9, BK103, HB⟩ := hcut
          cases kq with
          | zero => exact absurd HA.out (by simp [spec_ItemOk.j1])
          | succ kj9 =>
            have H := HA.out
            clear HA
            simp only [spec_ItemOk.j1] at H
            by_cases c14 : x24_9 = true
            · subst c14
              have H1 : (some false) = some r := by rw [if_pos rfl] at H; exact H
              clear H
              have H := H1
              clear H1
              obtain rfl := Option.some.inj H
              go_wp2
              go_ret
              exact ⟨by first | rfl | (simp [errW_none, errW_some] <;> rfl) | (simp [*, errW_none, errW_some] <;> rfl), by repeat (first | (with_reducible first | exact HB.out | apply below_alloc | apply pw_below_drewN | apply below_drew1 | refine below_set ?_ GE103.out) | exact HB.out)⟩
            · replace c14 := Bool.eq_false_iff.mpr c14
              subst c14
              have H1 : (if a0_0 = 2 then (if a0_0 = 3 then (some true) else (some ((l0_3.length : Int) == 0))) else ((spec_FloatBits.f a0_2).bind fun t104 => (if t104 = 0 then (if a0_0 = 3 then (some true) else (some ((l0_3.length : Int) == 0))) else (some false)))) = some r := by rw [if_neg (show ¬ (false = true) by decide)] at H; exact H
              clear H
              have H := H1
              clear H1
              by_cases c15 : a0_0 = 2
              · rw [if_pos c15] at H
                have c15b0 : (a0_0 == 2) = true := beq_iff_eq.mpr c15
                have c15b1 : (a0_0 != 2) = false := bne_eq_false_iff_eq.mpr c15
                clear c15
                by_cases c16 : a0_0 = 3
                · rw [if_pos c16] at H
                  have c16b0 : (a0_0 == 3) = true := beq_iff_eq.mpr c16
                  have c16b1 : (a0_0 != 3) = false := bne_eq_false_iff_eq.mpr c16
                  clear c16
                  obtain rfl := Option.some.inj H
                  have hcz17_0 : wc.cell? ⟨gb103, 0, none⟩ = some (.int .i64 a0_0) := (blk_cell BK103.out 0).trans rfl
                  have hcz17_1 : wc.cell? ⟨gb103, 1, none⟩ = some (.int .i64 a0_1) := (blk_cell BK103.out 1).trans rfl
                  have hcz17_2 : wc.cell? ⟨gb103, 2, none⟩ = some (.float .f64 a0_2) := (blk_cell BK103.out 2).trans rfl
                  have hcz17_3 : wc.cell? ⟨gb103, 3, none⟩ = some (.slice A0_3 l0_3.length c0_3) := (blk_cell BK103.out 3).trans rfl
                  have hfz17_0 := blk_frozen BK103.out 0
                  have hfz17_1 := blk_frozen BK103.out 1
                  have hfz17_2 := blk_frozen BK103.out 2
                  have hfz17_3 := blk_frozen BK103.out 3
                  go_wp2
                  go_ret
                  exact ⟨by first | rfl | (simp [errW_none, errW_some] <;> rfl) | (simp [*, errW_none, errW_some] <;> rfl), by repeat (first | (with_reducible first | exact HB.out | apply below_alloc | apply pw_below_drewN | apply below_drew1 | refine below_set ?_ GE103.out) | exact HB.out)⟩
                · rw [if_neg c16] at H
                  have c16b0 : (a0_0 == 3) = false := beq_eq_false_iff_ne.mpr c16
                  have c16b1 : (a0_0 != 3) = true := bne_iff_ne.mpr c16
                  obtain rfl := Option.some.inj H
                  have hcz18_0 : wc.cell? ⟨gb103, 0, none⟩ = some (.int .i64 a0_0) := (blk_cell BK103.out 0).trans rfl
                  have hcz18_1 : wc.cell? ⟨gb103, 1, none⟩ = some (.int .i64 a0_1) := (blk_cell BK103.out 1).trans rfl
                  have hcz18_2 : wc.cell? ⟨gb103, 2, none⟩ = some (.float .f64 a0_2) := (blk_cell BK103.out 2).trans rfl
                  have hcz18_3 : wc.cell? ⟨gb103, 3, none⟩ = some (.slice A0_3 l0_3.length c0_3) := (blk_cell BK103.out 3).trans rfl
                  have hfz18_0 := blk_frozen BK103.out 0
                  have hfz18_1 := blk_frozen BK103.out 1
                  have hfz18_2 := blk_frozen BK103.out 2
                  have hfz18_3 := blk_frozen BK103.out 3
                  go_wp2
                  go_ret
                  exact ⟨by first | rfl | (simp [errW_none, errW_some] <;> rfl) | (simp [*, errW_none, errW_some] <;> rfl), by repeat (first | (with_reducible first | exact HB.out | apply below_alloc | apply pw_below_drewN | apply below_drew1 | refine below_set ?_ GE103.out) | exact HB.out)⟩
              · rw [if_neg c15] at H
                have c15b0 : (a0_0 == 2) = false := beq_eq_false_iff_ne.mpr c15
                have c15b1 : (a0_0 != 2) = true := bne_iff_ne.mpr c15
                replace H := Option.bind_eq_some_iff.mp H
                obtain ⟨t104, A190, H⟩ := H
                replace H : (if t104 = 0 then (if a0_0 = 3 then (some true) else (some ((l0_3.length : Int) == 0))) else (some false)) = some r := H
                have A19 := Aside0.mk A190
                clear A190
                by_cases c20 : t104 = 0
                · rw [if_pos c20] at H
                  have c20b0 : (t104 == 0) = true := beq_iff_eq.mpr c20
                  have c20b1 : (t104 != 0) = false := bne_eq_false_iff_eq.mpr c20
                  clear c20
                  by_cases c21 : a0_0 = 3
                  · rw [if_pos c21] at H
                    have c21b0 : (a0_0 == 3) = true := beq_iff_eq.mpr c21
                    have c21b1 : (a0_0 != 3) = false := bne_eq_false_iff_eq.mpr c21
                    clear c21
                    obtain rfl := Option.some.inj H
                    have hcz22_0 : wc.cell? ⟨gb103, 0, none⟩ = some (.int .i64 a0_0) := (blk_cell BK103.out 0).trans rfl
                    have hcz22_1 : wc.cell? ⟨gb103, 1, none⟩ = some (.int .i64 a0_1) := (blk_cell BK103.out 1).trans rfl
                    have hcz22_2 : wc.cell? ⟨gb103, 2, none⟩ = some (.float .f64 a0_2) := (blk_cell BK103.out 2).trans rfl
                    have hcz22_3 : wc.cell? ⟨gb103, 3, none⟩ = some (.slice A0_3 l0_3.length c0_3) := (blk_cell BK103.out 3).trans rfl
                    have hfz22_0 := blk_frozen BK103.out 0
                    have hfz22_1 := blk_frozen BK103.out 1
                    have hfz22_2 := blk_frozen BK103.out 2
                    have hfz22_3 := blk_frozen BK103.out 3
                    go_wp2_with (first | (go_at_call 120; (with_reducible refine (spec_FloatBits.calls a0_2 t104 _ A19.out).mono ?_); rintro e w' ⟨rfl, ⟨nd, rfl⟩⟩))
                    go_ret
                    exact ⟨by first | rfl | (simp [errW_none, errW_some] <;> rfl) | (simp [*, errW_none, errW_some] <;> rfl), by repeat (first | (with_reducible first | exact HB.out | apply below_alloc | apply pw_below_drewN | apply below_drew1 | refine below_set ?_ GE103.out) | exact HB.out)⟩
                  · rw [if_neg c21] at H
                    have c21b0 : (a0_0 == 3) = false := beq_eq_false_iff_ne.mpr c21
                    have c21b1 : (a0_0 != 3) = true := bne_iff_ne.mpr c21
                    obtain rfl := Option.some.inj H
                    have hcz23_0 : wc.cell? ⟨gb103, 0, none⟩ = some (.int .i64 a0_0) := (blk_cell BK103.out 0).trans rfl
                    have hcz23_1 : wc.cell? ⟨gb103, 1, none⟩ = some (.int .i64 a0_1) := (blk_cell BK103.out 1).trans rfl
                    have hcz23_2 : wc.cell? ⟨gb103, 2, none⟩ = some (.float .f64 a0_2) := (blk_cell BK103.out 2).trans rfl
                    have hcz23_3 : wc.cell? ⟨gb103, 3, none⟩ = some (.slice A0_3 l0_3.length c0_3) := (blk_cell BK103.out 3).trans rfl
                    have hfz23_0 := blk_frozen BK103.out 0
                    have hfz23_1 := blk_frozen BK103.out 1
                    have hfz23_2 := blk_frozen BK103.out 2
                    have hfz23_3 := blk_frozen BK103.out 3
                    go_wp2_with (first | (go_at_call 120; (with_reducible refine (spec_FloatBits.calls a0_2 t104 _ A19.out).mono ?_); rintro e w' ⟨rfl, ⟨nd, rfl⟩⟩))
                    go_ret
                    exact ⟨by first | rfl | (simp [errW_none, errW_some] <;> rfl) | (simp [*, errW_none, errW_some] <;> rfl), by repeat (first | (with_reducible first | exact HB.out | apply below_alloc | apply pw_below_drewN | apply below_drew1 | refine below_set ?_ GE103.out) | exact HB.out)⟩
                · rw [if_neg c20] at H
                  have c20b0 : (t104 == 0) = false := beq_eq_false_iff_ne.mpr c20
                  have c20b1 : (t104 != 0) = true := bne_iff_ne.mpr c20
                  obtain rfl := Option.some.inj H
                  have hcz24_0 : wc.cell? ⟨gb103, 0, none⟩ = some (.int .i64 a0_0) := (blk_cell BK103.out 0).trans rfl
                  have hcz24_1 : wc.cell? ⟨gb103, 1, none⟩ = some (.int .i64 a0_1) := (blk_cell BK103.out 1).trans rfl
                  have hcz24_2 : wc.cell? ⟨gb103, 2, none⟩ = some (.float .f64 a0_2) := (blk_cell BK103.out 2).trans rfl
                  have hcz24_3 : wc.cell? ⟨gb103, 3, none⟩ = some (.slice A0_3 l0_3.length c0_3) := (blk_cell BK103.out 3).trans rfl
                  have hfz24_0 := blk_frozen BK103.out 0
                  have hfz24_1 := blk_frozen BK103.out 1
                  have hfz24_2 := blk_frozen BK103.out 2
                  have hfz24_3 := blk_frozen BK103.out 3
                  go_wp2_with (first | (go_at_call 120; (with_reducible refine (spec_FloatBits.calls a0_2 t104 _ A19.out).mono ?_); rintro e w' ⟨rfl, ⟨nd, rfl⟩⟩))
                  go_ret
                  exact ⟨by first | rfl | (simp [errW_none, errW_some] <;> rfl) | (simp [*, errW_none, errW_some] <;> rfl), by repeat (first | (with_reducible first | exact HB.out | apply below_alloc | apply pw_below_drewN | apply below_drew1 | refine below_set ?_ GE103.out) | exact HB.out)⟩

end Go.Proofs.Ytjmlbkhcjgehdaa.PFnExactItemClean
