-- Written by hv.py, a program of this session's own, over the kit's print: FnExactOpOk
import Derived.Test.YtjmlbkhcjgehdaaPFnExactOpOkx0
import Derived.Test.YtjmlbkhcjgehdaaPFnExactOpOkx1
import Derived.Test.YtjmlbkhcjgehdaaPFnExactOpOkx3
import Derived.Test.YtjmlbkhcjgehdaaPFnExactOpOkx4
import Derived.Test.YtjmlbkhcjgehdaaPFnExactOpOkx5
namespace Go.Proofs.Ytjmlbkhcjgehdaa.PFnExactOpOk
open Go.RowKit Go.Proofs.YtjmlbkhcjgehdaaW.PrintWords Go.Proofs.YtjmlbkhcjgehdaaW.PrintLast Go.Proofs.YtjmlbkhcjgehdaaW.PrintMore Go.Proofs.Ytjmlbkhcjgehdaa.HFl Go.Proofs.Ytjmlbkhcjgehdaa.HMap Go.Proofs.Ytjmlbkhcjgehdaa.HMore Go.Proofs.Ytjmlbkhcjgehdaa
attribute [local go_sem] max2_int min2_int max_two min_two max_three min_three max_four min_four   -- for this text's walks alone
set_option linter.unusedVariables false
set_option linter.unusedSimpArgs false

/-! ### laws_sameFloat: function 66, by hand -/
def laws_sameFloat.f (a b : Nat) : Option Bool := if a = b ∧ (FloatKind.f64.format.order a 0 = some .eq → (FloatKind.f64.format.div 4607182418800017408 a).isSome = true) then some true else none
set_option maxHeartbeats 4000000 in
theorem laws_sameFloat.calls (a0 a1 : Nat) (r : Bool) (w : World) (h : laws_sameFloat.f a0 a1 = some r) :
    Calls Try.prog 66 #[.float .f64 a0, .float .f64 a1] w fun e w' => e = .returned (.bool r) ∧ ∃ nd, w' = w.drewN nd := by
  have hlt : (a0 = a1 ∧ (FloatKind.f64.format.order a0 0 = some .eq → (FloatKind.f64.format.div 4607182418800017408 a0).isSome = true)) ∧ true = r := by
    unfold laws_sameFloat.f at h
    split at h
    · exact ⟨by assumption, Option.some.inj h⟩
    · cases h
  obtain ⟨⟨rfl, hq⟩, rfl⟩ := hlt
  clear h
  cases hn : HFloat.feq a0 a0 with
  | false =>
    clear hq
    go_enter Try.func66, Try.ntmps66
    go_wp2
    go_ret
    exact ⟨rfl, 0, rfl⟩
  | true =>
    cases hz : HFloat.feq a0 0 with
    | false =>
      clear hq
      go_enter Try.func66, Try.ntmps66
      go_wp2
      go_ret
      exact ⟨rfl, 0, rfl⟩
    | true =>
      have hz2 := hz
      rw [HFloat.feq_eq] at hz2
      obtain ⟨q, hq⟩ := Option.isSome_iff_exists.1 (hq (by simpa using hz2))
      clear hz2
      have qq : ∀ w : World, (binOp .quo 22 (.float .f64 4607182418800017408) (.float .f64 a0)).run Try.prog w = .ok (.float .f64 q) w := fun w => by
        simp [binOp, Op.floatArith, hq]
      clear hq
      go_enter Try.func66, Try.ntmps66
      go_wp2
      go_ret
      exact ⟨by simp, 0, rfl⟩

/-! ### laws_eqByteS: function 67 -/
def laws_eqByteS.l0 : Nat → List Int → List Int → Int → Option (Bool)
  | 0, _, _, _ => none
  | k + 1, x0, x1, x5 => if x5 < (x0.length : Int) then (if 0 ≤ x5 then (if x5 < (x1.length : Int) then (if (rd x0 x5) = (rd x1 x5) then (laws_eqByteS.l0 k x0 x1 (wrap64 (x5 + 1))) else (some false)) else (none)) else (none)) else (some true)
def laws_eqByteS.f (k : Nat) (l0 : List Int) (l1 : List Int) : Option (Bool) := if (l0.length : Int) = (l1.length : Int) then (laws_eqByteS.l0 k l0 l1 0) else (some false)
theorem laws_eqByteS.mono_l : ∀ k, (∀ y0 y1 y2, LeO (laws_eqByteS.l0 k y0 y1 y2) (laws_eqByteS.l0 (k + 1) y0 y1 y2))
  | 0 => fun _ _ _ r h => by simp [laws_eqByteS.l0] at h
  | k + 1 => by
    have ih0 := laws_eqByteS.mono_l k
    · intro y0 y1 y2
      unfold laws_eqByteS.l0
      repeat' first
      | (with_reducible exact ih0 _ _ _)
      | (with_reducible exact LeO.refl _)
      | (with_reducible exact LeO.none _)
      | (with_reducible refine LeO.ite ?_ ?_)
      | (with_reducible refine LeO.bind ?_ (fun _ => ?_))
      | exact ih0 _ _ _
      | exact LeO.none _
      | refine LeO.ite ?_ ?_
      | refine LeO.bind ?_ (fun _ => ?_)
theorem laws_eqByteS.mono : ∀ a0 a1 k, LeO (laws_eqByteS.f k a0 a1) (laws_eqByteS.f (k + 1) a0 a1) := by
  intro a0 a1 k
  have ih0 := laws_eqByteS.mono_l k
  unfold laws_eqByteS.f
  repeat' first
      | (with_reducible exact ih0 _ _ _)
      | (with_reducible exact LeO.refl _)
      | (with_reducible exact LeO.none _)
      | (with_reducible refine LeO.ite ?_ ?_)
      | (with_reducible refine LeO.bind ?_ (fun _ => ?_))
      | exact ih0 _ _ _
      | exact LeO.none _
      | refine LeO.ite ?_ ?_
      | refine LeO.bind ?_ (fun _ => ?_)
set_option maxHeartbeats 8000000 in
set_option maxRecDepth 100000 in
theorem laws_eqByteS.calls (k : Nat) (A0 : Option Addr) (c0 : Nat) (l0 : List Int) (A1 : Option Addr) (c1 : Nat) (l1 : List Int) (r : Bool) (w : World) (hr0 : Kd.C (Kd.int .u8) w A0 l0.length l0) (hc0 : l0.length ≤ c0) (hr1 : Kd.C (Kd.int .u8) w A1 l1.length l1) (hc1 : l1.length ≤ c1) (h : laws_eqByteS.f k l0 l1 = some r) (hrt : r = true) :
    Calls Try.prog 67 #[.slice A0 l0.length c0, .slice A1 l1.length c1] w fun e w' => e = .returned (.bool r) ∧ Drawn0 w w' := by
  have HR0 := Aside0.mk hr0
  have HC0 := Aside0.mk hc0
  clear hr0 hc0
  have HR1 := Aside0.mk hr1
  have HC1 := Aside0.mk hc1
  clear hr1 hc1
  have H : (if (l0.length : Int) = (l1.length : Int) then (laws_eqByteS.l0 k l0 l1 0) else (some false)) = some r := h
  clear h
  by_cases c3 : (l0.length : Int) = (l1.length : Int)
  · rw [if_pos c3] at H
    have c3b0 : ((l0.length : Int) == (l1.length : Int)) = true := beq_iff_eq.mpr c3
    have c3b1 : ((l0.length : Int) != (l1.length : Int)) = false := bne_eq_false_iff_eq.mpr c3
    have c3b2 : (l0.length == l1.length) = true := by first | simpa using c3 | (simp at c3 ⊢; omega)
    clear c3
    have H' := Aside0.mk H
    clear H
    go_enter Try.func67, Try.ntmps67
    go_wp2
    repeat (go_quiet (fail); try go_wp2)
    go_loopg [5] k (fun kq v5 w' => ∃ (x5_1 : Int), v5 = .int .i64 x5_1 ∧ Aside0 (laws_eqByteS.l0 kq l0 l1 x5_1 = some r) ∧ Aside0 (kq ≤ k) ∧ Drawn0 w w')
    case atStart => exact ⟨(0), (by first | rfl | (simp; done) | (simp [*]; done)), H', ⟨Nat.le_refl _⟩, by repeat (first | exact Drawn0.refl _ | apply Drawn0.step)⟩
    case round =>
      clear H'
      try clear c1
      try clear p2
      try clear c3
      try clear c3b0
      try clear c3b1
      try clear c3b2
      obtain ⟨x5_1, rfl, HA, HK1, ⟨m1, rfl⟩⟩ := hrel
      cases gk with
      | zero => exact absurd HA.out (by simp [laws_eqByteS.l0])
      | succ k1 =>
        have H := HA.out
        clear HA
        simp only [laws_eqByteS.l0] at H
        by_cases c4 : x5_1 < (l0.length : Int)
        · rw [if_pos c4] at H
          have c4b0 : decide (x5_1 < (l0.length : Int)) = true := decide_eq_true c4
          clear c4
          by_cases c5 : 0 ≤ x5_1
          · rw [if_pos c5] at H
            have c5b0 : decide (0 ≤ x5_1) = true := decide_eq_true c5
            clear c5
            by_cases c6 : x5_1 < (l1.length : Int)
            · rw [if_pos c6] at H
              have c6b0 : decide (x5_1 < (l1.length : Int)) = true := decide_eq_true c6
              clear c6
              by_cases c7 : (rd l0 x5_1) = (rd l1 x5_1)
              · rw [if_pos c7] at H
                have c7b0 : ((rd l0 x5_1) == (rd l1 x5_1)) = true := beq_iff_eq.mpr c7
                have c7b1 : ((rd l0 x5_1) != (rd l1 x5_1)) = false := bne_eq_false_iff_eq.mpr c7
                clear c7
                have H' := Aside0.mk H
                clear H
                have p236 : 0 ≤ (x5_1 : Int) := of_decide_eq_true (by first | (with_reducible assumption) | assumption)
                have q236 : x5_1 < (l0.length : Int) := of_decide_eq_true (by first | (with_reducible assumption) | assumption)
                obtain ⟨ad236, e236, hx236_0⟩ := Kd.at_int HR0.out x5_1 p236 q236
                cases e236
                replace p236 := eq_true p236
                replace q236 := eq_true q236
                have p237 : 0 ≤ (x5_1 : Int) := of_decide_eq_true (by first | (with_reducible assumption) | assumption)
                have q237 : x5_1 < (l1.length : Int) := of_decide_eq_true (by first | (with_reducible assumption) | assumption)
                obtain ⟨ad237, e237, hx237_0⟩ := Kd.at_int HR1.out x5_1 p237 q237
                cases e237
                replace p237 := eq_true p237
                replace q237 := eq_true q237
                go_wp2
                repeat (go_quiet (fail); try go_wp2)
                go_roundg k1
                case measure => have := HK1.out; omega
                case rel => exact ⟨(wrap64 (x5_1 + 1)), (by first | rfl | (simp; done) | (simp [*]; done)), H', ⟨by have := HK1.out; omega⟩, by repeat (first | exact Drawn0.refl _ | apply Drawn0.step)⟩
              · rw [if_neg c7] at H
                have c7b0 : ((rd l0 x5_1) == (rd l1 x5_1)) = false := beq_eq_false_iff_ne.mpr c7
                have c7b1 : ((rd l0 x5_1) != (rd l1 x5_1)) = true := bne_iff_ne.mpr c7
                exact absurd (Option.some.inj H) (by rw [hrt]; decide)
            · rw [if_neg c6] at H
              exact absurd H (by simp)
          · rw [if_neg c5] at H
            exact absurd H (by simp)
        · rw [if_neg c4] at H
          have c4b0 : decide (x5_1 < (l0.length : Int)) = false := decide_eq_false c4
          clear c4
          obtain rfl := Option.some.inj H
          go_wp2
          repeat (go_quiet (fail); try go_wp2)
          go_ret
          exact ⟨by first | rfl | (simp; done) | (simp [*]; done), by repeat (first | exact Drawn0.refl _ | apply Drawn0.step)⟩
  · rw [if_neg c3] at H
    have c3b0 : ((l0.length : Int) == (l1.length : Int)) = false := beq_eq_false_iff_ne.mpr c3
    have c3b1 : ((l0.length : Int) != (l1.length : Int)) = true := bne_iff_ne.mpr c3
    have c3b2 : (l0.length == l1.length) = false := by first | simpa using c3 | (simp at c3 ⊢; omega)
    exact absurd (Option.some.inj H) (by rw [hrt]; decide)

/-! ### laws_eqItem: function 17 -/
def laws_eqItem.f (k : Nat) (a0_0 : Int) (a0_1 : Int) (a0_2 : Nat) (l0_3 : List Int) (a1_0 : Int) (a1_1 : Int) (a1_2 : Nat) (l1_3 : List Int) : Option (Bool) := if a0_0 = a1_0 then (if a0_1 = a1_1 then ((laws_sameFloat.f a0_2 a1_2).bind fun t240 => (if t240 = true then ((laws_eqByteS.f k l0_3 l1_3).bind fun t241 => (if t241 = true then (some true) else (some false))) else (some false))) else (some false)) else (some false)
theorem laws_eqItem.mono : ∀ a0 a1 a2 a3 a4 a5 a6 a7 k, LeO (laws_eqItem.f k a0 a1 a2 a3 a4 a5 a6 a7) (laws_eqItem.f (k + 1) a0 a1 a2 a3 a4 a5 a6 a7) := by
  intro a0 a1 a2 a3 a4 a5 a6 a7 k
  unfold laws_eqItem.f
  repeat' first
      | (with_reducible exact laws_eqByteS.mono _ _ _)
      | (with_reducible exact LeO.refl _)
      | (with_reducible exact LeO.none _)
      | (with_reducible refine LeO.ite ?_ ?_)
      | (with_reducible refine LeO.bind ?_ (fun _ => ?_))
      | exact laws_eqByteS.mono _ _ _
      | exact LeO.none _
      | refine LeO.ite ?_ ?_
      | refine LeO.bind ?_ (fun _ => ?_)
set_option maxHeartbeats 8000000 in
set_option maxRecDepth 100000 in
theorem laws_eqItem.calls (k : Nat) (a0_0 : Int) (a0_1 : Int) (a0_2 : Nat) (A0_3 : Option Addr) (c0_3 : Nat) (l0_3 : List Int) (a1_0 : Int) (a1_1 : Int) (a1_2 : Nat) (A1_3 : Option Addr) (c1_3 : Nat) (l1_3 : List Int) (r : Bool) (w : World) (hr0_3 : Kd.C (Kd.int .u8) w A0_3 l0_3.length l0_3) (hc0_3 : l0_3.length ≤ c0_3) (hr1_3 : Kd.C (Kd.int .u8) w A1_3 l1_3.length l1_3) (hc1_3 : l1_3.length ≤ c1_3) (h : laws_eqItem.f k a0_0 a0_1 a0_2 l0_3 a1_0 a1_1 a1_2 l1_3 = some r) (hrt : r = true) :
    Calls Try.prog 17 #[.agg #[.int .i64 a0_0, .int .i64 a0_1, .float .f64 a0_2, .slice A0_3 l0_3.length c0_3], .agg #[.int .i64 a1_0, .int .i64 a1_1, .float .f64 a1_2, .slice A1_3 l1_3.length c1_3]] w fun e w' => e = .returned (.bool r) ∧ Below w.heap.size w w' := by
  have hu27 := Try.underlying27
  have HR0_3 := Aside0.mk hr0_3
  have HC0_3 := Aside0.mk hc0_3
  clear hr0_3 hc0_3
  have HR1_3 := Aside0.mk hr1_3
  have HC1_3 := Aside0.mk hc1_3
  clear hr1_3 hc1_3
  have HB := Aside0.mk (Below.refl w.heap.size w)
  have H : (if a0_0 = a1_0 then (if a0_1 = a1_1 then ((laws_sameFloat.f a0_2 a1_2).bind fun t240 => (if t240 = true then ((laws_eqByteS.f k l0_3 l1_3).bind fun t241 => (if t241 = true then (some true) else (some false))) else (some false))) else (some false)) else (some false)) = some r := h
  clear h
  by_cases c3 : a0_0 = a1_0
  · rw [if_pos c3] at H
    have c3b0 : (a0_0 == a1_0) = true := beq_iff_eq.mpr c3
    have c3b1 : (a0_0 != a1_0) = false := bne_eq_false_iff_eq.mpr c3
    clear c3
    by_cases c4 : a0_1 = a1_1
    · rw [if_pos c4] at H
      have c4b0 : (a0_1 == a1_1) = true := beq_iff_eq.mpr c4
      have c4b1 : (a0_1 != a1_1) = false := bne_eq_false_iff_eq.mpr c4
      clear c4
      replace H := Option.bind_eq_some_iff.mp H
      obtain ⟨t240, A50, H⟩ := H
      replace H : (if t240 = true then ((laws_eqByteS.f k l0_3 l1_3).bind fun t241 => (if t241 = true then (some true) else (some false))) else (some false)) = some r := H
      have A5 := Aside0.mk A50
      clear A50
      by_cases c6 : t240 = true
      · subst c6
        have H1 : ((laws_eqByteS.f k l0_3 l1_3).bind fun t241 => (if t241 = true then (some true) else (some false))) = some r := by rw [if_pos rfl] at H; exact H
        clear H
        have H := H1
        clear H1
        replace H := Option.bind_eq_some_iff.mp H
        obtain ⟨t241, A70, H⟩ := H
        replace H : (if t241 = true then (some true) else (some false)) = some r := H
        have A7 := Aside0.mk A70
        clear A70
        by_cases c8 : t241 = true
        · subst c8
          have H1 : (some true) = some r := by rw [if_pos rfl] at H; exact H
          clear H
          have H := H1
          clear H1
          obtain rfl := Option.some.inj H
          go_enter Try.func17, Try.ntmps17
          go_wp2_with (first | ((with_reducible refine gate_dst (N := 2) rfl ?_); refine box_event ?hg (N := 2) ?hd (cs := #[.int .i64 a0_0, .int .i64 a0_1, .float .f64 a0_2, .slice A0_3 l0_3.length c0_3]) (t := 27) ?hr ?_; (case hd => rfl); (case hg => rfl); (case hr => first | (go_simp; done) | (go_simp; rfl)); intro gb238 hg w9 hbox hb; have n0_ := Aside0.mk (below_step (by repeat (first | (with_reducible first | exact HB.out | apply below_alloc | apply pw_below_drewN | apply below_drew1) | exact HB.out)) hb); have n1_ := Aside0.mk (hbox); have n2_ := Aside0.mk ((by rw [hg]; exact (below_size (by repeat (first | (with_reducible first | exact HB.out | apply below_alloc | apply pw_below_drewN | apply below_drew1) | exact HB.out))) : w.heap.size ≤ gb238)); have n3_ := Aside0.mk ((by rw [hg]; exact (below_size (by repeat (first | (with_reducible first | exact HB.out | apply below_alloc | apply pw_below_drewN | apply below_drew1) | exact HB.out))) : w.heap.size ≤ gb238)); clear HB; have HB := n0_; have BK238 := n1_; have GW238 := n2_; have GE238 := n3_; clear n0_ n1_ n2_ n3_; clear hb hbox hg) | ((with_reducible refine gate_dst (N := 3) rfl ?_); refine box_event ?hg (N := 3) ?hd (cs := #[.int .i64 a1_0, .int .i64 a1_1, .float .f64 a1_2, .slice A1_3 l1_3.length c1_3]) (t := 27) ?hr ?_; (case hd => rfl); (case hg => rfl); (case hr => first | (go_simp; done) | (go_simp; rfl)); intro gb239 hg w10 hbox hb; have n0_ := Aside0.mk (blk_below (g := gb238) (o := .cells #[.int .i64 a0_0, .int .i64 a0_1, .float .f64 a0_2, .slice A0_3 l0_3.length c0_3] 27 (0, 0)) (by (with_reducible repeat (first | refine blk_drewN ?_ _ | refine blk_drew ?_ | refine blk_alloc ?_ _)); exact BK238.out) hb); have n1_ := Aside0.mk (below_step (by repeat (first | (with_reducible first | exact HB.out | apply below_alloc | apply pw_below_drewN | apply below_drew1 | refine below_set ?_ GE238.out) | exact HB.out)) hb); have n2_ := Aside0.mk (hbox); have n3_ := Aside0.mk ((by rw [hg]; exact (below_size (by repeat (first | (with_reducible first | exact HB.out | apply below_alloc | apply pw_below_drewN | apply below_drew1 | refine below_set ?_ GE238.out) | exact HB.out))) : w.heap.size ≤ gb239)); have n4_ := Aside0.mk ((by rw [hg]; exact (below_size (by repeat (first | (with_reducible first | exact HB.out | apply below_alloc | apply pw_below_drewN | apply below_drew1 | refine below_set ?_ GE238.out) | exact HB.out))) : w.heap.size ≤ gb239)); have n5_ := Aside0.mk ((by rw [hg]; exact Nat.ne_of_lt (blk_lt (g := gb238) (o := .cells #[.int .i64 a0_0, .int .i64 a0_1, .float .f64 a0_2, .slice A0_3 l0_3.length c0_3] 27 (0, 0)) (by (with_reducible repeat (first | refine blk_drewN ?_ _ | refine blk_drew ?_ | refine blk_alloc ?_ _)); exact BK238.out)) : gb238 ≠ gb239)); have n6_ := Aside0.mk ((by rw [hg]; exact Nat.ne_of_gt (blk_lt (g := gb238) (o := .cells #[.int .i64 a0_0, .int .i64 a0_1, .float .f64 a0_2, .slice A0_3 l0_3.length c0_3] 27 (0, 0)) (by (with_reducible repeat (first | refine blk_drewN ?_ _ | refine blk_drew ?_ | refine blk_alloc ?_ _)); exact BK238.out)) : gb239 ≠ gb238)); clear BK238; clear HB; have BK238 := n0_; have HB := n1_; have BK239 := n2_; have GW239 := n3_; have GE239 := n4_; have NB238_239 := n5_; have NB239_238 := n6_; clear n0_ n1_ n2_ n3_ n4_ n5_ n6_; clear hb hbox hg; have hnb11 := NB238_239.out; have hnc11 := NB239_238.out; have hcz12_0 : w10.cell? ⟨gb238, 0, none⟩ = some (.int .i64 a0_0) := (blk_cell BK238.out 0).trans rfl; have hcz12_1 : w10.cell? ⟨gb238, 1, none⟩ = some (.int .i64 a0_1) := (blk_cell BK238.out 1).trans rfl; have hcz12_2 : w10.cell? ⟨gb238, 2, none⟩ = some (.float .f64 a0_2) := (blk_cell BK238.out 2).trans rfl; have hcz12_3 : w10.cell? ⟨gb238, 3, none⟩ = some (.slice A0_3 l0_3.length c0_3) := (blk_cell BK238.out 3).trans rfl; have hfz12_0 := blk_frozen BK238.out 0; have hfz12_1 := blk_frozen BK238.out 1; have hfz12_2 := blk_frozen BK238.out 2; have hfz12_3 := blk_frozen BK238.out 3; have hcz13_0 : w10.cell? ⟨gb239, 0, none⟩ = some (.int .i64 a1_0) := (blk_cell BK239.out 0).trans rfl; have hcz13_1 : w10.cell? ⟨gb239, 1, none⟩ = some (.int .i64 a1_1) := (blk_cell BK239.out 1).trans rfl; have hcz13_2 : w10.cell? ⟨gb239, 2, none⟩ = some (.float .f64 a1_2) := (blk_cell BK239.out 2).trans rfl; have hcz13_3 : w10.cell? ⟨gb239, 3, none⟩ = some (.slice A1_3 l1_3.length c1_3) := (blk_cell BK239.out 3).trans rfl; have hfz13_0 := blk_frozen BK239.out 0; have hfz13_1 := blk_frozen BK239.out 1; have hfz13_2 := blk_frozen BK239.out 2; have hfz13_3 := blk_frozen BK239.out 3) | ((with_reducible refine gate_callee (f := 66) rfl ?_); refine goesL_ (some 19) rfl rfl Try.func66 (by kernel_rfl) rfl #[.float .f64 a0_2, .float .f64 a1_2] rfl (by (try simp only [List.map_toArray, List.map_cons, List.map_nil]); first | done | rfl | (simp only [List.length_drop, List.length_take]; rfl)) ?_; (with_reducible refine (laws_sameFloat.calls a0_2 a1_2 true _ A5.out).mono ?_); rintro e w' ⟨rfl, ⟨nd, rfl⟩⟩; refine ⟨_, rfl, ?_⟩) | ((with_reducible refine gate_callee (f := 67) rfl ?_); refine goesL_ (some 25) rfl rfl Try.func67 (by kernel_rfl) rfl #[.slice A0_3 l0_3.length c0_3, .slice A1_3 l1_3.length c1_3] rfl (by (try simp only [List.map_toArray, List.map_cons, List.map_nil]); first | done | rfl | (simp only [List.length_drop, List.length_take]; rfl)) ?_; (with_reducible refine (laws_eqByteS.calls k _ _ l0_3 _ _ l1_3 true _ ?side1 ?side2 ?side3 ?side4 A7.out rfl).mono ?_); (case side1 => repeat (first | exact (Kd.C_below HR0_3.out (by repeat (first | (with_reducible first | exact HB.out | apply below_alloc | apply pw_below_drewN | apply below_drew1 | refine below_set ?_ GE238.out | refine below_set ?_ GE239.out) | exact HB.out))) | (with_reducible refine Kd.C_alloc ?_ _) | (with_reducible refine Kd.C_drewN ?_ _) | (with_reducible refine Kd.C_drew ?_))); (case side2 => exact HC0_3.out); (case side3 => repeat (first | exact (Kd.C_below HR1_3.out (by repeat (first | (with_reducible first | exact HB.out | apply below_alloc | apply pw_below_drewN | apply below_drew1 | refine below_set ?_ GE238.out | refine below_set ?_ GE239.out) | exact HB.out))) | (with_reducible refine Kd.C_alloc ?_ _) | (with_reducible refine Kd.C_drewN ?_ _) | (with_reducible refine Kd.C_drew ?_))); (case side4 => exact HC1_3.out); rintro e w' ⟨rfl, ⟨nd, rfl⟩⟩; refine ⟨_, rfl, ?_⟩))
          go_ret
          exact ⟨by first | rfl | (simp [errW_none, errW_some] <;> rfl) | (simp [*, errW_none, errW_some] <;> rfl), by repeat (first | (with_reducible first | exact HB.out | apply below_alloc | apply pw_below_drewN | apply below_drew1 | refine below_set ?_ GE238.out | refine below_set ?_ GE239.out) | exact HB.out)⟩
        · replace c8 := Bool.eq_false_iff.mpr c8
          subst c8
          have H1 : (some false) = some r := by rw [if_neg (show ¬ (false = true) by decide)] at H; exact H
          clear H
          have H := H1
          clear H1
          exact absurd (Option.some.inj H) (by rw [hrt]; decide)
      · replace c6 := Bool.eq_false_iff.mpr c6
        subst c6
        have H1 : (some false) = some r := by rw [if_neg (show ¬ (false = true) by decide)] at H; exact H
        clear H
        have H := H1
        clear H1
        exact absurd (Option.some.inj H) (by rw [hrt]; decide)
    · rw [if_neg c4] at H
      have c4b0 : (a0_1 == a1_1) = false := beq_eq_false_iff_ne.mpr c4
      have c4b1 : (a0_1 != a1_1) = true := bne_iff_ne.mpr c4
      exact absurd (Option.some.inj H) (by rw [hrt]; decide)
  · rw [if_neg c3] at H
    have c3b0 : (a0_0 == a1_0) = false := beq_eq_false_iff_ne.mpr c3
    have c3b1 : (a0_0 != a1_0) = true := bne_iff_ne.mpr c3
    exact absurd (Option.some.inj H) (by rw [hrt]; decide)

/-! ### laws_eqBoolS: function 80 -/
def laws_eqBoolS.l0 : Nat → List Bool → List Bool → Int → Option (Bool)
  | 0, _, _, _ => none
  | k + 1, x0, x1, x5 => if x5 < (x0.length : Int) then (if 0 ≤ x5 then (if x5 < (x1.length : Int) then (if ((rdOf false x0 x5) != (rdOf false x1 x5)) = true then (some false) else (laws_eqBoolS.l0 k x0 x1 (wrap64 (x5 + 1)))) else (none)) else (none)) else (some true)
def laws_eqBoolS.f (k : Nat) (l0 : List Bool) (l1 : List Bool) : Option (Bool) := if (l0.length : Int) = (l1.length : Int) then (laws_eqBoolS.l0 k l0 l1 0) else (some false)
theorem laws_eqBoolS.mono_l : ∀ k, (∀ y0 y1 y2, LeO (laws_eqBoolS.l0 k y0 y1 y2) (laws_eqBoolS.l0 (k + 1) y0 y1 y2))
  | 0 => fun _ _ _ r h => by simp [laws_eqBoolS.l0] at h
  | k + 1 => by
    have ih0 := laws_eqBoolS.mono_l k
    · intro y0 y1 y2
      unfold laws_eqBoolS.l0
      repeat' first
      | (with_reducible exact ih0 _ _ _)
      | (with_reducible exact LeO.refl _)
      | (with_reducible exact LeO.none _)
      | (with_reducible refine LeO.ite ?_ ?_)
      | (with_reducible refine LeO.bind ?_ (fun _ => ?_))
      | exact ih0 _ _ _
      | exact LeO.none _
      | refine LeO.ite ?_ ?_
      | refine LeO.bind ?_ (fun _ => ?_)
theorem laws_eqBoolS.mono : ∀ a0 a1 k, LeO (laws_eqBoolS.f k a0 a1) (laws_eqBoolS.f (k + 1) a0 a1) := by
  intro a0 a1 k
  have ih0 := laws_eqBoolS.mono_l k
  unfold laws_eqBoolS.f
  repeat' first
      | (with_reducible exact ih0 _ _ _)
      | (with_reducible exact LeO.refl _)
      | (with_reducible exact LeO.none _)
      | (with_reducible refine LeO.ite ?_ ?_)
      | (with_reducible refine LeO.bind ?_ (fun _ => ?_))
      | exact ih0 _ _ _
      | exact LeO.none _
      | refine LeO.ite ?_ ?_
      | refine LeO.bind ?_ (fun _ => ?_)
set_option maxHeartbeats 8000000 in
set_option maxRecDepth 100000 in
theorem laws_eqBoolS.calls (k : Nat) (A0 : Option Addr) (c0 : Nat) (l0 : List Bool) (A1 : Option Addr) (c1 : Nat) (l1 : List Bool) (r : Bool) (w : World) (hr0 : Kd.C Kd.bool w A0 l0.length l0) (hc0 : l0.length ≤ c0) (hr1 : Kd.C Kd.bool w A1 l1.length l1) (hc1 : l1.length ≤ c1) (h : laws_eqBoolS.f k l0 l1 = some r) (hrt : r = true) :
    Calls Try.prog 80 #[.slice A0 l0.length c0, .slice A1 l1.length c1] w fun e w' => e = .returned (.bool r) ∧ Drawn0 w w' := by
  have HR0 := Aside0.mk hr0
  have HC0 := Aside0.mk hc0
  clear hr0 hc0
  have HR1 := Aside0.mk hr1
  have HC1 := Aside0.mk hc1
  clear hr1 hc1
  have H : (if (l0.length : Int) = (l1.length : Int) then (laws_eqBoolS.l0 k l0 l1 0) else (some false)) = some r := h
  clear h
  by_cases c3 : (l0.length : Int) = (l1.length : Int)
  · rw [if_pos c3] at H
    have c3b0 : ((l0.length : Int) == (l1.length : Int)) = true := beq_iff_eq.mpr c3
    have c3b1 : ((l0.length : Int) != (l1.length : Int)) = false := bne_eq_false_iff_eq.mpr c3
    have c3b2 : (l0.length == l1.length) = true := by first | simpa using c3 | (simp at c3 ⊢; omega)
    clear c3
    have H' := Aside0.mk H
    clear H
    go_enter Try.func80, Try.ntmps80
    go_wp2
    repeat (go_quiet (fail); try go_wp2)
    go_loopg [5] k (fun kq v5 w' => ∃ (x5_1 : Int), v5 = .int .i64 x5_1 ∧ Aside0 (laws_eqBoolS.l0 kq l0 l1 x5_1 = some r) ∧ Aside0 (kq ≤ k) ∧ Drawn0 w w')
    case atStart => exact ⟨(0), (by first | rfl | (simp; done) | (simp [*]; done)), H', ⟨Nat.le_refl _⟩, by repeat (first | exact Drawn0.refl _ | apply Drawn0.step)⟩
    case round =>
      clear H'
      try clear c1
      try clear p2
      try clear c3
      try clear c3b0
      try clear c3b1
      try clear c3b2
      obtain ⟨x5_1, rfl, HA, HK1, ⟨m1, rfl⟩⟩ := hrel
      cases gk with
      | zero => exact absurd HA.out (by simp [laws_eqBoolS.l0])
      | succ k1 =>
        have H := HA.out
        clear HA
        simp only [laws_eqBoolS.l0] at H
        by_cases c4 : x5_1 < (l0.length : Int)
        · rw [if_pos c4] at H
          have c4b0 : decide (x5_1 < (l0.length : Int)) = true := decide_eq_true c4
          clear c4
          by_cases c5 : 0 ≤ x5_1
          · rw [if_pos c5] at H
            have c5b0 : decide (0 ≤ x5_1) = true := decide_eq_true c5
            clear c5
            by_cases c6 : x5_1 < (l1.length : Int)
            · rw [if_pos c6] at H
              have c6b0 : decide (x5_1 < (l1.length : Int)) = true := decide_eq_true c6
              clear c6
              by_cases c7 : ((rdOf false l0 x5_1) != (rdOf false l1 x5_1)) = true
              · rw [if_pos c7] at H
                have c7b0 : ((rdOf false l0 x5_1) != (rdOf false l1 x5_1)) = true := c7
                (try (have c7b1 : decide ((rdOf false l0 x5_1) = (rdOf false l1 x5_1)) = false := by simpa using c7))
                (try (have c7b2 : ((rdOf false l0 x5_1) == (rdOf false l1 x5_1)) = false := by simpa using c7))
                (try (have c7b3 : ¬ ((rdOf false l0 x5_1) = (rdOf false l1 x5_1)) := by simpa using c7))
                (try (have c7b4 : (!(rdOf false l0 x5_1) == (rdOf false l1 x5_1)) = true := by have h_ := c7; cases (rdOf false l0 x5_1) <;> simp at h_ ⊢ <;> first | done | omega | exact List.length_pos_iff.2 h_ | simp_all))
                clear c7
                exact absurd (Option.some.inj H) (by rw [hrt]; decide)
              · rw [if_neg c7] at H
                have c7b0 : ((rdOf false l0 x5_1) != (rdOf false l1 x5_1)) = false := by simpa using c7
                (try (have c7b1 : decide ((rdOf false l0 x5_1) = (rdOf false l1 x5_1)) = true := by simpa using c7))
                (try (have c7b2 : ((rdOf false l0 x5_1) == (rdOf false l1 x5_1)) = true := by simpa using c7))
                (try (have c7b3 : (!(rdOf false l0 x5_1) == (rdOf false l1 x5_1)) = false := by have h_ := c7; cases (rdOf false l0 x5_1) <;> simp at h_ ⊢ <;> first | done | omega | exact List.length_pos_iff.2 h_ | simp_all))
                clear c7
                have H' := Aside0.mk H
                clear H
                have p242 : 0 ≤ (x5_1 : Int) := of_decide_eq_true (by first | (with_reducible assumption) | assumption)
                have q242 : x5_1 < (l0.length : Int) := of_decide_eq_true (by first | (with_reducible assumption) | assumption)
                obtain ⟨ad242, e242, hx242_0⟩ := Kd.at_bool HR0.out x5_1 p242 q242
                cases e242
                replace p242 := eq_true p242
                replace q242 := eq_true q242
                have p243 : 0 ≤ (x5_1 : Int) := of_decide_eq_true (by first | (with_reducible assumption) | assumption)
                have q243 : x5_1 < (l1.length : Int) := of_decide_eq_true (by first | (with_reducible assumption) | assumption)
                obtain ⟨ad243, e243, hx243_0⟩ := Kd.at_bool HR1.out x5_1 p243 q243
                cases e243
                replace p243 := eq_true p243
                replace q243 := eq_true q243
                go_wp2
                repeat (go_quiet (fail); try go_wp2)
                go_roundg k1
                case measure => have := HK1.out; omega
                case rel => exact ⟨(wrap64 (x5_1 + 1)), (by first | rfl | (simp; done) | (simp [*]; done)), H', ⟨by have := HK1.out; omega⟩, by repeat (first | exact Drawn0.refl _ | apply Drawn0.step)⟩
            · rw [if_neg c6] at H
              exact absurd H (by simp)
          · rw [if_neg c5] at H
            exact absurd H (by simp)
        · rw [if_neg c4] at H
          have c4b0 : decide (x5_1 < (l0.length : Int)) = false := decide_eq_false c4
          clear c4
          obtain rfl := Option.some.inj H
          go_wp2
          repeat (go_quiet (fail); try go_wp2)
          go_ret
          exact ⟨by first | rfl | (simp; done) | (simp [*]; done), by repeat (first | exact Drawn0.refl _ | apply Drawn0.step)⟩
  · rw [if_neg c3] at H
    have c3b0 : ((l0.length : Int) == (l1.length : Int)) = false := beq_eq_false_iff_ne.mpr c3
    have c3b1 : ((l0.length : Int) != (l1.length : Int)) = true := bne_iff_ne.mpr c3
    have c3b2 : (l0.length == l1.length) = false := by first | simpa using c3 | (simp at c3 ⊢; omega)
    exact absurd (Option.some.inj H) (by rw [hrt]; decide)

/-! ### laws_eqOp: function 29 -/
def laws_eqOp.f (k : Nat) (a0_0 : Int) (a0_1 : Int) (a0_2 : Int) (a0_3 : Int) (a0_4 : Int) (a0_5 : Int) (a0_6 : Nat) (l0_7 : List Int) (a0_8 : Int) (a0_9 : Int) (a0_10 : Nat) (l0_11 : List Int) (a0_12 : Int) (a0_13 : Int) (a0_14 : Nat) (l0_15 : List Int) (l0_16 : List Bool) (a1_0 : Int) (a1_1 : Int) (a1_2 : Int) (a1_3 : Int) (a1_4 : Int) (a1_5 : Int) (a1_6 : Nat) (l1_7 : List Int) (a1_8 : Int) (a1_9 : Int) (a1_10 : Nat) (l1_11 : List Int) (a1_12 : Int) (a1_13 : Int) (a1_14 : Nat) (l1_15 : List Int) (l1_16 : List Bool) : Option (Bool) := if a0_0 = a1_0 then (if a0_1 = a1_1 then (if a0_2 = a1_2 then (if a0_3 = a1_3 then ((laws_eqItem.f k a0_4 a0_5 a0_6 l0_7 a1_4 a1_5 a1_6 l1_7).bind fun t246 => (if t246 = true then ((laws_eqItem.f k a0_8 a0_9 a0_10 l0_11 a1_8 a1_9 a1_10 l1_11).bind fun t247 => (if t247 = true then ((laws_eqItem.f k a0_12 a0_13 a0_14 l0_15 a1_12 a1_13 a1_14 l1_15).bind fun t248 => (if t248 = true then ((laws_eqBoolS.f k l0_16 l1_16).bind fun t249 => (if t249 = true then (some true) else (some false))) else (some false))) else (some false))) else (some false))) else (some false)) else (some false)) else (some false)) else (some false)
theorem laws_eqOp.mono : ∀ a0 a1 a2 a3 a4 a5 a6 a7 a8 a9 a10 a11 a12 a13 a14 a15 a16 a17 a18 a19 a20 a21 a22 a23 a24 a25 a26 a27 a28 a29 a30 a31 a32 a33 k, LeO (laws_eqOp.f k a0 a1 a2 a3 a4 a5 a6 a7 a8 a9 a10 a11 a12 a13 a14 a15 a16 a17 a18 a19 a20 a21 a22 a23 a24 a25 a26 a27 a28 a29 a30 a31 a32 a33) (laws_eqOp.f (k + 1) a0 a1 a2 a3 a4 a5 a6 a7 a8 a9 a10 a11 a12 a13 a14 a15 a16 a17 a18 a19 a20 a21 a22 a23 a24 a25 a26 a27 a28 a29 a30 a31 a32 a33) := by
  intro a0 a1 a2 a3 a4 a5 a6 a7 a8 a9 a10 a11 a12 a13 a14 a15 a16 a17 a18 a19 a20 a21 a22 a23 a24 a25 a26 a27 a28 a29 a30 a31 a32 a33 k
  unfold laws_eqOp.f
  repeat' first
      | (with_reducible exact laws_eqBoolS.mono _ _ _)
      | (with_reducible exact laws_eqItem.mono _ _ _ _ _ _ _ _ _)
      | (with_reducible exact LeO.refl _)
      | (with_reducible exact LeO.none _)
      | (with_reducible refine LeO.ite ?_ ?_)
      | (with_reducible refine LeO.bind ?_ (fun _ => ?_))
      | exact laws_eqBoolS.mono _ _ _
      | exact laws_eqItem.mono _ _ _ _ _ _ _ _ _
      | exact LeO.none _
      | refine LeO.ite ?_ ?_
      | refine LeO.bind ?_ (fun _ => ?_)
set_option maxHeartbeats 8000000 in
set_option maxRecDepth 100000 in
theorem laws_eqOp.calls (k : Nat) (a0_0 : Int) (a0_1 : Int) (a0_2 : Int) (a0_3 : Int) (a0_4 : Int) (a0_5 : Int) (a0_6 : Nat) (A0_7 : Option Addr) (c0_7 : Nat) (l0_7 : List Int) (a0_8 : Int) (a0_9 : Int) (a0_10 : Nat) (A0_11 : Option Addr) (c0_11 : Nat) (l0_11 : List Int) (a0_12 : Int) (a0_13 : Int) (a0_14 : Nat) (A0_15 : Option Addr) (c0_15 : Nat) (l0_15 : List Int) (A0_16 : Option Addr) (c0_16 : Nat) (l0_16 : List Bool) (a1_0 : Int) (a1_1 : Int) (a1_2 : Int) (a1_3 : Int) (a1_4 : Int) (a1_5 : Int) (a1_6 : Nat) (A1_7 : Option Addr) (c1_7 : Nat) (l1_7 : List Int) (a1_8 : Int) (a1_9 : Int) (a1_10 : Nat) (A1_11 : Option Addr) (c1_11 : Nat) (l1_11 : List Int) (a1_12 : Int) (a1_13 : Int) (a1_14 : Nat) (A1_15 : Option Addr) (c1_15 : Nat) (l1_15 : List Int) (A1_16 : Option Addr) (c1_16 : Nat) (l1_16 : List Bool) (r : Bool) (w : World) (hr0_7 : Kd.C (Kd.int .u8) w A0_7 l0_7.length l0_7) (hc0_7 : l0_7.length ≤ c0_7) (hr0_11 : Kd.C (Kd.int .u8) w A0_11 l0_11.length l0_11) (hc0_11 : l0_11.length ≤ c0_11) (hr0_15 : Kd.C (Kd.int .u8) w A0_15 l0_15.length l0_15) (hc0_15 : l0_15.length ≤ c0_15) (hr0_16 : Kd.C Kd.bool w A0_16 l0_16.length l0_16) (hc0_16 : l0_16.length ≤ c0_16) (hr1_7 : Kd.C (Kd.int .u8) w A1_7 l1_7.length l1_7) (hc1_7 : l1_7.length ≤ c1_7) (hr1_11 : Kd.C (Kd.int .u8) w A1_11 l1_11.length l1_11) (hc1_11 : l1_11.length ≤ c1_11) (hr1_15 : Kd.C (Kd.int .u8) w A1_15 l1_15.length l1_15) (hc1_15 : l1_15.length ≤ c1_15) (hr1_16 : Kd.C Kd.bool w A1_16 l1_16.length l1_16) (hc1_16 : l1_16.length ≤ c1_16) (h : laws_eqOp.f k a0_0 a0_1 a0_2 a0_3 a0_4 a0_5 a0_6 l0_7 a0_8 a0_9 a0_10 l0_11 a0_12 a0_13 a0_14 l0_15 l0_16 a1_0 a1_1 a1_2 a1_3 a1_4 a1_5 a1_6 l1_7 a1_8 a1_9 a1_10 l1_11 a1_12 a1_13 a1_14 l1_15 l1_16 = some r) (hrt : r = true) :
    Calls Try.prog 29 #[.agg #[.int .i64 a0_0, .int .i64 a0_1, .int .i64 a0_2, .int .i64 a0_3, .int .i64 a0_4, .int .i64 a0_5, .float .f64 a0_6, .slice A0_7 l0_7.length c0_7, .int .i64 a0_8, .int .i64 a0_9, .float .f64 a0_10, .slice A0_11 l0_11.length c0_11, .int .i64 a0_12, .int .i64 a0_13, .float .f64 a0_14, .slice A0_15 l0_15.length c0_15, .slice A0_16 l0_16.length c0_16], .agg #[.int .i64 a1_0, .int .i64 a1_1, .int .i64 a1_2, .int .i64 a1_3, .int .i64 a1_4, .int .i64 a1_5, .float .f64 a1_6, .slice A1_7 l1_7.length c1_7, .int .i64 a1_8, .int .i64 a1_9, .float .f64 a1_10, .slice A1_11 l1_11.length c1_11, .int .i64 a1_12, .int .i64 a1_13, .float .f64 a1_14, .slice A1_15 l1_15.length c1_15, .slice A1_16 l1_16.length c1_16]] w fun e w' => e = .returned (.bool r) ∧ Below w.heap.size w w' := by
  have hu48 := Try.underlying48
  have hu27 := Try.underlying27
  have HR0_7 := Aside0.mk hr0_7
  have HC0_7 := Aside0.mk hc0_7
  clear hr0_7 hc0_7
  have HR0_11 := Aside0.mk hr0_11
  have HC0_11 := Aside0.mk hc0_11
  clear hr0_11 hc0_11
  have HR0_15 := Aside0.mk hr0_15
  have HC0_15 := Aside0.mk hc0_15
  clear hr0_15 hc0_15
  have HR0_16 := Aside0.mk hr0_16
  have HC0_16 := Aside0.mk hc0_16
  clear hr0_16 hc0_16
  have HR1_7 := Aside0.mk hr1_7
  have HC1_7 := Aside0.mk hc1_7
  clear hr1_7 hc1_7
  have HR1_11 := Aside0.mk hr1_11
  have HC1_11 := Aside0.mk hc1_11
  clear hr1_11 hc1_11
  have HR1_15 := Aside0.mk hr1_15
  have HC1_15 := Aside0.mk hc1_15
  clear hr1_15 hc1_15
  have HR1_16 := Aside0.mk hr1_16
  have HC1_16 := Aside0.mk hc1_16
  clear hr1_16 hc1_16
  have HB := Aside0.mk (Below.refl w.heap.size w)
  have H : (if a0_0 = a1_0 then (if a0_1 = a1_1 then (if a0_2 = a1_2 then (if a0_3 = a1_3 then ((laws_eqItem.f k a0_4 a0_5 a0_6 l0_7 a1_4 a1_5 a1_6 l1_7).bind fun t246 => (if t246 = true then ((laws_eqItem.f k a0_8 a0_9 a0_10 l0_11 a1_8 a1_9 a1_10 l1_11).bind fun t247 => (if t247 = true then ((laws_eqItem.f k a0_12 a0_13 a0_14 l0_15 a1_12 a1_13 a1_14 l1_15).bind fun t248 => (if t248 = true then ((laws_eqBoolS.f k l0_16 l1_16).bind fun t249 => (if t249 = true then (some true) else (some false))) else (some false))) else (some false))) else (some false))) else (some false)) else (some false)) else (some false)) else (some false)) = some r := h
  clear h
  by_cases c3 : a0_0 = a1_0
  · rw [if_pos c3] at H
    have c3b0 : (a0_0 == a1_0) = true := beq_iff_eq.mpr c3
    have c3b1 : (a0_0 != a1_0) = false := bne_eq_false_iff_eq.mpr c3
    clear c3
    by_cases c4 : a0_1 = a1_1
    · rw [if_pos c4] at H
      have c4b0 : (a0_1 == a1_1) = true := beq_iff_eq.mpr c4
      have c4b1 : (a0_1 != a1_1) = false := bne_eq_false_iff_eq.mpr c4
      clear c4
      by_cases c5 : a0_2 = a1_2
      · rw [if_pos c5] at H
        have c5b0 : (a0_2 == a1_2) = true := beq_iff_eq.mpr c5
        have c5b1 : (a0_2 != a1_2) = false := bne_eq_false_iff_eq.mpr c5
        clear c5
        by_cases c6 : a0_3 = a1_3
        · rw [if_pos c6] at H
          have c6b0 : (a0_3 == a1_3) = true := beq_iff_eq.mpr c6
          have c6b1 : (a0_3 != a1_3) = false := bne_eq_false_iff_eq.mpr c6
          clear c6
          replace H := Option.bind_eq_some_iff.mp H
          obtain ⟨t246, A70, H⟩ := H
          replace H : (if t246 = true then ((laws_eqItem.f k a0_8 a0_9 a0_10 l0_11 a1_8 a1_9 a1_10 l1_11).bind fun t247 => (if t247 = true then ((laws_eqItem.f k a0_12 a0_13 a0_14 l0_15 a1_12 a1_13 a1_14 l1_15).bind fun t248 => (if t248 = true then ((laws_eqBoolS.f k l0_16 l1_16).bind fun t249 => (if t249 = true then (some true) else (some false))) else (some false))) else (some false))) else (some false)) = some r := H
          have A7 := Aside0.mk A70
          clear A70
          by_cases c8 : t246 = true
          · subst c8
            have H1 : ((laws_eqItem.f k a0_8 a0_9 a0_10 l0_11 a1_8 a1_9 a1_10 l1_11).bind fun t247 => (if t247 = true then ((laws_eqItem.f k a0_12 a0_13 a0_14 l0_15 a1_12 a1_13 a1_14 l1_15).bind fun t248 => (if t248 = true then ((laws_eqBoolS.f k l0_16 l1_16).bind fun t249 => (if t249 = true then (some true) else (some false))) else (some false))) else (some false))) = some r := by rw [if_pos rfl] at H; exact H
            clear H
            have H := H1
            clear H1
            replace H := Option.bind_eq_some_iff.mp H
            obtain ⟨t247, A90, H⟩ := H
            replace H : (if t247 = true then ((laws_eqItem.f k a0_12 a0_13 a0_14 l0_15 a1_12 a1_13 a1_14 l1_15).bind fun t248 => (if t248 = true then ((laws_eqBoolS.f k l0_16 l1_16).bind fun t249 => (if t249 = true then (some true) else (some false))) else (some false))) else (some false)) = some r := H
            have A9 := Aside0.mk A90
            clear A90
            by_cases c10 : t247 = true
            · subst c10
              have H1 : ((laws_eqItem.f k a0_12 a0_13 a0_14 l0_15 a1_12 a1_13 a1_14 l1_15).bind fun t248 => (if t248 = true then ((laws_eqBoolS.f k l0_16 l1_16).bind fun t249 => (if t249 = true then (some true) else (some false))) else (some false))) = some r := by rw [if_pos rfl] at H; exact H
              clear H
              have H := H1
              clear H1
              replace H := Option.bind_eq_some_iff.mp H
              obtain ⟨t248, A110, H⟩ := H
              replace H : (if t248 = true then ((laws_eqBoolS.f k l0_16 l1_16).bind fun t249 => (if t249 = true then (some true) else (some false))) else (some false)) = some r := H
              have A11 := Aside0.mk A110
              clear A110
              by_cases c12 : t248 = true
              · subst c12
                have H1 : ((laws_eqBoolS.f k l0_16 l1_16).bind fun t249 => (if t249 = true then (some true) else (some false))) = some r := by rw [if_pos rfl] at H; exact H
                clear H
                have H := H1
                clear H1
                replace H := Option.bind_eq_some_iff.mp H
                obtain ⟨t249, A130, H⟩ := H
                replace H : (if t249 = true then (some true) else (some false)) = some r := H
                have A13 := Aside0.mk A130
                clear A130
                by_cases c14 : t249 = true
                · subst c14
                  have H1 : (some true) = some r := by rw [if_pos rfl] at H; exact H
                  clear H
                  have H := H1
                  clear H1
                  obtain rfl := Option.some.inj H
                  go_enter Try.func29, Try.ntmps29
                  go_wp2_with (first | ((with_reducible refine gate_dst (N := 2) rfl ?_); refine box_event ?hg (N := 2) ?hd (cs := #[.int .i64 a0_0, .int .i64 a0_1, .int .i64 a0_2, .int .i64 a0_3, .int .i64 a0_4, .int .i64 a0_5, .float .f64 a0_6, .slice A0_7 l0_7.length c0_7, .int .i64 a0_8, .int .i64 a0_9, .float .f64 a0_10, .slice A0_11 l0_11.length c0_11, .int .i64 a0_12, .int .i64 a0_13, .float .f64 a0_14, .slice A0_15 l0_15.length c0_15, .slice A0_16 l0_16.length c0_16]) (t := 48) ?hr ?_; (case hd => rfl); (case hg => rfl); (case hr => first | (go_simp; done) | (go_simp; rfl)); intro gb244 hg w15 hbox hb; have n0_ := Aside0.mk (below_step (by repeat (first | (with_reducible first | exact HB.out | apply below_alloc | apply pw_below_drewN | apply below_drew1) | exact HB.out)) hb); have n1_ := Aside0.mk (hbox); have n2_ := Aside0.mk ((by rw [hg]; exact (below_size (by repeat (first | (with_reducible first | exact HB.out | apply below_alloc | apply pw_below_drewN | apply below_drew1) | exact HB.out))) : w.heap.size ≤ gb244)); have n3_ := Aside0.mk ((by rw [hg]; exact (below_size (by repeat (first | (with_reducible first | exact HB.out | apply below_alloc | apply pw_below_drewN | apply below_drew1) | exact HB.out))) : w.heap.size ≤ gb244)); clear HB; have HB := n0_; have BK244 := n1_; have GW244 := n2_; have GE244 := n3_; clear n0_ n1_ n2_ n3_; clear hb hbox hg) | ((with_reducible refine gate_dst (N := 3) rfl ?_); refine box_event ?hg (N := 3) ?hd (cs := #[.int .i64 a1_0, .int .i64 a1_1, .int .i64 a1_2, .int .i64 a1_3, .int .i64 a1_4, .int .i64 a1_5, .float .f64 a1_6, .slice A1_7 l1_7.length c1_7, .int .i64 a1_8, .int .i64 a1_9, .float .f64 a1_10, .slice A1_11 l1_11.length c1_11, .int .i64 a1_12, .int .i64 a1_13, .float .f64 a1_14, .slice A1_15 l1_15.length c1_15, .slice A1_16 l1_16.length c1_16]) (t := 48) ?hr ?_; (case hd => rfl); (case hg => rfl); (case hr => first | (go_simp; done) | (go_simp; rfl)); intro gb245 hg w16 hbox hb; have n0_ := Aside0.mk (blk_below (g := gb244) (o := .cells #[.int .i64 a0_0, .int .i64 a0_1, .int .i64 a0_2, .int .i64 a0_3, .int .i64 a0_4, .int .i64 a0_5, .float .f64 a0_6, .slice A0_7 l0_7.length c0_7, .int .i64 a0_8, .int .i64 a0_9, .float .f64 a0_10, .slice A0_11 l0_11.length c0_11, .int .i64 a0_12, .int .i64 a0_13, .float .f64 a0_14, .slice A0_15 l0_15.length c0_15, .slice A0_16 l0_16.length c0_16] 48 (0, 0)) (by (with_reducible repeat (first | refine blk_drewN ?_ _ | refine blk_drew ?_ | refine blk_alloc ?_ _)); exact BK244.out) hb); have n1_ := Aside0.mk (below_step (by repeat (first | (with_reducible first | exact HB.out | apply below_alloc | apply pw_below_drewN | apply below_drew1 | refine below_set ?_ GE244.out) | exact HB.out)) hb); have n2_ := Aside0.mk (hbox); have n3_ := Aside0.mk ((by rw [hg]; exact (below_size (by repeat (first | (with_reducible first | exact HB.out | apply below_alloc | apply pw_below_drewN | apply below_drew1 | refine below_set ?_ GE244.out) | exact HB.out))) : w.heap.size ≤ gb245)); have n4_ := Aside0.mk ((by rw [hg]; exact (below_size (by repeat (first | (with_reducible first | exact HB.out | apply below_alloc | apply pw_below_drewN | apply below_drew1 | refine below_set ?_ GE244.out) | exact HB.out))) : w.heap.size ≤ gb245)); have n5_ := Aside0.mk ((by rw [hg]; exact Nat.ne_of_lt (blk_lt (g := gb244) (o := .cells #[.int .i64 a0_0, .int .i64 a0_1, .int .i64 a0_2, .int .i64 a0_3, .int .i64 a0_4, .int .i64 a0_5, .float .f64 a0_6, .slice A0_7 l0_7.length c0_7, .int .i64 a0_8, .int .i64 a0_9, .float .f64 a0_10, .slice A0_11 l0_11.length c0_11, .int .i64 a0_12, .int .i64 a0_13, .float .f64 a0_14, .slice A0_15 l0_15.length c0_15, .slice A0_16 l0_16.length c0_16] 48 (0, 0)) (by (with_reducible repeat (first | refine blk_drewN ?_ _ | refine blk_drew ?_ | refine blk_alloc ?_ _)); exact BK244.out)) : gb244 ≠ gb245)); have n6_ := Aside0.mk ((by rw [hg]; exact Nat.ne_of_gt (blk_lt (g := gb244) (o := .cells #[.int .i64 a0_0, .int .i64 a0_1, .int .i64 a0_2, .int .i64 a0_3, .int .i64 a0_4, .int .i64 a0_5, .float .f64 a0_6, .slice A0_7 l0_7.length c0_7, .int .i64 a0_8, .int .i64 a0_9, .float .f64 a0_10, .slice A0_11 l0_11.length c0_11, .int .i64 a0_12, .int .i64 a0_13, .float .f64 a0_14, .slice A0_15 l0_15.length c0_15, .slice A0_16 l0_16.length c0_16] 48 (0, 0)) (by (with_reducible repeat (first | refine blk_drewN ?_ _ | refine blk_drew ?_ | refine blk_alloc ?_ _)); exact BK244.out)) : gb245 ≠ gb244)); clear BK244; clear HB; have BK244 := n0_; have HB := n1_; have BK245 := n2_; have GW245 := n3_; have GE245 := n4_; have NB244_245 := n5_; have NB245_244 := n6_; clear n0_ n1_ n2_ n3_ n4_ n5_ n6_; clear hb hbox hg; have hnb17 := NB244_245.out; have hnc17 := NB245_244.out; have hcz18_0 : w16.cell? ⟨gb244, 0, none⟩ = some (.int .i64 a0_0) := (blk_cell BK244.out 0).trans rfl; have hcz18_1 : w16.cell? ⟨gb244, 1, none⟩ = some (.int .i64 a0_1) := (blk_cell BK244.out 1).trans rfl; have hcz18_2 : w16.cell? ⟨gb244, 2, none⟩ = some (.int .i64 a0_2) := (blk_cell BK244.out 2).trans rfl; have hcz18_3 : w16.cell? ⟨gb244, 3, none⟩ = some (.int .i64 a0_3) := (blk_cell BK244.out 3).trans rfl; have hcz18_4 : w16.cell? ⟨gb244, 4, none⟩ = some (.int .i64 a0_4) := (blk_cell BK244.out 4).trans rfl; have hcz18_5 : w16.cell? ⟨gb244, 5, none⟩ = some (.int .i64 a0_5) := (blk_cell BK244.out 5).trans rfl; have hcz18_6 : w16.cell? ⟨gb244, 6, none⟩ = some (.float .f64 a0_6) := (blk_cell BK244.out 6).trans rfl; have hcz18_7 : w16.cell? ⟨gb244, 7, none⟩ = some (.slice A0_7 l0_7.length c0_7) := (blk_cell BK244.out 7).trans rfl; have hcz18_8 : w16.cell? ⟨gb244, 8, none⟩ = some (.int .i64 a0_8) := (blk_cell BK244.out 8).trans rfl; have hcz18_9 : w16.cell? ⟨gb244, 9, none⟩ = some (.int .i64 a0_9) := (blk_cell BK244.out 9).trans rfl; have hcz18_10 : w16.cell? ⟨gb244, 10, none⟩ = some (.float .f64 a0_10) := (blk_cell BK244.out 10).trans rfl; have hcz18_11 : w16.cell? ⟨gb244, 11, none⟩ = some (.slice A0_11 l0_11.length c0_11) := (blk_cell BK244.out 11).trans rfl; have hcz18_12 : w16.cell? ⟨gb244, 12, none⟩ = some (.int .i64 a0_12) := (blk_cell BK244.out 12).trans rfl; have hcz18_13 : w16.cell? ⟨gb244, 13, none⟩ = some (.int .i64 a0_13) := (blk_cell BK244.out 13).trans rfl; have hcz18_14 : w16.cell? ⟨gb244, 14, none⟩ = some (.float .f64 a0_14) := (blk_cell BK244.out 14).trans rfl; have hcz18_15 : w16.cell? ⟨gb244, 15, none⟩ = some (.slice A0_15 l0_15.length c0_15) := (blk_cell BK244.out 15).trans rfl; have hcz18_16 : w16.cell? ⟨gb244, 16, none⟩ = some (.slice A0_16 l0_16.length c0_16) := (blk_cell BK244.out 16).trans rfl; have hfz18_0 := blk_frozen BK244.out 0; have hfz18_1 := blk_frozen BK244.out 1; have hfz18_2 := blk_frozen BK244.out 2; have hfz18_3 := blk_frozen BK244.out 3; have hfz18_4 := blk_frozen BK244.out 4; have hfz18_5 := blk_frozen BK244.out 5; have hfz18_6 := blk_frozen BK244.out 6; have hfz18_7 := blk_frozen BK244.out 7; have hfz18_8 := blk_frozen BK244.out 8; have hfz18_9 := blk_frozen BK244.out 9; have hfz18_10 := blk_frozen BK244.out 10; have hfz18_11 := blk_frozen BK244.out 11; have hfz18_12 := blk_frozen BK244.out 12; have hfz18_13 := blk_frozen BK244.out 13; have hfz18_14 := blk_frozen BK244.out 14; have hfz18_15 := blk_frozen BK244.out 15; have hfz18_16 := blk_frozen BK244.out 16; have hcz19_0 : w16.cell? ⟨gb245, 0, none⟩ = some (.int .i64 a1_0) := (blk_cell BK245.out 0).trans rfl; have hcz19_1 : w16.cell? ⟨gb245, 1, none⟩ = some (.int .i64 a1_1) := (blk_cell BK245.out 1).trans rfl; have hcz19_2 : w16.cell? ⟨gb245, 2, none⟩ = some (.int .i64 a1_2) := (blk_cell BK245.out 2).trans rfl; have hcz19_3 : w16.cell? ⟨gb245, 3, none⟩ = some (.int .i64 a1_3) := (blk_cell BK245.out 3).trans rfl; have hcz19_4 : w16.cell? ⟨gb245, 4, none⟩ = some (.int .i64 a1_4) := (blk_cell BK245.out 4).trans rfl; have hcz19_5 : w16.cell? ⟨gb245, 5, none⟩ = some (.int .i64 a1_5) := (blk_cell BK245.out 5).trans rfl; have hcz19_6 : w16.cell? ⟨gb245, 6, none⟩ = some (.float .f64 a1_6) := (blk_cell BK245.out 6).trans rfl; have hcz19_7 : w16.cell? ⟨gb245, 7, none⟩ = some (.slice A1_7 l1_7.length c1_7) := (blk_cell BK245.out 7).trans rfl; have hcz19_8 : w16.cell? ⟨gb245, 8, none⟩ = some (.int .i64 a1_8) := (blk_cell BK245.out 8).trans rfl; have hcz19_9 : w16.cell? ⟨gb245, 9, none⟩ = some (.int .i64 a1_9) := (blk_cell BK245.out 9).trans rfl; have hcz19_10 : w16.cell? ⟨gb245, 10, none⟩ = some (.float .f64 a1_10) := (blk_cell BK245.out 10).trans rfl; have hcz19_11 : w16.cell? ⟨gb245, 11, none⟩ = some (.slice A1_11 l1_11.length c1_11) := (blk_cell BK245.out 11).trans rfl; have hcz19_12 : w16.cell? ⟨gb245, 12, none⟩ = some (.int .i64 a1_12) := (blk_cell BK245.out 12).trans rfl; have hcz19_13 : w16.cell? ⟨gb245, 13, none⟩ = some (.int .i64 a1_13) := (blk_cell BK245.out 13).trans rfl; have hcz19_14 : w16.cell? ⟨gb245, 14, none⟩ = some (.float .f64 a1_14) := (blk_cell BK245.out 14).trans rfl; have hcz19_15 : w16.cell? ⟨gb245, 15, none⟩ = some (.slice A1_15 l1_15.length c1_15) := (blk_cell BK245.out 15).trans rfl; have hcz19_16 : w16.cell? ⟨gb245, 16, none⟩ = some (.slice A1_16 l1_16.length c1_16) := (blk_cell BK245.out 16).trans rfl; have hfz19_0 := blk_frozen BK245.out 0; have hfz19_1 := blk_frozen BK245.out 1; have hfz19_2 := blk_frozen BK245.out 2; have hfz19_3 := blk_frozen BK245.out 3; have hfz19_4 := blk_frozen BK245.out 4; have hfz19_5 := blk_frozen BK245.out 5; have hfz19_6 := blk_frozen BK245.out 6; have hfz19_7 := blk_frozen BK245.out 7; have hfz19_8 := blk_frozen BK245.out 8; have hfz19_9 := blk_frozen BK245.out 9; have hfz19_10 := blk_frozen BK245.out 10; have hfz19_11 := blk_frozen BK245.out 11; have hfz19_12 := blk_frozen BK245.out 12; have hfz19_13 := blk_frozen BK245.out 13; have hfz19_14 := blk_frozen BK245.out 14; have hfz19_15 := blk_frozen BK245.out 15; have hfz19_16 := blk_frozen BK245.out 16) | ((with_reducible refine gate_callee (f := 17) rfl ?_); refine goesL_ (some 29) rfl rfl Try.func17 (by kernel_rfl) rfl #[.agg #[.int .i64 a0_4, .int .i64 a0_5, .float .f64 a0_6, .slice A0_7 l0_7.length c0_7], .agg #[.int .i64 a1_4, .int .i64 a1_5, .float .f64 a1_6, .slice A1_7 l1_7.length c1_7]] rfl (by (try simp only [List.map_toArray, List.map_cons, List.map_nil]); first | done | rfl | (simp only [List.length_drop, List.length_take]; rfl)) ?_; (with_reducible refine (laws_eqItem.calls k a0_4 a0_5 a0_6 _ _ l0_7 a1_4 a1_5 a1_6 _ _ l1_7 true _ ?side1 ?side2 ?side3 ?side4 A7.out rfl).mono ?_); (case side1 => repeat (first | exact (Kd.C_below HR0_7.out HB.out) | (with_reducible refine Kd.C_alloc ?_ _) | (with_reducible refine Kd.C_drewN ?_ _) | (with_reducible refine Kd.C_drew ?_))); (case side2 => exact HC0_7.out); (case side3 => repeat (first | exact (Kd.C_below HR1_7.out HB.out) | (with_reducible refine Kd.C_alloc ?_ _) | (with_reducible refine Kd.C_drewN ?_ _) | (with_reducible refine Kd.C_drew ?_))); (case side4 => exact HC1_7.out); rintro e w20 ⟨rfl, hb⟩; refine ⟨_, rfl, ?_⟩; have n0_ := Aside0.mk (blk_below (g := gb244) (o := .cells #[.int .i64 a0_0, .int .i64 a0_1, .int .i64 a0_2, .int .i64 a0_3, .int .i64 a0_4, .int .i64 a0_5, .float .f64 a0_6, .slice A0_7 l0_7.length c0_7, .int .i64 a0_8, .int .i64 a0_9, .float .f64 a0_10, .slice A0_11 l0_11.length c0_11, .int .i64 a0_12, .int .i64 a0_13, .float .f64 a0_14, .slice A0_15 l0_15.length c0_15, .slice A0_16 l0_16.length c0_16] 48 (0, 0)) (by (with_reducible repeat (first | refine blk_drewN ?_ _ | refine blk_drew ?_ | refine blk_alloc ?_ _)); exact BK244.out) hb); have n1_ := Aside0.mk (blk_below (g := gb245) (o := .cells #[.int .i64 a1_0, .int .i64 a1_1, .int .i64 a1_2, .int .i64 a1_3, .int .i64 a1_4, .int .i64 a1_5, .float .f64 a1_6, .slice A1_7 l1_7.length c1_7, .int .i64 a1_8, .int .i64 a1_9, .float .f64 a1_10, .slice A1_11 l1_11.length c1_11, .int .i64 a1_12, .int .i64 a1_13, .float .f64 a1_14, .slice A1_15 l1_15.length c1_15, .slice A1_16 l1_16.length c1_16] 48 (0, 0)) (by (with_reducible repeat (first | refine blk_drewN ?_ _ | refine blk_drew ?_ | refine blk_alloc ?_ _)); exact BK245.out) hb); have n2_ := Aside0.mk (below_step (by repeat (first | (with_reducible first | exact HB.out | apply below_alloc | apply pw_below_drewN | apply below_drew1 | refine below_set ?_ GE244.out | refine below_set ?_ GE245.out) | exact HB.out)) hb); clear BK244; clear BK245; clear HB; have BK244 := n0_; have BK245 := n1_; have HB := n2_; clear n0_ n1_ n2_; (try clear hb); (try clear hb2); (try clear hk); (try clear hi); have hcz21_0 : w20.cell? ⟨gb244, 0, none⟩ = some (.int .i64 a0_0) := (blk_cell BK244.out 0).trans rfl; have hcz21_1 : w20.cell? ⟨gb244, 1, none⟩ = some (.int .i64 a0_1) := (blk_cell BK244.out 1).trans rfl; have hcz21_2 : w20.cell? ⟨gb244, 2, none⟩ = some (.int .i64 a0_2) := (blk_cell BK244.out 2).trans rfl; have hcz21_3 : w20.cell? ⟨gb244, 3, none⟩ = some (.int .i64 a0_3) := (blk_cell BK244.out 3).trans rfl; have hcz21_4 : w20.cell? ⟨gb244, 4, none⟩ = some (.int .i64 a0_4) := (blk_cell BK244.out 4).trans rfl; have hcz21_5 : w20.cell? ⟨gb244, 5, none⟩ = some (.int .i64 a0_5) := (blk_cell BK244.out 5).trans rfl; have hcz21_6 : w20.cell? ⟨gb244, 6, none⟩ = some (.float .f64 a0_6) := (blk_cell BK244.out 6).trans rfl; have hcz21_7 : w20.cell? ⟨gb244, 7, none⟩ = some (.slice A0_7 l0_7.length c0_7) := (blk_cell BK244.out 7).trans rfl; have hcz21_8 : w20.cell? ⟨gb244, 8, none⟩ = some (.int .i64 a0_8) := (blk_cell BK244.out 8).trans rfl; have hcz21_9 : w20.cell? ⟨gb244, 9, none⟩ = some (.int .i64 a0_9) := (blk_cell BK244.out 9).trans rfl; have hcz21_10 : w20.cell? ⟨gb244, 10, none⟩ = some (.float .f64 a0_10) := (blk_cell BK244.out 10).trans rfl; have hcz21_11 : w20.cell? ⟨gb244, 11, none⟩ = some (.slice A0_11 l0_11.length c0_11) := (blk_cell BK244.out 11).trans rfl; have hcz21_12 : w20.cell? ⟨gb244, 12, none⟩ = some (.int .i64 a0_12) := (blk_cell BK244.out 12).trans rfl; have hcz21_13 : w20.cell? ⟨gb244, 13, none⟩ = some (.int .i64 a0_13) := (blk_cell BK244.out 13).trans rfl; have hcz21_14 : w20.cell? ⟨gb244, 14, none⟩ = some (.float .f64 a0_14) := (blk_cell BK244.out 14).trans rfl; have hcz21_15 : w20.cell? ⟨gb244, 15, none⟩ = some (.slice A0_15 l0_15.length c0_15) := (blk_cell BK244.out 15).trans rfl; have hcz21_16 : w20.cell? ⟨gb244, 16, none⟩ = some (.slice A0_16 l0_16.length c0_16) := (blk_cell BK244.out 16).trans rfl; have hfz21_0 := blk_frozen BK244.out 0; have hfz21_1 := blk_frozen BK244.out 1; have hfz21_2 := blk_frozen BK244.out 2; have hfz21_3 := blk_frozen BK244.out 3; have hfz21_4 := blk_frozen BK244.out 4; have hfz21_5 := blk_frozen BK244.out 5; have hfz21_6 := blk_frozen BK244.out 6; have hfz21_7 := blk_frozen BK244.out 7; have hfz21_8 := blk_frozen BK244.out 8; have hfz21_9 := blk_frozen BK244.out 9; have hfz21_10 := blk_frozen BK244.out 10; have hfz21_11 := blk_frozen BK244.out 11; have hfz21_12 := blk_frozen BK244.out 12; have hfz21_13 := blk_frozen BK244.out 13; have hfz21_14 := blk_frozen BK244.out 14; have hfz21_15 := blk_frozen BK244.out 15; have hfz21_16 := blk_frozen BK244.out 16; have hcz22_0 : w20.cell? ⟨gb245, 0, none⟩ = some (.int .i64 a1_0) := (blk_cell BK245.out 0).trans rfl; have hcz22_1 : w20.cell? ⟨gb245, 1, none⟩ = some (.int .i64 a1_1) := (blk_cell BK245.out 1).trans rfl; have hcz22_2 : w20.cell? ⟨gb245, 2, none⟩ = some (.int .i64 a1_2) := (blk_cell BK245.out 2).trans rfl; have hcz22_3 : w20.cell? ⟨gb245, 3, none⟩ = some (.int .i64 a1_3) := (blk_cell BK245.out 3).trans rfl; have hcz22_4 : w20.cell? ⟨gb245, 4, none⟩ = some (.int .i64 a1_4) := (blk_cell BK245.out 4).trans rfl; have hcz22_5 : w20.cell? ⟨gb245, 5, none⟩ = some (.int .i64 a1_5) := (blk_cell BK245.out 5).trans rfl; have hcz22_6 : w20.cell? ⟨gb245, 6, none⟩ = some (.float .f64 a1_6) := (blk_cell BK245.out 6).trans rfl; have hcz22_7 : w20.cell? ⟨gb245, 7, none⟩ = some (.slice A1_7 l1_7.length c1_7) := (blk_cell BK245.out 7).trans rfl; have hcz22_8 : w20.cell? ⟨gb245, 8, none⟩ = some (.int .i64 a1_8) := (blk_cell BK245.out 8).trans rfl; have hcz22_9 : w20.cell? ⟨gb245, 9, none⟩ = some (.int .i64 a1_9) := (blk_cell BK245.out 9).trans rfl; have hcz22_10 : w20.cell? ⟨gb245, 10, none⟩ = some (.float .f64 a1_10) := (blk_cell BK245.out 10).trans rfl; have hcz22_11 : w20.cell? ⟨gb245, 11, none⟩ = some (.slice A1_11 l1_11.length c1_11) := (blk_cell BK245.out 11).trans rfl; have hcz22_12 : w20.cell? ⟨gb245, 12, none⟩ = some (.int .i64 a1_12) := (blk_cell BK245.out 12).trans rfl; have hcz22_13 : w20.cell? ⟨gb245, 13, none⟩ = some (.int .i64 a1_13) := (blk_cell BK245.out 13).trans rfl; have hcz22_14 : w20.cell? ⟨gb245, 14, none⟩ = some (.float .f64 a1_14) := (blk_cell BK245.out 14).trans rfl; have hcz22_15 : w20.cell? ⟨gb245, 15, none⟩ = some (.slice A1_15 l1_15.length c1_15) := (blk_cell BK245.out 15).trans rfl; have hcz22_16 : w20.cell? ⟨gb245, 16, none⟩ = some (.slice A1_16 l1_16.length c1_16) := (blk_cell BK245.out 16).trans rfl; have hfz22_0 := blk_frozen BK245.out 0; have hfz22_1 := blk_frozen BK245.out 1; have hfz22_2 := blk_frozen BK245.out 2; have hfz22_3 := blk_frozen BK245.out 3; have hfz22_4 := blk_frozen BK245.out 4; have hfz22_5 := blk_frozen BK245.out 5; have hfz22_6 := blk_frozen BK245.out 6; have hfz22_7 := blk_frozen BK245.out 7; have hfz22_8 := blk_frozen BK245.out 8; have hfz22_9 := blk_frozen BK245.out 9; have hfz22_10 := blk_frozen BK245.out 10; have hfz22_11 := blk_frozen BK245.out 11; have hfz22_12 := blk_frozen BK245.out 12; have hfz22_13 := blk_frozen BK245.out 13; have hfz22_14 := blk_frozen BK245.out 14; have hfz22_15 := blk_frozen BK245.out 15; have hfz22_16 := blk_frozen BK245.out 16) | ((with_reducible refine gate_callee (f := 17) rfl ?_); refine goesL_ (some 35) rfl rfl Try.func17 (by kernel_rfl) rfl #[.agg #[.int .i64 a0_8, .int .i64 a0_9, .float .f64 a0_10, .slice A0_11 l0_11.length c0_11], .agg #[.int .i64 a1_8, .int .i64 a1_9, .float .f64 a1_10, .slice A1_11 l1_11.length c1_11]] rfl (by (try simp only [List.map_toArray, List.map_cons, List.map_nil]); first | done | rfl | (simp only [List.length_drop, List.length_take]; rfl)) ?_; (with_reducible refine (laws_eqItem.calls k a0_8 a0_9 a0_10 _ _ l0_11 a1_8 a1_9 a1_10 _ _ l1_11 true _ ?side1 ?side2 ?side3 ?side4 A9.out rfl).mono ?_); (case side1 => repeat (first | exact (Kd.C_below HR0_11.out HB.out) | (with_reducible refine Kd.C_alloc ?_ _) | (with_reducible refine Kd.C_drewN ?_ _) | (with_reducible refine Kd.C_drew ?_))); (case side2 => exact HC0_11.out); (case side3 => repeat (first | exact (Kd.C_below HR1_11.out HB.out) | (with_reducible refine Kd.C_alloc ?_ _) | (with_reducible refine Kd.C_drewN ?_ _) | (with_reducible refine Kd.C_drew ?_))); (case side4 => exact HC1_11.out); rintro e w23 ⟨rfl, hb⟩; refine ⟨_, rfl, ?_⟩; have n0_ := Aside0.mk (blk_below (g := gb244) (o := .cells #[.int .i64 a0_0, .int .i64 a0_1, .int .i64 a0_2, .int .i64 a0_3, .int .i64 a0_4, .int .i64 a0_5, .float .f64 a0_6, .slice A0_7 l0_7.length c0_7, .int .i64 a0_8, .int .i64 a0_9, .float .f64 a0_10, .slice A0_11 l0_11.length c0_11, .int .i64 a0_12, .int .i64 a0_13, .float .f64 a0_14, .slice A0_15 l0_15.length c0_15, .slice A0_16 l0_16.length c0_16] 48 (0, 0)) (by (with_reducible repeat (first | refine blk_drewN ?_ _ | refine blk_drew ?_ | refine blk_alloc ?_ _)); exact BK244.out) hb); have n1_ := Aside0.mk (blk_below (g := gb245) (o := .cells #[.int .i64 a1_0, .int .i64 a1_1, .int .i64 a1_2, .int .i64 a1_3, .int .i64 a1_4, .int .i64 a1_5, .float .f64 a1_6, .slice A1_7 l1_7.length c1_7, .int .i64 a1_8, .int .i64 a1_9, .float .f64 a1_10, .slice A1_11 l1_11.length c1_11, .int .i64 a1_12, .int .i64 a1_13, .float .f64 a1_14, .slice A1_15 l1_15.length c1_15, .slice A1_16 l1_16.length c1_16] 48 (0, 0)) (by (with_reducible repeat (first | refine blk_drewN ?_ _ | refine blk_drew ?_ | refine blk_alloc ?_ _)); exact BK245.out) hb); have n2_ := Aside0.mk (below_step (by repeat (first | (with_reducible first | exact HB.out | apply below_alloc | apply pw_below_drewN | apply below_drew1 | refine below_set ?_ GE244.out | refine below_set ?_ GE245.out) | exact HB.out)) hb); clear BK244; clear BK245; clear HB; have BK244 := n0_; have BK245 := n1_; have HB := n2_; clear n0_ n1_ n2_; (try clear hb); (try clear hb2); (try clear hk); (try clear hi); have hcz24_0 : w23.cell? ⟨gb244, 0, none⟩ = some (.int .i64 a0_0) := (blk_cell BK244.out 0).trans rfl; have hcz24_1 : w23.cell? ⟨gb244, 1, none⟩ = some (.int .i64 a0_1) := (blk_cell BK244.out 1).trans rfl; have hcz24_2 : w23.cell? ⟨gb244, 2, none⟩ = some (.int .i64 a0_2) := (blk_cell BK244.out 2).trans rfl; have hcz24_3 : w23.cell? ⟨gb244, 3, none⟩ = some (.int .i64 a0_3) := (blk_cell BK244.out 3).trans rfl; have hcz24_4 : w23.cell? ⟨gb244, 4, none⟩ = some (.int .i64 a0_4) := (blk_cell BK244.out 4).trans rfl; have hcz24_5 : w23.cell? ⟨gb244, 5, none⟩ = some (.int .i64 a0_5) := (blk_cell BK244.out 5).trans rfl; have hcz24_6 : w23.cell? ⟨gb244, 6, none⟩ = some (.float .f64 a0_6) := (blk_cell BK244.out 6).trans rfl; have hcz24_7 : w23.cell? ⟨gb244, 7, none⟩ = some (.slice A0_7 l0_7.length c0_7) := (blk_cell BK244.out 7).trans rfl; have hcz24_8 : w23.cell? ⟨gb244, 8, none⟩ = some (.int .i64 a0_8) := (blk_cell BK244.out 8).trans rfl; have hcz24_9 : w23.cell? ⟨gb244, 9, none⟩ = some (.int .i64 a0_9) := (blk_cell BK244.out 9).trans rfl; have hcz24_10 : w23.cell? ⟨gb244, 10, none⟩ = some (.float .f64 a0_10) := (blk_cell BK244.out 10).trans rfl; have hcz24_11 : w23.cell? ⟨gb244, 11, none⟩ = some (.slice A0_11 l0_11.length c0_11) := (blk_cell BK244.out 11).trans rfl; have hcz24_12 : w23.cell? ⟨gb244, 12, none⟩ = some (.int .i64 a0_12) := (blk_cell BK244.out 12).trans rfl; have hcz24_13 : w23.cell? ⟨gb244, 13, none⟩ = some (.int .i64 a0_13) := (blk_cell BK244.out 13).trans rfl; have hcz24_14 : w23.cell? ⟨gb244, 14, none⟩ = some (.float .f64 a0_14) := (blk_cell BK244.out 14).trans rfl; have hcz24_15 : w23.cell? ⟨gb244, 15, none⟩ = some (.slice A0_15 l0_15.length c0_15) := (blk_cell BK244.out 15).trans rfl; have hcz24_16 : w23.cell? ⟨gb244, 16, none⟩ = some (.slice A0_16 l0_16.length c0_16) := (blk_cell BK244.out 16).trans rfl; have hfz24_0 := blk_frozen BK244.out 0; have hfz24_1 := blk_frozen BK244.out 1; have hfz24_2 := blk_frozen BK244.out 2; have hfz24_3 := blk_frozen BK244.out 3; have hfz24_4 := blk_frozen BK244.out 4; have hfz24_5 := blk_frozen BK244.out 5; have hfz24_6 := blk_frozen BK244.out 6; have hfz24_7 := blk_frozen BK244.out 7; have hfz24_8 := blk_frozen BK244.out 8; have hfz24_9 := blk_frozen BK244.out 9; have hfz24_10 := blk_frozen BK244.out 10; have hfz24_11 := blk_frozen BK244.out 11; have hfz24_12 := blk_frozen BK244.out 12; have hfz24_13 := blk_frozen BK244.out 13; have hfz24_14 := blk_frozen BK244.out 14; have hfz24_15 := blk_frozen BK244.out 15; have hfz24_16 := blk_frozen BK244.out 16; have hcz25_0 : w23.cell? ⟨gb245, 0, none⟩ = some (.int .i64 a1_0) := (blk_cell BK245.out 0).trans rfl; have hcz25_1 : w23.cell? ⟨gb245, 1, none⟩ = some (.int .i64 a1_1) := (blk_cell BK245.out 1).trans rfl; have hcz25_2 : w23.cell? ⟨gb245, 2, none⟩ = some (.int .i64 a1_2) := (blk_cell BK245.out 2).trans rfl; have hcz25_3 : w23.cell? ⟨gb245, 3, none⟩ = some (.int .i64 a1_3) := (blk_cell BK245.out 3).trans rfl; have hcz25_4 : w23.cell? ⟨gb245, 4, none⟩ = some (.int .i64 a1_4) := (blk_cell BK245.out 4).trans rfl; have hcz25_5 : w23.cell? ⟨gb245, 5, none⟩ = some (.int .i64 a1_5) := (blk_cell BK245.out 5).trans rfl; have hcz25_6 : w23.cell? ⟨gb245, 6, none⟩ = some (.float .f64 a1_6) := (blk_cell BK245.out 6).trans rfl; have hcz25_7 : w23.cell? ⟨gb245, 7, none⟩ = some (.slice A1_7 l1_7.length c1_7) := (blk_cell BK245.out 7).trans rfl; have hcz25_8 : w23.cell? ⟨gb245, 8, none⟩ = some (.int .i64 a1_8) := (blk_cell BK245.out 8).trans rfl; have hcz25_9 : w23.cell? ⟨gb245, 9, none⟩ = some (.int .i64 a1_9) := (blk_cell BK245.out 9).trans rfl; have hcz25_10 : w23.cell? ⟨gb245, 10, none⟩ = some (.float .f64 a1_10) := (blk_cell BK245.out 10).trans rfl; have hcz25_11 : w23.cell? ⟨gb245, 11, none⟩ = some (.slice A1_11 l1_11.length c1_11) := (blk_cell BK245.out 11).trans rfl; have hcz25_12 : w23.cell? ⟨gb245, 12, none⟩ = some (.int .i64 a1_12) := (blk_cell BK245.out 12).trans rfl; have hcz25_13 : w23.cell? ⟨gb245, 13, none⟩ = some (.int .i64 a1_13) := (blk_cell BK245.out 13).trans rfl; have hcz25_14 : w23.cell? ⟨gb245, 14, none⟩ = some (.float .f64 a1_14) := (blk_cell BK245.out 14).trans rfl; have hcz25_15 : w23.cell? ⟨gb245, 15, none⟩ = some (.slice A1_15 l1_15.length c1_15) := (blk_cell BK245.out 15).trans rfl; have hcz25_16 : w23.cell? ⟨gb245, 16, none⟩ = some (.slice A1_16 l1_16.length c1_16) := (blk_cell BK245.out 16).trans rfl; have hfz25_0 := blk_frozen BK245.out 0; have hfz25_1 := blk_frozen BK245.out 1; have hfz25_2 := blk_frozen BK245.out 2; have hfz25_3 := blk_frozen BK245.out 3; have hfz25_4 := blk_frozen BK245.out 4; have hfz25_5 := blk_frozen BK245.out 5; have hfz25_6 := blk_frozen BK245.out 6; have hfz25_7 := blk_frozen BK245.out 7; have hfz25_8 := blk_frozen BK245.out 8; have hfz25_9 := blk_frozen BK245.out 9; have hfz25_10 := blk_frozen BK245.out 10; have hfz25_11 := blk_frozen BK245.out 11; have hfz25_12 := blk_frozen BK245.out 12; have hfz25_13 := blk_frozen BK245.out 13; have hfz25_14 := blk_frozen BK245.out 14; have hfz25_15 := blk_frozen BK245.out 15; have hfz25_16 := blk_frozen BK245.out 16) | ((with_reducible refine gate_callee (f := 17) rfl ?_); refine goesL_ (some 41) rfl rfl Try.func17 (by kernel_rfl) rfl #[.agg #[.int .i64 a0_12, .int .i64 a0_13, .float .f64 a0_14, .slice A0_15 l0_15.length c0_15], .agg #[.int .i64 a1_12, .int .i64 a1_13, .float .f64 a1_14, .slice A1_15 l1_15.length c1_15]] rfl (by (try simp only [List.map_toArray, List.map_cons, List.map_nil]); first | done | rfl | (simp only [List.length_drop, List.length_take]; rfl)) ?_; (with_reducible refine (laws_eqItem.calls k a0_12 a0_13 a0_14 _ _ l0_15 a1_12 a1_13 a1_14 _ _ l1_15 true _ ?side1 ?side2 ?side3 ?side4 A11.out rfl).mono ?_); (case side1 => repeat (first | exact (Kd.C_below HR0_15.out HB.out) | (with_reducible refine Kd.C_alloc ?_ _) | (with_reducible refine Kd.C_drewN ?_ _) | (with_reducible refine Kd.C_drew ?_))); (case side2 => exact HC0_15.out); (case side3 => repeat (first | exact (Kd.C_below HR1_15.out HB.out) | (with_reducible refine Kd.C_alloc ?_ _) | (with_reducible refine Kd.C_drewN ?_ _) | (with_reducible refine Kd.C_drew ?_))); (case side4 => exact HC1_15.out); rintro e w26 ⟨rfl, hb⟩; refine ⟨_, rfl, ?_⟩; have n0_ := Aside0.mk (blk_below (g := gb244) (o := .cells #[.int .i64 a0_0, .int .i64 a0_1, .int .i64 a0_2, .int .i64 a0_3, .int .i64 a0_4, .int .i64 a0_5, .float .f64 a0_6, .slice A0_7 l0_7.length c0_7, .int .i64 a0_8, .int .i64 a0_9, .float .f64 a0_10, .slice A0_11 l0_11.length c0_11, .int .i64 a0_12, .int .i64 a0_13, .float .f64 a0_14, .slice A0_15 l0_15.length c0_15, .slice A0_16 l0_16.length c0_16] 48 (0, 0)) (by (with_reducible repeat (first | refine blk_drewN ?_ _ | refine blk_drew ?_ | refine blk_alloc ?_ _)); exact BK244.out) hb); have n1_ := Aside0.mk (blk_below (g := gb245) (o := .cells #[.int .i64 a1_0, .int .i64 a1_1, .int .i64 a1_2, .int .i64 a1_3, .int .i64 a1_4, .int .i64 a1_5, .float .f64 a1_6, .slice A1_7 l1_7.length c1_7, .int .i64 a1_8, .int .i64 a1_9, .float .f64 a1_10, .slice A1_11 l1_11.length c1_11, .int .i64 a1_12, .int .i64 a1_13, .float .f64 a1_14, .slice A1_15 l1_15.length c1_15, .slice A1_16 l1_16.length c1_16] 48 (0, 0)) (by (with_reducible repeat (first | refine blk_drewN ?_ _ | refine blk_drew ?_ | refine blk_alloc ?_ _)); exact BK245.out) hb); have n2_ := Aside0.mk (below_step (by repeat (first | (with_reducible first | exact HB.out | apply below_alloc | apply pw_below_drewN | apply below_drew1 | refine below_set ?_ GE244.out | refine below_set ?_ GE245.out) | exact HB.out)) hb); clear BK244; clear BK245; clear HB; have BK244 := n0_; have BK245 := n1_; have HB := n2_; clear n0_ n1_ n2_; (try clear hb); (try clear hb2); (try clear hk); (try clear hi); have hcz27_0 : w26.cell? ⟨gb244, 0, none⟩ = some (.int .i64 a0_0) := (blk_cell BK244.out 0).trans rfl; have hcz27_1 : w26.cell? ⟨gb244, 1, none⟩ = some (.int .i64 a0_1) := (blk_cell BK244.out 1).trans rfl; have hcz27_2 : w26.cell? ⟨gb244, 2, none⟩ = some (.int .i64 a0_2) := (blk_cell BK244.out 2).trans rfl; have hcz27_3 : w26.cell? ⟨gb244, 3, none⟩ = some (.int .i64 a0_3) := (blk_cell BK244.out 3).trans rfl; have hcz27_4 : w26.cell? ⟨gb244, 4, none⟩ = some (.int .i64 a0_4) := (blk_cell BK244.out 4).trans rfl; have hcz27_5 : w26.cell? ⟨gb244, 5, none⟩ = some (.int .i64 a0_5) := (blk_cell BK244.out 5).trans rfl; have hcz27_6 : w26.cell? ⟨gb244, 6, none⟩ = some (.float .f64 a0_6) := (blk_cell BK244.out 6).trans rfl; have hcz27_7 : w26.cell? ⟨gb244, 7, none⟩ = some (.slice A0_7 l0_7.length c0_7) := (blk_cell BK244.out 7).trans rfl; have hcz27_8 : w26.cell? ⟨gb244, 8, none⟩ = some (.int .i64 a0_8) := (blk_cell BK244.out 8).trans rfl; have hcz27_9 : w26.cell? ⟨gb244, 9, none⟩ = some (.int .i64 a0_9) := (blk_cell BK244.out 9).trans rfl; have hcz27_10 : w26.cell? ⟨gb244, 10, none⟩ = some (.float .f64 a0_10) := (blk_cell BK244.out 10).trans rfl; have hcz27_11 : w26.cell? ⟨gb244, 11, none⟩ = some (.slice A0_11 l0_11.length c0_11) := (blk_cell BK244.out 11).trans rfl; have hcz27_12 : w26.cell? ⟨gb244, 12, none⟩ = some (.int .i64 a0_12) := (blk_cell BK244.out 12).trans rfl; have hcz27_13 : w26.cell? ⟨gb244, 13, none⟩ = some (.int .i64 a0_13) := (blk_cell BK244.out 13).trans rfl; have hcz27_14 : w26.cell? ⟨gb244, 14, none⟩ = some (.float .f64 a0_14) := (blk_cell BK244.out 14).trans rfl; have hcz27_15 : w26.cell? ⟨gb244, 15, none⟩ = some (.slice A0_15 l0_15.length c0_15) := (blk_cell BK244.out 15).trans rfl; have hcz27_16 : w26.cell? ⟨gb244, 16, none⟩ = some (.slice A0_16 l0_16.length c0_16) := (blk_cell BK244.out 16).trans rfl; have hfz27_0 := blk_frozen BK244.out 0; have hfz27_1 := blk_frozen BK244.out 1; have hfz27_2 := blk_frozen BK244.out 2; have hfz27_3 := blk_frozen BK244.out 3; have hfz27_4 := blk_frozen BK244.out 4; have hfz27_5 := blk_frozen BK244.out 5; have hfz27_6 := blk_frozen BK244.out 6; have hfz27_7 := blk_frozen BK244.out 7; have hfz27_8 := blk_frozen BK244.out 8; have hfz27_9 := blk_frozen BK244.out 9; have hfz27_10 := blk_frozen BK244.out 10; have hfz27_11 := blk_frozen BK244.out 11; have hfz27_12 := blk_frozen BK244.out 12; have hfz27_13 := blk_frozen BK244.out 13; have hfz27_14 := blk_frozen BK244.out 14; have hfz27_15 := blk_frozen BK244.out 15; have hfz27_16 := blk_frozen BK244.out 16; have hcz28_0 : w26.cell? ⟨gb245, 0, none⟩ = some (.int .i64 a1_0) := (blk_cell BK245.out 0).trans rfl; have hcz28_1 : w26.cell? ⟨gb245, 1, none⟩ = some (.int .i64 a1_1) := (blk_cell BK245.out 1).trans rfl; have hcz28_2 : w26.cell? ⟨gb245, 2, none⟩ = some (.int .i64 a1_2) := (blk_cell BK245.out 2).trans rfl; have hcz28_3 : w26.cell? ⟨gb245, 3, none⟩ = some (.int .i64 a1_3) := (blk_cell BK245.out 3).trans rfl; have hcz28_4 : w26.cell? ⟨gb245, 4, none⟩ = some (.int .i64 a1_4) := (blk_cell BK245.out 4).trans rfl; have hcz28_5 : w26.cell? ⟨gb245, 5, none⟩ = some (.int .i64 a1_5) := (blk_cell BK245.out 5).trans rfl; have hcz28_6 : w26.cell? ⟨gb245, 6, none⟩ = some (.float .f64 a1_6) := (blk_cell BK245.out 6).trans rfl; have hcz28_7 : w26.cell? ⟨gb245, 7, none⟩ = some (.slice A1_7 l1_7.length c1_7) := (blk_cell BK245.out 7).trans rfl; have hcz28_8 : w26.cell? ⟨gb245, 8, none⟩ = some (.int .i64 a1_8) := (blk_cell BK245.out 8).trans rfl; have hcz28_9 : w26.cell? ⟨gb245, 9, none⟩ = some (.int .i64 a1_9) := (blk_cell BK245.out 9).trans rfl; have hcz28_10 : w26.cell? ⟨gb245, 10, none⟩ = some (.float .f64 a1_10) := (blk_cell BK245.out 10).trans rfl; have hcz28_11 : w26.cell? ⟨gb245, 11, none⟩ = some (.slice A1_11 l1_11.length c1_11) := (blk_cell BK245.out 11).trans rfl; have hcz28_12 : w26.cell? ⟨gb245, 12, none⟩ = some (.int .i64 a1_12) := (blk_cell BK245.out 12).trans rfl; have hcz28_13 : w26.cell? ⟨gb245, 13, none⟩ = some (.int .i64 a1_13) := (blk_cell BK245.out 13).trans rfl; have hcz28_14 : w26.cell? ⟨gb245, 14, none⟩ = some (.float .f64 a1_14) := (blk_cell BK245.out 14).trans rfl; have hcz28_15 : w26.cell? ⟨gb245, 15, none⟩ = some (.slice A1_15 l1_15.length c1_15) := (blk_cell BK245.out 15).trans rfl; have hcz28_16 : w26.cell? ⟨gb245, 16, none⟩ = some (.slice A1_16 l1_16.length c1_16) := (blk_cell BK245.out 16).trans rfl; have hfz28_0 := blk_frozen BK245.out 0; have hfz28_1 := blk_frozen BK245.out 1; have hfz28_2 := blk_frozen BK245.out 2; have hfz28_3 := blk_frozen BK245.out 3; have hfz28_4 := blk_frozen BK245.out 4; have hfz28_5 := blk_frozen BK245.out 5; have hfz28_6 := blk_frozen BK245.out 6; have hfz28_7 := blk_frozen BK245.out 7; have hfz28_8 := blk_frozen BK245.out 8; have hfz28_9 := blk_frozen BK245.out 9; have hfz28_10 := blk_frozen BK245.out 10; have hfz28_11 := blk_frozen BK245.out 11; have hfz28_12 := blk_frozen BK245.out 12; have hfz28_13 := blk_frozen BK245.out 13; have hfz28_14 := blk_frozen BK245.out 14; have hfz28_15 := blk_frozen BK245.out 15; have hfz28_16 := blk_frozen BK245.out 16) | ((with_reducible refine gate_callee (f := 80) rfl ?_); refine goesL_ (some 47) rfl rfl Try.func80 (by kernel_rfl) rfl #[.slice A0_16 l0_16.length c0_16, .slice A1_16 l1_16.length c1_16] rfl (by (try simp only [List.map_toArray, List.map_cons, List.map_nil]); first | done | rfl | (simp only [List.length_drop, List.length_take]; rfl)) ?_; (with_reducible refine (laws_eqBoolS.calls k _ _ l0_16 _ _ l1_16 true _ ?side1 ?side2 ?side3 ?side4 A13.out rfl).mono ?_); (case side1 => repeat (first | exact (Kd.C_below HR0_16.out HB.out) | (with_reducible refine Kd.C_alloc ?_ _) | (with_reducible refine Kd.C_drewN ?_ _) | (with_reducible refine Kd.C_drew ?_))); (case side2 => exact HC0_16.out); (case side3 => repeat (first | exact (Kd.C_below HR1_16.out HB.out) | (with_reducible refine Kd.C_alloc ?_ _) | (with_reducible refine Kd.C_drewN ?_ _) | (with_reducible refine Kd.C_drew ?_))); (case side4 => exact HC1_16.out); rintro e w' ⟨rfl, ⟨nd, rfl⟩⟩; refine ⟨_, rfl, ?_⟩))
                  go_ret
                  exact ⟨by first | rfl | (simp [errW_none, errW_some] <;> rfl) | (simp [*, errW_none, errW_some] <;> rfl), by repeat (first | (with_reducible first | exact HB.out | apply below_alloc | apply pw_below_drewN | apply below_drew1 | refine below_set ?_ GE244.out | refine below_set ?_ GE245.out) | exact HB.out)⟩
                · replace c14 := Bool.eq_false_iff.mpr c14
                  subst c14
                  have H1 : (some false) = some r := by rw [if_neg (show ¬ (false = true) by decide)] at H; exact H
                  clear H
                  have H := H1
                  clear H1
                  exact absurd (Option.some.inj H) (by rw [hrt]; decide)
              · replace c12 := Bool.eq_false_iff.mpr c12
                subst c12
                have H1 : (some false) = some r := by rw [if_neg (show ¬ (false = true) by decide)] at H; exact H
                clear H
                have H := H1
                clear H1
                exact absurd (Option.some.inj H) (by rw [hrt]; decide)
            · replace c10 := Bool.eq_false_iff.mpr c10
              subst c10
              have H1 : (some false) = some r := by rw [if_neg (show ¬ (false = true) by decide)] at H; exact H
              clear H
              have H := H1
              clear H1
              exact absurd (Option.some.inj H) (by rw [hrt]; decide)
          · replace c8 := Bool.eq_false_iff.mpr c8
            subst c8
            have H1 : (some false) = some r := by rw [if_neg (show ¬ (false = true) by decide)] at H; exact H
            clear H
            have H := H1
            clear H1
            exact absurd (Option.some.inj H) (by rw [hrt]; decide)
        · rw [if_neg c6] at H
          have c6b0 : (a0_3 == a1_3) = false := beq_eq_false_iff_ne.mpr c6
          have c6b1 : (a0_3 != a1_3) = true := bne_iff_ne.mpr c6
          exact absurd (Option.some.inj H) (by rw [hrt]; decide)
      · rw [if_neg c5] at H
        have c5b0 : (a0_2 == a1_2) = false := beq_eq_false_iff_ne.mpr c5
        have c5b1 : (a0_2 != a1_2) = true := bne_iff_ne.mpr c5
        exact absurd (Option.some.inj H) (by rw [hrt]; decide)
    · rw [if_neg c4] at H
      have c4b0 : (a0_1 == a1_1) = false := beq_eq_false_iff_ne.mpr c4
      have c4b1 : (a0_1 != a1_1) = true := bne_iff_ne.mpr c4
      exact absurd (Option.some.inj H) (by rw [hrt]; decide)
  · rw [if_neg c3] at H
    have c3b0 : (a0_0 == a1_0) = false := beq_eq_false_iff_ne.mpr c3
    have c3b1 : (a0_0 != a1_0) = true := bne_iff_ne.mpr c3
    exact absurd (Option.some.inj H) (by rw [hrt]; decide)

end Go.Proofs.Ytjmlbkhcjgehdaa.PFnExactOpOk
