-- Written by hv.py, a program of this session's own, over the kit's print: FnExactOpOk
import Derived.Test.YtjmlbkhcjgehdaaPFnExactOpOkx0
import Derived.Test.YtjmlbkhcjgehdaaPFnExactOpOkx1
namespace Go.Proofs.Ytjmlbkhcjgehdaa.PFnExactOpOk
open Go.RowKit Go.Proofs.YtjmlbkhcjgehdaaW.PrintWords Go.Proofs.YtjmlbkhcjgehdaaW.PrintLast Go.Proofs.YtjmlbkhcjgehdaaW.PrintMore Go.Proofs.Ytjmlbkhcjgehdaa.HFl Go.Proofs.Ytjmlbkhcjgehdaa.HMap Go.Proofs.Ytjmlbkhcjgehdaa.HMore Go.Proofs.Ytjmlbkhcjgehdaa
attribute [local go_sem] max2_int min2_int max_two min_two max_three min_three max_four min_four   -- for this text's walks alone
set_option linter.unusedVariables false
set_option linter.unusedSimpArgs false

/-! ### spec_ItemOk: function 61 -/
mutual
def spec_ItemOk.j0 : Nat → Bool → Int → Int → Nat → List Int → Option (Bool)
  | 0, _, _, _, _, _ => none
  | k + 1, x16, x109000, x109001, x109002, x109003 => if x16 = true then (some false) else (if x109000 = 1 then (spec_ItemOk.j1 k false x109000 x109001 x109002 x109003) else (spec_ItemOk.j1 k (x109001 != 0) x109000 x109001 x109002 x109003))
def spec_ItemOk.j1 : Nat → Bool → Int → Int → Nat → List Int → Option (Bool)
  | 0, _, _, _, _, _ => none
  | k + 1, x24, x109000, x109001, x109002, x109003 => if x24 = true then (some false) else (if x109000 = 2 then (if x109000 = 3 then (some true) else (some ((x109003.length : Int) == 0))) else ((spec_FloatBits.f x109002).bind fun t109 => (if t109 = 0 then (if x109000 = 3 then (some true) else (some ((x109003.length : Int) == 0))) else (some false))))
end
def spec_ItemOk.f (k : Nat) (a0_0 : Int) (a0_1 : Int) (a0_2 : Nat) (l0_3 : List Int) : Option (Bool) := if a0_0 < 0 then (spec_ItemOk.j0 k true a0_0 a0_1 a0_2 l0_3) else (if a0_0 > 3 then (spec_ItemOk.j0 k true a0_0 a0_1 a0_2 l0_3) else (spec_ItemOk.j0 k (decide ((l0_3.length : Int) > 40)) a0_0 a0_1 a0_2 l0_3))
theorem spec_ItemOk.mono_l : ∀ k, (∀ y0 y1 y2 y3 y4, LeO (spec_ItemOk.j0 k y0 y1 y2 y3 y4) (spec_ItemOk.j0 (k + 1) y0 y1 y2 y3 y4)) ∧ (∀ y0 y1 y2 y3 y4, LeO (spec_ItemOk.j1 k y0 y1 y2 y3 y4) (spec_ItemOk.j1 (k + 1) y0 y1 y2 y3 y4))
  | 0 => ⟨fun _ _ _ _ _ r h => by simp [spec_ItemOk.j0] at h, fun _ _ _ _ _ r h => by simp [spec_ItemOk.j1] at h⟩
  | k + 1 => by
    obtain ⟨ih0, ih1⟩ := spec_ItemOk.mono_l k
    refine ⟨?_, ?_⟩
    · intro y0 y1 y2 y3 y4
      unfold spec_ItemOk.j0
      repeat' first
      | (with_reducible exact ih0 _ _ _ _ _)
      | (with_reducible exact ih1 _ _ _ _ _)
      | (with_reducible exact LeO.refl _)
      | (with_reducible exact LeO.none _)
      | (with_reducible refine LeO.ite ?_ ?_)
      | (with_reducible refine LeO.bind ?_ (fun _ => ?_))
      | exact ih0 _ _ _ _ _
      | exact ih1 _ _ _ _ _
      | exact LeO.none _
      | refine LeO.ite ?_ ?_
      | refine LeO.bind ?_ (fun _ => ?_)
    · intro y0 y1 y2 y3 y4
      unfold spec_ItemOk.j1
      repeat' first
      | (with_reducible exact ih0 _ _ _ _ _)
      | (with_reducible exact ih1 _ _ _ _ _)
      | (with_reducible exact LeO.refl _)
      | (with_reducible exact LeO.none _)
      | (with_reducible refine LeO.ite ?_ ?_)
      | (with_reducible refine LeO.bind ?_ (fun _ => ?_))
      | exact ih0 _ _ _ _ _
      | exact ih1 _ _ _ _ _
      | exact LeO.none _
      | refine LeO.ite ?_ ?_
      | refine LeO.bind ?_ (fun _ => ?_)
theorem spec_ItemOk.mono : ∀ a0 a1 a2 a3 k, LeO (spec_ItemOk.f k a0 a1 a2 a3) (spec_ItemOk.f (k + 1) a0 a1 a2 a3) := by
  intro a0 a1 a2 a3 k
  obtain ⟨ih0, ih1⟩ := spec_ItemOk.mono_l k
  unfold spec_ItemOk.f
  repeat' first
      | (with_reducible exact ih0 _ _ _ _ _)
      | (with_reducible exact ih1 _ _ _ _ _)
      | (with_reducible exact LeO.refl _)
      | (with_reducible exact LeO.none _)
      | (with_reducible refine LeO.ite ?_ ?_)
      | (with_reducible refine LeO.bind ?_ (fun _ => ?_))
      | exact ih0 _ _ _ _ _
      | exact ih1 _ _ _ _ _
      | exact LeO.none _
      | refine LeO.ite ?_ ?_
      | refine LeO.bind ?_ (fun _ => ?_)
set_option maxHeartbeats 8000000 in
set_option maxRecDepth 100000 in
theorem spec_ItemOk.calls (k : Nat) (a0_0 : Int) (a0_1 : Int) (a0_2 : Nat) (A0_3 : Option Addr) (c0_3 : Nat) (l0_3 : List Int) (r : Bool) (w : World) (hr0_3 : Kd.C (Kd.int .u8) w A0_3 l0_3.length l0_3) (hc0_3 : l0_3.length ≤ c0_3) (h : spec_ItemOk.f k a0_0 a0_1 a0_2 l0_3 = some r) :
    Calls Try.prog 61 #[.agg #[.int .i64 a0_0, .int .i64 a0_1, .float .f64 a0_2, .slice A0_3 l0_3.length c0_3]] w fun e w' => e = .returned (.bool r) ∧ Below w.heap.size w w' := by
  have hu27 := Try.underlying27
  have HR0_3 := Aside0.mk hr0_3
  have HC0_3 := Aside0.mk hc0_3
  clear hr0_3 hc0_3
  have HB := Aside0.mk (Below.refl w.heap.size w)
  have H : (if a0_0 < 0 then (spec_ItemOk.j0 k true a0_0 a0_1 a0_2 l0_3) else (if a0_0 > 3 then (spec_ItemOk.j0 k true a0_0 a0_1 a0_2 l0_3) else (spec_ItemOk.j0 k (decide ((l0_3.length : Int) > 40)) a0_0 a0_1 a0_2 l0_3))) = some r := h
  clear h
  have HC2 := Aside0.mk H
  clear H
  go_enter Try.func61, Try.ntmps61
  go_upto_region 1 with (first | ((with_reducible refine gate_dst (N := 1) rfl ?_); (try (refine gate_guard (by rfl) ?_; dsimp only)); refine box_event ?hg (N := 1) ?hd (cs := #[.int .i64 a0_0, .int .i64 a0_1, .float .f64 a0_2, .slice A0_3 l0_3.length c0_3]) (t := 27) ?hr ?_; (case hd => rfl); (case hg => rfl); (case hr => first | (go_simp; done) | (go_simp; rfl)); intro gb108 hg w3 hbox hb; have n0_ := Aside0.mk (below_step (by repeat (first | (with_reducible first | exact HB.out | apply below_alloc | apply pw_below_drewN | apply below_drew1) | exact HB.out)) hb); have n1_ := Aside0.mk (hbox); have n2_ := Aside0.mk ((by rw [hg]; exact (below_size (by repeat (first | (with_reducible first | exact HB.out | apply below_alloc | apply pw_below_drewN | apply below_drew1) | exact HB.out))) : w.heap.size ≤ gb108)); have n3_ := Aside0.mk ((by rw [hg]; exact (below_size (by repeat (first | (with_reducible first | exact HB.out | apply below_alloc | apply pw_below_drewN | apply below_drew1) | exact HB.out))) : w.heap.size ≤ gb108)); clear HB; have HB := n0_; have BK108 := n1_; have GW108 := n2_; have GE108 := n3_; clear n0_ n1_ n2_ n3_; clear hb hbox hg))
  (try simp only [Act.put, List.setIfInBounds_toArray, List.set_cons_zero, List.set_cons_succ])
  go_cut [16] (fun v16 wc => ∃ (kq : Nat) (x16_1 : Bool), v16 = .bool x16_1 ∧ Aside0 (spec_ItemOk.j0 kq x16_1 a0_0 a0_1 a0_2 l0_3 = some r) ∧ Aside0 (kq ≤ k) ∧ Aside0 (wc.heap[gb108]? = some (.cells #[.int .i64 a0_0, .int .i64 a0_1, .float .f64 a0_2, (.slice A0_3 l0_3.length c0_3)] 27 (0, 0))) ∧ Aside0 (Below w.heap.size w wc))
  case first =>
    have H := HC2.out
    clear HC2
    by_cases c4 : a0_0 < 0
    · rw [if_pos c4] at H
      have c4b0 : decide (a0_0 < 0) = true := decide_eq_true c4
      clear c4
      (first | rw [c4b0] | (simp only [i64_w, i32_w]; rw [c4b0]) | skip)
      have H' := Aside0.mk H
      clear H
      have hcz5_0 : w3.cell? ⟨gb108, 0, none⟩ = some (.int .i64 a0_0) := (blk_cell BK108.out 0).trans rfl
      have hcz5_1 : w3.cell? ⟨gb108, 1, none⟩ = some (.int .i64 a0_1) := (blk_cell BK108.out 1).trans rfl
      have hcz5_2 : w3.cell? ⟨gb108, 2, none⟩ = some (.float .f64 a0_2) := (blk_cell BK108.out 2).trans rfl
      have hcz5_3 : w3.cell? ⟨gb108, 3, none⟩ = some (.slice A0_3 l0_3.length c0_3) := (blk_cell BK108.out 3).trans rfl
      have hfz5_0 := blk_frozen BK108.out 0
      have hfz5_1 := blk_frozen BK108.out 1
      have hfz5_2 := blk_frozen BK108.out 2
      have hfz5_3 := blk_frozen BK108.out 3
      go_wp2
      go_meet
      case rel => exact ⟨_, (true), (by first | rfl | (simp; done) | (simp [*]; done)), H', ⟨by first | omega | exact Nat.le_refl _⟩, ⟨by (with_reducible repeat (first | refine blk_drewN ?_ _ | refine blk_drew ?_ | refine blk_alloc ?_ _)); exact BK108.out⟩, ⟨by repeat (first | (with_reducible first | exact HB.out | apply below_alloc | apply pw_below_drewN | apply below_drew1 | refine below_set ?_ GE108.out) | exact HB.out)⟩⟩
    · rw [if_neg c4] at H
      have c4b0 : decide (a0_0 < 0) = false := decide_eq_false c4
      clear c4
      (first | rw [c4b0] | (simp only [i64_w, i32_w]; rw [c4b0]) | skip)
      by_cases c6 : a0_0 > 3
      · rw [if_pos c6] at H
        have c6b0 : decide (3 < a0_0) = true := decide_eq_true c6
        clear c6
        have H' := Aside0.mk H
        clear H
        have hcz7_0 : w3.cell? ⟨gb108, 0, none⟩ = some (.int .i64 a0_0) := (blk_cell BK108.out 0).trans rfl
        have hcz7_1 : w3.cell? ⟨gb108, 1, none⟩ = some (.int .i64 a0_1) := (blk_cell BK108.out 1).trans rfl
        have hcz7_2 : w3.cell? ⟨gb108, 2, none⟩ = some (.float .f64 a0_2) := (blk_cell BK108.out 2).trans rfl
        have hcz7_3 : w3.cell? ⟨gb108, 3, none⟩ = some (.slice A0_3 l0_3.length c0_3) := (blk_cell BK108.out 3).trans rfl
        have hfz7_0 := blk_frozen BK108.out 0
        have hfz7_1 := blk_frozen BK108.out 1
        have hfz7_2 := blk_frozen BK108.out 2
        have hfz7_3 := blk_frozen BK108.out 3
        go_wp2
        go_meet
        case rel => exact ⟨_, (true), (by first | rfl | (simp; done) | (simp [*]; done)), H', ⟨by first | omega | exact Nat.le_refl _⟩, ⟨by (with_reducible repeat (first | refine blk_drewN ?_ _ | refine blk_drew ?_ | refine blk_alloc ?_ _)); exact BK108.out⟩, ⟨by repeat (first | (with_reducible first | exact HB.out | apply below_alloc | apply pw_below_drewN | apply below_drew1 | refine below_set ?_ GE108.out) | exact HB.out)⟩⟩
      · rw [if_neg c6] at H
        have c6b0 : decide (3 < a0_0) = false := decide_eq_false c6
        clear c6
        have H' := Aside0.mk H
        clear H
        have hcz8_0 : w3.cell? ⟨gb108, 0, none⟩ = some (.int .i64 a0_0) := (blk_cell BK108.out 0).trans rfl
        have hcz8_1 : w3.cell? ⟨gb108, 1, none⟩ = some (.int .i64 a0_1) := (blk_cell BK108.out 1).trans rfl
        have hcz8_2 : w3.cell? ⟨gb108, 2, none⟩ = some (.float .f64 a0_2) := (blk_cell BK108.out 2).trans rfl
        have hcz8_3 : w3.cell? ⟨gb108, 3, none⟩ = some (.slice A0_3 l0_3.length c0_3) := (blk_cell BK108.out 3).trans rfl
        have hfz8_0 := blk_frozen BK108.out 0
        have hfz8_1 := blk_frozen BK108.out 1
        have hfz8_2 := blk_frozen BK108.out 2
        have hfz8_3 := blk_frozen BK108.out 3
        go_wp2
        go_meet
        case rel => exact ⟨_, (decide ((l0_3.length : Int) > 40)), (by first | rfl | (simp; done) | (simp [*]; done)), H', ⟨by first | omega | exact Nat.le_refl _⟩, ⟨by (with_reducible repeat (first | refine blk_drewN ?_ _ | refine blk_drew ?_ | refine blk_alloc ?_ _)); exact BK108.out⟩, ⟨by repeat (first | (with_reducible first | exact HB.out | apply below_alloc | apply pw_below_drewN | apply below_drew1 | refine below_set ?_ GE108.out) | exact HB.out)⟩⟩
  case rest =>
    clear HC2
    try clear p2
    try clear c4
    try clear c4b0
    try clear c6
    try clear c6b0
    try clear hcz5_0
    try clear hcz5_1
    try clear hcz5_2
    try clear hcz5_3
    try clear hcz7_0
    try clear hcz7_1
    try clear hcz7_2
    try clear hcz7_3
    try clear hcz8_0
    try clear hcz8_1
    try clear hcz8_2
    try clear hcz8_3
    try clear hfz5_0
    try clear hfz5_1
    try clear hfz5_2
    try clear hfz5_3
    try clear hfz7_0
    try clear hfz7_1
    try clear hfz7_2
    try clear hfz7_3
    try clear hfz8_0
    try clear hfz8_1
    try clear hfz8_2
    try clear hfz8_3
    obtain ⟨kq, x16_1, rfl, HA, HJ1, BK108, HB⟩ := hcut
    cases kq with
    | zero => exact absurd HA.out (by simp [spec_ItemOk.j0])
    | succ kj1 =>
      have H := HA.out
      clear HA
      simp only [spec_ItemOk.j0] at H
      by_cases c9 : x16_1 = true
      · subst c9
        have H1 : (some false) = some r := by rw [if_pos rfl] at H; exact H
        clear H
        have H := H1
        clear H1
        obtain rfl := Option.some.inj H
        go_wp2
        go_ret
        exact ⟨by first | rfl | (simp [errW_none, errW_some] <;> rfl) | (simp [*, errW_none, errW_some] <;> rfl), by repeat (first | (with_reducible first | exact HB.out | apply below_alloc | apply pw_below_drewN | apply below_drew1 | refine below_set ?_ GE108.out) | exact HB.out)⟩
      · replace c9 := Bool.eq_false_iff.mpr c9
        subst c9
        have H1 : (if a0_0 = 1 then (spec_ItemOk.j1 kj1 false a0_0 a0_1 a0_2 l0_3) else (spec_ItemOk.j1 kj1 (a0_1 != 0) a0_0 a0_1 a0_2 l0_3)) = some r := by rw [if_neg (show ¬ (false = true) by decide)] at H; exact H
        clear H
        have H := H1
        clear H1
        have HC10 := Aside0.mk H
        clear H
        go_upto_region 3 with (fail)
        go_cut [24] (fun v24 wc => ∃ (kq : Nat) (x24_9 : Bool), v24 = .bool x24_9 ∧ Aside0 (spec_ItemOk.j1 kq x24_9 a0_0 a0_1 a0_2 l0_3 = some r) ∧ Aside0 (kq ≤ kj1) ∧ Aside0 (wc.heap[gb108]? = some (.cells #[.int .i64 a0_0, .int .i64 a0_1, .float .f64 a0_2, (.slice A0_3 l0_3.length c0_3)] 27 (0, 0))) ∧ Aside0 (Below w.heap.size w wc))
        case first =>
          have H := HC10.out
          clear HC10
          by_cases c11 : a0_0 = 1
          · rw [if_pos c11] at H
            have c11b0 : (a0_0 == 1) = true := beq_iff_eq.mpr c11
            have c11b1 : (a0_0 != 1) = false := bne_eq_false_iff_eq.mpr c11
            clear c11
            (first | rw [c11b0] | (simp only [i64_w, i32_w]; rw [c11b0]) | skip)
            have H' := Aside0.mk H
            clear H
            have hcz12_0 : wc.cell? ⟨gb108, 0, none⟩ = some (.int .i64 a0_0) := (blk_cell BK108.out 0).trans rfl
            have hcz12_1 : wc.cell? ⟨gb108, 1, none⟩ = some (.int .i64 a0_1) := (blk_cell BK108.out 1).trans rfl
            have hcz12_2 : wc.cell? ⟨gb108, 2, none⟩ = some (.float .f64 a0_2) := (blk_cell BK108.out 2).trans rfl
            have hcz12_3 : wc.cell? ⟨gb108, 3, none⟩ = some (.slice A0_3 l0_3.length c0_3) := (blk_cell BK108.out 3).trans rfl
            have hfz12_0 := blk_frozen BK108.out 0
            have hfz12_1 := blk_frozen BK108.out 1
            have hfz12_2 := blk_frozen BK108.out 2
            have hfz12_3 := blk_frozen BK108.out 3
            go_wp2
            go_meet
            case rel => exact ⟨_, (false), (by first | rfl | (simp; done) | (simp [*]; done)), H', ⟨by have := HJ1.out; first | omega | exact Nat.le_refl _⟩, ⟨by (with_reducible repeat (first | refine blk_drewN ?_ _ | refine blk_drew ?_ | refine blk_alloc ?_ _)); exact BK108.out⟩, ⟨by repeat (first | (with_reducible first | exact HB.out | apply below_alloc | apply pw_below_drewN | apply below_drew1 | refine below_set ?_ GE108.out) | exact HB.out)⟩⟩
          · rw [if_neg c11] at H
            have c11b0 : (a0_0 == 1) = false := beq_eq_false_iff_ne.mpr c11
            have c11b1 : (a0_0 != 1) = true := bne_iff_ne.mpr c11
            (first | rw [c11b0] | (simp only [i64_w, i32_w]; rw [c11b0]) | skip)
            have H' := Aside0.mk H
            clear H
            have hcz13_0 : wc.cell? ⟨gb108, 0, none⟩ = some (.int .i64 a0_0) := (blk_cell BK108.out 0).trans rfl
            have hcz13_1 : wc.cell? ⟨gb108, 1, none⟩ = some (.int .i64 a0_1) := (blk_cell BK108.out 1).trans rfl
            have hcz13_2 : wc.cell? ⟨gb108, 2, none⟩ = some (.float .f64 a0_2) := (blk_cell BK108.out 2).trans rfl
            have hcz13_3 : wc.cell? ⟨gb108, 3, none⟩ = some (.slice A0_3 l0_3.length c0_3) := (blk_cell BK108.out 3).trans rfl
            have hfz13_0 := blk_frozen BK108.out 0
            have hfz13_1 := blk_frozen BK108.out 1
            have hfz13_2 := blk_frozen BK108.out 2
            have hfz13_3 := blk_frozen BK108.out 3
            go_wp2
            go_meet
            case rel => exact ⟨_, ((a0_1 != 0)), (by first | rfl | (simp; done) | (simp [*]; done)), H', ⟨by have := HJ1.out; first | omega | exact Nat.le_refl _⟩, ⟨by (with_reducible repeat (first | refine blk_drewN ?_ _ | refine blk_drew ?_ | refine blk_alloc ?_ _)); exact BK108.out⟩, ⟨by repeat (first | (with_reducible first | exact HB.out | apply below_alloc | apply pw_below_drewN | apply below_drew1 | refine below_set ?_ GE108.out) | exact HB.out)⟩⟩
        case rest =>
          clear HC10
          try clear c1
          try clear p2
          try clear c4
          try clear c4b0
          try clear c6
          try clear c6b0
          try clear c9
          try clear c11
          try clear c11b0
          try clear c11b1
          try clear hcz12_0
          try clear hcz12_1
          try clear hcz12_2
          try clear hcz12_3
          try clear hcz13_0
          try clear hcz13_1
          try clear hcz13_2
          try clear hcz13_3
          try clear hcz5_0
          try clear hcz5_1
          try clear hcz5_2
          try clear hcz5_3
          try clear hcz7_0
          try clear hcz7_1
          try clear hcz7_2
          try clear hcz7_3
          try clear hcz8_0
          try clear hcz8_1
          try clear hcz8_2
          try clear hcz8_3
          try clear hfz12_0
          try clear hfz12_1
          try clear hfz12_2
          try clear hfz12_3
          try clear hfz13_0
          try clear hfz13_1
          try clear hfz13_2
          try clear hfz13_3
          try clear hfz5_0
          try clear hfz5_1
          try clear hfz5_2
          try clear hfz5_3
          try clear hfz7_0
          try clear hfz7_1
          try clear hfz7_2
          try clear hfz7_3
          try clear hfz8_0
          try clear hfz8_1
          try clear hfz8_2
          try clear hfz8_3
          try clear p2
          obtain ⟨kq, x24_9, rfl, HA, HJ9, BK108, HB⟩ := hcut
          cases kq with
          | zero => exact absurd HA.out (by simp [spec_ItemOk.j1])
          | succ kj9 =>
            have H := HA.out
            clear HA
            simp only [spec_ItemOk.j1] at H
            by_cases c14 : x24_9 = true
            · subst c14
              have H1 : (some false) = some r := by rw [if_pos rfl] at H; exact H
              clear H
              have H := H1
              clear H1
              obtain rfl := Option.some.inj H
              go_wp2
              go_ret
              exact ⟨by first | rfl | (simp [errW_none, errW_some] <;> rfl) | (simp [*, errW_none, errW_some] <;> rfl), by repeat (first | (with_reducible first | exact HB.out | apply below_alloc | apply pw_below_drewN | apply below_drew1 | refine below_set ?_ GE108.out) | exact HB.out)⟩
            · replace c14 := Bool.eq_false_iff.mpr c14
              subst c14
              have H1 : (if a0_0 = 2 then (if a0_0 = 3 then (some true) else (some ((l0_3.length : Int) == 0))) else ((spec_FloatBits.f a0_2).bind fun t109 => (if t109 = 0 then (if a0_0 = 3 then (some true) else (some ((l0_3.length : Int) == 0))) else (some false)))) = some r := by rw [if_neg (show ¬ (false = true) by decide)] at H; exact H
              clear H
              have H := H1
              clear H1
              by_cases c15 : a0_0 = 2
              · rw [if_pos c15] at H
                have c15b0 : (a0_0 == 2) = true := beq_iff_eq.mpr c15
                have c15b1 : (a0_0 != 2) = false := bne_eq_false_iff_eq.mpr c15
                clear c15
                by_cases c16 : a0_0 = 3
                · rw [if_pos c16] at H
                  have c16b0 : (a0_0 == 3) = true := beq_iff_eq.mpr c16
                  have c16b1 : (a0_0 != 3) = false := bne_eq_false_iff_eq.mpr c16
                  clear c16
                  obtain rfl := Option.some.inj H
                  have hcz17_0 : wc.cell? ⟨gb108, 0, none⟩ = some (.int .i64 a0_0) := (blk_cell BK108.out 0).trans rfl
                  have hcz17_1 : wc.cell? ⟨gb108, 1, none⟩ = some (.int .i64 a0_1) := (blk_cell BK108.out 1).trans rfl
                  have hcz17_2 : wc.cell? ⟨gb108, 2, none⟩ = some (.float .f64 a0_2) := (blk_cell BK108.out 2).trans rfl
                  have hcz17_3 : wc.cell? ⟨gb108, 3, none⟩ = some (.slice A0_3 l0_3.length c0_3) := (blk_cell BK108.out 3).trans rfl
                  have hfz17_0 := blk_frozen BK108.out 0
                  have hfz17_1 := blk_frozen BK108.out 1
                  have hfz17_2 := blk_frozen BK108.out 2
                  have hfz17_3 := blk_frozen BK108.out 3
                  go_wp2
                  go_ret
                  exact ⟨by first | rfl | (simp [errW_none, errW_some] <;> rfl) | (simp [*, errW_none, errW_some] <;> rfl), by repeat (first | (with_reducible first | exact HB.out | apply below_alloc | apply pw_below_drewN | apply below_drew1 | refine below_set ?_ GE108.out) | exact HB.out)⟩
                · rw [if_neg c16] at H
                  have c16b0 : (a0_0 == 3) = false := beq_eq_false_iff_ne.mpr c16
                  have c16b1 : (a0_0 != 3) = true := bne_iff_ne.mpr c16
                  obtain rfl := Option.some.inj H
                  have hcz18_0 : wc.cell? ⟨gb108, 0, none⟩ = some (.int .i64 a0_0) := (blk_cell BK108.out 0).trans rfl
                  have hcz18_1 : wc.cell? ⟨gb108, 1, none⟩ = some (.int .i64 a0_1) := (blk_cell BK108.out 1).trans rfl
                  have hcz18_2 : wc.cell? ⟨gb108, 2, none⟩ = some (.float .f64 a0_2) := (blk_cell BK108.out 2).trans rfl
                  have hcz18_3 : wc.cell? ⟨gb108, 3, none⟩ = some (.slice A0_3 l0_3.length c0_3) := (blk_cell BK108.out 3).trans rfl
                  have hfz18_0 := blk_frozen BK108.out 0
                  have hfz18_1 := blk_frozen BK108.out 1
                  have hfz18_2 := blk_frozen BK108.out 2
                  have hfz18_3 := blk_frozen BK108.out 3
                  go_wp2
                  go_ret
                  exact ⟨by first | rfl | (simp [errW_none, errW_some] <;> rfl) | (simp [*, errW_none, errW_some] <;> rfl), by repeat (first | (with_reducible first | exact HB.out | apply below_alloc | apply pw_below_drewN | apply below_drew1 | refine below_set ?_ GE108.out) | exact HB.out)⟩
              · rw [if_neg c15] at H
                have c15b0 : (a0_0 == 2) = false := beq_eq_false_iff_ne.mpr c15
                have c15b1 : (a0_0 != 2) = true := bne_iff_ne.mpr c15
                replace H := Option.bind_eq_some_iff.mp H
                obtain ⟨t109, A190, H⟩ := H
                replace H : (if t109 = 0 then (if a0_0 = 3 then (some true) else (some ((l0_3.length : Int) == 0))) else (some false)) = some r := H
                have A19 := Aside0.mk A190
                clear A190
                by_cases c20 : t109 = 0
                · rw [if_pos c20] at H
                  have c20b0 : (t109 == 0) = true := beq_iff_eq.mpr c20
                  have c20b1 : (t109 != 0) = false := bne_eq_false_iff_eq.mpr c20
                  clear c20
                  by_cases c21 : a0_0 = 3
                  · rw [if_pos c21] at H
                    have c21b0 : (a0_0 == 3) = true := beq_iff_eq.mpr c21
                    have c21b1 : (a0_0 != 3) = false := bne_eq_false_iff_eq.mpr c21
                    clear c21
                    obtain rfl := Option.some.inj H
                    have hcz22_0 : wc.cell? ⟨gb108, 0, none⟩ = some (.int .i64 a0_0) := (blk_cell BK108.out 0).trans rfl
                    have hcz22_1 : wc.cell? ⟨gb108, 1, none⟩ = some (.int .i64 a0_1) := (blk_cell BK108.out 1).trans rfl
                    have hcz22_2 : wc.cell? ⟨gb108, 2, none⟩ = some (.float .f64 a0_2) := (blk_cell BK108.out 2).trans rfl
                    have hcz22_3 : wc.cell? ⟨gb108, 3, none⟩ = some (.slice A0_3 l0_3.length c0_3) := (blk_cell BK108.out 3).trans rfl
                    have hfz22_0 := blk_frozen BK108.out 0
                    have hfz22_1 := blk_frozen BK108.out 1
                    have hfz22_2 := blk_frozen BK108.out 2
                    have hfz22_3 := blk_frozen BK108.out 3
                    go_wp2_with (first | (go_at_call 120; (with_reducible refine (spec_FloatBits.calls a0_2 t109 _ A19.out).mono ?_); rintro e w' ⟨rfl, ⟨nd, rfl⟩⟩))
                    go_ret
                    exact ⟨by first | rfl | (simp [errW_none, errW_some] <;> rfl) | (simp [*, errW_none, errW_some] <;> rfl), by repeat (first | (with_reducible first | exact HB.out | apply below_alloc | apply pw_below_drewN | apply below_drew1 | refine below_set ?_ GE108.out) | exact HB.out)⟩
                  · rw [if_neg c21] at H
                    have c21b0 : (a0_0 == 3) = false := beq_eq_false_iff_ne.mpr c21
                    have c21b1 : (a0_0 != 3) = true := bne_iff_ne.mpr c21
                    obtain rfl := Option.some.inj H
                    have hcz23_0 : wc.cell? ⟨gb108, 0, none⟩ = some (.int .i64 a0_0) := (blk_cell BK108.out 0).trans rfl
                    have hcz23_1 : wc.cell? ⟨gb108, 1, none⟩ = some (.int .i64 a0_1) := (blk_cell BK108.out 1).trans rfl
                    have hcz23_2 : wc.cell? ⟨gb108, 2, none⟩ = some (.float .f64 a0_2) := (blk_cell BK108.out 2).trans rfl
                    have hcz23_3 : wc.cell? ⟨gb108, 3, none⟩ = some (.slice A0_3 l0_3.length c0_3) := (blk_cell BK108.out 3).trans rfl
                    have hfz23_0 := blk_frozen BK108.out 0
                    have hfz23_1 := blk_frozen BK108.out 1
                    have hfz23_2 := blk_frozen BK108.out 2
                    have hfz23_3 := blk_frozen BK108.out 3
                    go_wp2_with (first | (go_at_call 120; (with_reducible refine (spec_FloatBits.calls a0_2 t109 _ A19.out).mono ?_); rintro e w' ⟨rfl, ⟨nd, rfl⟩⟩))
                    go_ret
                    exact ⟨by first | rfl | (simp [errW_none, errW_some] <;> rfl) | (simp [*, errW_none, errW_some] <;> rfl), by repeat (first | (with_reducible first | exact HB.out | apply below_alloc | apply pw_below_drewN | apply below_drew1 | refine below_set ?_ GE108.out) | exact HB.out)⟩
                · rw [if_neg c20] at H
                  have c20b0 : (t109 == 0) = false := beq_eq_false_iff_ne.mpr c20
                  have c20b1 : (t109 != 0) = true := bne_iff_ne.mpr c20
                  obtain rfl := Option.some.inj H
                  have hcz24_0 : wc.cell? ⟨gb108, 0, none⟩ = some (.int .i64 a0_0) := (blk_cell BK108.out 0).trans rfl
                  have hcz24_1 : wc.cell? ⟨gb108, 1, none⟩ = some (.int .i64 a0_1) := (blk_cell BK108.out 1).trans rfl
                  have hcz24_2 : wc.cell? ⟨gb108, 2, none⟩ = some (.float .f64 a0_2) := (blk_cell BK108.out 2).trans rfl
                  have hcz24_3 : wc.cell? ⟨gb108, 3, none⟩ = some (.slice A0_3 l0_3.length c0_3) := (blk_cell BK108.out 3).trans rfl
                  have hfz24_0 := blk_frozen BK108.out 0
                  have hfz24_1 := blk_frozen BK108.out 1
                  have hfz24_2 := blk_frozen BK108.out 2
                  have hfz24_3 := blk_frozen BK108.out 3
                  go_wp2_with (first | (go_at_call 120; (with_reducible refine (spec_FloatBits.calls a0_2 t109 _ A19.out).mono ?_); rintro e w' ⟨rfl, ⟨nd, rfl⟩⟩))
                  go_ret
                  exact ⟨by first | rfl | (simp [errW_none, errW_some] <;> rfl) | (simp [*, errW_none, errW_some] <;> rfl), by repeat (first | (with_reducible first | exact HB.out | apply below_alloc | apply pw_below_drewN | apply below_drew1 | refine below_set ?_ GE108.out) | exact HB.out)⟩

/-! ### spec_l3copy: function 62 -/
def spec_l3copy.f (a0_0 : Int) (a0_1 : Int) (a0_2 : Nat) (l0_3 : List Int) : Option (Int × Int × Nat × List Int) := (some (([] : List Int) : List Int)).bind fun y112 => (if y112.length + l0_3.length < 140737488355328 then (some (a0_0, a0_1, a0_2, (y112 ++ l0_3))) else (none))
set_option maxHeartbeats 8000000 in
set_option maxRecDepth 100000 in
theorem spec_l3copy.calls (a0_0 : Int) (a0_1 : Int) (a0_2 : Nat) (A0_3 : Option Addr) (c0_3 : Nat) (l0_3 : List Int) (r1 : Int) (r2 : Int) (r3 : Nat) (r4 : List Int) (w : World) (hr0_3 : Kd.C (Kd.int .u8) w A0_3 l0_3.length l0_3) (hc0_3 : l0_3.length ≤ c0_3) (h : spec_l3copy.f a0_0 a0_1 a0_2 l0_3 = some (r1, r2, r3, r4)) :
    Calls Try.prog 62 #[.agg #[.int .i64 a0_0, .int .i64 a0_1, .float .f64 a0_2, .slice A0_3 l0_3.length c0_3]] w fun e w' => ∃ v3_ : Value, e = .returned (.agg #[.int .i64 r1, .int .i64 r2, .float .f64 r3, v3_]) ∧ Kd.R (Kd.int .u8) 5 w' w.heap.size (fun _ => True) v3_ r4 ∧ Below w.heap.size w w' := by
  have hu27 := Try.underlying27
  have HR0_3 := Aside0.mk hr0_3
  have HC0_3 := Aside0.mk hc0_3
  clear hr0_3 hc0_3
  have HB := Aside0.mk (Below.refl w.heap.size w)
  have H : ((some (([] : List Int) : List Int)).bind fun y112 => (if y112.length + l0_3.length < 140737488355328 then (some (a0_0, a0_1, a0_2, (y112 ++ l0_3))) else (none))) = some (r1, r2, r3, r4) := h
  clear h
  obtain ⟨y112, hy112⟩ : ∃ y_ : List Int, y_ = (([] : List Int)) := ⟨_, rfl⟩
  replace H : (if y112.length + l0_3.length < 140737488355328 then (some (a0_0, a0_1, a0_2, (y112 ++ l0_3))) else (none)) = some (r1, r2, r3, r4) := by first | (rw [hy112]; with_reducible exact H) | (have H2_ := (Option.bind_some _ _).symm.trans H; rw [hy112]; with_reducible exact H2_) | (have H2_ := (Option.bind_some _ _).symm.trans H; with_reducible exact H2_) | with_reducible exact H | (rw [hy112]; exact H) | exact H
  have Ny112 := Aside0.mk hy112
  clear hy112
  by_cases c2 : y112.length + l0_3.length < 140737488355328
  · rw [if_pos c2] at H
    have LMc2 := Aside0.mk c2
    clear c2
    obtain ⟨y115, hy115⟩ : ∃ y_ : List Int, y_ = (y112 ++ l0_3) := ⟨_, rfl⟩
    replace H : (some (a0_0, a0_1, a0_2, y115)) = some (r1, r2, r3, r4) := by first | (rw [hy115]; with_reducible exact H) | (have H2_ := (Option.bind_some _ _).symm.trans H; rw [hy115]; with_reducible exact H2_) | (have H2_ := (Option.bind_some _ _).symm.trans H; with_reducible exact H2_) | with_reducible exact H | (rw [hy115]; exact H) | exact H
    have Ny115 := Aside0.mk hy115
    clear hy115
    simp only [Option.some.injEq, Prod.mk.injEq] at H
    obtain ⟨rfl, rfl, rfl, rfl⟩ := H
    go_enter Try.func62, Try.ntmps62
    go_wp2_with (first | ((with_reducible refine gate_dst (N := 1) rfl ?_); refine box_event ?hg (N := 1) ?hd (cs := #[.int .i64 a0_0, .int .i64 a0_1, .float .f64 a0_2, .slice A0_3 l0_3.length c0_3]) (t := 27) ?hr ?_; (case hd => rfl); (case hg => rfl); (case hr => first | (go_simp; done) | (go_simp; rfl)); intro gb110 hg w3 hbox hb; have n0_ := Aside0.mk (below_step (by repeat (first | (with_reducible first | exact HB.out | apply below_alloc | apply pw_below_drewN | apply below_drew1) | exact HB.out)) hb); have n1_ := Aside0.mk (hbox); have n2_ := Aside0.mk ((by rw [hg]; exact (below_size (by repeat (first | (with_reducible first | exact HB.out | apply below_alloc | apply pw_below_drewN | apply below_drew1) | exact HB.out))) : w.heap.size ≤ gb110)); have n3_ := Aside0.mk ((by rw [hg]; exact (below_size (by repeat (first | (with_reducible first | exact HB.out | apply below_alloc | apply pw_below_drewN | apply below_drew1) | exact HB.out))) : w.heap.size ≤ gb110)); clear HB; have HB := n0_; have BK110 := n1_; have GW110 := n2_; have GE110 := n3_; clear n0_ n1_ n2_ n3_; clear hb hbox hg) | ((with_reducible refine gate_dst (N := 2) rfl ?_); refine box_event ?hg (N := 2) ?hd (cs := #[.int .i64 0, .int .i64 0, .float .f64 0, .slice none 0 0]) (t := 27) ?hr ?_; (case hd => rfl); (case hg => rfl); (case hr => first | (go_simp; done) | (go_simp; rfl)); intro gb111 hg w4 hbox hb; have n0_ := Aside0.mk (blk_below (g := gb110) (o := .cells #[.int .i64 a0_0, .int .i64 a0_1, .float .f64 a0_2, .slice A0_3 l0_3.length c0_3] 27 (0, 0)) (by (with_reducible repeat (first | refine blk_drewN ?_ _ | refine blk_drew ?_ | refine blk_alloc ?_ _)); exact BK110.out) hb); have n1_ := Aside0.mk (below_step (by repeat (first | (with_reducible first | exact HB.out | apply below_alloc | apply pw_below_drewN | apply below_drew1 | refine below_set ?_ GE110.out) | exact HB.out)) hb); have n2_ := Aside0.mk (hbox); have n3_ := Aside0.mk ((by rw [hg]; exact (below_size (by repeat (first | (with_reducible first | exact HB.out | apply below_alloc | apply pw_below_drewN | apply below_drew1 | refine below_set ?_ GE110.out) | exact HB.out))) : w.heap.size ≤ gb111)); have n4_ := Aside0.mk ((by rw [hg]; exact (below_size (by repeat (first | (with_reducible first | exact HB.out | apply below_alloc | apply pw_below_drewN | apply below_drew1 | refine below_set ?_ GE110.out) | exact HB.out))) : w.heap.size ≤ gb111)); have n5_ := Aside0.mk ((by rw [hg]; exact Nat.ne_of_lt (blk_lt (g := gb110) (o := .cells #[.int .i64 a0_0, .int .i64 a0_1, .float .f64 a0_2, .slice A0_3 l0_3.length c0_3] 27 (0, 0)) (by (with_reducible repeat (first | refine blk_drewN ?_ _ | refine blk_drew ?_ | refine blk_alloc ?_ _)); exact BK110.out)) : gb110 ≠ gb111)); have n6_ := Aside0.mk ((by rw [hg]; exact Nat.ne_of_gt (blk_lt (g := gb110) (o := .cells #[.int .i64 a0_0, .int .i64 a0_1, .float .f64 a0_2, .slice A0_3 l0_3.length c0_3] 27 (0, 0)) (by (with_reducible repeat (first | refine blk_drewN ?_ _ | refine blk_drew ?_ | refine blk_alloc ?_ _)); exact BK110.out)) : gb111 ≠ gb110)); clear BK110; clear HB; have BK110 := n0_; have HB := n1_; have BK111 := n2_; have GW111 := n3_; have GE111 := n4_; have NB110_111 := n5_; have NB111_110 := n6_; clear n0_ n1_ n2_ n3_ n4_ n5_ n6_; clear hb hbox hg) | ((with_reducible refine gate_dst (N := 3) rfl ?_); refine Kd.R_lit (Kd.int .u8) _ 5 ?hg (N := 3) ?hd (xs := ([] : List Int)) (inner := []) (ok := fun _ => True) (okp := fun _ => True) ?hr ?hp (fun _ hk => hk) trivial (Below.refl _ _) (Nat.le_refl _) (by simp) ?_; (case hd => rfl); (case hg => rfl); (case hr => first | (go_simp; done) | (go_simp; rfl)); (case hp => exact (Reps.none _ _)); intro v113 w5 ho6 hb hg_ hnew_; clear hg_ hnew_; (first | rw [← Ny112.out] at ho6 | (simp only [Int.reduceToNat] at ho6; rw [← Ny112.out] at ho6)); have n0_ := Aside0.mk (Kd.R_lower ho6 (below_size (by repeat (first | (with_reducible first | exact HB.out | apply below_alloc | apply pw_below_drewN | apply below_drew1 | refine below_set ?_ GE110.out | refine below_set ?_ GE111.out) | exact HB.out)))); have n1_ := Aside0.mk (blk_below (g := gb110) (o := .cells #[.int .i64 a0_0, .int .i64 a0_1, .float .f64 a0_2, .slice A0_3 l0_3.length c0_3] 27 (0, 0)) (by (with_reducible repeat (first | refine blk_drewN ?_ _ | refine blk_drew ?_ | refine blk_alloc ?_ _)); exact BK110.out) hb); have n2_ := Aside0.mk (blk_below (g := gb111) (o := .cells #[.int .i64 0, .int .i64 0, .float .f64 0, .slice none 0 0] 27 (0, 0)) (by (with_reducible repeat (first | refine blk_drewN ?_ _ | refine blk_drew ?_ | refine blk_alloc ?_ _)); exact BK111.out) hb); have n3_ := Aside0.mk (below_step (by repeat (first | (with_reducible first | exact HB.out | apply below_alloc | apply pw_below_drewN | apply below_drew1 | refine below_set ?_ GE110.out | refine below_set ?_ GE111.out) | exact HB.out)) hb); clear BK110; clear BK111; clear HB; have HO114 := n0_; have BK110 := n1_; have BK111 := n2_; have HB := n3_; clear n0_ n1_ n2_ n3_; clear hb ho6; have hnb7 := NB110_111.out; have hnc7 := NB111_110.out; have hcz8_0 : w5.cell? ⟨gb110, 0, none⟩ = some (.int .i64 a0_0) := (blk_cell BK110.out 0).trans rfl; have hcz8_1 : w5.cell? ⟨gb110, 1, none⟩ = some (.int .i64 a0_1) := (blk_cell BK110.out 1).trans rfl; have hcz8_2 : w5.cell? ⟨gb110, 2, none⟩ = some (.float .f64 a0_2) := (blk_cell BK110.out 2).trans rfl; have hcz8_3 : w5.cell? ⟨gb110, 3, none⟩ = some (.slice A0_3 l0_3.length c0_3) := (blk_cell BK110.out 3).trans rfl; have hfz8_0 := blk_frozen BK110.out 0; have hfz8_1 := blk_frozen BK110.out 1; have hfz8_2 := blk_frozen BK110.out 2; have hfz8_3 := blk_frozen BK110.out 3) | ((with_reducible refine gate_builtin (b := .append) (xs := #[.tmp 3, .tmp 5]) rfl ?_); at_builtin; refine Kd.R_append_rows (Kd.int .u8) (w0 := w) w.heap.size rfl (.tmp 3) (.tmp 5) 23 5 (.int .u8 0) 1 rfl Try.underlying23 info5 rfl (by decide) (by omega) v113 y112 l0_3 _ _ _ (fun _ => True) (fun _ => False) rfl rfl ?aO ?aR (fun _ _ h => h) (fun _ h => h.elim) ?aF ?aB ?aS ?aL ?_; (case aR => repeat (first | exact (Kd.C_below HR0_3.out HB.out) | (with_reducible refine Kd.C_alloc ?_ _) | (with_reducible refine Kd.C_drewN ?_ _) | (with_reducible refine Kd.C_drew ?_))); (case aB => exact (by repeat (first | (with_reducible first | exact HB.out | apply below_alloc | apply pw_below_drewN | apply below_drew1 | refine below_set ?_ GE110.out | refine below_set ?_ GE111.out) | exact HB.out))); (case aF => exact (fun _ _ => trivial)); (case aO => exact (by (with_reducible repeat (first | apply Kd.R_alloc | apply Kd.R_drewN | apply Kd.R_drew)); exact HO114.out)); (case aS => exact (below_size (by repeat (first | (with_reducible first | exact HB.out | apply below_alloc | apply pw_below_drewN | apply below_drew1 | refine below_set ?_ GE110.out | refine below_set ?_ GE111.out) | exact HB.out)))); (case aL => have := LMc2.out; omega); intro v116 w9 ho hb hg hat; rw [← Ny115.out] at ho; have n0_ := Aside0.mk (blk_grown (g := gb110) (o := .cells #[.int .i64 a0_0, .int .i64 a0_1, .float .f64 a0_2, .slice A0_3 l0_3.length c0_3] 27 (0, 0)) (by (with_reducible repeat (first | refine blk_drewN ?_ _ | refine blk_drew ?_ | refine blk_alloc ?_ _)); exact BK110.out) hg (Kd.R_ne HO114.out BK110.out (by decide))); have n1_ := Aside0.mk (blk_grown (g := gb111) (o := .cells #[.int .i64 0, .int .i64 0, .float .f64 0, .slice none 0 0] 27 (0, 0)) (by (with_reducible repeat (first | refine blk_drewN ?_ _ | refine blk_drew ?_ | refine blk_alloc ?_ _)); exact BK111.out) hg (Kd.R_ne HO114.out BK111.out (by decide))); have n2_ := Aside0.mk (hb); have n3_ := Aside0.mk (ho); clear BK110; clear BK111; clear HB; clear HO114; have BK110 := n0_; have BK111 := n1_; have HB := n2_; have HO117 := n3_; clear n0_ n1_ n2_ n3_; clear ho hb hg hat; obtain ⟨Ao10, co10, eo10⟩ := Kd.R_slice HO117.out; subst eo10; have hcz11_0 : w9.cell? ⟨gb110, 0, none⟩ = some (.int .i64 a0_0) := (blk_cell BK110.out 0).trans rfl; have hcz11_1 : w9.cell? ⟨gb110, 1, none⟩ = some (.int .i64 a0_1) := (blk_cell BK110.out 1).trans rfl; have hcz11_2 : w9.cell? ⟨gb110, 2, none⟩ = some (.float .f64 a0_2) := (blk_cell BK110.out 2).trans rfl; have hcz11_3 : w9.cell? ⟨gb110, 3, none⟩ = some (.slice A0_3 l0_3.length c0_3) := (blk_cell BK110.out 3).trans rfl; have hfz11_0 := blk_frozen BK110.out 0; have hfz11_1 := blk_frozen BK110.out 1; have hfz11_2 := blk_frozen BK110.out 2; have hfz11_3 := blk_frozen BK110.out 3; have hcz12_0 : w9.cell? ⟨gb111, 0, none⟩ = some (.int .i64 0) := (blk_cell BK111.out 0).trans rfl; have hcz12_1 : w9.cell? ⟨gb111, 1, none⟩ = some (.int .i64 0) := (blk_cell BK111.out 1).trans rfl; have hcz12_2 : w9.cell? ⟨gb111, 2, none⟩ = some (.float .f64 0) := (blk_cell BK111.out 2).trans rfl; have hcz12_3 : w9.cell? ⟨gb111, 3, none⟩ = some (.slice none 0 0) := (blk_cell BK111.out 3).trans rfl; have hfz12_0 := blk_frozen BK111.out 0; have hfz12_1 := blk_frozen BK111.out 1; have hfz12_2 := blk_frozen BK111.out 2; have hfz12_3 := blk_frozen BK111.out 3))
    refine bodyPost_ret (results_cell_row rfl _ _ gb111 27 #[.int .i64 a0_0, .int .i64 a0_1, .float .f64 a0_2, .slice Ao10 y115.length co10] (0, 0) _ rfl (by (with_reducible repeat (first | refine blk_drewN ?_ _ | refine blk_drew ?_ | refine blk_alloc ?_ _)); refine blk_put (cs := #[.int .i64 a0_0, .int .i64 a0_1, .float .f64 a0_2, .slice none 0 0]) ?_ 3 _ rfl; (with_reducible repeat (first | refine blk_drewN ?_ _ | refine blk_drew ?_ | refine blk_alloc ?_ _)); refine blk_put (cs := #[.int .i64 a0_0, .int .i64 a0_1, .float .f64 0, .slice none 0 0]) ?_ 2 _ rfl; (with_reducible repeat (first | refine blk_drewN ?_ _ | refine blk_drew ?_ | refine blk_alloc ?_ _)); refine blk_put (cs := #[.int .i64 a0_0, .int .i64 0, .float .f64 0, .slice none 0 0]) ?_ 1 _ rfl; (with_reducible repeat (first | refine blk_drewN ?_ _ | refine blk_drew ?_ | refine blk_alloc ?_ _)); refine blk_put (cs := #[.int .i64 0, .int .i64 0, .float .f64 0, .slice none 0 0]) ?_ 0 _ rfl; (with_reducible repeat (first | refine blk_drewN ?_ _ | refine blk_drew ?_ | refine blk_alloc ?_ _)); refine blk_far ?_ NB111_110.out _; (with_reducible repeat (first | refine blk_drewN ?_ _ | refine blk_drew ?_ | refine blk_alloc ?_ _)); exact BK111.out) Try.underlying27 rfl (by kernel_rfl)) rfl ?_
    exact ⟨_, by first | rfl | (simp [errW_none, errW_some] <;> rfl) | (simp [*, errW_none, errW_some] <;> rfl), by (with_reducible repeat (first | apply Kd.R_alloc | apply Kd.R_drewN | apply Kd.R_drew)); exact Kd.R_mono (Kd.R_far (p := ⟨gb111, 3, none⟩) (Kd.R_far (p := ⟨gb111, 2, none⟩) (Kd.R_far (p := ⟨gb111, 1, none⟩) (Kd.R_far (p := ⟨gb111, 0, none⟩) (Kd.R_far (p := ⟨gb110, 3, none⟩) (Kd.R_types (Kd.R_types HO117.out BK110.out (by decide)) BK111.out (by decide)) (fun _ hk => hk.1.2) (.slice Ao10 y115.length co10)) (fun _ hk => hk.2) (.int .i64 a0_0)) (fun _ hk => hk.2) (.int .i64 a0_1)) (fun _ hk => hk.2) (.float .f64 a0_2)) (fun _ hk => hk.2) (.slice Ao10 y115.length co10)) (fun _ hk => trivial), by repeat (first | (with_reducible first | exact HB.out | apply below_alloc | apply pw_below_drewN | apply below_drew1 | refine below_set ?_ GE110.out | refine below_set ?_ GE111.out) | exact HB.out)⟩
  · rw [if_neg c2] at H
    exact absurd H (by simp)

/-! ### spec_ItemClean: function 14, by hand -/
theorem put4_spec_ItemClean {w : World} {g : Nat} {a b c d x0 x1 x2 x3 : Value} (hb : w.heap[g]? = some (.cells #[x0, x1, x2, x3] 27 (0, 0))) : (((((w.setCell ⟨g, 0, none⟩ (a)).setCell ⟨g, 1, none⟩ (b)).setCell ⟨g, 2, none⟩ (c)).setCell ⟨g, 3, none⟩ (d))).heap[g]? = some (.cells #[a, b, c, d] 27 (0, 0)) := by
  refine blk_put (cs := #[a, b, c, x3]) ?_ 3 _ rfl
  refine blk_put (cs := #[a, b, x2, x3]) ?_ 2 _ rfl
  refine blk_put (cs := #[a, x1, x2, x3]) ?_ 1 _ rfl
  exact blk_put (cs := #[x0, x1, x2, x3]) hb 0 _ rfl
theorem far4_spec_ItemClean {w : World} {g g2 : Nat} {a b c d : Value} {cs : Array Value} (hb : w.heap[g2]? = some (.cells cs 27 (0, 0))) (hn : g2 ≠ g) : (((((w.setCell ⟨g, 0, none⟩ (a)).setCell ⟨g, 1, none⟩ (b)).setCell ⟨g, 2, none⟩ (c)).setCell ⟨g, 3, none⟩ (d))).heap[g2]? = some (.cells cs 27 (0, 0)) :=
  blk_far (p := ⟨g, 3, none⟩) (blk_far (p := ⟨g, 2, none⟩) (blk_far (p := ⟨g, 1, none⟩) (blk_far (p := ⟨g, 0, none⟩) hb hn a) hn b) hn c) hn d
theorem row4_spec_ItemClean {w : World} {g base : Nat} {a b c d : Value} {ok : Nat → Prop} {v : Value} {xs : List Int} {cs : Array Value} (h : Kd.R (Kd.int .u8) 5 w base ok v xs) (hb : w.heap[g]? = some (.cells cs 27 (0, 0))) : Kd.R (Kd.int .u8) 5 (((((w.setCell ⟨g, 0, none⟩ (a)).setCell ⟨g, 1, none⟩ (b)).setCell ⟨g, 2, none⟩ (c)).setCell ⟨g, 3, none⟩ (d))) base ok v xs :=
  Kd.R_mono (Kd.R_far (p := ⟨g, 3, none⟩) (Kd.R_far (p := ⟨g, 2, none⟩) (Kd.R_far (p := ⟨g, 1, none⟩) (Kd.R_far (p := ⟨g, 0, none⟩) (Kd.R_types h hb (by decide)) (fun _ hk => hk.2) a) (fun _ hk => hk.2) b) (fun _ hk => hk.2) c) (fun _ hk => hk.2) d) (fun _ hk => hk.1)
theorem low4_spec_ItemClean {w0 w : World} {g : Nat} {a b c d : Value} (h : Below w0.heap.size w0 w) (hg : w0.heap.size ≤ g) : Below w0.heap.size w0 (((((w.setCell ⟨g, 0, none⟩ (a)).setCell ⟨g, 1, none⟩ (b)).setCell ⟨g, 2, none⟩ (c)).setCell ⟨g, 3, none⟩ (d))) := below_set (below_set (below_set (below_set h hg) hg) hg) hg
def spec_ItemClean.f (k : Nat) (a0_0 : Int) (a0_1 : Int) (a0_2 : Nat) (l0_3 : List Int) : Option (Int × Int × Nat × List Int) := (spec_ItemOk.f k a0_0 a0_1 a0_2 l0_3).bind fun t => if t = true then ((spec_l3copy.f a0_0 a0_1 a0_2 l0_3).bind fun bt => if HFloat.feq a0_2 0 = true then some (bt.1, bt.2.1, 0, bt.2.2.2) else some (bt.1, bt.2.1, bt.2.2.1, bt.2.2.2)) else some (0, 0, 0, ([] : List Int))
theorem spec_ItemClean.mono : ∀ a0 a1 a2 a3 k, LeO (spec_ItemClean.f k a0 a1 a2 a3) (spec_ItemClean.f (k + 1) a0 a1 a2 a3) := by
  intro a0 a1 a2 a3 k
  unfold spec_ItemClean.f
  exact LeO.bind (spec_ItemOk.mono _ _ _ _ _) (fun _ => LeO.refl _)
set_option maxHeartbeats 4000000 in
set_option maxRecDepth 100000 in
theorem spec_ItemClean.calls (k : Nat) (a0_0 : Int) (a0_1 : Int) (a0_2 : Nat) (A0_3 : Option Addr) (c0_3 : Nat) (l0_3 : List Int) (r1 : Int) (r2 : Int) (r3 : Nat) (r4 : List Int) (w : World) (hr0_3 : Kd.C (Kd.int .u8) w A0_3 l0_3.length l0_3) (hc0_3 : l0_3.length ≤ c0_3) (h : spec_ItemClean.f k a0_0 a0_1 a0_2 l0_3 = some (r1, r2, r3, r4)) :
    Calls Try.prog 14 #[.agg #[.int .i64 a0_0, .int .i64 a0_1, .float .f64 a0_2, .slice A0_3 l0_3.length c0_3]] w fun e w' => ∃ v3_ : Value, e = .returned (.agg #[.int .i64 r1, .int .i64 r2, .float .f64 r3, v3_]) ∧ Kd.R (Kd.int .u8) 5 w' w.heap.size (fun _ => True) v3_ r4 ∧ Below w.heap.size w w' := by
  have hu1 := Try.underlying27
  have HR0_3 := Aside0.mk hr0_3
  have HC0_3 := Aside0.mk hc0_3
  have HB := Aside0.mk (Below.refl w.heap.size w)
  clear hr0_3 hc0_3
  unfold spec_ItemClean.f at h
  obtain ⟨tb, hk0, h⟩ := Option.bind_eq_some_iff.1 h
  have A2 := Aside0.mk hk0
  clear hk0
  cases tb with
  | false =>
    rw [if_neg (by decide)] at h
    simp only [Option.some.injEq, Prod.mk.injEq] at h
    obtain ⟨rfl, rfl, rfl, rfl⟩ := h
    go_enter Try.func14, Try.ntmps14
    go_wp2_with (first | ((with_reducible refine gate_dst (N := 1) rfl ?_); refine box_event ?hg (N := 1) ?hd (cs := #[.int .i64 a0_0, .int .i64 a0_1, .float .f64 a0_2, .slice A0_3 l0_3.length c0_3]) (t := 27) ?hr ?_; (case hd => rfl); (case hg => rfl); (case hr => first | (go_simp; done) | (go_simp; rfl)); intro g1 hg w5 hbox hb; have B1 := Aside0.mk hbox; have GEB1 := Aside0.mk (show w.heap.size ≤ g1 by rw [hg]; exact HB.out.size); have n0_ := Aside0.mk (below_step HB.out hb); clear HB; have HB := n0_; clear n0_ hbox hg hb; have hB1_0 : w5.cell? ⟨g1, 0, none⟩ = some (.int .i64 a0_0) := (blk_cell B1.out 0).trans rfl; have hfB1_0 := blk_frozen B1.out 0; have hB1_1 : w5.cell? ⟨g1, 1, none⟩ = some (.int .i64 a0_1) := (blk_cell B1.out 1).trans rfl; have hfB1_1 := blk_frozen B1.out 1; have hB1_2 : w5.cell? ⟨g1, 2, none⟩ = some (.float .f64 a0_2) := (blk_cell B1.out 2).trans rfl; have hfB1_2 := blk_frozen B1.out 2; have hB1_3 : w5.cell? ⟨g1, 3, none⟩ = some (.slice A0_3 l0_3.length c0_3) := (blk_cell B1.out 3).trans rfl; have hfB1_3 := blk_frozen B1.out 3; skip) | ((with_reducible refine gate_dst (N := 2) rfl ?_); refine box_event ?hg (N := 2) ?hd (cs := #[.int .i64 0, .int .i64 0, .float .f64 0, .slice none 0 0]) (t := 27) ?hr ?_; (case hd => rfl); (case hg => rfl); (case hr => first | (go_simp; done) | (go_simp; rfl)); intro g2 hg w6 hbox hb; have NB2_B1 := Aside0.mk (show g2 ≠ g1 by rw [hg]; exact Nat.ne_of_gt (blk_lt (g := g1) B1.out)); have mB1_ := Aside0.mk (blk_below (g := g1) (o := .cells #[.int .i64 a0_0, .int .i64 a0_1, .float .f64 a0_2, .slice A0_3 l0_3.length c0_3] 27 (0, 0)) B1.out hb); clear B1; have B1 := mB1_; clear mB1_; have B2 := Aside0.mk hbox; have GEB2 := Aside0.mk (show w.heap.size ≤ g2 by rw [hg]; exact HB.out.size); have n0_ := Aside0.mk (below_step HB.out hb); clear HB; have HB := n0_; clear n0_ hbox hg hb; have hneB2B1 := NB2_B1.out; have hneB1B2 := NB2_B1.out.symm; have hB1_0 : w6.cell? ⟨g1, 0, none⟩ = some (.int .i64 a0_0) := (blk_cell B1.out 0).trans rfl; have hfB1_0 := blk_frozen B1.out 0; have hB1_1 : w6.cell? ⟨g1, 1, none⟩ = some (.int .i64 a0_1) := (blk_cell B1.out 1).trans rfl; have hfB1_1 := blk_frozen B1.out 1; have hB1_2 : w6.cell? ⟨g1, 2, none⟩ = some (.float .f64 a0_2) := (blk_cell B1.out 2).trans rfl; have hfB1_2 := blk_frozen B1.out 2; have hB1_3 : w6.cell? ⟨g1, 3, none⟩ = some (.slice A0_3 l0_3.length c0_3) := (blk_cell B1.out 3).trans rfl; have hfB1_3 := blk_frozen B1.out 3; have hB2_0 : w6.cell? ⟨g2, 0, none⟩ = some (.int .i64 0) := (blk_cell B2.out 0).trans rfl; have hfB2_0 := blk_frozen B2.out 0; have hB2_1 : w6.cell? ⟨g2, 1, none⟩ = some (.int .i64 0) := (blk_cell B2.out 1).trans rfl; have hfB2_1 := blk_frozen B2.out 1; have hB2_2 : w6.cell? ⟨g2, 2, none⟩ = some (.float .f64 0) := (blk_cell B2.out 2).trans rfl; have hfB2_2 := blk_frozen B2.out 2; have hB2_3 : w6.cell? ⟨g2, 3, none⟩ = some (.slice none 0 0) := (blk_cell B2.out 3).trans rfl; have hfB2_3 := blk_frozen B2.out 3; skip) | (go_at_call 61; refine (spec_ItemOk.calls k a0_0 a0_1 a0_2 A0_3 c0_3 l0_3 _ _ (Kd.C_below HR0_3.out HB.out) HC0_3.out A2.out).mono ?_; rintro e w7 ⟨rfl, hb⟩; have mB1_ := Aside0.mk (blk_below (g := g1) (o := .cells #[.int .i64 a0_0, .int .i64 a0_1, .float .f64 a0_2, .slice A0_3 l0_3.length c0_3] 27 (0, 0)) B1.out hb); have mB2_ := Aside0.mk (blk_below (g := g2) (o := .cells #[.int .i64 0, .int .i64 0, .float .f64 0, .slice none 0 0] 27 (0, 0)) B2.out hb); clear B1; have B1 := mB1_; clear mB1_; clear B2; have B2 := mB2_; clear mB2_; have n0_ := Aside0.mk (below_step HB.out hb); clear HB; have HB := n0_; clear n0_ hb; have hB1_0 : w7.cell? ⟨g1, 0, none⟩ = some (.int .i64 a0_0) := (blk_cell B1.out 0).trans rfl; have hfB1_0 := blk_frozen B1.out 0; have hB1_1 : w7.cell? ⟨g1, 1, none⟩ = some (.int .i64 a0_1) := (blk_cell B1.out 1).trans rfl; have hfB1_1 := blk_frozen B1.out 1; have hB1_2 : w7.cell? ⟨g1, 2, none⟩ = some (.float .f64 a0_2) := (blk_cell B1.out 2).trans rfl; have hfB1_2 := blk_frozen B1.out 2; have hB1_3 : w7.cell? ⟨g1, 3, none⟩ = some (.slice A0_3 l0_3.length c0_3) := (blk_cell B1.out 3).trans rfl; have hfB1_3 := blk_frozen B1.out 3; have hB2_0 : w7.cell? ⟨g2, 0, none⟩ = some (.int .i64 0) := (blk_cell B2.out 0).trans rfl; have hfB2_0 := blk_frozen B2.out 0; have hB2_1 : w7.cell? ⟨g2, 1, none⟩ = some (.int .i64 0) := (blk_cell B2.out 1).trans rfl; have hfB2_1 := blk_frozen B2.out 1; have hB2_2 : w7.cell? ⟨g2, 2, none⟩ = some (.float .f64 0) := (blk_cell B2.out 2).trans rfl; have hfB2_2 := blk_frozen B2.out 2; have hB2_3 : w7.cell? ⟨g2, 3, none⟩ = some (.slice none 0 0) := (blk_cell B2.out 3).trans rfl; have hfB2_3 := blk_frozen B2.out 3; skip) | ((with_reducible refine gate_store (t := 27) (p := 2) rfl ?_); refine store_event (t := 27) (p := 2) (v := Operand.tmp 7) (w1 := ((((w7.setCell ⟨g2, 0, none⟩ (.int .i64 0)).setCell ⟨g2, 1, none⟩ (.int .i64 0)).setCell ⟨g2, 2, none⟩ (.float .f64 0)).setCell ⟨g2, 3, none⟩ (.slice none 0 0))) rfl rfl rfl ?hr ?_; (case hr => first | (go_simp; done) | (go_simp; rfl)); intro w12 hw; have m0_ := Aside0.mk (show w12.heap[g2]? = some (.cells #[.int .i64 0, .int .i64 0, .float .f64 0, .slice none 0 0] 27 (0, 0)) by rw [hw]; exact put4_spec_ItemClean B2.out); have mB1_ := Aside0.mk (show w12.heap[g1]? = some (.cells #[.int .i64 a0_0, .int .i64 a0_1, .float .f64 a0_2, .slice A0_3 l0_3.length c0_3] 27 (0, 0)) by rw [hw]; exact far4_spec_ItemClean B1.out (by first | exact NB2_B1.out.symm | exact NB1_B2.out)); have n0_ := Aside0.mk (show Below w.heap.size w w12 by rw [hw]; exact low4_spec_ItemClean HB.out GEB2.out); clear B2 HB; have B2 := m0_; have HB := n0_; clear m0_ n0_; clear B1; have B1 := mB1_; clear mB1_; clear hw; have hB1_0 : w12.cell? ⟨g1, 0, none⟩ = some (.int .i64 a0_0) := (blk_cell B1.out 0).trans rfl; have hfB1_0 := blk_frozen B1.out 0; have hB1_1 : w12.cell? ⟨g1, 1, none⟩ = some (.int .i64 a0_1) := (blk_cell B1.out 1).trans rfl; have hfB1_1 := blk_frozen B1.out 1; have hB1_2 : w12.cell? ⟨g1, 2, none⟩ = some (.float .f64 a0_2) := (blk_cell B1.out 2).trans rfl; have hfB1_2 := blk_frozen B1.out 2; have hB1_3 : w12.cell? ⟨g1, 3, none⟩ = some (.slice A0_3 l0_3.length c0_3) := (blk_cell B1.out 3).trans rfl; have hfB1_3 := blk_frozen B1.out 3; have hB2_0 : w12.cell? ⟨g2, 0, none⟩ = some (.int .i64 0) := (blk_cell B2.out 0).trans rfl; have hfB2_0 := blk_frozen B2.out 0; have hB2_1 : w12.cell? ⟨g2, 1, none⟩ = some (.int .i64 0) := (blk_cell B2.out 1).trans rfl; have hfB2_1 := blk_frozen B2.out 1; have hB2_2 : w12.cell? ⟨g2, 2, none⟩ = some (.float .f64 0) := (blk_cell B2.out 2).trans rfl; have hfB2_2 := blk_frozen B2.out 2; have hB2_3 : w12.cell? ⟨g2, 3, none⟩ = some (.slice none 0 0) := (blk_cell B2.out 3).trans rfl; have hfB2_3 := blk_frozen B2.out 3; skip))
    refine bodyPost_ret (results_cell_row rfl _ _ g2 27 #[.int .i64 0, .int .i64 0, .float .f64 0, .slice none 0 0] (0, 0) _ rfl B2.out hu1 rfl (by kernel_rfl)) rfl ?_
    exact ⟨_, by first | rfl | simp, Kd.R_nil _ _ _ _ _, HB.out⟩
  | true =>
    rw [if_pos rfl] at h
    obtain ⟨⟨t1, t2, t3, l4⟩, hk1, h⟩ := Option.bind_eq_some_iff.1 h
    have A3 := Aside0.mk hk1
    clear hk1
    cases hz : HFloat.feq a0_2 0 with
    | true =>
      rw [hz, if_pos rfl] at h
      simp only [Option.some.injEq, Prod.mk.injEq] at h
      obtain ⟨rfl, rfl, rfl, rfl⟩ := h
      go_enter Try.func14, Try.ntmps14
      go_wp2_with (first | ((with_reducible refine gate_dst (N := 1) rfl ?_); refine box_event ?hg (N := 1) ?hd (cs := #[.int .i64 a0_0, .int .i64 a0_1, .float .f64 a0_2, .slice A0_3 l0_3.length c0_3]) (t := 27) ?hr ?_; (case hd => rfl); (case hg => rfl); (case hr => first | (go_simp; done) | (go_simp; rfl)); intro g1 hg w5 hbox hb; have B1 := Aside0.mk hbox; have GEB1 := Aside0.mk (show w.heap.size ≤ g1 by rw [hg]; exact HB.out.size); have n0_ := Aside0.mk (below_step HB.out hb); clear HB; have HB := n0_; clear n0_ hbox hg hb; have hB1_0 : w5.cell? ⟨g1, 0, none⟩ = some (.int .i64 a0_0) := (blk_cell B1.out 0).trans rfl; have hfB1_0 := blk_frozen B1.out 0; have hB1_1 : w5.cell? ⟨g1, 1, none⟩ = some (.int .i64 a0_1) := (blk_cell B1.out 1).trans rfl; have hfB1_1 := blk_frozen B1.out 1; have hB1_2 : w5.cell? ⟨g1, 2, none⟩ = some (.float .f64 a0_2) := (blk_cell B1.out 2).trans rfl; have hfB1_2 := blk_frozen B1.out 2; have hB1_3 : w5.cell? ⟨g1, 3, none⟩ = some (.slice A0_3 l0_3.length c0_3) := (blk_cell B1.out 3).trans rfl; have hfB1_3 := blk_frozen B1.out 3; skip) | ((with_reducible refine gate_dst (N := 2) rfl ?_); refine box_event ?hg (N := 2) ?hd (cs := #[.int .i64 0, .int .i64 0, .float .f64 0, .slice none 0 0]) (t := 27) ?hr ?_; (case hd => rfl); (case hg => rfl); (case hr => first | (go_simp; done) | (go_simp; rfl)); intro g2 hg w6 hbox hb; have NB2_B1 := Aside0.mk (show g2 ≠ g1 by rw [hg]; exact Nat.ne_of_gt (blk_lt (g := g1) B1.out)); have mB1_ := Aside0.mk (blk_below (g := g1) (o := .cells #[.int .i64 a0_0, .int .i64 a0_1, .float .f64 a0_2, .slice A0_3 l0_3.length c0_3] 27 (0, 0)) B1.out hb); clear B1; have B1 := mB1_; clear mB1_; have B2 := Aside0.mk hbox; have GEB2 := Aside0.mk (show w.heap.size ≤ g2 by rw [hg]; exact HB.out.size); have n0_ := Aside0.mk (below_step HB.out hb); clear HB; have HB := n0_; clear n0_ hbox hg hb; have hneB2B1 := NB2_B1.out; have hneB1B2 := NB2_B1.out.symm; have hB1_0 : w6.cell? ⟨g1, 0, none⟩ = some (.int .i64 a0_0) := (blk_cell B1.out 0).trans rfl; have hfB1_0 := blk_frozen B1.out 0; have hB1_1 : w6.cell? ⟨g1, 1, none⟩ = some (.int .i64 a0_1) := (blk_cell B1.out 1).trans rfl; have hfB1_1 := blk_frozen B1.out 1; have hB1_2 : w6.cell? ⟨g1, 2, none⟩ = some (.float .f64 a0_2) := (blk_cell B1.out 2).trans rfl; have hfB1_2 := blk_frozen B1.out 2; have hB1_3 : w6.cell? ⟨g1, 3, none⟩ = some (.slice A0_3 l0_3.length c0_3) := (blk_cell B1.out 3).trans rfl; have hfB1_3 := blk_frozen B1.out 3; have hB2_0 : w6.cell? ⟨g2, 0, none⟩ = some (.int .i64 0) := (blk_cell B2.out 0).trans rfl; have hfB2_0 := blk_frozen B2.out 0; have hB2_1 : w6.cell? ⟨g2, 1, none⟩ = some (.int .i64 0) := (blk_cell B2.out 1).trans rfl; have hfB2_1 := blk_frozen B2.out 1; have hB2_2 : w6.cell? ⟨g2, 2, none⟩ = some (.float .f64 0) := (blk_cell B2.out 2).trans rfl; have hfB2_2 := blk_frozen B2.out 2; have hB2_3 : w6.cell? ⟨g2, 3, none⟩ = some (.slice none 0 0) := (blk_cell B2.out 3).trans rfl; have hfB2_3 := blk_frozen B2.out 3; skip) | (go_at_call 61; refine (spec_ItemOk.calls k a0_0 a0_1 a0_2 A0_3 c0_3 l0_3 _ _ (Kd.C_below HR0_3.out HB.out) HC0_3.out A2.out).mono ?_; rintro e w7 ⟨rfl, hb⟩; have mB1_ := Aside0.mk (blk_below (g := g1) (o := .cells #[.int .i64 a0_0, .int .i64 a0_1, .float .f64 a0_2, .slice A0_3 l0_3.length c0_3] 27 (0, 0)) B1.out hb); have mB2_ := Aside0.mk (blk_below (g := g2) (o := .cells #[.int .i64 0, .int .i64 0, .float .f64 0, .slice none 0 0] 27 (0, 0)) B2.out hb); clear B1; have B1 := mB1_; clear mB1_; clear B2; have B2 := mB2_; clear mB2_; have n0_ := Aside0.mk (below_step HB.out hb); clear HB; have HB := n0_; clear n0_ hb; have hB1_0 : w7.cell? ⟨g1, 0, none⟩ = some (.int .i64 a0_0) := (blk_cell B1.out 0).trans rfl; have hfB1_0 := blk_frozen B1.out 0; have hB1_1 : w7.cell? ⟨g1, 1, none⟩ = some (.int .i64 a0_1) := (blk_cell B1.out 1).trans rfl; have hfB1_1 := blk_frozen B1.out 1; have hB1_2 : w7.cell? ⟨g1, 2, none⟩ = some (.float .f64 a0_2) := (blk_cell B1.out 2).trans rfl; have hfB1_2 := blk_frozen B1.out 2; have hB1_3 : w7.cell? ⟨g1, 3, none⟩ = some (.slice A0_3 l0_3.length c0_3) := (blk_cell B1.out 3).trans rfl; have hfB1_3 := blk_frozen B1.out 3; have hB2_0 : w7.cell? ⟨g2, 0, none⟩ = some (.int .i64 0) := (blk_cell B2.out 0).trans rfl; have hfB2_0 := blk_frozen B2.out 0; have hB2_1 : w7.cell? ⟨g2, 1, none⟩ = some (.int .i64 0) := (blk_cell B2.out 1).trans rfl; have hfB2_1 := blk_frozen B2.out 1; have hB2_2 : w7.cell? ⟨g2, 2, none⟩ = some (.float .f64 0) := (blk_cell B2.out 2).trans rfl; have hfB2_2 := blk_frozen B2.out 2; have hB2_3 : w7.cell? ⟨g2, 3, none⟩ = some (.slice none 0 0) := (blk_cell B2.out 3).trans rfl; have hfB2_3 := blk_frozen B2.out 3; skip) | (go_at_call 62; refine (spec_l3copy.calls a0_0 a0_1 a0_2 A0_3 c0_3 l0_3 t1 t2 t3 l4 _ (Kd.C_below HR0_3.out HB.out) HC0_3.out A3.out).mono ?_; rintro e w8 ⟨v_, rfl, ho0, hb⟩; have mB1_ := Aside0.mk (blk_below (g := g1) (o := .cells #[.int .i64 a0_0, .int .i64 a0_1, .float .f64 a0_2, .slice A0_3 l0_3.length c0_3] 27 (0, 0)) B1.out hb); have mB2_ := Aside0.mk (blk_below (g := g2) (o := .cells #[.int .i64 0, .int .i64 0, .float .f64 0, .slice none 0 0] 27 (0, 0)) B2.out hb); clear B1; have B1 := mB1_; clear mB1_; clear B2; have B2 := mB2_; clear mB2_; have HO := Aside0.mk (Kd.R_lower ho0 HB.out.size); clear ho0; obtain ⟨Ao, co, ev_⟩ := Kd.R_slice HO.out; subst ev_; have n0_ := Aside0.mk (below_step HB.out hb); clear HB; have HB := n0_; clear n0_ hb; have hB1_0 : w8.cell? ⟨g1, 0, none⟩ = some (.int .i64 a0_0) := (blk_cell B1.out 0).trans rfl; have hfB1_0 := blk_frozen B1.out 0; have hB1_1 : w8.cell? ⟨g1, 1, none⟩ = some (.int .i64 a0_1) := (blk_cell B1.out 1).trans rfl; have hfB1_1 := blk_frozen B1.out 1; have hB1_2 : w8.cell? ⟨g1, 2, none⟩ = some (.float .f64 a0_2) := (blk_cell B1.out 2).trans rfl; have hfB1_2 := blk_frozen B1.out 2; have hB1_3 : w8.cell? ⟨g1, 3, none⟩ = some (.slice A0_3 l0_3.length c0_3) := (blk_cell B1.out 3).trans rfl; have hfB1_3 := blk_frozen B1.out 3; have hB2_0 : w8.cell? ⟨g2, 0, none⟩ = some (.int .i64 0) := (blk_cell B2.out 0).trans rfl; have hfB2_0 := blk_frozen B2.out 0; have hB2_1 : w8.cell? ⟨g2, 1, none⟩ = some (.int .i64 0) := (blk_cell B2.out 1).trans rfl; have hfB2_1 := blk_frozen B2.out 1; have hB2_2 : w8.cell? ⟨g2, 2, none⟩ = some (.float .f64 0) := (blk_cell B2.out 2).trans rfl; have hfB2_2 := blk_frozen B2.out 2; have hB2_3 : w8.cell? ⟨g2, 3, none⟩ = some (.slice none 0 0) := (blk_cell B2.out 3).trans rfl; have hfB2_3 := blk_frozen B2.out 3; skip) | ((with_reducible refine gate_dst (N := 3) rfl ?_); refine box_event ?hg (N := 3) ?hd (cs := #[.int .i64 0, .int .i64 0, .float .f64 0, .slice none 0 0]) (t := 27) ?hr ?_; (case hd => rfl); (case hg => rfl); (case hr => first | (go_simp; done) | (go_simp; rfl)); intro g3 hg w9 hbox hb; have NB3_B1 := Aside0.mk (show g3 ≠ g1 by rw [hg]; exact Nat.ne_of_gt (blk_lt (g := g1) B1.out)); have NB3_B2 := Aside0.mk (show g3 ≠ g2 by rw [hg]; exact Nat.ne_of_gt (blk_lt (g := g2) B2.out)); have mr_ := Aside0.mk (Kd.R_below HO.out hb); clear HO; have HO := mr_; clear mr_; have mB1_ := Aside0.mk (blk_below (g := g1) (o := .cells #[.int .i64 a0_0, .int .i64 a0_1, .float .f64 a0_2, .slice A0_3 l0_3.length c0_3] 27 (0, 0)) B1.out hb); have mB2_ := Aside0.mk (blk_below (g := g2) (o := .cells #[.int .i64 0, .int .i64 0, .float .f64 0, .slice none 0 0] 27 (0, 0)) B2.out hb); clear B1; have B1 := mB1_; clear mB1_; clear B2; have B2 := mB2_; clear mB2_; have B3 := Aside0.mk hbox; have GEB3 := Aside0.mk (show w.heap.size ≤ g3 by rw [hg]; exact HB.out.size); have n0_ := Aside0.mk (below_step HB.out hb); clear HB; have HB := n0_; clear n0_ hbox hg hb; have hneB3B1 := NB3_B1.out; have hneB1B3 := NB3_B1.out.symm; have hneB3B2 := NB3_B2.out; have hneB2B3 := NB3_B2.out.symm; have hB1_0 : w9.cell? ⟨g1, 0, none⟩ = some (.int .i64 a0_0) := (blk_cell B1.out 0).trans rfl; have hfB1_0 := blk_frozen B1.out 0; have hB1_1 : w9.cell? ⟨g1, 1, none⟩ = some (.int .i64 a0_1) := (blk_cell B1.out 1).trans rfl; have hfB1_1 := blk_frozen B1.out 1; have hB1_2 : w9.cell? ⟨g1, 2, none⟩ = some (.float .f64 a0_2) := (blk_cell B1.out 2).trans rfl; have hfB1_2 := blk_frozen B1.out 2; have hB1_3 : w9.cell? ⟨g1, 3, none⟩ = some (.slice A0_3 l0_3.length c0_3) := (blk_cell B1.out 3).trans rfl; have hfB1_3 := blk_frozen B1.out 3; have hB2_0 : w9.cell? ⟨g2, 0, none⟩ = some (.int .i64 0) := (blk_cell B2.out 0).trans rfl; have hfB2_0 := blk_frozen B2.out 0; have hB2_1 : w9.cell? ⟨g2, 1, none⟩ = some (.int .i64 0) := (blk_cell B2.out 1).trans rfl; have hfB2_1 := blk_frozen B2.out 1; have hB2_2 : w9.cell? ⟨g2, 2, none⟩ = some (.float .f64 0) := (blk_cell B2.out 2).trans rfl; have hfB2_2 := blk_frozen B2.out 2; have hB2_3 : w9.cell? ⟨g2, 3, none⟩ = some (.slice none 0 0) := (blk_cell B2.out 3).trans rfl; have hfB2_3 := blk_frozen B2.out 3; have hB3_0 : w9.cell? ⟨g3, 0, none⟩ = some (.int .i64 0) := (blk_cell B3.out 0).trans rfl; have hfB3_0 := blk_frozen B3.out 0; have hB3_1 : w9.cell? ⟨g3, 1, none⟩ = some (.int .i64 0) := (blk_cell B3.out 1).trans rfl; have hfB3_1 := blk_frozen B3.out 1; have hB3_2 : w9.cell? ⟨g3, 2, none⟩ = some (.float .f64 0) := (blk_cell B3.out 2).trans rfl; have hfB3_2 := blk_frozen B3.out 2; have hB3_3 : w9.cell? ⟨g3, 3, none⟩ = some (.slice none 0 0) := (blk_cell B3.out 3).trans rfl; have hfB3_3 := blk_frozen B3.out 3; skip) | ((with_reducible refine gate_store (t := 27) (p := 3) rfl ?_); refine store_event (t := 27) (p := 3) (v := Operand.tmp 9) (w1 := ((((w9.setCell ⟨g3, 0, none⟩ (.int .i64 t1)).setCell ⟨g3, 1, none⟩ (.int .i64 t2)).setCell ⟨g3, 2, none⟩ (.float .f64 t3)).setCell ⟨g3, 3, none⟩ (.slice Ao l4.length co))) rfl rfl rfl ?hr ?_; (case hr => first | (go_simp; done) | (go_simp; rfl)); intro w10 hw; have m0_ := Aside0.mk (show w10.heap[g3]? = some (.cells #[.int .i64 t1, .int .i64 t2, .float .f64 t3, .slice Ao l4.length co] 27 (0, 0)) by rw [hw]; exact put4_spec_ItemClean B3.out); have mB1_ := Aside0.mk (show w10.heap[g1]? = some (.cells #[.int .i64 a0_0, .int .i64 a0_1, .float .f64 a0_2, .slice A0_3 l0_3.length c0_3] 27 (0, 0)) by rw [hw]; exact far4_spec_ItemClean B1.out (by first | exact NB3_B1.out.symm | exact NB1_B3.out)); have mB2_ := Aside0.mk (show w10.heap[g2]? = some (.cells #[.int .i64 0, .int .i64 0, .float .f64 0, .slice none 0 0] 27 (0, 0)) by rw [hw]; exact far4_spec_ItemClean B2.out (by first | exact NB3_B2.out.symm | exact NB2_B3.out)); have mr_ := Aside0.mk (show Kd.R (Kd.int .u8) 5 w10 w.heap.size (fun _ => True) (.slice Ao l4.length co) l4 by rw [hw]; exact row4_spec_ItemClean HO.out B3.out); have n0_ := Aside0.mk (show Below w.heap.size w w10 by rw [hw]; exact low4_spec_ItemClean HB.out GEB3.out); clear B3 HB; have B3 := m0_; have HB := n0_; clear m0_ n0_; clear B1; have B1 := mB1_; clear mB1_; clear B2; have B2 := mB2_; clear mB2_; clear HO; have HO := mr_; clear mr_; clear hw; have hB1_0 : w10.cell? ⟨g1, 0, none⟩ = some (.int .i64 a0_0) := (blk_cell B1.out 0).trans rfl; have hfB1_0 := blk_frozen B1.out 0; have hB1_1 : w10.cell? ⟨g1, 1, none⟩ = some (.int .i64 a0_1) := (blk_cell B1.out 1).trans rfl; have hfB1_1 := blk_frozen B1.out 1; have hB1_2 : w10.cell? ⟨g1, 2, none⟩ = some (.float .f64 a0_2) := (blk_cell B1.out 2).trans rfl; have hfB1_2 := blk_frozen B1.out 2; have hB1_3 : w10.cell? ⟨g1, 3, none⟩ = some (.slice A0_3 l0_3.length c0_3) := (blk_cell B1.out 3).trans rfl; have hfB1_3 := blk_frozen B1.out 3; have hB2_0 : w10.cell? ⟨g2, 0, none⟩ = some (.int .i64 0) := (blk_cell B2.out 0).trans rfl; have hfB2_0 := blk_frozen B2.out 0; have hB2_1 : w10.cell? ⟨g2, 1, none⟩ = some (.int .i64 0) := (blk_cell B2.out 1).trans rfl; have hfB2_1 := blk_frozen B2.out 1; have hB2_2 : w10.cell? ⟨g2, 2, none⟩ = some (.float .f64 0) := (blk_cell B2.out 2).trans rfl; have hfB2_2 := blk_frozen B2.out 2; have hB2_3 : w10.cell? ⟨g2, 3, none⟩ = some (.slice none 0 0) := (blk_cell B2.out 3).trans rfl; have hfB2_3 := blk_frozen B2.out 3; have hB3_0 : w10.cell? ⟨g3, 0, none⟩ = some (.int .i64 t1) := (blk_cell B3.out 0).trans rfl; have hfB3_0 := blk_frozen B3.out 0; have hB3_1 : w10.cell? ⟨g3, 1, none⟩ = some (.int .i64 t2) := (blk_cell B3.out 1).trans rfl; have hfB3_1 := blk_frozen B3.out 1; have hB3_2 : w10.cell? ⟨g3, 2, none⟩ = some (.float .f64 t3) := (blk_cell B3.out 2).trans rfl; have hfB3_2 := blk_frozen B3.out 2; have hB3_3 : w10.cell? ⟨g3, 3, none⟩ = some (.slice Ao l4.length co) := (blk_cell B3.out 3).trans rfl; have hfB3_3 := blk_frozen B3.out 3; skip) | ((with_reducible refine gate_store (t := 22) (p := 13) rfl ?_); refine store_event (t := 22) (p := 13) (v := Operand.const (Value.float FloatKind.f64 0)) (w1 := w10.setCell ⟨g3, 2, none⟩ (.float .f64 0)) rfl rfl rfl ?hr ?_; (case hr => first | (go_simp; done) | (go_simp; rfl)); intro w11 hw; have m0_ := Aside0.mk (show w11.heap[g3]? = some (.cells #[.int .i64 t1, .int .i64 t2, .float .f64 0, .slice Ao l4.length co] 27 (0, 0)) by rw [hw]; exact blk_put (cs := #[.int .i64 t1, .int .i64 t2, .float .f64 t3, .slice Ao l4.length co]) B3.out 2 _ rfl); have m1_ := Aside0.mk (show w11.heap[g1]? = some (.cells #[.int .i64 a0_0, .int .i64 a0_1, .float .f64 a0_2, .slice A0_3 l0_3.length c0_3] 27 (0, 0)) by rw [hw]; exact blk_far (p := ⟨g3, 2, none⟩) B1.out NB3_B1.out.symm _); have m2_ := Aside0.mk (show w11.heap[g2]? = some (.cells #[.int .i64 0, .int .i64 0, .float .f64 0, .slice none 0 0] 27 (0, 0)) by rw [hw]; exact blk_far (p := ⟨g3, 2, none⟩) B2.out NB3_B2.out.symm _); have mr_ := Aside0.mk (show Kd.R (Kd.int .u8) 5 w11 w.heap.size (fun _ => True) (.slice Ao l4.length co) l4 by rw [hw]; exact Kd.R_mono (Kd.R_far (p := ⟨g3, 2, none⟩) (Kd.R_types HO.out B3.out (by decide)) (fun _ hk => hk.2) _) (fun _ hk => hk.1)); have n0_ := Aside0.mk (show Below w.heap.size w w11 by rw [hw]; exact below_set HB.out GEB3.out); clear B1 B2 B3 HO HB hw; have B3 := m0_; have B1 := m1_; have B2 := m2_; have HO := mr_; have HB := n0_; clear m0_ m1_ m2_ mr_ n0_; have hB1_0 : w11.cell? ⟨g1, 0, none⟩ = some (.int .i64 a0_0) := (blk_cell B1.out 0).trans rfl; have hfB1_0 := blk_frozen B1.out 0; have hB1_1 : w11.cell? ⟨g1, 1, none⟩ = some (.int .i64 a0_1) := (blk_cell B1.out 1).trans rfl; have hfB1_1 := blk_frozen B1.out 1; have hB1_2 : w11.cell? ⟨g1, 2, none⟩ = some (.float .f64 a0_2) := (blk_cell B1.out 2).trans rfl; have hfB1_2 := blk_frozen B1.out 2; have hB1_3 : w11.cell? ⟨g1, 3, none⟩ = some (.slice A0_3 l0_3.length c0_3) := (blk_cell B1.out 3).trans rfl; have hfB1_3 := blk_frozen B1.out 3; have hB2_0 : w11.cell? ⟨g2, 0, none⟩ = some (.int .i64 0) := (blk_cell B2.out 0).trans rfl; have hfB2_0 := blk_frozen B2.out 0; have hB2_1 : w11.cell? ⟨g2, 1, none⟩ = some (.int .i64 0) := (blk_cell B2.out 1).trans rfl; have hfB2_1 := blk_frozen B2.out 1; have hB2_2 : w11.cell? ⟨g2, 2, none⟩ = some (.float .f64 0) := (blk_cell B2.out 2).trans rfl; have hfB2_2 := blk_frozen B2.out 2; have hB2_3 : w11.cell? ⟨g2, 3, none⟩ = some (.slice none 0 0) := (blk_cell B2.out 3).trans rfl; have hfB2_3 := blk_frozen B2.out 3; have hB3_0 : w11.cell? ⟨g3, 0, none⟩ = some (.int .i64 t1) := (blk_cell B3.out 0).trans rfl; have hfB3_0 := blk_frozen B3.out 0; have hB3_1 : w11.cell? ⟨g3, 1, none⟩ = some (.int .i64 t2) := (blk_cell B3.out 1).trans rfl; have hfB3_1 := blk_frozen B3.out 1; have hB3_2 : w11.cell? ⟨g3, 2, none⟩ = some (.float .f64 0) := (blk_cell B3.out 2).trans rfl; have hfB3_2 := blk_frozen B3.out 2; have hB3_3 : w11.cell? ⟨g3, 3, none⟩ = some (.slice Ao l4.length co) := (blk_cell B3.out 3).trans rfl; have hfB3_3 := blk_frozen B3.out 3; skip) | ((with_reducible refine gate_store (t := 27) (p := 2) rfl ?_); refine store_event (t := 27) (p := 2) (v := Operand.tmp 14) (w1 := ((((w11.setCell ⟨g2, 0, none⟩ (.int .i64 t1)).setCell ⟨g2, 1, none⟩ (.int .i64 t2)).setCell ⟨g2, 2, none⟩ (.float .f64 0)).setCell ⟨g2, 3, none⟩ (.slice Ao l4.length co))) rfl rfl rfl ?hr ?_; (case hr => first | (go_simp; done) | (go_simp; rfl)); intro w12 hw; have m0_ := Aside0.mk (show w12.heap[g2]? = some (.cells #[.int .i64 t1, .int .i64 t2, .float .f64 0, .slice Ao l4.length co] 27 (0, 0)) by rw [hw]; exact put4_spec_ItemClean B2.out); have mB1_ := Aside0.mk (show w12.heap[g1]? = some (.cells #[.int .i64 a0_0, .int .i64 a0_1, .float .f64 a0_2, .slice A0_3 l0_3.length c0_3] 27 (0, 0)) by rw [hw]; exact far4_spec_ItemClean B1.out (by first | exact NB2_B1.out.symm | exact NB1_B2.out)); have mB3_ := Aside0.mk (show w12.heap[g3]? = some (.cells #[.int .i64 t1, .int .i64 t2, .float .f64 0, .slice Ao l4.length co] 27 (0, 0)) by rw [hw]; exact far4_spec_ItemClean B3.out (by first | exact NB2_B3.out.symm | exact NB3_B2.out)); have mr_ := Aside0.mk (show Kd.R (Kd.int .u8) 5 w12 w.heap.size (fun _ => True) (.slice Ao l4.length co) l4 by rw [hw]; exact row4_spec_ItemClean HO.out B2.out); have n0_ := Aside0.mk (show Below w.heap.size w w12 by rw [hw]; exact low4_spec_ItemClean HB.out GEB2.out); clear B2 HB; have B2 := m0_; have HB := n0_; clear m0_ n0_; clear B1; have B1 := mB1_; clear mB1_; clear B3; have B3 := mB3_; clear mB3_; clear HO; have HO := mr_; clear mr_; clear hw; have hB1_0 : w12.cell? ⟨g1, 0, none⟩ = some (.int .i64 a0_0) := (blk_cell B1.out 0).trans rfl; have hfB1_0 := blk_frozen B1.out 0; have hB1_1 : w12.cell? ⟨g1, 1, none⟩ = some (.int .i64 a0_1) := (blk_cell B1.out 1).trans rfl; have hfB1_1 := blk_frozen B1.out 1; have hB1_2 : w12.cell? ⟨g1, 2, none⟩ = some (.float .f64 a0_2) := (blk_cell B1.out 2).trans rfl; have hfB1_2 := blk_frozen B1.out 2; have hB1_3 : w12.cell? ⟨g1, 3, none⟩ = some (.slice A0_3 l0_3.length c0_3) := (blk_cell B1.out 3).trans rfl; have hfB1_3 := blk_frozen B1.out 3; have hB3_0 : w12.cell? ⟨g3, 0, none⟩ = some (.int .i64 t1) := (blk_cell B3.out 0).trans rfl; have hfB3_0 := blk_frozen B3.out 0; have hB3_1 : w12.cell? ⟨g3, 1, none⟩ = some (.int .i64 t2) := (blk_cell B3.out 1).trans rfl; have hfB3_1 := blk_frozen B3.out 1; have hB3_2 : w12.cell? ⟨g3, 2, none⟩ = some (.float .f64 0) := (blk_cell B3.out 2).trans rfl; have hfB3_2 := blk_frozen B3.out 2; have hB3_3 : w12.cell? ⟨g3, 3, none⟩ = some (.slice Ao l4.length co) := (blk_cell B3.out 3).trans rfl; have hfB3_3 := blk_frozen B3.out 3; have hB2_0 : w12.cell? ⟨g2, 0, none⟩ = some (.int .i64 t1) := (blk_cell B2.out 0).trans rfl; have hfB2_0 := blk_frozen B2.out 0; have hB2_1 : w12.cell? ⟨g2, 1, none⟩ = some (.int .i64 t2) := (blk_cell B2.out 1).trans rfl; have hfB2_1 := blk_frozen B2.out 1; have hB2_2 : w12.cell? ⟨g2, 2, none⟩ = some (.float .f64 0) := (blk_cell B2.out 2).trans rfl; have hfB2_2 := blk_frozen B2.out 2; have hB2_3 : w12.cell? ⟨g2, 3, none⟩ = some (.slice Ao l4.length co) := (blk_cell B2.out 3).trans rfl; have hfB2_3 := blk_frozen B2.out 3; skip))
      refine bodyPost_ret (results_cell_row rfl _ _ g2 27 #[.int .i64 t1, .int .i64 t2, .float .f64 0, .slice Ao l4.length co] (0, 0) _ rfl B2.out hu1 rfl (by kernel_rfl)) rfl ?_
      exact ⟨_, by first | rfl | simp, HO.out, HB.out⟩
    | false =>
      rw [hz, if_neg (by decide)] at h
      simp only [Option.some.injEq, Prod.mk.injEq] at h
      obtain ⟨rfl, rfl, rfl, rfl⟩ := h
      go_enter Try.func14, Try.ntmps14
      go_wp2_with (first | ((with_reducible refine gate_dst (N := 1) rfl ?_); refine box_event ?hg (N := 1) ?hd (cs := #[.int .i64 a0_0, .int .i64 a0_1, .float .f64 a0_2, .slice A0_3 l0_3.length c0_3]) (t := 27) ?hr ?_; (case hd => rfl); (case hg => rfl); (case hr => first | (go_simp; done) | (go_simp; rfl)); intro g1 hg w5 hbox hb; have B1 := Aside0.mk hbox; have GEB1 := Aside0.mk (show w.heap.size ≤ g1 by rw [hg]; exact HB.out.size); have n0_ := Aside0.mk (below_step HB.out hb); clear HB; have HB := n0_; clear n0_ hbox hg hb; have hB1_0 : w5.cell? ⟨g1, 0, none⟩ = some (.int .i64 a0_0) := (blk_cell B1.out 0).trans rfl; have hfB1_0 := blk_frozen B1.out 0; have hB1_1 : w5.cell? ⟨g1, 1, none⟩ = some (.int .i64 a0_1) := (blk_cell B1.out 1).trans rfl; have hfB1_1 := blk_frozen B1.out 1; have hB1_2 : w5.cell? ⟨g1, 2, none⟩ = some (.float .f64 a0_2) := (blk_cell B1.out 2).trans rfl; have hfB1_2 := blk_frozen B1.out 2; have hB1_3 : w5.cell? ⟨g1, 3, none⟩ = some (.slice A0_3 l0_3.length c0_3) := (blk_cell B1.out 3).trans rfl; have hfB1_3 := blk_frozen B1.out 3; skip) | ((with_reducible refine gate_dst (N := 2) rfl ?_); refine box_event ?hg (N := 2) ?hd (cs := #[.int .i64 0, .int .i64 0, .float .f64 0, .slice none 0 0]) (t := 27) ?hr ?_; (case hd => rfl); (case hg => rfl); (case hr => first | (go_simp; done) | (go_simp; rfl)); intro g2 hg w6 hbox hb; have NB2_B1 := Aside0.mk (show g2 ≠ g1 by rw [hg]; exact Nat.ne_of_gt (blk_lt (g := g1) B1.out)); have mB1_ := Aside0.mk (blk_below (g := g1) (o := .cells #[.int .i64 a0_0, .int .i64 a0_1, .float .f64 a0_2, .slice A0_3 l0_3.length c0_3] 27 (0, 0)) B1.out hb); clear B1; have B1 := mB1_; clear mB1_; have B2 := Aside0.mk hbox; have GEB2 := Aside0.mk (show w.heap.size ≤ g2 by rw [hg]; exact HB.out.size); have n0_ := Aside0.mk (below_step HB.out hb); clear HB; have HB := n0_; clear n0_ hbox hg hb; have hneB2B1 := NB2_B1.out; have hneB1B2 := NB2_B1.out.symm; have hB1_0 : w6.cell? ⟨g1, 0, none⟩ = some (.int .i64 a0_0) := (blk_cell B1.out 0).trans rfl; have hfB1_0 := blk_frozen B1.out 0; have hB1_1 : w6.cell? ⟨g1, 1, none⟩ = some (.int .i64 a0_1) := (blk_cell B1.out 1).trans rfl; have hfB1_1 := blk_frozen B1.out 1; have hB1_2 : w6.cell? ⟨g1, 2, none⟩ = some (.float .f64 a0_2) := (blk_cell B1.out 2).trans rfl; have hfB1_2 := blk_frozen B1.out 2; have hB1_3 : w6.cell? ⟨g1, 3, none⟩ = some (.slice A0_3 l0_3.length c0_3) := (blk_cell B1.out 3).trans rfl; have hfB1_3 := blk_frozen B1.out 3; have hB2_0 : w6.cell? ⟨g2, 0, none⟩ = some (.int .i64 0) := (blk_cell B2.out 0).trans rfl; have hfB2_0 := blk_frozen B2.out 0; have hB2_1 : w6.cell? ⟨g2, 1, none⟩ = some (.int .i64 0) := (blk_cell B2.out 1).trans rfl; have hfB2_1 := blk_frozen B2.out 1; have hB2_2 : w6.cell? ⟨g2, 2, none⟩ = some (.float .f64 0) := (blk_cell B2.out 2).trans rfl; have hfB2_2 := blk_frozen B2.out 2; have hB2_3 : w6.cell? ⟨g2, 3, none⟩ = some (.slice none 0 0) := (blk_cell B2.out 3).trans rfl; have hfB2_3 := blk_frozen B2.out 3; skip) | (go_at_call 61; refine (spec_ItemOk.calls k a0_0 a0_1 a0_2 A0_3 c0_3 l0_3 _ _ (Kd.C_below HR0_3.out HB.out) HC0_3.out A2.out).mono ?_; rintro e w7 ⟨rfl, hb⟩; have mB1_ := Aside0.mk (blk_below (g := g1) (o := .cells #[.int .i64 a0_0, .int .i64 a0_1, .float .f64 a0_2, .slice A0_3 l0_3.length c0_3] 27 (0, 0)) B1.out hb); have mB2_ := Aside0.mk (blk_below (g := g2) (o := .cells #[.int .i64 0, .int .i64 0, .float .f64 0, .slice none 0 0] 27 (0, 0)) B2.out hb); clear B1; have B1 := mB1_; clear mB1_; clear B2; have B2 := mB2_; clear mB2_; have n0_ := Aside0.mk (below_step HB.out hb); clear HB; have HB := n0_; clear n0_ hb; have hB1_0 : w7.cell? ⟨g1, 0, none⟩ = some (.int .i64 a0_0) := (blk_cell B1.out 0).trans rfl; have hfB1_0 := blk_frozen B1.out 0; have hB1_1 : w7.cell? ⟨g1, 1, none⟩ = some (.int .i64 a0_1) := (blk_cell B1.out 1).trans rfl; have hfB1_1 := blk_frozen B1.out 1; have hB1_2 : w7.cell? ⟨g1, 2, none⟩ = some (.float .f64 a0_2) := (blk_cell B1.out 2).trans rfl; have hfB1_2 := blk_frozen B1.out 2; have hB1_3 : w7.cell? ⟨g1, 3, none⟩ = some (.slice A0_3 l0_3.length c0_3) := (blk_cell B1.out 3).trans rfl; have hfB1_3 := blk_frozen B1.out 3; have hB2_0 : w7.cell? ⟨g2, 0, none⟩ = some (.int .i64 0) := (blk_cell B2.out 0).trans rfl; have hfB2_0 := blk_frozen B2.out 0; have hB2_1 : w7.cell? ⟨g2, 1, none⟩ = some (.int .i64 0) := (blk_cell B2.out 1).trans rfl; have hfB2_1 := blk_frozen B2.out 1; have hB2_2 : w7.cell? ⟨g2, 2, none⟩ = some (.float .f64 0) := (blk_cell B2.out 2).trans rfl; have hfB2_2 := blk_frozen B2.out 2; have hB2_3 : w7.cell? ⟨g2, 3, none⟩ = some (.slice none 0 0) := (blk_cell B2.out 3).trans rfl; have hfB2_3 := blk_frozen B2.out 3; skip) | (go_at_call 62; refine (spec_l3copy.calls a0_0 a0_1 a0_2 A0_3 c0_3 l0_3 t1 t2 t3 l4 _ (Kd.C_below HR0_3.out HB.out) HC0_3.out A3.out).mono ?_; rintro e w8 ⟨v_, rfl, ho0, hb⟩; have mB1_ := Aside0.mk (blk_below (g := g1) (o := .cells #[.int .i64 a0_0, .int .i64 a0_1, .float .f64 a0_2, .slice A0_3 l0_3.length c0_3] 27 (0, 0)) B1.out hb); have mB2_ := Aside0.mk (blk_below (g := g2) (o := .cells #[.int .i64 0, .int .i64 0, .float .f64 0, .slice none 0 0] 27 (0, 0)) B2.out hb); clear B1; have B1 := mB1_; clear mB1_; clear B2; have B2 := mB2_; clear mB2_; have HO := Aside0.mk (Kd.R_lower ho0 HB.out.size); clear ho0; obtain ⟨Ao, co, ev_⟩ := Kd.R_slice HO.out; subst ev_; have n0_ := Aside0.mk (below_step HB.out hb); clear HB; have HB := n0_; clear n0_ hb; have hB1_0 : w8.cell? ⟨g1, 0, none⟩ = some (.int .i64 a0_0) := (blk_cell B1.out 0).trans rfl; have hfB1_0 := blk_frozen B1.out 0; have hB1_1 : w8.cell? ⟨g1, 1, none⟩ = some (.int .i64 a0_1) := (blk_cell B1.out 1).trans rfl; have hfB1_1 := blk_frozen B1.out 1; have hB1_2 : w8.cell? ⟨g1, 2, none⟩ = some (.float .f64 a0_2) := (blk_cell B1.out 2).trans rfl; have hfB1_2 := blk_frozen B1.out 2; have hB1_3 : w8.cell? ⟨g1, 3, none⟩ = some (.slice A0_3 l0_3.length c0_3) := (blk_cell B1.out 3).trans rfl; have hfB1_3 := blk_frozen B1.out 3; have hB2_0 : w8.cell? ⟨g2, 0, none⟩ = some (.int .i64 0) := (blk_cell B2.out 0).trans rfl; have hfB2_0 := blk_frozen B2.out 0; have hB2_1 : w8.cell? ⟨g2, 1, none⟩ = some (.int .i64 0) := (blk_cell B2.out 1).trans rfl; have hfB2_1 := blk_frozen B2.out 1; have hB2_2 : w8.cell? ⟨g2, 2, none⟩ = some (.float .f64 0) := (blk_cell B2.out 2).trans rfl; have hfB2_2 := blk_frozen B2.out 2; have hB2_3 : w8.cell? ⟨g2, 3, none⟩ = some (.slice none 0 0) := (blk_cell B2.out 3).trans rfl; have hfB2_3 := blk_frozen B2.out 3; skip) | ((with_reducible refine gate_dst (N := 3) rfl ?_); refine box_event ?hg (N := 3) ?hd (cs := #[.int .i64 0, .int .i64 0, .float .f64 0, .slice none 0 0]) (t := 27) ?hr ?_; (case hd => rfl); (case hg => rfl); (case hr => first | (go_simp; done) | (go_simp; rfl)); intro g3 hg w9 hbox hb; have NB3_B1 := Aside0.mk (show g3 ≠ g1 by rw [hg]; exact Nat.ne_of_gt (blk_lt (g := g1) B1.out)); have NB3_B2 := Aside0.mk (show g3 ≠ g2 by rw [hg]; exact Nat.ne_of_gt (blk_lt (g := g2) B2.out)); have mr_ := Aside0.mk (Kd.R_below HO.out hb); clear HO; have HO := mr_; clear mr_; have mB1_ := Aside0.mk (blk_below (g := g1) (o := .cells #[.int .i64 a0_0, .int .i64 a0_1, .float .f64 a0_2, .slice A0_3 l0_3.length c0_3] 27 (0, 0)) B1.out hb); have mB2_ := Aside0.mk (blk_below (g := g2) (o := .cells #[.int .i64 0, .int .i64 0, .float .f64 0, .slice none 0 0] 27 (0, 0)) B2.out hb); clear B1; have B1 := mB1_; clear mB1_; clear B2; have B2 := mB2_; clear mB2_; have B3 := Aside0.mk hbox; have GEB3 := Aside0.mk (show w.heap.size ≤ g3 by rw [hg]; exact HB.out.size); have n0_ := Aside0.mk (below_step HB.out hb); clear HB; have HB := n0_; clear n0_ hbox hg hb; have hneB3B1 := NB3_B1.out; have hneB1B3 := NB3_B1.out.symm; have hneB3B2 := NB3_B2.out; have hneB2B3 := NB3_B2.out.symm; have hB1_0 : w9.cell? ⟨g1, 0, none⟩ = some (.int .i64 a0_0) := (blk_cell B1.out 0).trans rfl; have hfB1_0 := blk_frozen B1.out 0; have hB1_1 : w9.cell? ⟨g1, 1, none⟩ = some (.int .i64 a0_1) := (blk_cell B1.out 1).trans rfl; have hfB1_1 := blk_frozen B1.out 1; have hB1_2 : w9.cell? ⟨g1, 2, none⟩ = some (.float .f64 a0_2) := (blk_cell B1.out 2).trans rfl; have hfB1_2 := blk_frozen B1.out 2; have hB1_3 : w9.cell? ⟨g1, 3, none⟩ = some (.slice A0_3 l0_3.length c0_3) := (blk_cell B1.out 3).trans rfl; have hfB1_3 := blk_frozen B1.out 3; have hB2_0 : w9.cell? ⟨g2, 0, none⟩ = some (.int .i64 0) := (blk_cell B2.out 0).trans rfl; have hfB2_0 := blk_frozen B2.out 0; have hB2_1 : w9.cell? ⟨g2, 1, none⟩ = some (.int .i64 0) := (blk_cell B2.out 1).trans rfl; have hfB2_1 := blk_frozen B2.out 1; have hB2_2 : w9.cell? ⟨g2, 2, none⟩ = some (.float .f64 0) := (blk_cell B2.out 2).trans rfl; have hfB2_2 := blk_frozen B2.out 2; have hB2_3 : w9.cell? ⟨g2, 3, none⟩ = some (.slice none 0 0) := (blk_cell B2.out 3).trans rfl; have hfB2_3 := blk_frozen B2.out 3; have hB3_0 : w9.cell? ⟨g3, 0, none⟩ = some (.int .i64 0) := (blk_cell B3.out 0).trans rfl; have hfB3_0 := blk_frozen B3.out 0; have hB3_1 : w9.cell? ⟨g3, 1, none⟩ = some (.int .i64 0) := (blk_cell B3.out 1).trans rfl; have hfB3_1 := blk_frozen B3.out 1; have hB3_2 : w9.cell? ⟨g3, 2, none⟩ = some (.float .f64 0) := (blk_cell B3.out 2).trans rfl; have hfB3_2 := blk_frozen B3.out 2; have hB3_3 : w9.cell? ⟨g3, 3, none⟩ = some (.slice none 0 0) := (blk_cell B3.out 3).trans rfl; have hfB3_3 := blk_frozen B3.out 3; skip) | ((with_reducible refine gate_store (t := 27) (p := 3) rfl ?_); refine store_event (t := 27) (p := 3) (v := Operand.tmp 9) (w1 := ((((w9.setCell ⟨g3, 0, none⟩ (.int .i64 t1)).setCell ⟨g3, 1, none⟩ (.int .i64 t2)).setCell ⟨g3, 2, none⟩ (.float .f64 t3)).setCell ⟨g3, 3, none⟩ (.slice Ao l4.length co))) rfl rfl rfl ?hr ?_; (case hr => first | (go_simp; done) | (go_simp; rfl)); intro w10 hw; have m0_ := Aside0.mk (show w10.heap[g3]? = some (.cells #[.int .i64 t1, .int .i64 t2, .float .f64 t3, .slice Ao l4.length co] 27 (0, 0)) by rw [hw]; exact put4_spec_ItemClean B3.out); have mB1_ := Aside0.mk (show w10.heap[g1]? = some (.cells #[.int .i64 a0_0, .int .i64 a0_1, .float .f64 a0_2, .slice A0_3 l0_3.length c0_3] 27 (0, 0)) by rw [hw]; exact far4_spec_ItemClean B1.out (by first | exact NB3_B1.out.symm | exact NB1_B3.out)); have mB2_ := Aside0.mk (show w10.heap[g2]? = some (.cells #[.int .i64 0, .int .i64 0, .float .f64 0, .slice none 0 0] 27 (0, 0)) by rw [hw]; exact far4_spec_ItemClean B2.out (by first | exact NB3_B2.out.symm | exact NB2_B3.out)); have mr_ := Aside0.mk (show Kd.R (Kd.int .u8) 5 w10 w.heap.size (fun _ => True) (.slice Ao l4.length co) l4 by rw [hw]; exact row4_spec_ItemClean HO.out B3.out); have n0_ := Aside0.mk (show Below w.heap.size w w10 by rw [hw]; exact low4_spec_ItemClean HB.out GEB3.out); clear B3 HB; have B3 := m0_; have HB := n0_; clear m0_ n0_; clear B1; have B1 := mB1_; clear mB1_; clear B2; have B2 := mB2_; clear mB2_; clear HO; have HO := mr_; clear mr_; clear hw; have hB1_0 : w10.cell? ⟨g1, 0, none⟩ = some (.int .i64 a0_0) := (blk_cell B1.out 0).trans rfl; have hfB1_0 := blk_frozen B1.out 0; have hB1_1 : w10.cell? ⟨g1, 1, none⟩ = some (.int .i64 a0_1) := (blk_cell B1.out 1).trans rfl; have hfB1_1 := blk_frozen B1.out 1; have hB1_2 : w10.cell? ⟨g1, 2, none⟩ = some (.float .f64 a0_2) := (blk_cell B1.out 2).trans rfl; have hfB1_2 := blk_frozen B1.out 2; have hB1_3 : w10.cell? ⟨g1, 3, none⟩ = some (.slice A0_3 l0_3.length c0_3) := (blk_cell B1.out 3).trans rfl; have hfB1_3 := blk_frozen B1.out 3; have hB2_0 : w10.cell? ⟨g2, 0, none⟩ = some (.int .i64 0) := (blk_cell B2.out 0).trans rfl; have hfB2_0 := blk_frozen B2.out 0; have hB2_1 : w10.cell? ⟨g2, 1, none⟩ = some (.int .i64 0) := (blk_cell B2.out 1).trans rfl; have hfB2_1 := blk_frozen B2.out 1; have hB2_2 : w10.cell? ⟨g2, 2, none⟩ = some (.float .f64 0) := (blk_cell B2.out 2).trans rfl; have hfB2_2 := blk_frozen B2.out 2; have hB2_3 : w10.cell? ⟨g2, 3, none⟩ = some (.slice none 0 0) := (blk_cell B2.out 3).trans rfl; have hfB2_3 := blk_frozen B2.out 3; have hB3_0 : w10.cell? ⟨g3, 0, none⟩ = some (.int .i64 t1) := (blk_cell B3.out 0).trans rfl; have hfB3_0 := blk_frozen B3.out 0; have hB3_1 : w10.cell? ⟨g3, 1, none⟩ = some (.int .i64 t2) := (blk_cell B3.out 1).trans rfl; have hfB3_1 := blk_frozen B3.out 1; have hB3_2 : w10.cell? ⟨g3, 2, none⟩ = some (.float .f64 t3) := (blk_cell B3.out 2).trans rfl; have hfB3_2 := blk_frozen B3.out 2; have hB3_3 : w10.cell? ⟨g3, 3, none⟩ = some (.slice Ao l4.length co) := (blk_cell B3.out 3).trans rfl; have hfB3_3 := blk_frozen B3.out 3; skip) | ((with_reducible refine gate_store (t := 27) (p := 2) rfl ?_); refine store_event (t := 27) (p := 2) (v := Operand.tmp 14) (w1 := ((((w10.setCell ⟨g2, 0, none⟩ (.int .i64 t1)).setCell ⟨g2, 1, none⟩ (.int .i64 t2)).setCell ⟨g2, 2, none⟩ (.float .f64 t3)).setCell ⟨g2, 3, none⟩ (.slice Ao l4.length co))) rfl rfl rfl ?hr ?_; (case hr => first | (go_simp; done) | (go_simp; rfl)); intro w12 hw; have m0_ := Aside0.mk (show w12.heap[g2]? = some (.cells #[.int .i64 t1, .int .i64 t2, .float .f64 t3, .slice Ao l4.length co] 27 (0, 0)) by rw [hw]; exact put4_spec_ItemClean B2.out); have mB1_ := Aside0.mk (show w12.heap[g1]? = some (.cells #[.int .i64 a0_0, .int .i64 a0_1, .float .f64 a0_2, .slice A0_3 l0_3.length c0_3] 27 (0, 0)) by rw [hw]; exact far4_spec_ItemClean B1.out (by first | exact NB2_B1.out.symm | exact NB1_B2.out)); have mB3_ := Aside0.mk (show w12.heap[g3]? = some (.cells #[.int .i64 t1, .int .i64 t2, .float .f64 t3, .slice Ao l4.length co] 27 (0, 0)) by rw [hw]; exact far4_spec_ItemClean B3.out (by first | exact NB2_B3.out.symm | exact NB3_B2.out)); have mr_ := Aside0.mk (show Kd.R (Kd.int .u8) 5 w12 w.heap.size (fun _ => True) (.slice Ao l4.length co) l4 by rw [hw]; exact row4_spec_ItemClean HO.out B2.out); have n0_ := Aside0.mk (show Below w.heap.size w w12 by rw [hw]; exact low4_spec_ItemClean HB.out GEB2.out); clear B2 HB; have B2 := m0_; have HB := n0_; clear m0_ n0_; clear B1; have B1 := mB1_; clear mB1_; clear B3; have B3 := mB3_; clear mB3_; clear HO; have HO := mr_; clear mr_; clear hw; have hB1_0 : w12.cell? ⟨g1, 0, none⟩ = some (.int .i64 a0_0) := (blk_cell B1.out 0).trans rfl; have hfB1_0 := blk_frozen B1.out 0; have hB1_1 : w12.cell? ⟨g1, 1, none⟩ = some (.int .i64 a0_1) := (blk_cell B1.out 1).trans rfl; have hfB1_1 := blk_frozen B1.out 1; have hB1_2 : w12.cell? ⟨g1, 2, none⟩ = some (.float .f64 a0_2) := (blk_cell B1.out 2).trans rfl; have hfB1_2 := blk_frozen B1.out 2; have hB1_3 : w12.cell? ⟨g1, 3, none⟩ = some (.slice A0_3 l0_3.length c0_3) := (blk_cell B1.out 3).trans rfl; have hfB1_3 := blk_frozen B1.out 3; have hB3_0 : w12.cell? ⟨g3, 0, none⟩ = some (.int .i64 t1) := (blk_cell B3.out 0).trans rfl; have hfB3_0 := blk_frozen B3.out 0; have hB3_1 : w12.cell? ⟨g3, 1, none⟩ = some (.int .i64 t2) := (blk_cell B3.out 1).trans rfl; have hfB3_1 := blk_frozen B3.out 1; have hB3_2 : w12.cell? ⟨g3, 2, none⟩ = some (.float .f64 t3) := (blk_cell B3.out 2).trans rfl; have hfB3_2 := blk_frozen B3.out 2; have hB3_3 : w12.cell? ⟨g3, 3, none⟩ = some (.slice Ao l4.length co) := (blk_cell B3.out 3).trans rfl; have hfB3_3 := blk_frozen B3.out 3; have hB2_0 : w12.cell? ⟨g2, 0, none⟩ = some (.int .i64 t1) := (blk_cell B2.out 0).trans rfl; have hfB2_0 := blk_frozen B2.out 0; have hB2_1 : w12.cell? ⟨g2, 1, none⟩ = some (.int .i64 t2) := (blk_cell B2.out 1).trans rfl; have hfB2_1 := blk_frozen B2.out 1; have hB2_2 : w12.cell? ⟨g2, 2, none⟩ = some (.float .f64 t3) := (blk_cell B2.out 2).trans rfl; have hfB2_2 := blk_frozen B2.out 2; have hB2_3 : w12.cell? ⟨g2, 3, none⟩ = some (.slice Ao l4.length co) := (blk_cell B2.out 3).trans rfl; have hfB2_3 := blk_frozen B2.out 3; skip))
      refine bodyPost_ret (results_cell_row rfl _ _ g2 27 #[.int .i64 t1, .int .i64 t2, .float .f64 t3, .slice Ao l4.length co] (0, 0) _ rfl B2.out hu1 rfl (by kernel_rfl)) rfl ?_
      exact ⟨_, by first | rfl | simp, HO.out, HB.out⟩

/-! ### spec_KeyOk: function 70 -/
def spec_KeyOk.f (k : Nat) (a0_0 : Int) (a0_1 : Int) (a0_2 : Nat) (l0_3 : List Int) : Option (Bool) := (spec_ItemOk.f k a0_0 a0_1 a0_2 l0_3).bind fun t119 => (if t119 = true then (if a0_0 = 0 then (some false) else (if (HFloat.feq a0_2 0) = true then ((spec_FloatBits.f a0_2).bind fun t120 => (some (!(t120 != 0)))) else (some (!false)))) else (some false))
theorem spec_KeyOk.mono : ∀ a0 a1 a2 a3 k, LeO (spec_KeyOk.f k a0 a1 a2 a3) (spec_KeyOk.f (k + 1) a0 a1 a2 a3) := by
  intro a0 a1 a2 a3 k
  unfold spec_KeyOk.f
  repeat' first
      | (with_reducible exact spec_ItemOk.mono _ _ _ _ _)
      | (with_reducible exact LeO.refl _)
      | (with_reducible exact LeO.none _)
      | (with_reducible refine LeO.ite ?_ ?_)
      | (with_reducible refine LeO.bind ?_ (fun _ => ?_))
      | exact spec_ItemOk.mono _ _ _ _ _
      | exact LeO.none _
      | refine LeO.ite ?_ ?_
      | refine LeO.bind ?_ (fun _ => ?_)
set_option maxHeartbeats 8000000 in
set_option maxRecDepth 100000 in
theorem spec_KeyOk.calls (k : Nat) (a0_0 : Int) (a0_1 : Int) (a0_2 : Nat) (A0_3 : Option Addr) (c0_3 : Nat) (l0_3 : List Int) (r : Bool) (w : World) (hr0_3 : Kd.C (Kd.int .u8) w A0_3 l0_3.length l0_3) (hc0_3 : l0_3.length ≤ c0_3) (h : spec_KeyOk.f k a0_0 a0_1 a0_2 l0_3 = some r) :
    Calls Try.prog 70 #[.agg #[.int .i64 a0_0, .int .i64 a0_1, .float .f64 a0_2, .slice A0_3 l0_3.length c0_3]] w fun e w' => e = .returned (.bool r) ∧ Below w.heap.size w w' := by
  have hu27 := Try.underlying27
  have HR0_3 := Aside0.mk hr0_3
  have HC0_3 := Aside0.mk hc0_3
  clear hr0_3 hc0_3
  have HB := Aside0.mk (Below.refl w.heap.size w)
  have H : ((spec_ItemOk.f k a0_0 a0_1 a0_2 l0_3).bind fun t119 => (if t119 = true then (if a0_0 = 0 then (some false) else (if (HFloat.feq a0_2 0) = true then ((spec_FloatBits.f a0_2).bind fun t120 => (some (!(t120 != 0)))) else (some (!false)))) else (some false))) = some r := h
  clear h
  replace H := Option.bind_eq_some_iff.mp H
  obtain ⟨t119, A20, H⟩ := H
  replace H : (if t119 = true then (if a0_0 = 0 then (some false) else (if (HFloat.feq a0_2 0) = true then ((spec_FloatBits.f a0_2).bind fun t120 => (some (!(t120 != 0)))) else (some (!false)))) else (some false)) = some r := H
  have A2 := Aside0.mk A20
  clear A20
  by_cases c3 : t119 = true
  · subst c3
    have H1 : (if a0_0 = 0 then (some false) else (if (HFloat.feq a0_2 0) = true then ((spec_FloatBits.f a0_2).bind fun t120 => (some (!(t120 != 0)))) else (some (!false)))) = some r := by rw [if_pos rfl] at H; exact H
    clear H
    have H := H1
    clear H1
    by_cases c4 : a0_0 = 0
    · rw [if_pos c4] at H
      have c4b0 : (a0_0 == 0) = true := beq_iff_eq.mpr c4
      have c4b1 : (a0_0 != 0) = false := bne_eq_false_iff_eq.mpr c4
      clear c4
      obtain rfl := Option.some.inj H
      go_enter Try.func70, Try.ntmps70
      go_wp2_with (first | ((with_reducible refine gate_dst (N := 1) rfl ?_); refine box_event ?hg (N := 1) ?hd (cs := #[.int .i64 a0_0, .int .i64 a0_1, .float .f64 a0_2, .slice A0_3 l0_3.length c0_3]) (t := 27) ?hr ?_; (case hd => rfl); (case hg => rfl); (case hr => first | (go_simp; done) | (go_simp; rfl)); intro gb118 hg w5 hbox hb; have n0_ := Aside0.mk (below_step (by repeat (first | (with_reducible first | exact HB.out | apply below_alloc | apply pw_below_drewN | apply below_drew1) | exact HB.out)) hb); have n1_ := Aside0.mk (hbox); have n2_ := Aside0.mk ((by rw [hg]; exact (below_size (by repeat (first | (with_reducible first | exact HB.out | apply below_alloc | apply pw_below_drewN | apply below_drew1) | exact HB.out))) : w.heap.size ≤ gb118)); have n3_ := Aside0.mk ((by rw [hg]; exact (below_size (by repeat (first | (with_reducible first | exact HB.out | apply below_alloc | apply pw_below_drewN | apply below_drew1) | exact HB.out))) : w.heap.size ≤ gb118)); clear HB; have HB := n0_; have BK118 := n1_; have GW118 := n2_; have GE118 := n3_; clear n0_ n1_ n2_ n3_; clear hb hbox hg; have hcz6_0 : w5.cell? ⟨gb118, 0, none⟩ = some (.int .i64 a0_0) := (blk_cell BK118.out 0).trans rfl; have hcz6_1 : w5.cell? ⟨gb118, 1, none⟩ = some (.int .i64 a0_1) := (blk_cell BK118.out 1).trans rfl; have hcz6_2 : w5.cell? ⟨gb118, 2, none⟩ = some (.float .f64 a0_2) := (blk_cell BK118.out 2).trans rfl; have hcz6_3 : w5.cell? ⟨gb118, 3, none⟩ = some (.slice A0_3 l0_3.length c0_3) := (blk_cell BK118.out 3).trans rfl; have hfz6_0 := blk_frozen BK118.out 0; have hfz6_1 := blk_frozen BK118.out 1; have hfz6_2 := blk_frozen BK118.out 2; have hfz6_3 := blk_frozen BK118.out 3) | ((with_reducible refine gate_callee (f := 61) rfl ?_); refine goesL_ (some 4) rfl rfl Try.func61 (by kernel_rfl) rfl #[.agg #[.int .i64 a0_0, .int .i64 a0_1, .float .f64 a0_2, .slice A0_3 l0_3.length c0_3]] rfl (by (try simp only [List.map_toArray, List.map_cons, List.map_nil]); first | done | rfl | (simp only [List.length_drop, List.length_take]; rfl)) ?_; (with_reducible refine (spec_ItemOk.calls k a0_0 a0_1 a0_2 _ _ l0_3 true _ ?side1 ?side2 A2.out).mono ?_); (case side1 => repeat (first | exact (Kd.C_below HR0_3.out HB.out) | (with_reducible refine Kd.C_alloc ?_ _) | (with_reducible refine Kd.C_drewN ?_ _) | (with_reducible refine Kd.C_drew ?_))); (case side2 => exact HC0_3.out); rintro e w7 ⟨rfl, hb⟩; refine ⟨_, rfl, ?_⟩; have n0_ := Aside0.mk (blk_below (g := gb118) (o := .cells #[.int .i64 a0_0, .int .i64 a0_1, .float .f64 a0_2, .slice A0_3 l0_3.length c0_3] 27 (0, 0)) (by (with_reducible repeat (first | refine blk_drewN ?_ _ | refine blk_drew ?_ | refine blk_alloc ?_ _)); exact BK118.out) hb); have n1_ := Aside0.mk (below_step (by repeat (first | (with_reducible first | exact HB.out | apply below_alloc | apply pw_below_drewN | apply below_drew1 | refine below_set ?_ GE118.out) | exact HB.out)) hb); clear BK118; clear HB; have BK118 := n0_; have HB := n1_; clear n0_ n1_; (try clear hb); (try clear hb2); (try clear hk); (try clear hi); have hcz8_0 : w7.cell? ⟨gb118, 0, none⟩ = some (.int .i64 a0_0) := (blk_cell BK118.out 0).trans rfl; have hcz8_1 : w7.cell? ⟨gb118, 1, none⟩ = some (.int .i64 a0_1) := (blk_cell BK118.out 1).trans rfl; have hcz8_2 : w7.cell? ⟨gb118, 2, none⟩ = some (.float .f64 a0_2) := (blk_cell BK118.out 2).trans rfl; have hcz8_3 : w7.cell? ⟨gb118, 3, none⟩ = some (.slice A0_3 l0_3.length c0_3) := (blk_cell BK118.out 3).trans rfl; have hfz8_0 := blk_frozen BK118.out 0; have hfz8_1 := blk_frozen BK118.out 1; have hfz8_2 := blk_frozen BK118.out 2; have hfz8_3 := blk_frozen BK118.out 3))
      go_ret
      exact ⟨by first | rfl | (simp [errW_none, errW_some] <;> rfl) | (simp [*, errW_none, errW_some] <;> rfl), by repeat (first | (with_reducible first | exact HB.out | apply below_alloc | apply pw_below_drewN | apply below_drew1 | refine below_set ?_ GE118.out) | exact HB.out)⟩
    · rw [if_neg c4] at H
      have c4b0 : (a0_0 == 0) = false := beq_eq_false_iff_ne.mpr c4
      have c4b1 : (a0_0 != 0) = true := bne_iff_ne.mpr c4
      by_cases c9 : (HFloat.feq a0_2 0) = true
      · rw [if_pos c9] at H
        have c9b0 : (HFloat.feq a0_2 0) = true := c9
        clear c9
        replace H := Option.bind_eq_some_iff.mp H
        obtain ⟨t120, A100, H⟩ := H
        replace H : (some (!(t120 != 0))) = some r := H
        have A10 := Aside0.mk A100
        clear A100
        obtain rfl := Option.some.inj H
        go_enter Try.func70, Try.ntmps70
        go_wp2_with (first | ((with_reducible refine gate_dst (N := 1) rfl ?_); refine box_event ?hg (N := 1) ?hd (cs := #[.int .i64 a0_0, .int .i64 a0_1, .float .f64 a0_2, .slice A0_3 l0_3.length c0_3]) (t := 27) ?hr ?_; (case hd => rfl); (case hg => rfl); (case hr => first | (go_simp; done) | (go_simp; rfl)); intro gb118 hg w11 hbox hb; have n0_ := Aside0.mk (below_step (by repeat (first | (with_reducible first | exact HB.out | apply below_alloc | apply pw_below_drewN | apply below_drew1) | exact HB.out)) hb); have n1_ := Aside0.mk (hbox); have n2_ := Aside0.mk ((by rw [hg]; exact (below_size (by repeat (first | (with_reducible first | exact HB.out | apply below_alloc | apply pw_below_drewN | apply below_drew1) | exact HB.out))) : w.heap.size ≤ gb118)); have n3_ := Aside0.mk ((by rw [hg]; exact (below_size (by repeat (first | (with_reducible first | exact HB.out | apply below_alloc | apply pw_below_drewN | apply below_drew1) | exact HB.out))) : w.heap.size ≤ gb118)); clear HB; have HB := n0_; have BK118 := n1_; have GW118 := n2_; have GE118 := n3_; clear n0_ n1_ n2_ n3_; clear hb hbox hg; have hcz12_0 : w11.cell? ⟨gb118, 0, none⟩ = some (.int .i64 a0_0) := (blk_cell BK118.out 0).trans rfl; have hcz12_1 : w11.cell? ⟨gb118, 1, none⟩ = some (.int .i64 a0_1) := (blk_cell BK118.out 1).trans rfl; have hcz12_2 : w11.cell? ⟨gb118, 2, none⟩ = some (.float .f64 a0_2) := (blk_cell BK118.out 2).trans rfl; have hcz12_3 : w11.cell? ⟨gb118, 3, none⟩ = some (.slice A0_3 l0_3.length c0_3) := (blk_cell BK118.out 3).trans rfl; have hfz12_0 := blk_frozen BK118.out 0; have hfz12_1 := blk_frozen BK118.out 1; have hfz12_2 := blk_frozen BK118.out 2; have hfz12_3 := blk_frozen BK118.out 3) | ((with_reducible refine gate_callee (f := 61) rfl ?_); refine goesL_ (some 4) rfl rfl Try.func61 (by kernel_rfl) rfl #[.agg #[.int .i64 a0_0, .int .i64 a0_1, .float .f64 a0_2, .slice A0_3 l0_3.length c0_3]] rfl (by (try simp only [List.map_toArray, List.map_cons, List.map_nil]); first | done | rfl | (simp only [List.length_drop, List.length_take]; rfl)) ?_; (with_reducible refine (spec_ItemOk.calls k a0_0 a0_1 a0_2 _ _ l0_3 true _ ?side1 ?side2 A2.out).mono ?_); (case side1 => repeat (first | exact (Kd.C_below HR0_3.out HB.out) | (with_reducible refine Kd.C_alloc ?_ _) | (with_reducible refine Kd.C_drewN ?_ _) | (with_reducible refine Kd.C_drew ?_))); (case side2 => exact HC0_3.out); rintro e w13 ⟨rfl, hb⟩; refine ⟨_, rfl, ?_⟩; have n0_ := Aside0.mk (blk_below (g := gb118) (o := .cells #[.int .i64 a0_0, .int .i64 a0_1, .float .f64 a0_2, .slice A0_3 l0_3.length c0_3] 27 (0, 0)) (by (with_reducible repeat (first | refine blk_drewN ?_ _ | refine blk_drew ?_ | refine blk_alloc ?_ _)); exact BK118.out) hb); have n1_ := Aside0.mk (below_step (by repeat (first | (with_reducible first | exact HB.out | apply below_alloc | apply pw_below_drewN | apply below_drew1 | refine below_set ?_ GE118.out) | exact HB.out)) hb); clear BK118; clear HB; have BK118 := n0_; have HB := n1_; clear n0_ n1_; (try clear hb); (try clear hb2); (try clear hk); (try clear hi); have hcz14_0 : w13.cell? ⟨gb118, 0, none⟩ = some (.int .i64 a0_0) := (blk_cell BK118.out 0).trans rfl; have hcz14_1 : w13.cell? ⟨gb118, 1, none⟩ = some (.int .i64 a0_1) := (blk_cell BK118.out 1).trans rfl; have hcz14_2 : w13.cell? ⟨gb118, 2, none⟩ = some (.float .f64 a0_2) := (blk_cell BK118.out 2).trans rfl; have hcz14_3 : w13.cell? ⟨gb118, 3, none⟩ = some (.slice A0_3 l0_3.length c0_3) := (blk_cell BK118.out 3).trans rfl; have hfz14_0 := blk_frozen BK118.out 0; have hfz14_1 := blk_frozen BK118.out 1; have hfz14_2 := blk_frozen BK118.out 2; have hfz14_3 := blk_frozen BK118.out 3) | (go_at_call 120; (with_reducible refine (spec_FloatBits.calls a0_2 t120 _ A10.out).mono ?_); rintro e w' ⟨rfl, ⟨nd, rfl⟩⟩))
        go_ret
        exact ⟨by first | rfl | (simp [errW_none, errW_some] <;> rfl) | (simp [*, errW_none, errW_some] <;> rfl), by repeat (first | (with_reducible first | exact HB.out | apply below_alloc | apply pw_below_drewN | apply below_drew1 | refine below_set ?_ GE118.out) | exact HB.out)⟩
      · rw [if_neg c9] at H
        have c9b0 : (HFloat.feq a0_2 0) = false := by simpa using c9
        clear c9
        obtain rfl := Option.some.inj H
        go_enter Try.func70, Try.ntmps70
        go_wp2_with (first | ((with_reducible refine gate_dst (N := 1) rfl ?_); refine box_event ?hg (N := 1) ?hd (cs := #[.int .i64 a0_0, .int .i64 a0_1, .float .f64 a0_2, .slice A0_3 l0_3.length c0_3]) (t := 27) ?hr ?_; (case hd => rfl); (case hg => rfl); (case hr => first | (go_simp; done) | (go_simp; rfl)); intro gb118 hg w15 hbox hb; have n0_ := Aside0.mk (below_step (by repeat (first | (with_reducible first | exact HB.out | apply below_alloc | apply pw_below_drewN | apply below_drew1) | exact HB.out)) hb); have n1_ := Aside0.mk (hbox); have n2_ := Aside0.mk ((by rw [hg]; exact (below_size (by repeat (first | (with_reducible first | exact HB.out | apply below_alloc | apply pw_below_drewN | apply below_drew1) | exact HB.out))) : w.heap.size ≤ gb118)); have n3_ := Aside0.mk ((by rw [hg]; exact (below_size (by repeat (first | (with_reducible first | exact HB.out | apply below_alloc | apply pw_below_drewN | apply below_drew1) | exact HB.out))) : w.heap.size ≤ gb118)); clear HB; have HB := n0_; have BK118 := n1_; have GW118 := n2_; have GE118 := n3_; clear n0_ n1_ n2_ n3_; clear hb hbox hg; have hcz16_0 : w15.cell? ⟨gb118, 0, none⟩ = some (.int .i64 a0_0) := (blk_cell BK118.out 0).trans rfl; have hcz16_1 : w15.cell? ⟨gb118, 1, none⟩ = some (.int .i64 a0_1) := (blk_cell BK118.out 1).trans rfl; have hcz16_2 : w15.cell? ⟨gb118, 2, none⟩ = some (.float .f64 a0_2) := (blk_cell BK118.out 2).trans rfl; have hcz16_3 : w15.cell? ⟨gb118, 3, none⟩ = some (.slice A0_3 l0_3.length c0_3) := (blk_cell BK118.out 3).trans rfl; have hfz16_0 := blk_frozen BK118.out 0; have hfz16_1 := blk_frozen BK118.out 1; have hfz16_2 := blk_frozen BK118.out 2; have hfz16_3 := blk_frozen BK118.out 3) | ((with_reducible refine gate_callee (f := 61) rfl ?_); refine goesL_ (some 4) rfl rfl Try.func61 (by kernel_rfl) rfl #[.agg #[.int .i64 a0_0, .int .i64 a0_1, .float .f64 a0_2, .slice A0_3 l0_3.length c0_3]] rfl (by (try simp only [List.map_toArray, List.map_cons, List.map_nil]); first | done | rfl | (simp only [List.length_drop, List.length_take]; rfl)) ?_; (with_reducible refine (spec_ItemOk.calls k a0_0 a0_1 a0_2 _ _ l0_3 true _ ?side1 ?side2 A2.out).mono ?_); (case side1 => repeat (first | exact (Kd.C_below HR0_3.out HB.out) | (with_reducible refine Kd.C_alloc ?_ _) | (with_reducible refine Kd.C_drewN ?_ _) | (with_reducible refine Kd.C_drew ?_))); (case side2 => exact HC0_3.out); rintro e w17 ⟨rfl, hb⟩; refine ⟨_, rfl, ?_⟩; have n0_ := Aside0.mk (blk_below (g := gb118) (o := .cells #[.int .i64 a0_0, .int .i64 a0_1, .float .f64 a0_2, .slice A0_3 l0_3.length c0_3] 27 (0, 0)) (by (with_reducible repeat (first | refine blk_drewN ?_ _ | refine blk_drew ?_ | refine blk_alloc ?_ _)); exact BK118.out) hb); have n1_ := Aside0.mk (below_step (by repeat (first | (with_reducible first | exact HB.out | apply below_alloc | apply pw_below_drewN | apply below_drew1 | refine below_set ?_ GE118.out) | exact HB.out)) hb); clear BK118; clear HB; have BK118 := n0_; have HB := n1_; clear n0_ n1_; (try clear hb); (try clear hb2); (try clear hk); (try clear hi); have hcz18_0 : w17.cell? ⟨gb118, 0, none⟩ = some (.int .i64 a0_0) := (blk_cell BK118.out 0).trans rfl; have hcz18_1 : w17.cell? ⟨gb118, 1, none⟩ = some (.int .i64 a0_1) := (blk_cell BK118.out 1).trans rfl; have hcz18_2 : w17.cell? ⟨gb118, 2, none⟩ = some (.float .f64 a0_2) := (blk_cell BK118.out 2).trans rfl; have hcz18_3 : w17.cell? ⟨gb118, 3, none⟩ = some (.slice A0_3 l0_3.length c0_3) := (blk_cell BK118.out 3).trans rfl; have hfz18_0 := blk_frozen BK118.out 0; have hfz18_1 := blk_frozen BK118.out 1; have hfz18_2 := blk_frozen BK118.out 2; have hfz18_3 := blk_frozen BK118.out 3))
        go_ret
        exact ⟨by first | rfl | (simp [errW_none, errW_some] <;> rfl) | (simp [*, errW_none, errW_some] <;> rfl), by repeat (first | (with_reducible first | exact HB.out | apply below_alloc | apply pw_below_drewN | apply below_drew1 | refine below_set ?_ GE118.out) | exact HB.out)⟩
  · replace c3 := Bool.eq_false_iff.mpr c3
    subst c3
    have H1 : (some false) = some r := by rw [if_neg (show ¬ (false = true) by decide)] at H; exact H
    clear H
    have H := H1
    clear H1
    obtain rfl := Option.some.inj H
    go_enter Try.func70, Try.ntmps70
    go_wp2_with (first | ((with_reducible refine gate_dst (N := 1) rfl ?_); refine box_event ?hg (N := 1) ?hd (cs := #[.int .i64 a0_0, .int .i64 a0_1, .float .f64 a0_2, .slice A0_3 l0_3.length c0_3]) (t := 27) ?hr ?_; (case hd => rfl); (case hg => rfl); (case hr => first | (go_simp; done) | (go_simp; rfl)); intro gb118 hg w19 hbox hb; have n0_ := Aside0.mk (below_step (by repeat (first | (with_reducible first | exact HB.out | apply below_alloc | apply pw_below_drewN | apply below_drew1) | exact HB.out)) hb); have n1_ := Aside0.mk (hbox); have n2_ := Aside0.mk ((by rw [hg]; exact (below_size (by repeat (first | (with_reducible first | exact HB.out | apply below_alloc | apply pw_below_drewN | apply below_drew1) | exact HB.out))) : w.heap.size ≤ gb118)); have n3_ := Aside0.mk ((by rw [hg]; exact (below_size (by repeat (first | (with_reducible first | exact HB.out | apply below_alloc | apply pw_below_drewN | apply below_drew1) | exact HB.out))) : w.heap.size ≤ gb118)); clear HB; have HB := n0_; have BK118 := n1_; have GW118 := n2_; have GE118 := n3_; clear n0_ n1_ n2_ n3_; clear hb hbox hg; have hcz20_0 : w19.cell? ⟨gb118, 0, none⟩ = some (.int .i64 a0_0) := (blk_cell BK118.out 0).trans rfl; have hcz20_1 : w19.cell? ⟨gb118, 1, none⟩ = some (.int .i64 a0_1) := (blk_cell BK118.out 1).trans rfl; have hcz20_2 : w19.cell? ⟨gb118, 2, none⟩ = some (.float .f64 a0_2) := (blk_cell BK118.out 2).trans rfl; have hcz20_3 : w19.cell? ⟨gb118, 3, none⟩ = some (.slice A0_3 l0_3.length c0_3) := (blk_cell BK118.out 3).trans rfl; have hfz20_0 := blk_frozen BK118.out 0; have hfz20_1 := blk_frozen BK118.out 1; have hfz20_2 := blk_frozen BK118.out 2; have hfz20_3 := blk_frozen BK118.out 3) | ((with_reducible refine gate_callee (f := 61) rfl ?_); refine goesL_ (some 4) rfl rfl Try.func61 (by kernel_rfl) rfl #[.agg #[.int .i64 a0_0, .int .i64 a0_1, .float .f64 a0_2, .slice A0_3 l0_3.length c0_3]] rfl (by (try simp only [List.map_toArray, List.map_cons, List.map_nil]); first | done | rfl | (simp only [List.length_drop, List.length_take]; rfl)) ?_; (with_reducible refine (spec_ItemOk.calls k a0_0 a0_1 a0_2 _ _ l0_3 false _ ?side1 ?side2 A2.out).mono ?_); (case side1 => repeat (first | exact (Kd.C_below HR0_3.out HB.out) | (with_reducible refine Kd.C_alloc ?_ _) | (with_reducible refine Kd.C_drewN ?_ _) | (with_reducible refine Kd.C_drew ?_))); (case side2 => exact HC0_3.out); rintro e w21 ⟨rfl, hb⟩; refine ⟨_, rfl, ?_⟩; have n0_ := Aside0.mk (blk_below (g := gb118) (o := .cells #[.int .i64 a0_0, .int .i64 a0_1, .float .f64 a0_2, .slice A0_3 l0_3.length c0_3] 27 (0, 0)) (by (with_reducible repeat (first | refine blk_drewN ?_ _ | refine blk_drew ?_ | refine blk_alloc ?_ _)); exact BK118.out) hb); have n1_ := Aside0.mk (below_step (by repeat (first | (with_reducible first | exact HB.out | apply below_alloc | apply pw_below_drewN | apply below_drew1 | refine below_set ?_ GE118.out) | exact HB.out)) hb); clear BK118; clear HB; have BK118 := n0_; have HB := n1_; clear n0_ n1_; (try clear hb); (try clear hb2); (try clear hk); (try clear hi)))
    go_ret
    exact ⟨by first | rfl | (simp [errW_none, errW_some] <;> rfl) | (simp [*, errW_none, errW_some] <;> rfl), by repeat (first | (with_reducible first | exact HB.out | apply below_alloc | apply pw_below_drewN | apply below_drew1 | refine below_set ?_ GE118.out) | exact HB.out)⟩

/-! ### spec_l5in: function 75 -/
def spec_l5in.f (a0 : Int) (a1 : Int) (a2 : Int) : Option (Bool) := if a0 ≥ a1 then (some (decide (a0 ≤ a2))) else (some false)
set_option maxHeartbeats 8000000 in
set_option maxRecDepth 100000 in
theorem spec_l5in.calls (a0 : Int) (a1 : Int) (a2 : Int) (r : Bool) (w : World) (h : spec_l5in.f a0 a1 a2 = some r) :
    Calls Try.prog 75 #[.int .i64 a0, .int .i64 a1, .int .i64 a2] w fun e w' => e = .returned (.bool r) ∧ Drawn0 w w' := by
  have H : (if a0 ≥ a1 then (some (decide (a0 ≤ a2))) else (some false)) = some r := h
  clear h
  by_cases c4 : a0 ≥ a1
  · rw [if_pos c4] at H
    have c4b0 : decide (a1 ≤ a0) = true := decide_eq_true c4
    clear c4
    obtain rfl := Option.some.inj H
    go_enter Try.func75, Try.ntmps75
    go_wp2
    go_ret
    exact ⟨by first | rfl | (simp; done) | (simp [*]; done), by repeat (first | exact Drawn0.refl _ | apply Drawn0.step)⟩
  · rw [if_neg c4] at H
    have c4b0 : decide (a1 ≤ a0) = false := decide_eq_false c4
    clear c4
    obtain rfl := Option.some.inj H
    go_enter Try.func75, Try.ntmps75
    go_wp2
    go_ret
    exact ⟨by first | rfl | (simp; done) | (simp [*]; done), by repeat (first | exact Drawn0.refl _ | apply Drawn0.step)⟩

end Go.Proofs.Ytjmlbkhcjgehdaa.PFnExactOpOk
