-- Written by hv.py, a program of this session's own, over the kit's print: FnExactOpOk
import Derived.Test.YtjmlbkhcjgehdaaPFnExactOpOkx0
import Derived.Test.YtjmlbkhcjgehdaaPFnExactOpOkx4
namespace Go.Proofs.Ytjmlbkhcjgehdaa.PFnExactOpOk
open Go.RowKit Go.Proofs.YtjmlbkhcjgehdaaW.PrintWords Go.Proofs.YtjmlbkhcjgehdaaW.PrintLast Go.Proofs.YtjmlbkhcjgehdaaW.PrintMore Go.Proofs.Ytjmlbkhcjgehdaa.HFl Go.Proofs.Ytjmlbkhcjgehdaa.HMap Go.Proofs.Ytjmlbkhcjgehdaa.HMore Go.Proofs.Ytjmlbkhcjgehdaa
attribute [local go_sem] max2_int min2_int max_two min_two max_three min_three max_four min_four   -- for this text's walks alone
set_option linter.unusedVariables false
set_option linter.unusedSimpArgs false

/-! ### impl_OpOk: function 28 -/
mutual
def impl_OpOk.j0 : Nat → Bool → Int → Int → Int → Int → Int → Int → Nat → List Int → Int → Int → Nat → List Int → Int → Int → Nat → List Int → List Bool → Option (Bool)
  | 0, _, _, _, _, _, _, _, _, _, _, _, _, _, _, _, _, _, _ => none
  | k + 1, x11, x224000, x224001, x224002, x224003, x224004, x224005, x224006, x224007, x224008, x224009, x224010, x224011, x224012, x224013, x224014, x224015, x224016 => if x11 = true then (some false) else (if x224000 = 1 then ((impl_within.f x224002 0 1).bind fun t225 => (some t225)) else (if x224000 = 2 then (impl_OpOk.j1 k x224000 (x224000 == 2) x224000 x224001 x224002 x224003 x224004 x224005 x224006 x224007 x224008 x224009 x224010 x224011 x224012 x224013 x224014 x224015 x224016) else (impl_OpOk.j1 k x224000 (x224000 == 4) x224000 x224001 x224002 x224003 x224004 x224005 x224006 x224007 x224008 x224009 x224010 x224011 x224012 x224013 x224014 x224015 x224016)))
def impl_OpOk.j1 : Nat → Int → Bool → Int → Int → Int → Int → Int → Int → Nat → List Int → Int → Int → Nat → List Int → Int → Int → Nat → List Int → List Bool → Option (Bool)
  | 0, _, _, _, _, _, _, _, _, _, _, _, _, _, _, _, _, _, _, _ => none
  | k + 1, x13, x19, x224000, x224001, x224002, x224003, x224004, x224005, x224006, x224007, x224008, x224009, x224010, x224011, x224012, x224013, x224014, x224015, x224016 => if x19 = true then ((impl_isClean.f x224004 x224005 x224006 x224007).bind fun t226 => (some t226)) else (if x13 = 3 then ((impl_isClean.f x224004 x224005 x224006 x224007).bind fun t227 => (if t227 = true then ((impl_isValue.f x224012 x224013 x224014 x224015).bind fun t228 => (some t228)) else (some false))) else (if x13 = 5 then ((impl_isClean.f x224004 x224005 x224006 x224007).bind fun t229 => (if t229 = true then ((impl_isClean.f x224008 x224009 x224010 x224011).bind fun t230 => (if t230 = true then ((impl_within.f x224003 0 50).bind fun t231 => (some t231)) else (some false))) else (some false))) else (if x13 = 6 then ((impl_isClean.f x224004 x224005 x224006 x224007).bind fun t232 => (if t232 = true then ((impl_isClean.f x224008 x224009 x224010 x224011).bind fun t233 => (some t233)) else (some false))) else (if x13 = 11 then ((impl_within.f x224003 0 15).bind fun t234 => (some t234)) else (if x13 = 12 then (some (decide (x224003 ≥ 0))) else (if x13 = 13 then (some (decide ((x224016.length : Int) ≤ 600))) else ((impl_within.f x224000 1 13).bind fun t235 => (some t235))))))))
end
def impl_OpOk.f (k : Nat) (a0_0 : Int) (a0_1 : Int) (a0_2 : Int) (a0_3 : Int) (a0_4 : Int) (a0_5 : Int) (a0_6 : Nat) (l0_7 : List Int) (a0_8 : Int) (a0_9 : Int) (a0_10 : Nat) (l0_11 : List Int) (a0_12 : Int) (a0_13 : Int) (a0_14 : Nat) (l0_15 : List Int) (l0_16 : List Bool) : Option (Bool) := if a0_0 ≤ 8 then ((impl_within.f a0_1 0 7).bind fun t224 => (impl_OpOk.j0 k (!t224) a0_0 a0_1 a0_2 a0_3 a0_4 a0_5 a0_6 l0_7 a0_8 a0_9 a0_10 l0_11 a0_12 a0_13 a0_14 l0_15 l0_16)) else (impl_OpOk.j0 k false a0_0 a0_1 a0_2 a0_3 a0_4 a0_5 a0_6 l0_7 a0_8 a0_9 a0_10 l0_11 a0_12 a0_13 a0_14 l0_15 l0_16)
theorem impl_OpOk.mono_l : ∀ k, (∀ y0 y1 y2 y3 y4 y5 y6 y7 y8 y9 y10 y11 y12 y13 y14 y15 y16 y17, LeO (impl_OpOk.j0 k y0 y1 y2 y3 y4 y5 y6 y7 y8 y9 y10 y11 y12 y13 y14 y15 y16 y17) (impl_OpOk.j0 (k + 1) y0 y1 y2 y3 y4 y5 y6 y7 y8 y9 y10 y11 y12 y13 y14 y15 y16 y17)) ∧ (∀ y0 y1 y2 y3 y4 y5 y6 y7 y8 y9 y10 y11 y12 y13 y14 y15 y16 y17 y18, LeO (impl_OpOk.j1 k y0 y1 y2 y3 y4 y5 y6 y7 y8 y9 y10 y11 y12 y13 y14 y15 y16 y17 y18) (impl_OpOk.j1 (k + 1) y0 y1 y2 y3 y4 y5 y6 y7 y8 y9 y10 y11 y12 y13 y14 y15 y16 y17 y18))
  | 0 => ⟨fun _ _ _ _ _ _ _ _ _ _ _ _ _ _ _ _ _ _ r h => by simp [impl_OpOk.j0] at h, fun _ _ _ _ _ _ _ _ _ _ _ _ _ _ _ _ _ _ _ r h => by simp [impl_OpOk.j1] at h⟩
  | k + 1 => by
    obtain ⟨ih0, ih1⟩ := impl_OpOk.mono_l k
    refine ⟨?_, ?_⟩
    · intro y0 y1 y2 y3 y4 y5 y6 y7 y8 y9 y10 y11 y12 y13 y14 y15 y16 y17
      unfold impl_OpOk.j0
      repeat' first
      | (with_reducible exact ih0 _ _ _ _ _ _ _ _ _ _ _ _ _ _ _ _ _ _)
      | (with_reducible exact ih1 _ _ _ _ _ _ _ _ _ _ _ _ _ _ _ _ _ _ _)
      | (with_reducible exact LeO.refl _)
      | (with_reducible exact LeO.none _)
      | (with_reducible refine LeO.ite ?_ ?_)
      | (with_reducible refine LeO.bind ?_ (fun _ => ?_))
      | exact ih0 _ _ _ _ _ _ _ _ _ _ _ _ _ _ _ _ _ _
      | exact ih1 _ _ _ _ _ _ _ _ _ _ _ _ _ _ _ _ _ _ _
      | exact LeO.none _
      | refine LeO.ite ?_ ?_
      | refine LeO.bind ?_ (fun _ => ?_)
    · intro y0 y1 y2 y3 y4 y5 y6 y7 y8 y9 y10 y11 y12 y13 y14 y15 y16 y17 y18
      unfold impl_OpOk.j1
      repeat' first
      | (with_reducible exact ih0 _ _ _ _ _ _ _ _ _ _ _ _ _ _ _ _ _ _)
      | (with_reducible exact ih1 _ _ _ _ _ _ _ _ _ _ _ _ _ _ _ _ _ _ _)
      | (with_reducible exact LeO.refl _)
      | (with_reducible exact LeO.none _)
      | (with_reducible refine LeO.ite ?_ ?_)
      | (with_reducible refine LeO.bind ?_ (fun _ => ?_))
      | exact ih0 _ _ _ _ _ _ _ _ _ _ _ _ _ _ _ _ _ _
      | exact ih1 _ _ _ _ _ _ _ _ _ _ _ _ _ _ _ _ _ _ _
      | exact LeO.none _
      | refine LeO.ite ?_ ?_
      | refine LeO.bind ?_ (fun _ => ?_)
theorem impl_OpOk.mono : ∀ a0 a1 a2 a3 a4 a5 a6 a7 a8 a9 a10 a11 a12 a13 a14 a15 a16 k, LeO (impl_OpOk.f k a0 a1 a2 a3 a4 a5 a6 a7 a8 a9 a10 a11 a12 a13 a14 a15 a16) (impl_OpOk.f (k + 1) a0 a1 a2 a3 a4 a5 a6 a7 a8 a9 a10 a11 a12 a13 a14 a15 a16) := by
  intro a0 a1 a2 a3 a4 a5 a6 a7 a8 a9 a10 a11 a12 a13 a14 a15 a16 k
  obtain ⟨ih0, ih1⟩ := impl_OpOk.mono_l k
  unfold impl_OpOk.f
  repeat' first
      | (with_reducible exact ih0 _ _ _ _ _ _ _ _ _ _ _ _ _ _ _ _ _ _)
      | (with_reducible exact ih1 _ _ _ _ _ _ _ _ _ _ _ _ _ _ _ _ _ _ _)
      | (with_reducible exact LeO.refl _)
      | (with_reducible exact LeO.none _)
      | (with_reducible refine LeO.ite ?_ ?_)
      | (with_reducible refine LeO.bind ?_ (fun _ => ?_))
      | exact ih0 _ _ _ _ _ _ _ _ _ _ _ _ _ _ _ _ _ _
      | exact ih1 _ _ _ _ _ _ _ _ _ _ _ _ _ _ _ _ _ _ _
      | exact LeO.none _
      | refine LeO.ite ?_ ?_
      | refine LeO.bind ?_ (fun _ => ?_)
set_option maxHeartbeats 8000000 in
set_option maxRecDepth 100000 in
theorem impl_OpOk.calls (k : Nat) (a0_0 : Int) (a0_1 : Int) (a0_2 : Int) (a0_3 : Int) (a0_4 : Int) (a0_5 : Int) (a0_6 : Nat) (A0_7 : Option Addr) (c0_7 : Nat) (l0_7 : List Int) (a0_8 : Int) (a0_9 : Int) (a0_10 : Nat) (A0_11 : Option Addr) (c0_11 : Nat) (l0_11 : List Int) (a0_12 : Int) (a0_13 : Int) (a0_14 : Nat) (A0_15 : Option Addr) (c0_15 : Nat) (l0_15 : List Int) (A0_16 : Option Addr) (c0_16 : Nat) (l0_16 : List Bool) (r : Bool) (w : World) (hr0_7 : Kd.C (Kd.int .u8) w A0_7 l0_7.length l0_7) (hc0_7 : l0_7.length ≤ c0_7) (hr0_11 : Kd.C (Kd.int .u8) w A0_11 l0_11.length l0_11) (hc0_11 : l0_11.length ≤ c0_11) (hr0_15 : Kd.C (Kd.int .u8) w A0_15 l0_15.length l0_15) (hc0_15 : l0_15.length ≤ c0_15) (hr0_16 : Kd.C Kd.bool w A0_16 l0_16.length l0_16) (hc0_16 : l0_16.length ≤ c0_16) (h : impl_OpOk.f k a0_0 a0_1 a0_2 a0_3 a0_4 a0_5 a0_6 l0_7 a0_8 a0_9 a0_10 l0_11 a0_12 a0_13 a0_14 l0_15 l0_16 = some r) :
    Calls Try.prog 28 #[.agg #[.int .i64 a0_0, .int .i64 a0_1, .int .i64 a0_2, .int .i64 a0_3, .int .i64 a0_4, .int .i64 a0_5, .float .f64 a0_6, .slice A0_7 l0_7.length c0_7, .int .i64 a0_8, .int .i64 a0_9, .float .f64 a0_10, .slice A0_11 l0_11.length c0_11, .int .i64 a0_12, .int .i64 a0_13, .float .f64 a0_14, .slice A0_15 l0_15.length c0_15, .slice A0_16 l0_16.length c0_16]] w fun e w' => e = .returned (.bool r) ∧ Below w.heap.size w w' := by
  have hu48 := Try.underlying48
  have hu27 := Try.underlying27
  have HR0_7 := Aside0.mk hr0_7
  have HC0_7 := Aside0.mk hc0_7
  clear hr0_7 hc0_7
  have HR0_11 := Aside0.mk hr0_11
  have HC0_11 := Aside0.mk hc0_11
  clear hr0_11 hc0_11
  have HR0_15 := Aside0.mk hr0_15
  have HC0_15 := Aside0.mk hc0_15
  clear hr0_15 hc0_15
  have HR0_16 := Aside0.mk hr0_16
  have HC0_16 := Aside0.mk hc0_16
  clear hr0_16 hc0_16
  have HB := Aside0.mk (Below.refl w.heap.size w)
  have H : (if a0_0 ≤ 8 then ((impl_within.f a0_1 0 7).bind fun t224 => (impl_OpOk.j0 k (!t224) a0_0 a0_1 a0_2 a0_3 a0_4 a0_5 a0_6 l0_7 a0_8 a0_9 a0_10 l0_11 a0_12 a0_13 a0_14 l0_15 l0_16)) else (impl_OpOk.j0 k false a0_0 a0_1 a0_2 a0_3 a0_4 a0_5 a0_6 l0_7 a0_8 a0_9 a0_10 l0_11 a0_12 a0_13 a0_14 l0_15 l0_16)) = some r := h
  clear h
  have HC2 := Aside0.mk H
  clear H
  go_enter Try.func28, Try.ntmps28
  go_upto_region 1 with (first | ((with_reducible refine gate_dst (N := 1) rfl ?_); refine box_event ?hg (N := 1) ?hd (cs := #[.int .i64 a0_0, .int .i64 a0_1, .int .i64 a0_2, .int .i64 a0_3, .int .i64 a0_4, .int .i64 a0_5, .float .f64 a0_6, .slice A0_7 l0_7.length c0_7, .int .i64 a0_8, .int .i64 a0_9, .float .f64 a0_10, .slice A0_11 l0_11.length c0_11, .int .i64 a0_12, .int .i64 a0_13, .float .f64 a0_14, .slice A0_15 l0_15.length c0_15, .slice A0_16 l0_16.length c0_16]) (t := 48) ?hr ?_; (case hd => rfl); (case hg => rfl); (case hr => first | (go_simp; done) | (go_simp; rfl)); intro gb223 hg w3 hbox hb; have n0_ := Aside0.mk (below_step (by repeat (first | (with_reducible first | exact HB.out | apply below_alloc | apply pw_below_drewN | apply below_drew1) | exact HB.out)) hb); have n1_ := Aside0.mk (hbox); have n2_ := Aside0.mk ((by rw [hg]; exact (below_size (by repeat (first | (with_reducible first | exact HB.out | apply below_alloc | apply pw_below_drewN | apply below_drew1) | exact HB.out))) : w.heap.size ≤ gb223)); have n3_ := Aside0.mk ((by rw [hg]; exact (below_size (by repeat (first | (with_reducible first | exact HB.out | apply below_alloc | apply pw_below_drewN | apply below_drew1) | exact HB.out))) : w.heap.size ≤ gb223)); clear HB; have HB := n0_; have BK223 := n1_; have GW223 := n2_; have GE223 := n3_; clear n0_ n1_ n2_ n3_; clear hb hbox hg))
  (try simp only [Act.put, List.setIfInBounds_toArray, List.set_cons_zero, List.set_cons_succ])
  go_cut [11] (fun v11 wc => ∃ (kq : Nat) (x11_1 : Bool), v11 = .bool x11_1 ∧ Aside0 (impl_OpOk.j0 kq x11_1 a0_0 a0_1 a0_2 a0_3 a0_4 a0_5 a0_6 l0_7 a0_8 a0_9 a0_10 l0_11 a0_12 a0_13 a0_14 l0_15 l0_16 = some r) ∧ Aside0 (kq ≤ k) ∧ Aside0 (wc.heap[gb223]? = some (.cells #[.int .i64 a0_0, .int .i64 a0_1, .int .i64 a0_2, .int .i64 a0_3, .int .i64 a0_4, .int .i64 a0_5, .float .f64 a0_6, (.slice A0_7 l0_7.length c0_7), .int .i64 a0_8, .int .i64 a0_9, .float .f64 a0_10, (.slice A0_11 l0_11.length c0_11), .int .i64 a0_12, .int .i64 a0_13, .float .f64 a0_14, (.slice A0_15 l0_15.length c0_15), (.slice A0_16 l0_16.length c0_16)] 48 (0, 0))) ∧ Aside0 (Below w.heap.size w wc))
  case first =>
    have H := HC2.out
    clear HC2
    by_cases c4 : a0_0 ≤ 8
    · rw [if_pos c4] at H
      have c4b0 : decide (a0_0 ≤ 8) = true := decide_eq_true c4
      clear c4
      (first | rw [c4b0] | (simp only [i64_w, i32_w]; rw [c4b0]) | skip)
      replace H := Option.bind_eq_some_iff.mp H
      obtain ⟨t224, A50, H⟩ := H
      replace H : (impl_OpOk.j0 k (!t224) a0_0 a0_1 a0_2 a0_3 a0_4 a0_5 a0_6 l0_7 a0_8 a0_9 a0_10 l0_11 a0_12 a0_13 a0_14 l0_15 l0_16) = some r := H
      have A5 := Aside0.mk A50
      clear A50
      have H' := Aside0.mk H
      clear H
      have hcz6_0 : w3.cell? ⟨gb223, 0, none⟩ = some (.int .i64 a0_0) := (blk_cell BK223.out 0).trans rfl
      have hcz6_1 : w3.cell? ⟨gb223, 1, none⟩ = some (.int .i64 a0_1) := (blk_cell BK223.out 1).trans rfl
      have hcz6_2 : w3.cell? ⟨gb223, 2, none⟩ = some (.int .i64 a0_2) := (blk_cell BK223.out 2).trans rfl
      have hcz6_3 : w3.cell? ⟨gb223, 3, none⟩ = some (.int .i64 a0_3) := (blk_cell BK223.out 3).trans rfl
      have hcz6_4 : w3.cell? ⟨gb223, 4, none⟩ = some (.int .i64 a0_4) := (blk_cell BK223.out 4).trans rfl
      have hcz6_5 : w3.cell? ⟨gb223, 5, none⟩ = some (.int .i64 a0_5) := (blk_cell BK223.out 5).trans rfl
      have hcz6_6 : w3.cell? ⟨gb223, 6, none⟩ = some (.float .f64 a0_6) := (blk_cell BK223.out 6).trans rfl
      have hcz6_7 : w3.cell? ⟨gb223, 7, none⟩ = some (.slice A0_7 l0_7.length c0_7) := (blk_cell BK223.out 7).trans rfl
      have hcz6_8 : w3.cell? ⟨gb223, 8, none⟩ = some (.int .i64 a0_8) := (blk_cell BK223.out 8).trans rfl
      have hcz6_9 : w3.cell? ⟨gb223, 9, none⟩ = some (.int .i64 a0_9) := (blk_cell BK223.out 9).trans rfl
      have hcz6_10 : w3.cell? ⟨gb223, 10, none⟩ = some (.float .f64 a0_10) := (blk_cell BK223.out 10).trans rfl
      have hcz6_11 : w3.cell? ⟨gb223, 11, none⟩ = some (.slice A0_11 l0_11.length c0_11) := (blk_cell BK223.out 11).trans rfl
      have hcz6_12 : w3.cell? ⟨gb223, 12, none⟩ = some (.int .i64 a0_12) := (blk_cell BK223.out 12).trans rfl
      have hcz6_13 : w3.cell? ⟨gb223, 13, none⟩ = some (.int .i64 a0_13) := (blk_cell BK223.out 13).trans rfl
      have hcz6_14 : w3.cell? ⟨gb223, 14, none⟩ = some (.float .f64 a0_14) := (blk_cell BK223.out 14).trans rfl
      have hcz6_15 : w3.cell? ⟨gb223, 15, none⟩ = some (.slice A0_15 l0_15.length c0_15) := (blk_cell BK223.out 15).trans rfl
      have hcz6_16 : w3.cell? ⟨gb223, 16, none⟩ = some (.slice A0_16 l0_16.length c0_16) := (blk_cell BK223.out 16).trans rfl
      have hfz6_0 := blk_frozen BK223.out 0
      have hfz6_1 := blk_frozen BK223.out 1
      have hfz6_2 := blk_frozen BK223.out 2
      have hfz6_3 := blk_frozen BK223.out 3
      have hfz6_4 := blk_frozen BK223.out 4
      have hfz6_5 := blk_frozen BK223.out 5
      have hfz6_6 := blk_frozen BK223.out 6
      have hfz6_7 := blk_frozen BK223.out 7
      have hfz6_8 := blk_frozen BK223.out 8
      have hfz6_9 := blk_frozen BK223.out 9
      have hfz6_10 := blk_frozen BK223.out 10
      have hfz6_11 := blk_frozen BK223.out 11
      have hfz6_12 := blk_frozen BK223.out 12
      have hfz6_13 := blk_frozen BK223.out 13
      have hfz6_14 := blk_frozen BK223.out 14
      have hfz6_15 := blk_frozen BK223.out 15
      have hfz6_16 := blk_frozen BK223.out 16
      go_wp2_with (first | (go_at_call 77; (with_reducible refine (impl_within.calls a0_1 0 7 t224 _ A5.out).mono ?_); rintro e w' ⟨rfl, ⟨nd, rfl⟩⟩))
      go_meet
      case rel => exact ⟨_, (!t224), (by first | rfl | (simp; done) | (simp [*]; done)), H', ⟨by first | omega | exact Nat.le_refl _⟩, ⟨by (with_reducible repeat (first | refine blk_drewN ?_ _ | refine blk_drew ?_ | refine blk_alloc ?_ _)); exact BK223.out⟩, ⟨by repeat (first | (with_reducible first | exact HB.out | apply below_alloc | apply pw_below_drewN | apply below_drew1 | refine below_set ?_ GE223.out) | exact HB.out)⟩⟩
    · rw [if_neg c4] at H
      have c4b0 : decide (a0_0 ≤ 8) = false := decide_eq_false c4
      clear c4
      (first | rw [c4b0] | (simp only [i64_w, i32_w]; rw [c4b0]) | skip)
      have H' := Aside0.mk H
      clear H
      have hcz7_0 : w3.cell? ⟨gb223, 0, none⟩ = some (.int .i64 a0_0) := (blk_cell BK223.out 0).trans rfl
      have hcz7_1 : w3.cell? ⟨gb223, 1, none⟩ = some (.int .i64 a0_1) := (blk_cell BK223.out 1).trans rfl
      have hcz7_2 : w3.cell? ⟨gb223, 2, none⟩ = some (.int .i64 a0_2) := (blk_cell BK223.out 2).trans rfl
      have hcz7_3 : w3.cell? ⟨gb223, 3, none⟩ = some (.int .i64 a0_3) := (blk_cell BK223.out 3).trans rfl
      have hcz7_4 : w3.cell? ⟨gb223, 4, none⟩ = some (.int .i64 a0_4) := (blk_cell BK223.out 4).trans rfl
      have hcz7_5 : w3.cell? ⟨gb223, 5, none⟩ = some (.int .i64 a0_5) := (blk_cell BK223.out 5).trans rfl
      have hcz7_6 : w3.cell? ⟨gb223, 6, none⟩ = some (.float .f64 a0_6) := (blk_cell BK223.out 6).trans rfl
      have hcz7_7 : w3.cell? ⟨gb223, 7, none⟩ = some (.slice A0_7 l0_7.length c0_7) := (blk_cell BK223.out 7).trans rfl
      have hcz7_8 : w3.cell? ⟨gb223, 8, none⟩ = some (.int .i64 a0_8) := (blk_cell BK223.out 8).trans rfl
      have hcz7_9 : w3.cell? ⟨gb223, 9, none⟩ = some (.int .i64 a0_9) := (blk_cell BK223.out 9).trans rfl
      have hcz7_10 : w3.cell? ⟨gb223, 10, none⟩ = some (.float .f64 a0_10) := (blk_cell BK223.out 10).trans rfl
      have hcz7_11 : w3.cell? ⟨gb223, 11, none⟩ = some (.slice A0_11 l0_11.length c0_11) := (blk_cell BK223.out 11).trans rfl
      have hcz7_12 : w3.cell? ⟨gb223, 12, none⟩ = some (.int .i64 a0_12) := (blk_cell BK223.out 12).trans rfl
      have hcz7_13 : w3.cell? ⟨gb223, 13, none⟩ = some (.int .i64 a0_13) := (blk_cell BK223.out 13).trans rfl
      have hcz7_14 : w3.cell? ⟨gb223, 14, none⟩ = some (.float .f64 a0_14) := (blk_cell BK223.out 14).trans rfl
      have hcz7_15 : w3.cell? ⟨gb223, 15, none⟩ = some (.slice A0_15 l0_15.length c0_15) := (blk_cell BK223.out 15).trans rfl
      have hcz7_16 : w3.cell? ⟨gb223, 16, none⟩ = some (.slice A0_16 l0_16.length c0_16) := (blk_cell BK223.out 16).trans rfl
      have hfz7_0 := blk_frozen BK223.out 0
      have hfz7_1 := blk_frozen BK223.out 1
      have hfz7_2 := blk_frozen BK223.out 2
      have hfz7_3 := blk_frozen BK223.out 3
      have hfz7_4 := blk_frozen BK223.out 4
      have hfz7_5 := blk_frozen BK223.out 5
      have hfz7_6 := blk_frozen BK223.out 6
      have hfz7_7 := blk_frozen BK223.out 7
      have hfz7_8 := blk_frozen BK223.out 8
      have hfz7_9 := blk_frozen BK223.out 9
      have hfz7_10 := blk_frozen BK223.out 10
      have hfz7_11 := blk_frozen BK223.out 11
      have hfz7_12 := blk_frozen BK223.out 12
      have hfz7_13 := blk_frozen BK223.out 13
      have hfz7_14 := blk_frozen BK223.out 14
      have hfz7_15 := blk_frozen BK223.out 15
      have hfz7_16 := blk_frozen BK223.out 16
      go_wp2
      go_meet
      case rel => exact ⟨_, (false), (by first | rfl | (simp; done) | (simp [*]; done)), H', ⟨by first | omega | exact Nat.le_refl _⟩, ⟨by (with_reducible repeat (first | refine blk_drewN ?_ _ | refine blk_drew ?_ | refine blk_alloc ?_ _)); exact BK223.out⟩, ⟨by repeat (first | (with_reducible first | exact HB.out | apply below_alloc | apply pw_below_drewN | apply below_drew1 | refine below_set ?_ GE223.out) | exact HB.out)⟩⟩
  case rest =>
    clear HC2
    try clear c2
    try clear p2
    try clear c4
    try clear c4b0
    try clear hcz6_0
    try clear hcz6_1
    try clear hcz6_10
    try clear hcz6_11
    try clear hcz6_12
    try clear hcz6_13
    try clear hcz6_14
    try clear hcz6_15
    try clear hcz6_16
    try clear hcz6_2
    try clear hcz6_3
    try clear hcz6_4
    try clear hcz6_5
    try clear hcz6_6
    try clear hcz6_7
    try clear hcz6_8
    try clear hcz6_9
    try clear hcz7_0
    try clear hcz7_1
    try clear hcz7_10
    try clear hcz7_11
    try clear hcz7_12
    try clear hcz7_13
    try clear hcz7_14
    try clear hcz7_15
    try clear hcz7_16
    try clear hcz7_2
    try clear hcz7_3
    try clear hcz7_4
    try clear hcz7_5
    try clear hcz7_6
    try clear hcz7_7
    try clear hcz7_8
    try clear hcz7_9
    try clear hfz6_0
    try clear hfz6_1
    try clear hfz6_10
    try clear hfz6_11
    try clear hfz6_12
    try clear hfz6_13
    try clear hfz6_14
    try clear hfz6_15
    try clear hfz6_16
    try clear hfz6_2
    try clear hfz6_3
    try clear hfz6_4
    try clear hfz6_5
    try clear hfz6_6
    try clear hfz6_7
    try clear hfz6_8
    try clear hfz6_9
    try clear hfz7_0
    try clear hfz7_1
    try clear hfz7_10
    try clear hfz7_11
    try clear hfz7_12
    try clear hfz7_13
    try clear hfz7_14
    try clear hfz7_15
    try clear hfz7_16
    try clear hfz7_2
    try clear hfz7_3
    try clear hfz7_4
    try clear hfz7_5
    try clear hfz7_6
    try clear hfz7_7
    try clear hfz7_8
    try clear hfz7_9
    obtain ⟨kq, x11_1, rfl, HA, HJ1, BK223, HB⟩ := hcut
    cases kq with
    | zero => exact absurd HA.out (by simp [impl_OpOk.j0])
    | succ kj1 =>
      have H := HA.out
      clear HA
      simp only [impl_OpOk.j0] at H
      by_cases c8 : x11_1 = true
      · subst c8
        have H1 : (some false) = some r := by rw [if_pos rfl] at H; exact H
        clear H
        have H := H1
        clear H1
        obtain rfl := Option.some.inj H
        go_wp2
        go_ret
        exact ⟨by first | rfl | (simp [errW_none, errW_some] <;> rfl) | (simp [*, errW_none, errW_some] <;> rfl), by repeat (first | (with_reducible first | exact HB.out | apply below_alloc | apply pw_below_drewN | apply below_drew1 | refine below_set ?_ GE223.out) | exact HB.out)⟩
      · replace c8 := Bool.eq_false_iff.mpr c8
        subst c8
        have H1 : (if a0_0 = 1 then ((impl_within.f a0_2 0 1).bind fun t225 => (some t225)) else (if a0_0 = 2 then (impl_OpOk.j1 kj1 a0_0 (a0_0 == 2) a0_0 a0_1 a0_2 a0_3 a0_4 a0_5 a0_6 l0_7 a0_8 a0_9 a0_10 l0_11 a0_12 a0_13 a0_14 l0_15 l0_16) else (impl_OpOk.j1 kj1 a0_0 (a0_0 == 4) a0_0 a0_1 a0_2 a0_3 a0_4 a0_5 a0_6 l0_7 a0_8 a0_9 a0_10 l0_11 a0_12 a0_13 a0_14 l0_15 l0_16))) = some r := by rw [if_neg (show ¬ (false = true) by decide)] at H; exact H
        clear H
        have H := H1
        clear H1
        by_cases c9 : a0_0 = 1
        · rw [if_pos c9] at H
          have c9b0 : (a0_0 == 1) = true := beq_iff_eq.mpr c9
          have c9b1 : (a0_0 != 1) = false := bne_eq_false_iff_eq.mpr c9
          clear c9
          replace H := Option.bind_eq_some_iff.mp H
          obtain ⟨t225, A100, H⟩ := H
          replace H : (some t225) = some r := H
          have A10 := Aside0.mk A100
          clear A100
          obtain rfl := Option.some.inj H
          have hcz11_0 : wc.cell? ⟨gb223, 0, none⟩ = some (.int .i64 a0_0) := (blk_cell BK223.out 0).trans rfl
          have hcz11_1 : wc.cell? ⟨gb223, 1, none⟩ = some (.int .i64 a0_1) := (blk_cell BK223.out 1).trans rfl
          have hcz11_2 : wc.cell? ⟨gb223, 2, none⟩ = some (.int .i64 a0_2) := (blk_cell BK223.out 2).trans rfl
          have hcz11_3 : wc.cell? ⟨gb223, 3, none⟩ = some (.int .i64 a0_3) := (blk_cell BK223.out 3).trans rfl
          have hcz11_4 : wc.cell? ⟨gb223, 4, none⟩ = some (.int .i64 a0_4) := (blk_cell BK223.out 4).trans rfl
          have hcz11_5 : wc.cell? ⟨gb223, 5, none⟩ = some (.int .i64 a0_5) := (blk_cell BK223.out 5).trans rfl
          have hcz11_6 : wc.cell? ⟨gb223, 6, none⟩ = some (.float .f64 a0_6) := (blk_cell BK223.out 6).trans rfl
          have hcz11_7 : wc.cell? ⟨gb223, 7, none⟩ = some (.slice A0_7 l0_7.length c0_7) := (blk_cell BK223.out 7).trans rfl
          have hcz11_8 : wc.cell? ⟨gb223, 8, none⟩ = some (.int .i64 a0_8) := (blk_cell BK223.out 8).trans rfl
          have hcz11_9 : wc.cell? ⟨gb223, 9, none⟩ = some (.int .i64 a0_9) := (blk_cell BK223.out 9).trans rfl
          have hcz11_10 : wc.cell? ⟨gb223, 10, none⟩ = some (.float .f64 a0_10) := (blk_cell BK223.out 10).trans rfl
          have hcz11_11 : wc.cell? ⟨gb223, 11, none⟩ = some (.slice A0_11 l0_11.length c0_11) := (blk_cell BK223.out 11).trans rfl
          have hcz11_12 : wc.cell? ⟨gb223, 12, none⟩ = some (.int .i64 a0_12) := (blk_cell BK223.out 12).trans rfl
          have hcz11_13 : wc.cell? ⟨gb223, 13, none⟩ = some (.int .i64 a0_13) := (blk_cell BK223.out 13).trans rfl
          have hcz11_14 : wc.cell? ⟨gb223, 14, none⟩ = some (.float .f64 a0_14) := (blk_cell BK223.out 14).trans rfl
          have hcz11_15 : wc.cell? ⟨gb223, 15, none⟩ = some (.slice A0_15 l0_15.length c0_15) := (blk_cell BK223.out 15).trans rfl
          have hcz11_16 : wc.cell? ⟨gb223, 16, none⟩ = some (.slice A0_16 l0_16.length c0_16) := (blk_cell BK223.out 16).trans rfl
          have hfz11_0 := blk_frozen BK223.out 0
          have hfz11_1 := blk_frozen BK223.out 1
          have hfz11_2 := blk_frozen BK223.out 2
          have hfz11_3 := blk_frozen BK223.out 3
          have hfz11_4 := blk_frozen BK223.out 4
          have hfz11_5 := blk_frozen BK223.out 5
          have hfz11_6 := blk_frozen BK223.out 6
          have hfz11_7 := blk_frozen BK223.out 7
          have hfz11_8 := blk_frozen BK223.out 8
          have hfz11_9 := blk_frozen BK223.out 9
          have hfz11_10 := blk_frozen BK223.out 10
          have hfz11_11 := blk_frozen BK223.out 11
          have hfz11_12 := blk_frozen BK223.out 12
          have hfz11_13 := blk_frozen BK223.out 13
          have hfz11_14 := blk_frozen BK223.out 14
          have hfz11_15 := blk_frozen BK223.out 15
          have hfz11_16 := blk_frozen BK223.out 16
          go_wp2_with (first | ((with_reducible refine gate_callee (f := 77) rfl ?_); refine goesL_ (some 18) rfl rfl Try.func77 (by kernel_rfl) rfl #[.int .i64 a0_2, .int .i64 0, .int .i64 1] rfl (by (try simp only [List.map_toArray, List.map_cons, List.map_nil]); first | done | rfl | (simp only [List.length_drop, List.length_take]; rfl)) ?_; (with_reducible refine (impl_within.calls a0_2 0 1 t225 _ A10.out).mono ?_); rintro e w' ⟨rfl, ⟨nd, rfl⟩⟩; refine ⟨_, rfl, ?_⟩))
          go_ret
          exact ⟨by first | rfl | (simp [errW_none, errW_some] <;> rfl) | (simp [*, errW_none, errW_some] <;> rfl), by repeat (first | (with_reducible first | exact HB.out | apply below_alloc | apply pw_below_drewN | apply below_drew1 | refine below_set ?_ GE223.out) | exact HB.out)⟩
        · rw [if_neg c9] at H
          have c9b0 : (a0_0 == 1) = false := beq_eq_false_iff_ne.mpr c9
          have c9b1 : (a0_0 != 1) = true := bne_iff_ne.mpr c9
          have HC12 := Aside0.mk H
          clear H
          have hcz13_0 : wc.cell? ⟨gb223, 0, none⟩ = some (.int .i64 a0_0) := (blk_cell BK223.out 0).trans rfl
          have hcz13_1 : wc.cell? ⟨gb223, 1, none⟩ = some (.int .i64 a0_1) := (blk_cell BK223.out 1).trans rfl
          have hcz13_2 : wc.cell? ⟨gb223, 2, none⟩ = some (.int .i64 a0_2) := (blk_cell BK223.out 2).trans rfl
          have hcz13_3 : wc.cell? ⟨gb223, 3, none⟩ = some (.int .i64 a0_3) := (blk_cell BK223.out 3).trans rfl
          have hcz13_4 : wc.cell? ⟨gb223, 4, none⟩ = some (.int .i64 a0_4) := (blk_cell BK223.out 4).trans rfl
          have hcz13_5 : wc.cell? ⟨gb223, 5, none⟩ = some (.int .i64 a0_5) := (blk_cell BK223.out 5).trans rfl
          have hcz13_6 : wc.cell? ⟨gb223, 6, none⟩ = some (.float .f64 a0_6) := (blk_cell BK223.out 6).trans rfl
          have hcz13_7 : wc.cell? ⟨gb223, 7, none⟩ = some (.slice A0_7 l0_7.length c0_7) := (blk_cell BK223.out 7).trans rfl
          have hcz13_8 : wc.cell? ⟨gb223, 8, none⟩ = some (.int .i64 a0_8) := (blk_cell BK223.out 8).trans rfl
          have hcz13_9 : wc.cell? ⟨gb223, 9, none⟩ = some (.int .i64 a0_9) := (blk_cell BK223.out 9).trans rfl
          have hcz13_10 : wc.cell? ⟨gb223, 10, none⟩ = some (.float .f64 a0_10) := (blk_cell BK223.out 10).trans rfl
          have hcz13_11 : wc.cell? ⟨gb223, 11, none⟩ = some (.slice A0_11 l0_11.length c0_11) := (blk_cell BK223.out 11).trans rfl
          have hcz13_12 : wc.cell? ⟨gb223, 12, none⟩ = some (.int .i64 a0_12) := (blk_cell BK223.out 12).trans rfl
          have hcz13_13 : wc.cell? ⟨gb223, 13, none⟩ = some (.int .i64 a0_13) := (blk_cell BK223.out 13).trans rfl
          have hcz13_14 : wc.cell? ⟨gb223, 14, none⟩ = some (.float .f64 a0_14) := (blk_cell BK223.out 14).trans rfl
          have hcz13_15 : wc.cell? ⟨gb223, 15, none⟩ = some (.slice A0_15 l0_15.length c0_15) := (blk_cell BK223.out 15).trans rfl
          have hcz13_16 : wc.cell? ⟨gb223, 16, none⟩ = some (.slice A0_16 l0_16.length c0_16) := (blk_cell BK223.out 16).trans rfl
          have hfz13_0 := blk_frozen BK223.out 0
          have hfz13_1 := blk_frozen BK223.out 1
          have hfz13_2 := blk_frozen BK223.out 2
          have hfz13_3 := blk_frozen BK223.out 3
          have hfz13_4 := blk_frozen BK223.out 4
          have hfz13_5 := blk_frozen BK223.out 5
          have hfz13_6 := blk_frozen BK223.out 6
          have hfz13_7 := blk_frozen BK223.out 7
          have hfz13_8 := blk_frozen BK223.out 8
          have hfz13_9 := blk_frozen BK223.out 9
          have hfz13_10 := blk_frozen BK223.out 10
          have hfz13_11 := blk_frozen BK223.out 11
          have hfz13_12 := blk_frozen BK223.out 12
          have hfz13_13 := blk_frozen BK223.out 13
          have hfz13_14 := blk_frozen BK223.out 14
          have hfz13_15 := blk_frozen BK223.out 15
          have hfz13_16 := blk_frozen BK223.out 16
          go_upto_if 19 with (fail)
          go_cut [19] (fun v19 wc => ∃ (kq : Nat) (x19_11 : Bool), v19 = .bool x19_11 ∧ Aside0 (impl_OpOk.j1 kq a0_0 x19_11 a0_0 a0_1 a0_2 a0_3 a0_4 a0_5 a0_6 l0_7 a0_8 a0_9 a0_10 l0_11 a0_12 a0_13 a0_14 l0_15 l0_16 = some r) ∧ Aside0 (kq ≤ kj1) ∧ Aside0 (wc.heap[gb223]? = some (.cells #[.int .i64 a0_0, .int .i64 a0_1, .int .i64 a0_2, .int .i64 a0_3, .int .i64 a0_4, .int .i64 a0_5, .float .f64 a0_6, (.slice A0_7 l0_7.length c0_7), .int .i64 a0_8, .int .i64 a0_9, .float .f64 a0_10, (.slice A0_11 l0_11.length c0_11), .int .i64 a0_12, .int .i64 a0_13, .float .f64 a0_14, (.slice A0_15 l0_15.length c0_15), (.slice A0_16 l0_16.length c0_16)] 48 (0, 0))) ∧ Aside0 (Below w.heap.size w wc))
          case first =>
            have H := HC12.out
            clear HC12
            by_cases c14 : a0_0 = 2
            · rw [if_pos c14] at H
              have c14b0 : (a0_0 == 2) = true := beq_iff_eq.mpr c14
              have c14b1 : (a0_0 != 2) = false := bne_eq_false_iff_eq.mpr c14
              clear c14
              (first | rw [c14b0] | (simp only [i64_w, i32_w]; rw [c14b0]) | skip)
              have H' := Aside0.mk H
              clear H
              go_wp2
              go_meet
              case rel => exact ⟨_, ((a0_0 == 2)), (by first | rfl | (simp; done) | (simp [*]; done)), H', ⟨by have := HJ1.out; first | omega | exact Nat.le_refl _⟩, ⟨by (with_reducible repeat (first | refine blk_drewN ?_ _ | refine blk_drew ?_ | refine blk_alloc ?_ _)); exact BK223.out⟩, ⟨by repeat (first | (with_reducible first | exact HB.out | apply below_alloc | apply pw_below_drewN | apply below_drew1 | refine below_set ?_ GE223.out) | exact HB.out)⟩⟩
            · rw [if_neg c14] at H
              have c14b0 : (a0_0 == 2) = false := beq_eq_false_iff_ne.mpr c14
              have c14b1 : (a0_0 != 2) = true := bne_iff_ne.mpr c14
              (first | rw [c14b0] | (simp only [i64_w, i32_w]; rw [c14b0]) | skip)
              have H' := Aside0.mk H
              clear H
              go_wp2
              go_meet
              case rel => exact ⟨_, ((a0_0 == 4)), (by first | rfl | (simp; done) | (simp [*]; done)), H', ⟨by have := HJ1.out; first | omega | exact Nat.le_refl _⟩, ⟨by (with_reducible repeat (first | refine blk_drewN ?_ _ | refine blk_drew ?_ | refine blk_alloc ?_ _)); exact BK223.out⟩, ⟨by repeat (first | (with_reducible first | exact HB.out | apply below_alloc | apply pw_below_drewN | apply below_drew1 | refine below_set ?_ GE223.out) | exact HB.out)⟩⟩
          case rest =>
            clear HC12
            try clear c1
            try clear c2
            try clear p2
            try clear c4
            try clear c4b0
            try clear c7
            try clear c8
            try clear c9
            try clear c9b0
            try clear c9b1
            try clear c14
            try clear c14b0
            try clear c14b1
            try clear hcz11_0
            try clear hcz11_1
            try clear hcz11_10
            try clear hcz11_11
            try clear hcz11_12
            try clear hcz11_13
            try clear hcz11_14
            try clear hcz11_15
            try clear hcz11_16
            try clear hcz11_2
            try clear hcz11_3
            try clear hcz11_4
            try clear hcz11_5
            try clear hcz11_6
            try clear hcz11_7
            try clear hcz11_8
            try clear hcz11_9
            try clear hcz13_0
            try clear hcz13_1
            try clear hcz13_10
            try clear hcz13_11
            try clear hcz13_12
            try clear hcz13_13
            try clear hcz13_14
            try clear hcz13_15
            try clear hcz13_16
            try clear hcz13_2
            try clear hcz13_3
            try clear hcz13_4
            try clear hcz13_5
            try clear hcz13_6
            try clear hcz13_7
            try clear hcz13_8
            try clear hcz13_9
            try clear hcz6_0
            try clear hcz6_1
            try clear hcz6_10
            try clear hcz6_11
            try clear hcz6_12
            try clear hcz6_13
            try clear hcz6_14
            try clear hcz6_15
            try clear hcz6_16
            try clear hcz6_2
            try clear hcz6_3
            try clear hcz6_4
            try clear hcz6_5
            try clear hcz6_6
            try clear hcz6_7
            try clear hcz6_8
            try clear hcz6_9
            try clear hcz7_0
            try clear hcz7_1
            try clear hcz7_10
            try clear hcz7_11
            try clear hcz7_12
            try clear hcz7_13
            try clear hcz7_14
            try clear hcz7_15
            try clear hcz7_16
            try clear hcz7_2
            try clear hcz7_3
            try clear hcz7_4
            try clear hcz7_5
            try clear hcz7_6
            try clear hcz7_7
            try clear hcz7_8
            try clear hcz7_9
            try clear hfz11_0
            try clear hfz11_1
            try clear hfz11_10
            try clear hfz11_11
            try clear hfz11_12
            try clear hfz11_13
            try clear hfz11_14
            try clear hfz11_15
            try clear hfz11_16
            try clear hfz11_2
            try clear hfz11_3
            try clear hfz11_4
            try clear hfz11_5
            try clear hfz11_6
            try clear hfz11_7
            try clear hfz11_8
            try clear hfz11_9
            try clear hfz13_0
            try clear hfz13_1
            try clear hfz13_10
            try clear hfz13_11
            try clear hfz13_12
            try clear hfz13_13
            try clear hfz13_14
            try clear hfz13_15
            try clear hfz13_16
            try clear hfz13_2
            try clear hfz13_3
            try clear hfz13_4
            try clear hfz13_5
            try clear hfz13_6
            try clear hfz13_7
            try clear hfz13_8
            try clear hfz13_9
            try clear hfz6_0
            try clear hfz6_1
            try clear hfz6_10
            try clear hfz6_11
            try clear hfz6_12
            try clear hfz6_13
            try clear hfz6_14
            try clear hfz6_15
            try clear hfz6_16
            try clear hfz6_2
            try clear hfz6_3
            try clear hfz6_4
            try clear hfz6_5
            try clear hfz6_6
            try clear hfz6_7
            try clear hfz6_8
            try clear hfz6_9
            try clear hfz7_0
            try clear hfz7_1
            try clear hfz7_10
            try clear hfz7_11
            try clear hfz7_12
            try clear hfz7_13
            try clear hfz7_14
            try clear hfz7_15
            try clear hfz7_16
            try clear hfz7_2
            try clear hfz7_3
            try clear hfz7_4
            try clear hfz7_5
            try clear hfz7_6
            try clear hfz7_7
            try clear hfz7_8
            try clear hfz7_9
            try clear p2
            obtain ⟨kq, x19_11, rfl, HA, HJ11, BK223, HB⟩ := hcut
            cases kq with
            | zero => exact absurd HA.out (by simp [impl_OpOk.j1])
            | succ kj11 =>
              have H := HA.out
              clear HA
              simp only [impl_OpOk.j1] at H
              by_cases c15 : x19_11 = true
              · subst c15
                have H1 : ((impl_isClean.f a0_4 a0_5 a0_6 l0_7).bind fun t226 => (some t226)) = some r := by rw [if_pos rfl] at H; exact H
                clear H
                have H := H1
                clear H1
                replace H := Option.bind_eq_some_iff.mp H
                obtain ⟨t226, A160, H⟩ := H
                replace H : (some t226) = some r := H
                have A16 := Aside0.mk A160
                clear A160
                obtain rfl := Option.some.inj H
                have hcz17_0 : wc.cell? ⟨gb223, 0, none⟩ = some (.int .i64 a0_0) := (blk_cell BK223.out 0).trans rfl
                have hcz17_1 : wc.cell? ⟨gb223, 1, none⟩ = some (.int .i64 a0_1) := (blk_cell BK223.out 1).trans rfl
                have hcz17_2 : wc.cell? ⟨gb223, 2, none⟩ = some (.int .i64 a0_2) := (blk_cell BK223.out 2).trans rfl
                have hcz17_3 : wc.cell? ⟨gb223, 3, none⟩ = some (.int .i64 a0_3) := (blk_cell BK223.out 3).trans rfl
                have hcz17_4 : wc.cell? ⟨gb223, 4, none⟩ = some (.int .i64 a0_4) := (blk_cell BK223.out 4).trans rfl
                have hcz17_5 : wc.cell? ⟨gb223, 5, none⟩ = some (.int .i64 a0_5) := (blk_cell BK223.out 5).trans rfl
                have hcz17_6 : wc.cell? ⟨gb223, 6, none⟩ = some (.float .f64 a0_6) := (blk_cell BK223.out 6).trans rfl
                have hcz17_7 : wc.cell? ⟨gb223, 7, none⟩ = some (.slice A0_7 l0_7.length c0_7) := (blk_cell BK223.out 7).trans rfl
                have hcz17_8 : wc.cell? ⟨gb223, 8, none⟩ = some (.int .i64 a0_8) := (blk_cell BK223.out 8).trans rfl
                have hcz17_9 : wc.cell? ⟨gb223, 9, none⟩ = some (.int .i64 a0_9) := (blk_cell BK223.out 9).trans rfl
                have hcz17_10 : wc.cell? ⟨gb223, 10, none⟩ = some (.float .f64 a0_10) := (blk_cell BK223.out 10).trans rfl
                have hcz17_11 : wc.cell? ⟨gb223, 11, none⟩ = some (.slice A0_11 l0_11.length c0_11) := (blk_cell BK223.out 11).trans rfl
                have hcz17_12 : wc.cell? ⟨gb223, 12, none⟩ = some (.int .i64 a0_12) := (blk_cell BK223.out 12).trans rfl
                have hcz17_13 : wc.cell? ⟨gb223, 13, none⟩ = some (.int .i64 a0_13) := (blk_cell BK223.out 13).trans rfl
                have hcz17_14 : wc.cell? ⟨gb223, 14, none⟩ = some (.float .f64 a0_14) := (blk_cell BK223.out 14).trans rfl
                have hcz17_15 : wc.cell? ⟨gb223, 15, none⟩ = some (.slice A0_15 l0_15.length c0_15) := (blk_cell BK223.out 15).trans rfl
                have hcz17_16 : wc.cell? ⟨gb223, 16, none⟩ = some (.slice A0_16 l0_16.length c0_16) := (blk_cell BK223.out 16).trans rfl
                have hfz17_0 := blk_frozen BK223.out 0
                have hfz17_1 := blk_frozen BK223.out 1
                have hfz17_2 := blk_frozen BK223.out 2
                have hfz17_3 := blk_frozen BK223.out 3
                have hfz17_4 := blk_frozen BK223.out 4
                have hfz17_5 := blk_frozen BK223.out 5
                have hfz17_6 := blk_frozen BK223.out 6
                have hfz17_7 := blk_frozen BK223.out 7
                have hfz17_8 := blk_frozen BK223.out 8
                have hfz17_9 := blk_frozen BK223.out 9
                have hfz17_10 := blk_frozen BK223.out 10
                have hfz17_11 := blk_frozen BK223.out 11
                have hfz17_12 := blk_frozen BK223.out 12
                have hfz17_13 := blk_frozen BK223.out 13
                have hfz17_14 := blk_frozen BK223.out 14
                have hfz17_15 := blk_frozen BK223.out 15
                have hfz17_16 := blk_frozen BK223.out 16
                go_wp2_with (first | ((with_reducible refine gate_callee (f := 78) rfl ?_); refine goesL_ (some 24) rfl rfl Try.func78 (by kernel_rfl) rfl #[.agg #[.int .i64 a0_4, .int .i64 a0_5, .float .f64 a0_6, .slice A0_7 l0_7.length c0_7]] rfl (by (try simp only [List.map_toArray, List.map_cons, List.map_nil]); first | done | rfl | (simp only [List.length_drop, List.length_take]; rfl)) ?_; (with_reducible refine (impl_isClean.calls a0_4 a0_5 a0_6 _ _ l0_7 t226 _ ?side1 ?side2 A16.out).mono ?_); (case side1 => repeat (first | exact (Kd.C_below HR0_7.out HB.out) | (with_reducible refine Kd.C_alloc ?_ _) | (with_reducible refine Kd.C_drewN ?_ _) | (with_reducible refine Kd.C_drew ?_))); (case side2 => exact HC0_7.out); rintro e w18 ⟨rfl, hb⟩; refine ⟨_, rfl, ?_⟩; have n0_ := Aside0.mk (blk_below (g := gb223) (o := .cells #[.int .i64 a0_0, .int .i64 a0_1, .int .i64 a0_2, .int .i64 a0_3, .int .i64 a0_4, .int .i64 a0_5, .float .f64 a0_6, .slice A0_7 l0_7.length c0_7, .int .i64 a0_8, .int .i64 a0_9, .float .f64 a0_10, .slice A0_11 l0_11.length c0_11, .int .i64 a0_12, .int .i64 a0_13, .float .f64 a0_14, .slice A0_15 l0_15.length c0_15, .slice A0_16 l0_16.length c0_16] 48 (0, 0)) (by (with_reducible repeat (first | refine blk_drewN ?_ _ | refine blk_drew ?_ | refine blk_alloc ?_ _)); exact BK223.out) hb); have n1_ := Aside0.mk (below_step (by repeat (first | (with_reducible first | exact HB.out | apply below_alloc | apply pw_below_drewN | apply below_drew1 | refine below_set ?_ GE223.out) | exact HB.out)) hb); clear BK223; clear HB; have BK223 := n0_; have HB := n1_; clear n0_ n1_; (try clear hb); (try clear hb2); (try clear hk); (try clear hi)))
                go_ret
                exact ⟨by first | rfl | (simp [errW_none, errW_some] <;> rfl) | (simp [*, errW_none, errW_some] <;> rfl), by repeat (first | (with_reducible first | exact HB.out | apply below_alloc | apply pw_below_drewN | apply below_drew1 | refine below_set ?_ GE223.out) | exact HB.out)⟩
              · replace c15 := Bool.eq_false_iff.mpr c15
                subst c15
                have H1 : (if a0_0 = 3 then ((impl_isClean.f a0_4 a0_5 a0_6 l0_7).bind fun t227 => (if t227 = true then ((impl_isValue.f a0_12 a0_13 a0_14 l0_15).bind fun t228 => (some t228)) else (some false))) else (if a0_0 = 5 then ((impl_isClean.f a0_4 a0_5 a0_6 l0_7).bind fun t229 => (if t229 = true then ((impl_isClean.f a0_8 a0_9 a0_10 l0_11).bind fun t230 => (if t230 = true then ((impl_within.f a0_3 0 50).bind fun t231 => (some t231)) else (some false))) else (some false))) else (if a0_0 = 6 then ((impl_isClean.f a0_4 a0_5 a0_6 l0_7).bind fun t232 => (if t232 = true then ((impl_isClean.f a0_8 a0_9 a0_10 l0_11).bind fun t233 => (some t233)) else (some false))) else (if a0_0 = 11 then ((impl_within.f a0_3 0 15).bind fun t234 => (some t234)) else (if a0_0 = 12 then (some (decide (a0_3 ≥ 0))) else (if a0_0 = 13 then (some (decide ((l0_16.length : Int) ≤ 600))) else ((impl_within.f a0_0 1 13).bind fun t235 => (some t235)))))))) = some r := by rw [if_neg (show ¬ (false = true) by decide)] at H; exact H
                clear H
                have H := H1
                clear H1
                by_cases c19 : a0_0 = 3
                · rw [if_pos c19] at H
                  have c19b0 : (a0_0 == 3) = true := beq_iff_eq.mpr c19
                  have c19b1 : (a0_0 != 3) = false := bne_eq_false_iff_eq.mpr c19
                  clear c19
                  replace H := Option.bind_eq_some_iff.mp H
                  obtain ⟨t227, A200, H⟩ := H
                  replace H : (if t227 = true then ((impl_isValue.f a0_12 a0_13 a0_14 l0_15).bind fun t228 => (some t228)) else (some false)) = some r := H
                  have A20 := Aside0.mk A200
                  clear A200
                  by_cases c21 : t227 = true
                  · subst c21
                    have H1 : ((impl_isValue.f a0_12 a0_13 a0_14 l0_15).bind fun t228 => (some t228)) = some r := by rw [if_pos rfl] at H; exact H
                    clear H
                    have H := H1
                    clear H1
                    replace H := Option.bind_eq_some_iff.mp H
                    obtain ⟨t228, A220, H⟩ := H
                    replace H : (some t228) = some r := H
                    have A22 := Aside0.mk A220
                    clear A220
                    obtain rfl := Option.some.inj H
                    have hcz23_0 : wc.cell? ⟨gb223, 0, none⟩ = some (.int .i64 a0_0) := (blk_cell BK223.out 0).trans rfl
                    have hcz23_1 : wc.cell? ⟨gb223, 1, none⟩ = some (.int .i64 a0_1) := (blk_cell BK223.out 1).trans rfl
                    have hcz23_2 : wc.cell? ⟨gb223, 2, none⟩ = some (.int .i64 a0_2) := (blk_cell BK223.out 2).trans rfl
                    have hcz23_3 : wc.cell? ⟨gb223, 3, none⟩ = some (.int .i64 a0_3) := (blk_cell BK223.out 3).trans rfl
                    have hcz23_4 : wc.cell? ⟨gb223, 4, none⟩ = some (.int .i64 a0_4) := (blk_cell BK223.out 4).trans rfl
                    have hcz23_5 : wc.cell? ⟨gb223, 5, none⟩ = some (.int .i64 a0_5) := (blk_cell BK223.out 5).trans rfl
                    have hcz23_6 : wc.cell? ⟨gb223, 6, none⟩ = some (.float .f64 a0_6) := (blk_cell BK223.out 6).trans rfl
                    have hcz23_7 : wc.cell? ⟨gb223, 7, none⟩ = some (.slice A0_7 l0_7.length c0_7) := (blk_cell BK223.out 7).trans rfl
                    have hcz23_8 : wc.cell? ⟨gb223, 8, none⟩ = some (.int .i64 a0_8) := (blk_cell BK223.out 8).trans rfl
                    have hcz23_9 : wc.cell? ⟨gb223, 9, none⟩ = some (.int .i64 a0_9) := (blk_cell BK223.out 9).trans rfl
                    have hcz23_10 : wc.cell? ⟨gb223, 10, none⟩ = some (.float .f64 a0_10) := (blk_cell BK223.out 10).trans rfl
                    have hcz23_11 : wc.cell? ⟨gb223, 11, none⟩ = some (.slice A0_11 l0_11.length c0_11) := (blk_cell BK223.out 11).trans rfl
                    have hcz23_12 : wc.cell? ⟨gb223, 12, none⟩ = some (.int .i64 a0_12) := (blk_cell BK223.out 12).trans rfl
                    have hcz23_13 : wc.cell? ⟨gb223, 13, none⟩ = some (.int .i64 a0_13) := (blk_cell BK223.out 13).trans rfl
                    have hcz23_14 : wc.cell? ⟨gb223, 14, none⟩ = some (.float .f64 a0_14) := (blk_cell BK223.out 14).trans rfl
                    have hcz23_15 : wc.cell? ⟨gb223, 15, none⟩ = some (.slice A0_15 l0_15.length c0_15) := (blk_cell BK223.out 15).trans rfl
                    have hcz23_16 : wc.cell? ⟨gb223, 16, none⟩ = some (.slice A0_16 l0_16.length c0_16) := (blk_cell BK223.out 16).trans rfl
                    have hfz23_0 := blk_frozen BK223.out 0
                    have hfz23_1 := blk_frozen BK223.out 1
                    have hfz23_2 := blk_frozen BK223.out 2
                    have hfz23_3 := blk_frozen BK223.out 3
                    have hfz23_4 := blk_frozen BK223.out 4
                    have hfz23_5 := blk_frozen BK223.out 5
                    have hfz23_6 := blk_frozen BK223.out 6
                    have hfz23_7 := blk_frozen BK223.out 7
                    have hfz23_8 := blk_frozen BK223.out 8
                    have hfz23_9 := blk_frozen BK223.out 9
                    have hfz23_10 := blk_frozen BK223.out 10
                    have hfz23_11 := blk_frozen BK223.out 11
                    have hfz23_12 := blk_frozen BK223.out 12
                    have hfz23_13 := blk_frozen BK223.out 13
                    have hfz23_14 := blk_frozen BK223.out 14
                    have hfz23_15 := blk_frozen BK223.out 15
                    have hfz23_16 := blk_frozen BK223.out 16
                    go_wp2_with (first | ((with_reducible refine gate_callee (f := 78) rfl ?_); refine goesL_ (some 29) rfl rfl Try.func78 (by kernel_rfl) rfl #[.agg #[.int .i64 a0_4, .int .i64 a0_5, .float .f64 a0_6, .slice A0_7 l0_7.length c0_7]] rfl (by (try simp only [List.map_toArray, List.map_cons, List.map_nil]); first | done | rfl | (simp only [List.length_drop, List.length_take]; rfl)) ?_; (with_reducible refine (impl_isClean.calls a0_4 a0_5 a0_6 _ _ l0_7 true _ ?side1 ?side2 A20.out).mono ?_); (case side1 => repeat (first | exact (Kd.C_below HR0_7.out HB.out) | (with_reducible refine Kd.C_alloc ?_ _) | (with_reducible refine Kd.C_drewN ?_ _) | (with_reducible refine Kd.C_drew ?_))); (case side2 => exact HC0_7.out); rintro e w24 ⟨rfl, hb⟩; refine ⟨_, rfl, ?_⟩; have n0_ := Aside0.mk (blk_below (g := gb223) (o := .cells #[.int .i64 a0_0, .int .i64 a0_1, .int .i64 a0_2, .int .i64 a0_3, .int .i64 a0_4, .int .i64 a0_5, .float .f64 a0_6, .slice A0_7 l0_7.length c0_7, .int .i64 a0_8, .int .i64 a0_9, .float .f64 a0_10, .slice A0_11 l0_11.length c0_11, .int .i64 a0_12, .int .i64 a0_13, .float .f64 a0_14, .slice A0_15 l0_15.length c0_15, .slice A0_16 l0_16.length c0_16] 48 (0, 0)) (by (with_reducible repeat (first | refine blk_drewN ?_ _ | refine blk_drew ?_ | refine blk_alloc ?_ _)); exact BK223.out) hb); have n1_ := Aside0.mk (below_step (by repeat (first | (with_reducible first | exact HB.out | apply below_alloc | apply pw_below_drewN | apply below_drew1 | refine below_set ?_ GE223.out) | exact HB.out)) hb); clear BK223; clear HB; have BK223 := n0_; have HB := n1_; clear n0_ n1_; (try clear hb); (try clear hb2); (try clear hk); (try clear hi); have hcz25_0 : w24.cell? ⟨gb223, 0, none⟩ = some (.int .i64 a0_0) := (blk_cell BK223.out 0).trans rfl; have hcz25_1 : w24.cell? ⟨gb223, 1, none⟩ = some (.int .i64 a0_1) := (blk_cell BK223.out 1).trans rfl; have hcz25_2 : w24.cell? ⟨gb223, 2, none⟩ = some (.int .i64 a0_2) := (blk_cell BK223.out 2).trans rfl; have hcz25_3 : w24.cell? ⟨gb223, 3, none⟩ = some (.int .i64 a0_3) := (blk_cell BK223.out 3).trans rfl; have hcz25_4 : w24.cell? ⟨gb223, 4, none⟩ = some (.int .i64 a0_4) := (blk_cell BK223.out 4).trans rfl; have hcz25_5 : w24.cell? ⟨gb223, 5, none⟩ = some (.int .i64 a0_5) := (blk_cell BK223.out 5).trans rfl; have hcz25_6 : w24.cell? ⟨gb223, 6, none⟩ = some (.float .f64 a0_6) := (blk_cell BK223.out 6).trans rfl; have hcz25_7 : w24.cell? ⟨gb223, 7, none⟩ = some (.slice A0_7 l0_7.length c0_7) := (blk_cell BK223.out 7).trans rfl; have hcz25_8 : w24.cell? ⟨gb223, 8, none⟩ = some (.int .i64 a0_8) := (blk_cell BK223.out 8).trans rfl; have hcz25_9 : w24.cell? ⟨gb223, 9, none⟩ = some (.int .i64 a0_9) := (blk_cell BK223.out 9).trans rfl; have hcz25_10 : w24.cell? ⟨gb223, 10, none⟩ = some (.float .f64 a0_10) := (blk_cell BK223.out 10).trans rfl; have hcz25_11 : w24.cell? ⟨gb223, 11, none⟩ = some (.slice A0_11 l0_11.length c0_11) := (blk_cell BK223.out 11).trans rfl; have hcz25_12 : w24.cell? ⟨gb223, 12, none⟩ = some (.int .i64 a0_12) := (blk_cell BK223.out 12).trans rfl; have hcz25_13 : w24.cell? ⟨gb223, 13, none⟩ = some (.int .i64 a0_13) := (blk_cell BK223.out 13).trans rfl; have hcz25_14 : w24.cell? ⟨gb223, 14, none⟩ = some (.float .f64 a0_14) := (blk_cell BK223.out 14).trans rfl; have hcz25_15 : w24.cell? ⟨gb223, 15, none⟩ = some (.slice A0_15 l0_15.length c0_15) := (blk_cell BK223.out 15).trans rfl; have hcz25_16 : w24.cell? ⟨gb223, 16, none⟩ = some (.slice A0_16 l0_16.length c0_16) := (blk_cell BK223.out 16).trans rfl; have hfz25_0 := blk_frozen BK223.out 0; have hfz25_1 := blk_frozen BK223.out 1; have hfz25_2 := blk_frozen BK223.out 2; have hfz25_3 := blk_frozen BK223.out 3; have hfz25_4 := blk_frozen BK223.out 4; have hfz25_5 := blk_frozen BK223.out 5; have hfz25_6 := blk_frozen BK223.out 6; have hfz25_7 := blk_frozen BK223.out 7; have hfz25_8 := blk_frozen BK223.out 8; have hfz25_9 := blk_frozen BK223.out 9; have hfz25_10 := blk_frozen BK223.out 10; have hfz25_11 := blk_frozen BK223.out 11; have hfz25_12 := blk_frozen BK223.out 12; have hfz25_13 := blk_frozen BK223.out 13; have hfz25_14 := blk_frozen BK223.out 14; have hfz25_15 := blk_frozen BK223.out 15; have hfz25_16 := blk_frozen BK223.out 16) | (go_at_call 79; (with_reducible refine (impl_isValue.calls a0_12 a0_13 a0_14 _ _ l0_15 t228 _ ?side1 ?side2 A22.out).mono ?_); (case side1 => repeat (first | exact (Kd.C_below HR0_15.out HB.out) | (with_reducible refine Kd.C_alloc ?_ _) | (with_reducible refine Kd.C_drewN ?_ _) | (with_reducible refine Kd.C_drew ?_))); (case side2 => exact HC0_15.out); rintro e w26 ⟨rfl, hb⟩; have n0_ := Aside0.mk (blk_below (g := gb223) (o := .cells #[.int .i64 a0_0, .int .i64 a0_1, .int .i64 a0_2, .int .i64 a0_3, .int .i64 a0_4, .int .i64 a0_5, .float .f64 a0_6, .slice A0_7 l0_7.length c0_7, .int .i64 a0_8, .int .i64 a0_9, .float .f64 a0_10, .slice A0_11 l0_11.length c0_11, .int .i64 a0_12, .int .i64 a0_13, .float .f64 a0_14, .slice A0_15 l0_15.length c0_15, .slice A0_16 l0_16.length c0_16] 48 (0, 0)) (by (with_reducible repeat (first | refine blk_drewN ?_ _ | refine blk_drew ?_ | refine blk_alloc ?_ _)); exact BK223.out) hb); have n1_ := Aside0.mk (below_step (by repeat (first | (with_reducible first | exact HB.out | apply below_alloc | apply pw_below_drewN | apply below_drew1 | refine below_set ?_ GE223.out) | exact HB.out)) hb); clear BK223; clear HB; have BK223 := n0_; have HB := n1_; clear n0_ n1_; (try clear hb); (try clear hb2); (try clear hk); (try clear hi)))
                    go_ret
                    exact ⟨by first | rfl | (simp [errW_none, errW_some] <;> rfl) | (simp [*, errW_none, errW_some] <;> rfl), by repeat (first | (with_reducible first | exact HB.out | apply below_alloc | apply pw_below_drewN | apply below_drew1 | refine below_set ?_ GE223.out) | exact HB.out)⟩
                  · replace c21 := Bool.eq_false_iff.mpr c21
                    subst c21
                    have H1 : (some false) = some r := by rw [if_neg (show ¬ (false = true) by decide)] at H; exact H
                    clear H
                    have H := H1
                    clear H1
                    obtain rfl := Option.some.inj H
                    have hcz27_0 : wc.cell? ⟨gb223, 0, none⟩ = some (.int .i64 a0_0) := (blk_cell BK223.out 0).trans rfl
                    have hcz27_1 : wc.cell? ⟨gb223, 1, none⟩ = some (.int .i64 a0_1) := (blk_cell BK223.out 1).trans rfl
                    have hcz27_2 : wc.cell? ⟨gb223, 2, none⟩ = some (.int .i64 a0_2) := (blk_cell BK223.out 2).trans rfl
                    have hcz27_3 : wc.cell? ⟨gb223, 3, none⟩ = some (.int .i64 a0_3) := (blk_cell BK223.out 3).trans rfl
                    have hcz27_4 : wc.cell? ⟨gb223, 4, none⟩ = some (.int .i64 a0_4) := (blk_cell BK223.out 4).trans rfl
                    have hcz27_5 : wc.cell? ⟨gb223, 5, none⟩ = some (.int .i64 a0_5) := (blk_cell BK223.out 5).trans rfl
                    have hcz27_6 : wc.cell? ⟨gb223, 6, none⟩ = some (.float .f64 a0_6) := (blk_cell BK223.out 6).trans rfl
                    have hcz27_7 : wc.cell? ⟨gb223, 7, none⟩ = some (.slice A0_7 l0_7.length c0_7) := (blk_cell BK223.out 7).trans rfl
                    have hcz27_8 : wc.cell? ⟨gb223, 8, none⟩ = some (.int .i64 a0_8) := (blk_cell BK223.out 8).trans rfl
                    have hcz27_9 : wc.cell? ⟨gb223, 9, none⟩ = some (.int .i64 a0_9) := (blk_cell BK223.out 9).trans rfl
                    have hcz27_10 : wc.cell? ⟨gb223, 10, none⟩ = some (.float .f64 a0_10) := (blk_cell BK223.out 10).trans rfl
                    have hcz27_11 : wc.cell? ⟨gb223, 11, none⟩ = some (.slice A0_11 l0_11.length c0_11) := (blk_cell BK223.out 11).trans rfl
                    have hcz27_12 : wc.cell? ⟨gb223, 12, none⟩ = some (.int .i64 a0_12) := (blk_cell BK223.out 12).trans rfl
                    have hcz27_13 : wc.cell? ⟨gb223, 13, none⟩ = some (.int .i64 a0_13) := (blk_cell BK223.out 13).trans rfl
                    have hcz27_14 : wc.cell? ⟨gb223, 14, none⟩ = some (.float .f64 a0_14) := (blk_cell BK223.out 14).trans rfl
                    have hcz27_15 : wc.cell? ⟨gb223, 15, none⟩ = some (.slice A0_15 l0_15.length c0_15) := (blk_cell BK223.out 15).trans rfl
                    have hcz27_16 : wc.cell? ⟨gb223, 16, none⟩ = some (.slice A0_16 l0_16.length c0_16) := (blk_cell BK223.out 16).trans rfl
                    have hfz27_0 := blk_frozen BK223.out 0
                    have hfz27_1 := blk_frozen BK223.out 1
                    have hfz27_2 := blk_frozen BK223.out 2
                    have hfz27_3 := blk_frozen BK223.out 3
                    have hfz27_4 := blk_frozen BK223.out 4
                    have hfz27_5 := blk_frozen BK223.out 5
                    have hfz27_6 := blk_frozen BK223.out 6
                    have hfz27_7 := blk_frozen BK223.out 7
                    have hfz27_8 := blk_frozen BK223.out 8
                    have hfz27_9 := blk_frozen BK223.out 9
                    have hfz27_10 := blk_frozen BK223.out 10
                    have hfz27_11 := blk_frozen BK223.out 11
                    have hfz27_12 := blk_frozen BK223.out 12
                    have hfz27_13 := blk_frozen BK223.out 13
                    have hfz27_14 := blk_frozen BK223.out 14
                    have hfz27_15 := blk_frozen BK223.out 15
                    have hfz27_16 := blk_frozen BK223.out 16
                    go_wp2_with (first | ((with_reducible refine gate_callee (f := 78) rfl ?_); refine goesL_ (some 29) rfl rfl Try.func78 (by kernel_rfl) rfl #[.agg #[.int .i64 a0_4, .int .i64 a0_5, .float .f64 a0_6, .slice A0_7 l0_7.length c0_7]] rfl (by (try simp only [List.map_toArray, List.map_cons, List.map_nil]); first | done | rfl | (simp only [List.length_drop, List.length_take]; rfl)) ?_; (with_reducible refine (impl_isClean.calls a0_4 a0_5 a0_6 _ _ l0_7 false _ ?side1 ?side2 A20.out).mono ?_); (case side1 => repeat (first | exact (Kd.C_below HR0_7.out HB.out) | (with_reducible refine Kd.C_alloc ?_ _) | (with_reducible refine Kd.C_drewN ?_ _) | (with_reducible refine Kd.C_drew ?_))); (case side2 => exact HC0_7.out); rintro e w28 ⟨rfl, hb⟩; refine ⟨_, rfl, ?_⟩; have n0_ := Aside0.mk (blk_below (g := gb223) (o := .cells #[.int .i64 a0_0, .int .i64 a0_1, .int .i64 a0_2, .int .i64 a0_3, .int .i64 a0_4, .int .i64 a0_5, .float .f64 a0_6, .slice A0_7 l0_7.length c0_7, .int .i64 a0_8, .int .i64 a0_9, .float .f64 a0_10, .slice A0_11 l0_11.length c0_11, .int .i64 a0_12, .int .i64 a0_13, .float .f64 a0_14, .slice A0_15 l0_15.length c0_15, .slice A0_16 l0_16.length c0_16] 48 (0, 0)) (by (with_reducible repeat (first | refine blk_drewN ?_ _ | refine blk_drew ?_ | refine blk_alloc ?_ _)); exact BK223.out) hb); have n1_ := Aside0.mk (below_step (by repeat (first | (with_reducible first | exact HB.out | apply below_alloc | apply pw_below_drewN | apply below_drew1 | refine below_set ?_ GE223.out) | exact HB.out)) hb); clear BK223; clear HB; have BK223 := n0_; have HB := n1_; clear n0_ n1_; (try clear hb); (try clear hb2); (try clear hk); (try clear hi)))
                    go_ret
                    exact ⟨by first | rfl | (simp [errW_none, errW_some] <;> rfl) | (simp [*, errW_none, errW_some] <;> rfl), by repeat (first | (with_reducible first | exact HB.out | apply below_alloc | apply pw_below_drewN | apply below_drew1 | refine below_set ?_ GE223.out) | exact HB.out)⟩
                · rw [if_neg c19] at H
                  have c19b0 : (a0_0 == 3) = false := beq_eq_false_iff_ne.mpr c19
                  have c19b1 : (a0_0 != 3) = true := bne_iff_ne.mpr c19
                  by_cases c29 : a0_0 = 5
                  · rw [if_pos c29] at H
                    have c29b0 : (a0_0 == 5) = true := beq_iff_eq.mpr c29
                    have c29b1 : (a0_0 != 5) = false := bne_eq_false_iff_eq.mpr c29
                    clear c29
                    replace H := Option.bind_eq_some_iff.mp H
                    obtain ⟨t229, A300, H⟩ := H
                    replace H : (if t229 = true then ((impl_isClean.f a0_8 a0_9 a0_10 l0_11).bind fun t230 => (if t230 = true then ((impl_within.f a0_3 0 50).bind fun t231 => (some t231)) else (some false))) else (some false)) = some r := H
                    have A30 := Aside0.mk A300
                    clear A300
                    by_cases c31 : t229 = true
                    · subst c31
                      have H1 : ((impl_isClean.f a0_8 a0_9 a0_10 l0_11).bind fun t230 => (if t230 = true then ((impl_within.f a0_3 0 50).bind fun t231 => (some t231)) else (some false))) = some r := by rw [if_pos rfl] at H; exact H
                      clear H
                      have H := H1
                      clear H1
                      replace H := Option.bind_eq_some_iff.mp H
                      obtain ⟨t230, A320, H⟩ := H
                      replace H : (if t230 = true then ((impl_within.f a0_3 0 50).bind fun t231 => (some t231)) else (some false)) = some r := H
                      have A32 := Aside0.mk A320
                      clear A320
                      by_cases c33 : t230 = true
                      · subst c33
                        have H1 : ((impl_within.f a0_3 0 50).bind fun t231 => (some t231)) = some r := by rw [if_pos rfl] at H; exact H
                        clear H
                        have H := H1
                        clear H1
                        replace H := Option.bind_eq_some_iff.mp H
                        obtain ⟨t231, A340, H⟩ := H
                        replace H : (some t231) = some r := H
                        have A34 := Aside0.mk A340
                        clear A340
                        obtain rfl := Option.some.inj H
                        have hcz35_0 : wc.cell? ⟨gb223, 0, none⟩ = some (.int .i64 a0_0) := (blk_cell BK223.out 0).trans rfl
                        have hcz35_1 : wc.cell? ⟨gb223, 1, none⟩ = some (.int .i64 a0_1) := (blk_cell BK223.out 1).trans rfl
                        have hcz35_2 : wc.cell? ⟨gb223, 2, none⟩ = some (.int .i64 a0_2) := (blk_cell BK223.out 2).trans rfl
                        have hcz35_3 : wc.cell? ⟨gb223, 3, none⟩ = some (.int .i64 a0_3) := (blk_cell BK223.out 3).trans rfl
                        have hcz35_4 : wc.cell? ⟨gb223, 4, none⟩ = some (.int .i64 a0_4) := (blk_cell BK223.out 4).trans rfl
                        have hcz35_5 : wc.cell? ⟨gb223, 5, none⟩ = some (.int .i64 a0_5) := (blk_cell BK223.out 5).trans rfl
                        have hcz35_6 : wc.cell? ⟨gb223, 6, none⟩ = some (.float .f64 a0_6) := (blk_cell BK223.out 6).trans rfl
                        have hcz35_7 : wc.cell? ⟨gb223, 7, none⟩ = some (.slice A0_7 l0_7.length c0_7) := (blk_cell BK223.out 7).trans rfl
                        have hcz35_8 : wc.cell? ⟨gb223, 8, none⟩ = some (.int .i64 a0_8) := (blk_cell BK223.out 8).trans rfl
                        have hcz35_9 : wc.cell? ⟨gb223, 9, none⟩ = some (.int .i64 a0_9) := (blk_cell BK223.out 9).trans rfl
                        have hcz35_10 : wc.cell? ⟨gb223, 10, none⟩ = some (.float .f64 a0_10) := (blk_cell BK223.out 10).trans rfl
                        have hcz35_11 : wc.cell? ⟨gb223, 11, none⟩ = some (.slice A0_11 l0_11.length c0_11) := (blk_cell BK223.out 11).trans rfl
                        have hcz35_12 : wc.cell? ⟨gb223, 12, none⟩ = some (.int .i64 a0_12) := (blk_cell BK223.out 12).trans rfl
                        have hcz35_13 : wc.cell? ⟨gb223, 13, none⟩ = some (.int .i64 a0_13) := (blk_cell BK223.out 13).trans rfl
                        have hcz35_14 : wc.cell? ⟨gb223, 14, none⟩ = some (.float .f64 a0_14) := (blk_cell BK223.out 14).trans rfl
                        have hcz35_15 : wc.cell? ⟨gb223, 15, none⟩ = some (.slice A0_15 l0_15.length c0_15) := (blk_cell BK223.out 15).trans rfl
                        have hcz35_16 : wc.cell? ⟨gb223, 16, none⟩ = some (.slice A0_16 l0_16.length c0_16) := (blk_cell BK223.out 16).trans rfl
                        have hfz35_0 := blk_frozen BK223.out 0
                        have hfz35_1 := blk_frozen BK223.out 1
                        have hfz35_2 := blk_frozen BK223.out 2
                        have hfz35_3 := blk_frozen BK223.out 3
                        have hfz35_4 := blk_frozen BK223.out 4
                        have hfz35_5 := blk_frozen BK223.out 5
                        have hfz35_6 := blk_frozen BK223.out 6
                        have hfz35_7 := blk_frozen BK223.out 7
                        have hfz35_8 := blk_frozen BK223.out 8
                        have hfz35_9 := blk_frozen BK223.out 9
                        have hfz35_10 := blk_frozen BK223.out 10
                        have hfz35_11 := blk_frozen BK223.out 11
                        have hfz35_12 := blk_frozen BK223.out 12
                        have hfz35_13 := blk_frozen BK223.out 13
                        have hfz35_14 := blk_frozen BK223.out 14
                        have hfz35_15 := blk_frozen BK223.out 15
                        have hfz35_16 := blk_frozen BK223.out 16
                        go_wp2_with (first | ((with_reducible refine gate_callee (f := 78) rfl ?_); refine goesL_ (some 39) rfl rfl Try.func78 (by kernel_rfl) rfl #[.agg #[.int .i64 a0_4, .int .i64 a0_5, .float .f64 a0_6, .slice A0_7 l0_7.length c0_7]] rfl (by (try simp only [List.map_toArray, List.map_cons, List.map_nil]); first | done | rfl | (simp only [List.length_drop, List.length_take]; rfl)) ?_; (with_reducible refine (impl_isClean.calls a0_4 a0_5 a0_6 _ _ l0_7 true _ ?side1 ?side2 A30.out).mono ?_); (case side1 => repeat (first | exact (Kd.C_below HR0_7.out HB.out) | (with_reducible refine Kd.C_alloc ?_ _) | (with_reducible refine Kd.C_drewN ?_ _) | (with_reducible refine Kd.C_drew ?_))); (case side2 => exact HC0_7.out); rintro e w36 ⟨rfl, hb⟩; refine ⟨_, rfl, ?_⟩; have n0_ := Aside0.mk (blk_below (g := gb223) (o := .cells #[.int .i64 a0_0, .int .i64 a0_1, .int .i64 a0_2, .int .i64 a0_3, .int .i64 a0_4, .int .i64 a0_5, .float .f64 a0_6, .slice A0_7 l0_7.length c0_7, .int .i64 a0_8, .int .i64 a0_9, .float .f64 a0_10, .slice A0_11 l0_11.length c0_11, .int .i64 a0_12, .int .i64 a0_13, .float .f64 a0_14, .slice A0_15 l0_15.length c0_15, .slice A0_16 l0_16.length c0_16] 48 (0, 0)) (by (with_reducible repeat (first | refine blk_drewN ?_ _ | refine blk_drew ?_ | refine blk_alloc ?_ _)); exact BK223.out) hb); have n1_ := Aside0.mk (below_step (by repeat (first | (with_reducible first | exact HB.out | apply below_alloc | apply pw_below_drewN | apply below_drew1 | refine below_set ?_ GE223.out) | exact HB.out)) hb); clear BK223; clear HB; have BK223 := n0_; have HB := n1_; clear n0_ n1_; (try clear hb); (try clear hb2); (try clear hk); (try clear hi); have hcz37_0 : w36.cell? ⟨gb223, 0, none⟩ = some (.int .i64 a0_0) := (blk_cell BK223.out 0).trans rfl; have hcz37_1 : w36.cell? ⟨gb223, 1, none⟩ = some (.int .i64 a0_1) := (blk_cell BK223.out 1).trans rfl; have hcz37_2 : w36.cell? ⟨gb223, 2, none⟩ = some (.int .i64 a0_2) := (blk_cell BK223.out 2).trans rfl; have hcz37_3 : w36.cell? ⟨gb223, 3, none⟩ = some (.int .i64 a0_3) := (blk_cell BK223.out 3).trans rfl; have hcz37_4 : w36.cell? ⟨gb223, 4, none⟩ = some (.int .i64 a0_4) := (blk_cell BK223.out 4).trans rfl; have hcz37_5 : w36.cell? ⟨gb223, 5, none⟩ = some (.int .i64 a0_5) := (blk_cell BK223.out 5).trans rfl; have hcz37_6 : w36.cell? ⟨gb223, 6, none⟩ = some (.float .f64 a0_6) := (blk_cell BK223.out 6).trans rfl; have hcz37_7 : w36.cell? ⟨gb223, 7, none⟩ = some (.slice A0_7 l0_7.length c0_7) := (blk_cell BK223.out 7).trans rfl; have hcz37_8 : w36.cell? ⟨gb223, 8, none⟩ = some (.int .i64 a0_8) := (blk_cell BK223.out 8).trans rfl; have hcz37_9 : w36.cell? ⟨gb223, 9, none⟩ = some (.int .i64 a0_9) := (blk_cell BK223.out 9).trans rfl; have hcz37_10 : w36.cell? ⟨gb223, 10, none⟩ = some (.float .f64 a0_10) := (blk_cell BK223.out 10).trans rfl; have hcz37_11 : w36.cell? ⟨gb223, 11, none⟩ = some (.slice A0_11 l0_11.length c0_11) := (blk_cell BK223.out 11).trans rfl; have hcz37_12 : w36.cell? ⟨gb223, 12, none⟩ = some (.int .i64 a0_12) := (blk_cell BK223.out 12).trans rfl; have hcz37_13 : w36.cell? ⟨gb223, 13, none⟩ = some (.int .i64 a0_13) := (blk_cell BK223.out 13).trans rfl; have hcz37_14 : w36.cell? ⟨gb223, 14, none⟩ = some (.float .f64 a0_14) := (blk_cell BK223.out 14).trans rfl; have hcz37_15 : w36.cell? ⟨gb223, 15, none⟩ = some (.slice A0_15 l0_15.length c0_15) := (blk_cell BK223.out 15).trans rfl; have hcz37_16 : w36.cell? ⟨gb223, 16, none⟩ = some (.slice A0_16 l0_16.length c0_16) := (blk_cell BK223.out 16).trans rfl; have hfz37_0 := blk_frozen BK223.out 0; have hfz37_1 := blk_frozen BK223.out 1; have hfz37_2 := blk_frozen BK223.out 2; have hfz37_3 := blk_frozen BK223.out 3; have hfz37_4 := blk_frozen BK223.out 4; have hfz37_5 := blk_frozen BK223.out 5; have hfz37_6 := blk_frozen BK223.out 6; have hfz37_7 := blk_frozen BK223.out 7; have hfz37_8 := blk_frozen BK223.out 8; have hfz37_9 := blk_frozen BK223.out 9; have hfz37_10 := blk_frozen BK223.out 10; have hfz37_11 := blk_frozen BK223.out 11; have hfz37_12 := blk_frozen BK223.out 12; have hfz37_13 := blk_frozen BK223.out 13; have hfz37_14 := blk_frozen BK223.out 14; have hfz37_15 := blk_frozen BK223.out 15; have hfz37_16 := blk_frozen BK223.out 16) | (go_at_call 78; (with_reducible refine (impl_isClean.calls a0_8 a0_9 a0_10 _ _ l0_11 true _ ?side1 ?side2 A32.out).mono ?_); (case side1 => repeat (first | exact (Kd.C_below HR0_11.out HB.out) | (with_reducible refine Kd.C_alloc ?_ _) | (with_reducible refine Kd.C_drewN ?_ _) | (with_reducible refine Kd.C_drew ?_))); (case side2 => exact HC0_11.out); rintro e w38 ⟨rfl, hb⟩; have n0_ := Aside0.mk (blk_below (g := gb223) (o := .cells #[.int .i64 a0_0, .int .i64 a0_1, .int .i64 a0_2, .int .i64 a0_3, .int .i64 a0_4, .int .i64 a0_5, .float .f64 a0_6, .slice A0_7 l0_7.length c0_7, .int .i64 a0_8, .int .i64 a0_9, .float .f64 a0_10, .slice A0_11 l0_11.length c0_11, .int .i64 a0_12, .int .i64 a0_13, .float .f64 a0_14, .slice A0_15 l0_15.length c0_15, .slice A0_16 l0_16.length c0_16] 48 (0, 0)) (by (with_reducible repeat (first | refine blk_drewN ?_ _ | refine blk_drew ?_ | refine blk_alloc ?_ _)); exact BK223.out) hb); have n1_ := Aside0.mk (below_step (by repeat (first | (with_reducible first | exact HB.out | apply below_alloc | apply pw_below_drewN | apply below_drew1 | refine below_set ?_ GE223.out) | exact HB.out)) hb); clear BK223; clear HB; have BK223 := n0_; have HB := n1_; clear n0_ n1_; (try clear hb); (try clear hb2); (try clear hk); (try clear hi); have hcz39_0 : w38.cell? ⟨gb223, 0, none⟩ = some (.int .i64 a0_0) := (blk_cell BK223.out 0).trans rfl; have hcz39_1 : w38.cell? ⟨gb223, 1, none⟩ = some (.int .i64 a0_1) := (blk_cell BK223.out 1).trans rfl; have hcz39_2 : w38.cell? ⟨gb223, 2, none⟩ = some (.int .i64 a0_2) := (blk_cell BK223.out 2).trans rfl; have hcz39_3 : w38.cell? ⟨gb223, 3, none⟩ = some (.int .i64 a0_3) := (blk_cell BK223.out 3).trans rfl; have hcz39_4 : w38.cell? ⟨gb223, 4, none⟩ = some (.int .i64 a0_4) := (blk_cell BK223.out 4).trans rfl; have hcz39_5 : w38.cell? ⟨gb223, 5, none⟩ = some (.int .i64 a0_5) := (blk_cell BK223.out 5).trans rfl; have hcz39_6 : w38.cell? ⟨gb223, 6, none⟩ = some (.float .f64 a0_6) := (blk_cell BK223.out 6).trans rfl; have hcz39_7 : w38.cell? ⟨gb223, 7, none⟩ = some (.slice A0_7 l0_7.length c0_7) := (blk_cell BK223.out 7).trans rfl; have hcz39_8 : w38.cell? ⟨gb223, 8, none⟩ = some (.int .i64 a0_8) := (blk_cell BK223.out 8).trans rfl; have hcz39_9 : w38.cell? ⟨gb223, 9, none⟩ = some (.int .i64 a0_9) := (blk_cell BK223.out 9).trans rfl; have hcz39_10 : w38.cell? ⟨gb223, 10, none⟩ = some (.float .f64 a0_10) := (blk_cell BK223.out 10).trans rfl; have hcz39_11 : w38.cell? ⟨gb223, 11, none⟩ = some (.slice A0_11 l0_11.length c0_11) := (blk_cell BK223.out 11).trans rfl; have hcz39_12 : w38.cell? ⟨gb223, 12, none⟩ = some (.int .i64 a0_12) := (blk_cell BK223.out 12).trans rfl; have hcz39_13 : w38.cell? ⟨gb223, 13, none⟩ = some (.int .i64 a0_13) := (blk_cell BK223.out 13).trans rfl; have hcz39_14 : w38.cell? ⟨gb223, 14, none⟩ = some (.float .f64 a0_14) := (blk_cell BK223.out 14).trans rfl; have hcz39_15 : w38.cell? ⟨gb223, 15, none⟩ = some (.slice A0_15 l0_15.length c0_15) := (blk_cell BK223.out 15).trans rfl; have hcz39_16 : w38.cell? ⟨gb223, 16, none⟩ = some (.slice A0_16 l0_16.length c0_16) := (blk_cell BK223.out 16).trans rfl; have hfz39_0 := blk_frozen BK223.out 0; have hfz39_1 := blk_frozen BK223.out 1; have hfz39_2 := blk_frozen BK223.out 2; have hfz39_3 := blk_frozen BK223.out 3; have hfz39_4 := blk_frozen BK223.out 4; have hfz39_5 := blk_frozen BK223.out 5; have hfz39_6 := blk_frozen BK223.out 6; have hfz39_7 := blk_frozen BK223.out 7; have hfz39_8 := blk_frozen BK223.out 8; have hfz39_9 := blk_frozen BK223.out 9; have hfz39_10 := blk_frozen BK223.out 10; have hfz39_11 := blk_frozen BK223.out 11; have hfz39_12 := blk_frozen BK223.out 12; have hfz39_13 := blk_frozen BK223.out 13; have hfz39_14 := blk_frozen BK223.out 14; have hfz39_15 := blk_frozen BK223.out 15; have hfz39_16 := blk_frozen BK223.out 16) | (go_at_call 77; (with_reducible refine (impl_within.calls a0_3 0 50 t231 _ A34.out).mono ?_); rintro e w' ⟨rfl, ⟨nd, rfl⟩⟩))
                        go_ret
                        exact ⟨by first | rfl | (simp [errW_none, errW_some] <;> rfl) | (simp [*, errW_none, errW_some] <;> rfl), by repeat (first | (with_reducible first | exact HB.out | apply below_alloc | apply pw_below_drewN | apply below_drew1 | refine below_set ?_ GE223.out) | exact HB.out)⟩
                      · replace c33 := Bool.eq_false_iff.mpr c33
                        subst c33
                        have H1 : (some false) = some r := by rw [if_neg (show ¬ (false = true) by decide)] at H; exact H
                        clear H
                        have H := H1
                        clear H1
                        obtain rfl := Option.some.inj H
                        have hcz40_0 : wc.cell? ⟨gb223, 0, none⟩ = some (.int .i64 a0_0) := (blk_cell BK223.out 0).trans rfl
                        have hcz40_1 : wc.cell? ⟨gb223, 1, none⟩ = some (.int .i64 a0_1) := (blk_cell BK223.out 1).trans rfl
                        have hcz40_2 : wc.cell? ⟨gb223, 2, none⟩ = some (.int .i64 a0_2) := (blk_cell BK223.out 2).trans rfl
                        have hcz40_3 : wc.cell? ⟨gb223, 3, none⟩ = some (.int .i64 a0_3) := (blk_cell BK223.out 3).trans rfl
                        have hcz40_4 : wc.cell? ⟨gb223, 4, none⟩ = some (.int .i64 a0_4) := (blk_cell BK223.out 4).trans rfl
                        have hcz40_5 : wc.cell? ⟨gb223, 5, none⟩ = some (.int .i64 a0_5) := (blk_cell BK223.out 5).trans rfl
                        have hcz40_6 : wc.cell? ⟨gb223, 6, none⟩ = some (.float .f64 a0_6) := (blk_cell BK223.out 6).trans rfl
                        have hcz40_7 : wc.cell? ⟨gb223, 7, none⟩ = some (.slice A0_7 l0_7.length c0_7) := (blk_cell BK223.out 7).trans rfl
                        have hcz40_8 : wc.cell? ⟨gb223, 8, none⟩ = some (.int .i64 a0_8) := (blk_cell BK223.out 8).trans rfl
                        have hcz40_9 : wc.cell? ⟨gb223, 9, none⟩ = some (.int .i64 a0_9) := (blk_cell BK223.out 9).trans rfl
                        have hcz40_10 : wc.cell? ⟨gb223, 10, none⟩ = some (.float .f64 a0_10) := (blk_cell BK223.out 10).trans rfl
                        have hcz40_11 : wc.cell? ⟨gb223, 11, none⟩ = some (.slice A0_11 l0_11.length c0_11) := (blk_cell BK223.out 11).trans rfl
                        have hcz40_12 : wc.cell? ⟨gb223, 12, none⟩ = some (.int .i64 a0_12) := (blk_cell BK223.out 12).trans rfl
                        have hcz40_13 : wc.cell? ⟨gb223, 13, none⟩ = some (.int .i64 a0_13) := (blk_cell BK223.out 13).trans rfl
                        have hcz40_14 : wc.cell? ⟨gb223, 14, none⟩ = some (.float .f64 a0_14) := (blk_cell BK223.out 14).trans rfl
                        have hcz40_15 : wc.cell? ⟨gb223, 15, none⟩ = some (.slice A0_15 l0_15.length c0_15) := (blk_cell BK223.out 15).trans rfl
                        have hcz40_16 : wc.cell? ⟨gb223, 16, none⟩ = some (.slice A0_16 l0_16.length c0_16) := (blk_cell BK223.out 16).trans rfl
                        have hfz40_0 := blk_frozen BK223.out 0
                        have hfz40_1 := blk_frozen BK223.out 1
                        have hfz40_2 := blk_frozen BK223.out 2
                        have hfz40_3 := blk_frozen BK223.out 3
                        have hfz40_4 := blk_frozen BK223.out 4
                        have hfz40_5 := blk_frozen BK223.out 5
                        have hfz40_6 := blk_frozen BK223.out 6
                        have hfz40_7 := blk_frozen BK223.out 7
                        have hfz40_8 := blk_frozen BK223.out 8
                        have hfz40_9 := blk_frozen BK223.out 9
                        have hfz40_10 := blk_frozen BK223.out 10
                        have hfz40_11 := blk_frozen BK223.out 11
                        have hfz40_12 := blk_frozen BK223.out 12
                        have hfz40_13 := blk_frozen BK223.out 13
                        have hfz40_14 := blk_frozen BK223.out 14
                        have hfz40_15 := blk_frozen BK223.out 15
                        have hfz40_16 := blk_frozen BK223.out 16
                        go_wp2_with (first | ((with_reducible refine gate_callee (f := 78) rfl ?_); refine goesL_ (some 39) rfl rfl Try.func78 (by kernel_rfl) rfl #[.agg #[.int .i64 a0_4, .int .i64 a0_5, .float .f64 a0_6, .slice A0_7 l0_7.length c0_7]] rfl (by (try simp only [List.map_toArray, List.map_cons, List.map_nil]); first | done | rfl | (simp only [List.length_drop, List.length_take]; rfl)) ?_; (with_reducible refine (impl_isClean.calls a0_4 a0_5 a0_6 _ _ l0_7 true _ ?side1 ?side2 A30.out).mono ?_); (case side1 => repeat (first | exact (Kd.C_below HR0_7.out HB.out) | (with_reducible refine Kd.C_alloc ?_ _) | (with_reducible refine Kd.C_drewN ?_ _) | (with_reducible refine Kd.C_drew ?_))); (case side2 => exact HC0_7.out); rintro e w41 ⟨rfl, hb⟩; refine ⟨_, rfl, ?_⟩; have n0_ := Aside0.mk (blk_below (g := gb223) (o := .cells #[.int .i64 a0_0, .int .i64 a0_1, .int .i64 a0_2, .int .i64 a0_3, .int .i64 a0_4, .int .i64 a0_5, .float .f64 a0_6, .slice A0_7 l0_7.length c0_7, .int .i64 a0_8, .int .i64 a0_9, .float .f64 a0_10, .slice A0_11 l0_11.length c0_11, .int .i64 a0_12, .int .i64 a0_13, .float .f64 a0_14, .slice A0_15 l0_15.length c0_15, .slice A0_16 l0_16.length c0_16] 48 (0, 0)) (by (with_reducible repeat (first | refine blk_drewN ?_ _ | refine blk_drew ?_ | refine blk_alloc ?_ _)); exact BK223.out) hb); have n1_ := Aside0.mk (below_step (by repeat (first | (with_reducible first | exact HB.out | apply below_alloc | apply pw_below_drewN | apply below_drew1 | refine below_set ?_ GE223.out) | exact HB.out)) hb); clear BK223; clear HB; have BK223 := n0_; have HB := n1_; clear n0_ n1_; (try clear hb); (try clear hb2); (try clear hk); (try clear hi); have hcz42_0 : w41.cell? ⟨gb223, 0, none⟩ = some (.int .i64 a0_0) := (blk_cell BK223.out 0).trans rfl; have hcz42_1 : w41.cell? ⟨gb223, 1, none⟩ = some (.int .i64 a0_1) := (blk_cell BK223.out 1).trans rfl; have hcz42_2 : w41.cell? ⟨gb223, 2, none⟩ = some (.int .i64 a0_2) := (blk_cell BK223.out 2).trans rfl; have hcz42_3 : w41.cell? ⟨gb223, 3, none⟩ = some (.int .i64 a0_3) := (blk_cell BK223.out 3).trans rfl; have hcz42_4 : w41.cell? ⟨gb223, 4, none⟩ = some (.int .i64 a0_4) := (blk_cell BK223.out 4).trans rfl; have hcz42_5 : w41.cell? ⟨gb223, 5, none⟩ = some (.int .i64 a0_5) := (blk_cell BK223.out 5).trans rfl; have hcz42_6 : w41.cell? ⟨gb223, 6, none⟩ = some (.float .f64 a0_6) := (blk_cell BK223.out 6).trans rfl; have hcz42_7 : w41.cell? ⟨gb223, 7, none⟩ = some (.slice A0_7 l0_7.length c0_7) := (blk_cell BK223.out 7).trans rfl; have hcz42_8 : w41.cell? ⟨gb223, 8, none⟩ = some (.int .i64 a0_8) := (blk_cell BK223.out 8).trans rfl; have hcz42_9 : w41.cell? ⟨gb223, 9, none⟩ = some (.int .i64 a0_9) := (blk_cell BK223.out 9).trans rfl; have hcz42_10 : w41.cell? ⟨gb223, 10, none⟩ = some (.float .f64 a0_10) := (blk_cell BK223.out 10).trans rfl; have hcz42_11 : w41.cell? ⟨gb223, 11, none⟩ = some (.slice A0_11 l0_11.length c0_11) := (blk_cell BK223.out 11).trans rfl; have hcz42_12 : w41.cell? ⟨gb223, 12, none⟩ = some (.int .i64 a0_12) := (blk_cell BK223.out 12).trans rfl; have hcz42_13 : w41.cell? ⟨gb223, 13, none⟩ = some (.int .i64 a0_13) := (blk_cell BK223.out 13).trans rfl; have hcz42_14 : w41.cell? ⟨gb223, 14, none⟩ = some (.float .f64 a0_14) := (blk_cell BK223.out 14).trans rfl; have hcz42_15 : w41.cell? ⟨gb223, 15, none⟩ = some (.slice A0_15 l0_15.length c0_15) := (blk_cell BK223.out 15).trans rfl; have hcz42_16 : w41.cell? ⟨gb223, 16, none⟩ = some (.slice A0_16 l0_16.length c0_16) := (blk_cell BK223.out 16).trans rfl; have hfz42_0 := blk_frozen BK223.out 0; have hfz42_1 := blk_frozen BK223.out 1; have hfz42_2 := blk_frozen BK223.out 2; have hfz42_3 := blk_frozen BK223.out 3; have hfz42_4 := blk_frozen BK223.out 4; have hfz42_5 := blk_frozen BK223.out 5; have hfz42_6 := blk_frozen BK223.out 6; have hfz42_7 := blk_frozen BK223.out 7; have hfz42_8 := blk_frozen BK223.out 8; have hfz42_9 := blk_frozen BK223.out 9; have hfz42_10 := blk_frozen BK223.out 10; have hfz42_11 := blk_frozen BK223.out 11; have hfz42_12 := blk_frozen BK223.out 12; have hfz42_13 := blk_frozen BK223.out 13; have hfz42_14 := blk_frozen BK223.out 14; have hfz42_15 := blk_frozen BK223.out 15; have hfz42_16 := blk_frozen BK223.out 16) | (go_at_call 78; (with_reducible refine (impl_isClean.calls a0_8 a0_9 a0_10 _ _ l0_11 false _ ?side1 ?side2 A32.out).mono ?_); (case side1 => repeat (first | exact (Kd.C_below HR0_11.out HB.out) | (with_reducible refine Kd.C_alloc ?_ _) | (with_reducible refine Kd.C_drewN ?_ _) | (with_reducible refine Kd.C_drew ?_))); (case side2 => exact HC0_11.out); rintro e w43 ⟨rfl, hb⟩; have n0_ := Aside0.mk (blk_below (g := gb223) (o := .cells #[.int .i64 a0_0, .int .i64 a0_1, .int .i64 a0_2, .int .i64 a0_3, .int .i64 a0_4, .int .i64 a0_5, .float .f64 a0_6, .slice A0_7 l0_7.length c0_7, .int .i64 a0_8, .int .i64 a0_9, .float .f64 a0_10, .slice A0_11 l0_11.length c0_11, .int .i64 a0_12, .int .i64 a0_13, .float .f64 a0_14, .slice A0_15 l0_15.length c0_15, .slice A0_16 l0_16.length c0_16] 48 (0, 0)) (by (with_reducible repeat (first | refine blk_drewN ?_ _ | refine blk_drew ?_ | refine blk_alloc ?_ _)); exact BK223.out) hb); have n1_ := Aside0.mk (below_step (by repeat (first | (with_reducible first | exact HB.out | apply below_alloc | apply pw_below_drewN | apply below_drew1 | refine below_set ?_ GE223.out) | exact HB.out)) hb); clear BK223; clear HB; have BK223 := n0_; have HB := n1_; clear n0_ n1_; (try clear hb); (try clear hb2); (try clear hk); (try clear hi)))
                        go_ret
                        exact ⟨by first | rfl | (simp [errW_none, errW_some] <;> rfl) | (simp [*, errW_none, errW_some] <;> rfl), by repeat (first | (with_reducible first | exact HB.out | apply below_alloc | apply pw_below_drewN | apply below_drew1 | refine below_set ?_ GE223.out) | exact HB.out)⟩
                    · replace c31 := Bool.eq_false_iff.mpr c31
                      subst c31
                      have H1 : (some false) = some r := by rw [if_neg (show ¬ (false = true) by decide)] at H; exact H
                      clear H
                      have H := H1
                      clear H1
                      obtain rfl := Option.some.inj H
                      have hcz44_0 : wc.cell? ⟨gb223, 0, none⟩ = some (.int .i64 a0_0) := (blk_cell BK223.out 0).trans rfl
                      have hcz44_1 : wc.cell? ⟨gb223, 1, none⟩ = some (.int .i64 a0_1) := (blk_cell BK223.out 1).trans rfl
                      have hcz44_2 : wc.cell? ⟨gb223, 2, none⟩ = some (.int .i64 a0_2) := (blk_cell BK223.out 2).trans rfl
                      have hcz44_3 : wc.cell? ⟨gb223, 3, none⟩ = some (.int .i64 a0_3) := (blk_cell BK223.out 3).trans rfl
                      have hcz44_4 : wc.cell? ⟨gb223, 4, none⟩ = some (.int .i64 a0_4) := (blk_cell BK223.out 4).trans rfl
                      have hcz44_5 : wc.cell? ⟨gb223, 5, none⟩ = some (.int .i64 a0_5) := (blk_cell BK223.out 5).trans rfl
                      have hcz44_6 : wc.cell? ⟨gb223, 6, none⟩ = some (.float .f64 a0_6) := (blk_cell BK223.out 6).trans rfl
                      have hcz44_7 : wc.cell? ⟨gb223, 7, none⟩ = some (.slice A0_7 l0_7.length c0_7) := (blk_cell BK223.out 7).trans rfl
                      have hcz44_8 : wc.cell? ⟨gb223, 8, none⟩ = some (.int .i64 a0_8) := (blk_cell BK223.out 8).trans rfl
                      have hcz44_9 : wc.cell? ⟨gb223, 9, none⟩ = some (.int .i64 a0_9) := (blk_cell BK223.out 9).trans rfl
                      have hcz44_10 : wc.cell? ⟨gb223, 10, none⟩ = some (.float .f64 a0_10) := (blk_cell BK223.out 10).trans rfl
                      have hcz44_11 : wc.cell? ⟨gb223, 11, none⟩ = some (.slice A0_11 l0_11.length c0_11) := (blk_cell BK223.out 11).trans rfl
                      have hcz44_12 : wc.cell? ⟨gb223, 12, none⟩ = some (.int .i64 a0_12) := (blk_cell BK223.out 12).trans rfl
                      have hcz44_13 : wc.cell? ⟨gb223, 13, none⟩ = some (.int .i64 a0_13) := (blk_cell BK223.out 13).trans rfl
                      have hcz44_14 : wc.cell? ⟨gb223, 14, none⟩ = some (.float .f64 a0_14) := (blk_cell BK223.out 14).trans rfl
                      have hcz44_15 : wc.cell? ⟨gb223, 15, none⟩ = some (.slice A0_15 l0_15.length c0_15) := (blk_cell BK223.out 15).trans rfl
                      have hcz44_16 : wc.cell? ⟨gb223, 16, none⟩ = some (.slice A0_16 l0_16.length c0_16) := (blk_cell BK223.out 16).trans rfl
                      have hfz44_0 := blk_frozen BK223.out 0
                      have hfz44_1 := blk_frozen BK223.out 1
                      have hfz44_2 := blk_frozen BK223.out 2
                      have hfz44_3 := blk_frozen BK223.out 3
                      have hfz44_4 := blk_frozen BK223.out 4
                      have hfz44_5 := blk_frozen BK223.out 5
                      have hfz44_6 := blk_frozen BK223.out 6
                      have hfz44_7 := blk_frozen BK223.out 7
                      have hfz44_8 := blk_frozen BK223.out 8
                      have hfz44_9 := blk_frozen BK223.out 9
                      have hfz44_10 := blk_frozen BK223.out 10
                      have hfz44_11 := blk_frozen BK223.out 11
                      have hfz44_12 := blk_frozen BK223.out 12
                      have hfz44_13 := blk_frozen BK223.out 13
                      have hfz44_14 := blk_frozen BK223.out 14
                      have hfz44_15 := blk_frozen BK223.out 15
                      have hfz44_16 := blk_frozen BK223.out 16
                      go_wp2_with (first | ((with_reducible refine gate_callee (f := 78) rfl ?_); refine goesL_ (some 39) rfl rfl Try.func78 (by kernel_rfl) rfl #[.agg #[.int .i64 a0_4, .int .i64 a0_5, .float .f64 a0_6, .slice A0_7 l0_7.length c0_7]] rfl (by (try simp only [List.map_toArray, List.map_cons, List.map_nil]); first | done | rfl | (simp only [List.length_drop, List.length_take]; rfl)) ?_; (with_reducible refine (impl_isClean.calls a0_4 a0_5 a0_6 _ _ l0_7 false _ ?side1 ?side2 A30.out).mono ?_); (case side1 => repeat (first | exact (Kd.C_below HR0_7.out HB.out) | (with_reducible refine Kd.C_alloc ?_ _) | (with_reducible refine Kd.C_drewN ?_ _) | (with_reducible refine Kd.C_drew ?_))); (case side2 => exact HC0_7.out); rintro e w45 ⟨rfl, hb⟩; refine ⟨_, rfl, ?_⟩; have n0_ := Aside0.mk (blk_below (g := gb223) (o := .cells #[.int .i64 a0_0, .int .i64 a0_1, .int .i64 a0_2, .int .i64 a0_3, .int .i64 a0_4, .int .i64 a0_5, .float .f64 a0_6, .slice A0_7 l0_7.length c0_7, .int .i64 a0_8, .int .i64 a0_9, .float .f64 a0_10, .slice A0_11 l0_11.length c0_11, .int .i64 a0_12, .int .i64 a0_13, .float .f64 a0_14, .slice A0_15 l0_15.length c0_15, .slice A0_16 l0_16.length c0_16] 48 (0, 0)) (by (with_reducible repeat (first | refine blk_drewN ?_ _ | refine blk_drew ?_ | refine blk_alloc ?_ _)); exact BK223.out) hb); have n1_ := Aside0.mk (below_step (by repeat (first | (with_reducible first | exact HB.out | apply below_alloc | apply pw_below_drewN | apply below_drew1 | refine below_set ?_ GE223.out) | exact HB.out)) hb); clear BK223; clear HB; have BK223 := n0_; have HB := n1_; clear n0_ n1_; (try clear hb); (try clear hb2); (try clear hk); (try clear hi)))
                      go_ret
                      exact ⟨by first | rfl | (simp [errW_none, errW_some] <;> rfl) | (simp [*, errW_none, errW_some] <;> rfl), by repeat (first | (with_reducible first | exact HB.out | apply below_alloc | apply pw_below_drewN | apply below_drew1 | refine below_set ?_ GE223.out) | exact HB.out)⟩
                  · rw [if_neg c29] at H
                    have c29b0 : (a0_0 == 5) = false := beq_eq_false_iff_ne.mpr c29
                    have c29b1 : (a0_0 != 5) = true := bne_iff_ne.mpr c29
                    by_cases c46 : a0_0 = 6
                    · rw [if_pos c46] at H
                      have c46b0 : (a0_0 == 6) = true := beq_iff_eq.mpr c46
                      have c46b1 : (a0_0 != 6) = false := bne_eq_false_iff_eq.mpr c46
                      clear c46
                      replace H := Option.bind_eq_some_iff.mp H
                      obtain ⟨t232, A470, H⟩ := H
                      replace H : (if t232 = true then ((impl_isClean.f a0_8 a0_9 a0_10 l0_11).bind fun t233 => (some t233)) else (some false)) = some r := H
                      have A47 := Aside0.mk A470
                      clear A470
                      by_cases c48 : t232 = true
                      · subst c48
                        have H1 : ((impl_isClean.f a0_8 a0_9 a0_10 l0_11).bind fun t233 => (some t233)) = some r := by rw [if_pos rfl] at H; exact H
                        clear H
                        have H := H1
                        clear H1
                        replace H := Option.bind_eq_some_iff.mp H
                        obtain ⟨t233, A490, H⟩ := H
                        replace H : (some t233) = some r := H
                        have A49 := Aside0.mk A490
                        clear A490
                        obtain rfl := Option.some.inj H
                        have hcz50_0 : wc.cell? ⟨gb223, 0, none⟩ = some (.int .i64 a0_0) := (blk_cell BK223.out 0).trans rfl
                        have hcz50_1 : wc.cell? ⟨gb223, 1, none⟩ = some (.int .i64 a0_1) := (blk_cell BK223.out 1).trans rfl
                        have hcz50_2 : wc.cell? ⟨gb223, 2, none⟩ = some (.int .i64 a0_2) := (blk_cell BK223.out 2).trans rfl
                        have hcz50_3 : wc.cell? ⟨gb223, 3, none⟩ = some (.int .i64 a0_3) := (blk_cell BK223.out 3).trans rfl
                        have hcz50_4 : wc.cell? ⟨gb223, 4, none⟩ = some (.int .i64 a0_4) := (blk_cell BK223.out 4).trans rfl
                        have hcz50_5 : wc.cell? ⟨gb223, 5, none⟩ = some (.int .i64 a0_5) := (blk_cell BK223.out 5).trans rfl
                        have hcz50_6 : wc.cell? ⟨gb223, 6, none⟩ = some (.float .f64 a0_6) := (blk_cell BK223.out 6).trans rfl
                        have hcz50_7 : wc.cell? ⟨gb223, 7, none⟩ = some (.slice A0_7 l0_7.length c0_7) := (blk_cell BK223.out 7).trans rfl
                        have hcz50_8 : wc.cell? ⟨gb223, 8, none⟩ = some (.int .i64 a0_8) := (blk_cell BK223.out 8).trans rfl
                        have hcz50_9 : wc.cell? ⟨gb223, 9, none⟩ = some (.int .i64 a0_9) := (blk_cell BK223.out 9).trans rfl
                        have hcz50_10 : wc.cell? ⟨gb223, 10, none⟩ = some (.float .f64 a0_10) := (blk_cell BK223.out 10).trans rfl
                        have hcz50_11 : wc.cell? ⟨gb223, 11, none⟩ = some (.slice A0_11 l0_11.length c0_11) := (blk_cell BK223.out 11).trans rfl
                        have hcz50_12 : wc.cell? ⟨gb223, 12, none⟩ = some (.int .i64 a0_12) := (blk_cell BK223.out 12).trans rfl
                        have hcz50_13 : wc.cell? ⟨gb223, 13, none⟩ = some (.int .i64 a0_13) := (blk_cell BK223.out 13).trans rfl
                        have hcz50_14 : wc.cell? ⟨gb223, 14, none⟩ = some (.float .f64 a0_14) := (blk_cell BK223.out 14).trans rfl
                        have hcz50_15 : wc.cell? ⟨gb223, 15, none⟩ = some (.slice A0_15 l0_15.length c0_15) := (blk_cell BK223.out 15).trans rfl
                        have hcz50_16 : wc.cell? ⟨gb223, 16, none⟩ = some (.slice A0_16 l0_16.length c0_16) := (blk_cell BK223.out 16).trans rfl
                        have hfz50_0 := blk_frozen BK223.out 0
                        have hfz50_1 := blk_frozen BK223.out 1
                        have hfz50_2 := blk_frozen BK223.out 2
                        have hfz50_3 := blk_frozen BK223.out 3
                        have hfz50_4 := blk_frozen BK223.out 4
                        have hfz50_5 := blk_frozen BK223.out 5
                        have hfz50_6 := blk_frozen BK223.out 6
                        have hfz50_7 := blk_frozen BK223.out 7
                        have hfz50_8 := blk_frozen BK223.out 8
                        have hfz50_9 := blk_frozen BK223.out 9
                        have hfz50_10 := blk_frozen BK223.out 10
                        have hfz50_11 := blk_frozen BK223.out 11
                        have hfz50_12 := blk_frozen BK223.out 12
                        have hfz50_13 := blk_frozen BK223.out 13
                        have hfz50_14 := blk_frozen BK223.out 14
                        have hfz50_15 := blk_frozen BK223.out 15
                        have hfz50_16 := blk_frozen BK223.out 16
                        go_wp2_with (first | ((with_reducible refine gate_callee (f := 78) rfl ?_); refine goesL_ (some 54) rfl rfl Try.func78 (by kernel_rfl) rfl #[.agg #[.int .i64 a0_4, .int .i64 a0_5, .float .f64 a0_6, .slice A0_7 l0_7.length c0_7]] rfl (by (try simp only [List.map_toArray, List.map_cons, List.map_nil]); first | done | rfl | (simp only [List.length_drop, List.length_take]; rfl)) ?_; (with_reducible refine (impl_isClean.calls a0_4 a0_5 a0_6 _ _ l0_7 true _ ?side1 ?side2 A47.out).mono ?_); (case side1 => repeat (first | exact (Kd.C_below HR0_7.out HB.out) | (with_reducible refine Kd.C_alloc ?_ _) | (with_reducible refine Kd.C_drewN ?_ _) | (with_reducible refine Kd.C_drew ?_))); (case side2 => exact HC0_7.out); rintro e w51 ⟨rfl, hb⟩; refine ⟨_, rfl, ?_⟩; have n0_ := Aside0.mk (blk_below (g := gb223) (o := .cells #[.int .i64 a0_0, .int .i64 a0_1, .int .i64 a0_2, .int .i64 a0_3, .int .i64 a0_4, .int .i64 a0_5, .float .f64 a0_6, .slice A0_7 l0_7.length c0_7, .int .i64 a0_8, .int .i64 a0_9, .float .f64 a0_10, .slice A0_11 l0_11.length c0_11, .int .i64 a0_12, .int .i64 a0_13, .float .f64 a0_14, .slice A0_15 l0_15.length c0_15, .slice A0_16 l0_16.length c0_16] 48 (0, 0)) (by (with_reducible repeat (first | refine blk_drewN ?_ _ | refine blk_drew ?_ | refine blk_alloc ?_ _)); exact BK223.out) hb); have n1_ := Aside0.mk (below_step (by repeat (first | (with_reducible first | exact HB.out | apply below_alloc | apply pw_below_drewN | apply below_drew1 | refine below_set ?_ GE223.out) | exact HB.out)) hb); clear BK223; clear HB; have BK223 := n0_; have HB := n1_; clear n0_ n1_; (try clear hb); (try clear hb2); (try clear hk); (try clear hi); have hcz52_0 : w51.cell? ⟨gb223, 0, none⟩ = some (.int .i64 a0_0) := (blk_cell BK223.out 0).trans rfl; have hcz52_1 : w51.cell? ⟨gb223, 1, none⟩ = some (.int .i64 a0_1) := (blk_cell BK223.out 1).trans rfl; have hcz52_2 : w51.cell? ⟨gb223, 2, none⟩ = some (.int .i64 a0_2) := (blk_cell BK223.out 2).trans rfl; have hcz52_3 : w51.cell? ⟨gb223, 3, none⟩ = some (.int .i64 a0_3) := (blk_cell BK223.out 3).trans rfl; have hcz52_4 : w51.cell? ⟨gb223, 4, none⟩ = some (.int .i64 a0_4) := (blk_cell BK223.out 4).trans rfl; have hcz52_5 : w51.cell? ⟨gb223, 5, none⟩ = some (.int .i64 a0_5) := (blk_cell BK223.out 5).trans rfl; have hcz52_6 : w51.cell? ⟨gb223, 6, none⟩ = some (.float .f64 a0_6) := (blk_cell BK223.out 6).trans rfl; have hcz52_7 : w51.cell? ⟨gb223, 7, none⟩ = some (.slice A0_7 l0_7.length c0_7) := (blk_cell BK223.out 7).trans rfl; have hcz52_8 : w51.cell? ⟨gb223, 8, none⟩ = some (.int .i64 a0_8) := (blk_cell BK223.out 8).trans rfl; have hcz52_9 : w51.cell? ⟨gb223, 9, none⟩ = some (.int .i64 a0_9) := (blk_cell BK223.out 9).trans rfl; have hcz52_10 : w51.cell? ⟨gb223, 10, none⟩ = some (.float .f64 a0_10) := (blk_cell BK223.out 10).trans rfl; have hcz52_11 : w51.cell? ⟨gb223, 11, none⟩ = some (.slice A0_11 l0_11.length c0_11) := (blk_cell BK223.out 11).trans rfl; have hcz52_12 : w51.cell? ⟨gb223, 12, none⟩ = some (.int .i64 a0_12) := (blk_cell BK223.out 12).trans rfl; have hcz52_13 : w51.cell? ⟨gb223, 13, none⟩ = some (.int .i64 a0_13) := (blk_cell BK223.out 13).trans rfl; have hcz52_14 : w51.cell? ⟨gb223, 14, none⟩ = some (.float .f64 a0_14) := (blk_cell BK223.out 14).trans rfl; have hcz52_15 : w51.cell? ⟨gb223, 15, none⟩ = some (.slice A0_15 l0_15.length c0_15) := (blk_cell BK223.out 15).trans rfl; have hcz52_16 : w51.cell? ⟨gb223, 16, none⟩ = some (.slice A0_16 l0_16.length c0_16) := (blk_cell BK223.out 16).trans rfl; have hfz52_0 := blk_frozen BK223.out 0; have hfz52_1 := blk_frozen BK223.out 1; have hfz52_2 := blk_frozen BK223.out 2; have hfz52_3 := blk_frozen BK223.out 3; have hfz52_4 := blk_frozen BK223.out 4; have hfz52_5 := blk_frozen BK223.out 5; have hfz52_6 := blk_frozen BK223.out 6; have hfz52_7 := blk_frozen BK223.out 7; have hfz52_8 := blk_frozen BK223.out 8; have hfz52_9 := blk_frozen BK223.out 9; have hfz52_10 := blk_frozen BK223.out 10; have hfz52_11 := blk_frozen BK223.out 11; have hfz52_12 := blk_frozen BK223.out 12; have hfz52_13 := blk_frozen BK223.out 13; have hfz52_14 := blk_frozen BK223.out 14; have hfz52_15 := blk_frozen BK223.out 15; have hfz52_16 := blk_frozen BK223.out 16) | (go_at_call 78; (with_reducible refine (impl_isClean.calls a0_8 a0_9 a0_10 _ _ l0_11 t233 _ ?side1 ?side2 A49.out).mono ?_); (case side1 => repeat (first | exact (Kd.C_below HR0_11.out HB.out) | (with_reducible refine Kd.C_alloc ?_ _) | (with_reducible refine Kd.C_drewN ?_ _) | (with_reducible refine Kd.C_drew ?_))); (case side2 => exact HC0_11.out); rintro e w53 ⟨rfl, hb⟩; have n0_ := Aside0.mk (blk_below (g := gb223) (o := .cells #[.int .i64 a0_0, .int .i64 a0_1, .int .i64 a0_2, .int .i64 a0_3, .int .i64 a0_4, .int .i64 a0_5, .float .f64 a0_6, .slice A0_7 l0_7.length c0_7, .int .i64 a0_8, .int .i64 a0_9, .float .f64 a0_10, .slice A0_11 l0_11.length c0_11, .int .i64 a0_12, .int .i64 a0_13, .float .f64 a0_14, .slice A0_15 l0_15.length c0_15, .slice A0_16 l0_16.length c0_16] 48 (0, 0)) (by (with_reducible repeat (first | refine blk_drewN ?_ _ | refine blk_drew ?_ | refine blk_alloc ?_ _)); exact BK223.out) hb); have n1_ := Aside0.mk (below_step (by repeat (first | (with_reducible first | exact HB.out | apply below_alloc | apply pw_below_drewN | apply below_drew1 | refine below_set ?_ GE223.out) | exact HB.out)) hb); clear BK223; clear HB; have BK223 := n0_; have HB := n1_; clear n0_ n1_; (try clear hb); (try clear hb2); (try clear hk); (try clear hi)))
                        go_ret
                        exact ⟨by first | rfl | (simp [errW_none, errW_some] <;> rfl) | (simp [*, errW_none, errW_some] <;> rfl), by repeat (first | (with_reducible first | exact HB.out | apply below_alloc | apply pw_below_drewN | apply below_drew1 | refine below_set ?_ GE223.out) | exact HB.out)⟩
                      · replace c48 := Bool.eq_false_iff.mpr c48
                        subst c48
                        have H1 : (some false) = some r := by rw [if_neg (show ¬ (false = true) by decide)] at H; exact H
                        clear H
                        have H := H1
                        clear H1
                        obtain rfl := Option.some.inj H
                        have hcz54_0 : wc.cell? ⟨gb223, 0, none⟩ = some (.int .i64 a0_0) := (blk_cell BK223.out 0).trans rfl
                        have hcz54_1 : wc.cell? ⟨gb223, 1, none⟩ = some (.int .i64 a0_1) := (blk_cell BK223.out 1).trans rfl
                        have hcz54_2 : wc.cell? ⟨gb223, 2, none⟩ = some (.int .i64 a0_2) := (blk_cell BK223.out 2).trans rfl
                        have hcz54_3 : wc.cell? ⟨gb223, 3, none⟩ = some (.int .i64 a0_3) := (blk_cell BK223.out 3).trans rfl
                        have hcz54_4 : wc.cell? ⟨gb223, 4, none⟩ = some (.int .i64 a0_4) := (blk_cell BK223.out 4).trans rfl
                        have hcz54_5 : wc.cell? ⟨gb223, 5, none⟩ = some (.int .i64 a0_5) := (blk_cell BK223.out 5).trans rfl
                        have hcz54_6 : wc.cell? ⟨gb223, 6, none⟩ = some (.float .f64 a0_6) := (blk_cell BK223.out 6).trans rfl
                        have hcz54_7 : wc.cell? ⟨gb223, 7, none⟩ = some (.slice A0_7 l0_7.length c0_7) := (blk_cell BK223.out 7).trans rfl
                        have hcz54_8 : wc.cell? ⟨gb223, 8, none⟩ = some (.int .i64 a0_8) := (blk_cell BK223.out 8).trans rfl
                        have hcz54_9 : wc.cell? ⟨gb223, 9, none⟩ = some (.int .i64 a0_9) := (blk_cell BK223.out 9).trans rfl
                        have hcz54_10 : wc.cell? ⟨gb223, 10, none⟩ = some (.float .f64 a0_10) := (blk_cell BK223.out 10).trans rfl
                        have hcz54_11 : wc.cell? ⟨gb223, 11, none⟩ = some (.slice A0_11 l0_11.length c0_11) := (blk_cell BK223.out 11).trans rfl
                        have hcz54_12 : wc.cell? ⟨gb223, 12, none⟩ = some (.int .i64 a0_12) := (blk_cell BK223.out 12).trans rfl
                        have hcz54_13 : wc.cell? ⟨gb223, 13, none⟩ = some (.int .i64 a0_13) := (blk_cell BK223.out 13).trans rfl
                        have hcz54_14 : wc.cell? ⟨gb223, 14, none⟩ = some (.float .f64 a0_14) := (blk_cell BK223.out 14).trans rfl
                        have hcz54_15 : wc.cell? ⟨gb223, 15, none⟩ = some (.slice A0_15 l0_15.length c0_15) := (blk_cell BK223.out 15).trans rfl
                        have hcz54_16 : wc.cell? ⟨gb223, 16, none⟩ = some (.slice A0_16 l0_16.length c0_16) := (blk_cell BK223.out 16).trans rfl
                        have hfz54_0 := blk_frozen BK223.out 0
                        have hfz54_1 := blk_frozen BK223.out 1
                        have hfz54_2 := blk_frozen BK223.out 2
                        have hfz54_3 := blk_frozen BK223.out 3
                        have hfz54_4 := blk_frozen BK223.out 4
                        have hfz54_5 := blk_frozen BK223.out 5
                        have hfz54_6 := blk_frozen BK223.out 6
                        have hfz54_7 := blk_frozen BK223.out 7
                        have hfz54_8 := blk_frozen BK223.out 8
                        have hfz54_9 := blk_frozen BK223.out 9
                        have hfz54_10 := blk_frozen BK223.out 10
                        have hfz54_11 := blk_frozen BK223.out 11
                        have hfz54_12 := blk_frozen BK223.out 12
                        have hfz54_13 := blk_frozen BK223.out 13
                        have hfz54_14 := blk_frozen BK223.out 14
                        have hfz54_15 := blk_frozen BK223.out 15
                        have hfz54_16 := blk_frozen BK223.out 16
                        go_wp2_with (first | ((with_reducible refine gate_callee (f := 78) rfl ?_); refine goesL_ (some 54) rfl rfl Try.func78 (by kernel_rfl) rfl #[.agg #[.int .i64 a0_4, .int .i64 a0_5, .float .f64 a0_6, .slice A0_7 l0_7.length c0_7]] rfl (by (try simp only [List.map_toArray, List.map_cons, List.map_nil]); first | done | rfl | (simp only [List.length_drop, List.length_take]; rfl)) ?_; (with_reducible refine (impl_isClean.calls a0_4 a0_5 a0_6 _ _ l0_7 false _ ?side1 ?side2 A47.out).mono ?_); (case side1 => repeat (first | exact (Kd.C_below HR0_7.out HB.out) | (with_reducible refine Kd.C_alloc ?_ _) | (with_reducible refine Kd.C_drewN ?_ _) | (with_reducible refine Kd.C_drew ?_))); (case side2 => exact HC0_7.out); rintro e w55 ⟨rfl, hb⟩; refine ⟨_, rfl, ?_⟩; have n0_ := Aside0.mk (blk_below (g := gb223) (o := .cells #[.int .i64 a0_0, .int .i64 a0_1, .int .i64 a0_2, .int .i64 a0_3, .int .i64 a0_4, .int .i64 a0_5, .float .f64 a0_6, .slice A0_7 l0_7.length c0_7, .int .i64 a0_8, .int .i64 a0_9, .float .f64 a0_10, .slice A0_11 l0_11.length c0_11, .int .i64 a0_12, .int .i64 a0_13, .float .f64 a0_14, .slice A0_15 l0_15.length c0_15, .slice A0_16 l0_16.length c0_16] 48 (0, 0)) (by (with_reducible repeat (first | refine blk_drewN ?_ _ | refine blk_drew ?_ | refine blk_alloc ?_ _)); exact BK223.out) hb); have n1_ := Aside0.mk (below_step (by repeat (first | (with_reducible first | exact HB.out | apply below_alloc | apply pw_below_drewN | apply below_drew1 | refine below_set ?_ GE223.out) | exact HB.out)) hb); clear BK223; clear HB; have BK223 := n0_; have HB := n1_; clear n0_ n1_; (try clear hb); (try clear hb2); (try clear hk); (try clear hi)))
                        go_ret
                        exact ⟨by first | rfl | (simp [errW_none, errW_some] <;> rfl) | (simp [*, errW_none, errW_some] <;> rfl), by repeat (first | (with_reducible first | exact HB.out | apply below_alloc | apply pw_below_drewN | apply below_drew1 | refine below_set ?_ GE223.out) | exact HB.out)⟩
                    · rw [if_neg c46] at H
                      have c46b0 : (a0_0 == 6) = false := beq_eq_false_iff_ne.mpr c46
                      have c46b1 : (a0_0 != 6) = true := bne_iff_ne.mpr c46
                      by_cases c56 : a0_0 = 11
                      · rw [if_pos c56] at H
                        have c56b0 : (a0_0 == 11) = true := beq_iff_eq.mpr c56
                        have c56b1 : (a0_0 != 11) = false := bne_eq_false_iff_eq.mpr c56
                        clear c56
                        replace H := Option.bind_eq_some_iff.mp H
                        obtain ⟨t234, A570, H⟩ := H
                        replace H : (some t234) = some r := H
                        have A57 := Aside0.mk A570
                        clear A570
                        obtain rfl := Option.some.inj H
                        have hcz58_0 : wc.cell? ⟨gb223, 0, none⟩ = some (.int .i64 a0_0) := (blk_cell BK223.out 0).trans rfl
                        have hcz58_1 : wc.cell? ⟨gb223, 1, none⟩ = some (.int .i64 a0_1) := (blk_cell BK223.out 1).trans rfl
                        have hcz58_2 : wc.cell? ⟨gb223, 2, none⟩ = some (.int .i64 a0_2) := (blk_cell BK223.out 2).trans rfl
                        have hcz58_3 : wc.cell? ⟨gb223, 3, none⟩ = some (.int .i64 a0_3) := (blk_cell BK223.out 3).trans rfl
                        have hcz58_4 : wc.cell? ⟨gb223, 4, none⟩ = some (.int .i64 a0_4) := (blk_cell BK223.out 4).trans rfl
                        have hcz58_5 : wc.cell? ⟨gb223, 5, none⟩ = some (.int .i64 a0_5) := (blk_cell BK223.out 5).trans rfl
                        have hcz58_6 : wc.cell? ⟨gb223, 6, none⟩ = some (.float .f64 a0_6) := (blk_cell BK223.out 6).trans rfl
                        have hcz58_7 : wc.cell? ⟨gb223, 7, none⟩ = some (.slice A0_7 l0_7.length c0_7) := (blk_cell BK223.out 7).trans rfl
                        have hcz58_8 : wc.cell? ⟨gb223, 8, none⟩ = some (.int .i64 a0_8) := (blk_cell BK223.out 8).trans rfl
                        have hcz58_9 : wc.cell? ⟨gb223, 9, none⟩ = some (.int .i64 a0_9) := (blk_cell BK223.out 9).trans rfl
                        have hcz58_10 : wc.cell? ⟨gb223, 10, none⟩ = some (.float .f64 a0_10) := (blk_cell BK223.out 10).trans rfl
                        have hcz58_11 : wc.cell? ⟨gb223, 11, none⟩ = some (.slice A0_11 l0_11.length c0_11) := (blk_cell BK223.out 11).trans rfl
                        have hcz58_12 : wc.cell? ⟨gb223, 12, none⟩ = some (.int .i64 a0_12) := (blk_cell BK223.out 12).trans rfl
                        have hcz58_13 : wc.cell? ⟨gb223, 13, none⟩ = some (.int .i64 a0_13) := (blk_cell BK223.out 13).trans rfl
                        have hcz58_14 : wc.cell? ⟨gb223, 14, none⟩ = some (.float .f64 a0_14) := (blk_cell BK223.out 14).trans rfl
                        have hcz58_15 : wc.cell? ⟨gb223, 15, none⟩ = some (.slice A0_15 l0_15.length c0_15) := (blk_cell BK223.out 15).trans rfl
                        have hcz58_16 : wc.cell? ⟨gb223, 16, none⟩ = some (.slice A0_16 l0_16.length c0_16) := (blk_cell BK223.out 16).trans rfl
                        have hfz58_0 := blk_frozen BK223.out 0
                        have hfz58_1 := blk_frozen BK223.out 1
                        have hfz58_2 := blk_frozen BK223.out 2
                        have hfz58_3 := blk_frozen BK223.out 3
                        have hfz58_4 := blk_frozen BK223.out 4
                        have hfz58_5 := blk_frozen BK223.out 5
                        have hfz58_6 := blk_frozen BK223.out 6
                        have hfz58_7 := blk_frozen BK223.out 7
                        have hfz58_8 := blk_frozen BK223.out 8
                        have hfz58_9 := blk_frozen BK223.out 9
                        have hfz58_10 := blk_frozen BK223.out 10
                        have hfz58_11 := blk_frozen BK223.out 11
                        have hfz58_12 := blk_frozen BK223.out 12
                        have hfz58_13 := blk_frozen BK223.out 13
                        have hfz58_14 := blk_frozen BK223.out 14
                        have hfz58_15 := blk_frozen BK223.out 15
                        have hfz58_16 := blk_frozen BK223.out 16
                        go_wp2_with (first | ((with_reducible refine gate_callee (f := 77) rfl ?_); refine goesL_ (some 64) rfl rfl Try.func77 (by kernel_rfl) rfl #[.int .i64 a0_3, .int .i64 0, .int .i64 15] rfl (by (try simp only [List.map_toArray, List.map_cons, List.map_nil]); first | done | rfl | (simp only [List.length_drop, List.length_take]; rfl)) ?_; (with_reducible refine (impl_within.calls a0_3 0 15 t234 _ A57.out).mono ?_); rintro e w' ⟨rfl, ⟨nd, rfl⟩⟩; refine ⟨_, rfl, ?_⟩))
                        go_ret
                        exact ⟨by first | rfl | (simp [errW_none, errW_some] <;> rfl) | (simp [*, errW_none, errW_some] <;> rfl), by repeat (first | (with_reducible first | exact HB.out | apply below_alloc | apply pw_below_drewN | apply below_drew1 | refine below_set ?_ GE223.out) | exact HB.out)⟩
                      · rw [if_neg c56] at H
                        have c56b0 : (a0_0 == 11) = false := beq_eq_false_iff_ne.mpr c56
                        have c56b1 : (a0_0 != 11) = true := bne_iff_ne.mpr c56
                        by_cases c59 : a0_0 = 12
                        · rw [if_pos c59] at H
                          have c59b0 : (a0_0 == 12) = true := beq_iff_eq.mpr c59
                          have c59b1 : (a0_0 != 12) = false := bne_eq_false_iff_eq.mpr c59
                          clear c59
                          obtain rfl := Option.some.inj H
                          have hcz60_0 : wc.cell? ⟨gb223, 0, none⟩ = some (.int .i64 a0_0) := (blk_cell BK223.out 0).trans rfl
                          have hcz60_1 : wc.cell? ⟨gb223, 1, none⟩ = some (.int .i64 a0_1) := (blk_cell BK223.out 1).trans rfl
                          have hcz60_2 : wc.cell? ⟨gb223, 2, none⟩ = some (.int .i64 a0_2) := (blk_cell BK223.out 2).trans rfl
                          have hcz60_3 : wc.cell? ⟨gb223, 3, none⟩ = some (.int .i64 a0_3) := (blk_cell BK223.out 3).trans rfl
                          have hcz60_4 : wc.cell? ⟨gb223, 4, none⟩ = some (.int .i64 a0_4) := (blk_cell BK223.out 4).trans rfl
                          have hcz60_5 : wc.cell? ⟨gb223, 5, none⟩ = some (.int .i64 a0_5) := (blk_cell BK223.out 5).trans rfl
                          have hcz60_6 : wc.cell? ⟨gb223, 6, none⟩ = some (.float .f64 a0_6) := (blk_cell BK223.out 6).trans rfl
                          have hcz60_7 : wc.cell? ⟨gb223, 7, none⟩ = some (.slice A0_7 l0_7.length c0_7) := (blk_cell BK223.out 7).trans rfl
                          have hcz60_8 : wc.cell? ⟨gb223, 8, none⟩ = some (.int .i64 a0_8) := (blk_cell BK223.out 8).trans rfl
                          have hcz60_9 : wc.cell? ⟨gb223, 9, none⟩ = some (.int .i64 a0_9) := (blk_cell BK223.out 9).trans rfl
                          have hcz60_10 : wc.cell? ⟨gb223, 10, none⟩ = some (.float .f64 a0_10) := (blk_cell BK223.out 10).trans rfl
                          have hcz60_11 : wc.cell? ⟨gb223, 11, none⟩ = some (.slice A0_11 l0_11.length c0_11) := (blk_cell BK223.out 11).trans rfl
                          have hcz60_12 : wc.cell? ⟨gb223, 12, none⟩ = some (.int .i64 a0_12) := (blk_cell BK223.out 12).trans rfl
                          have hcz60_13 : wc.cell? ⟨gb223, 13, none⟩ = some (.int .i64 a0_13) := (blk_cell BK223.out 13).trans rfl
                          have hcz60_14 : wc.cell? ⟨gb223, 14, none⟩ = some (.float .f64 a0_14) := (blk_cell BK223.out 14).trans rfl
                          have hcz60_15 : wc.cell? ⟨gb223, 15, none⟩ = some (.slice A0_15 l0_15.length c0_15) := (blk_cell BK223.out 15).trans rfl
                          have hcz60_16 : wc.cell? ⟨gb223, 16, none⟩ = some (.slice A0_16 l0_16.length c0_16) := (blk_cell BK223.out 16).trans rfl
                          have hfz60_0 := blk_frozen BK223.out 0
                          have hfz60_1 := blk_frozen BK223.out 1
                          have hfz60_2 := blk_frozen BK223.out 2
                          have hfz60_3 := blk_frozen BK223.out 3
                          have hfz60_4 := blk_frozen BK223.out 4
                          have hfz60_5 := blk_frozen BK223.out 5
                          have hfz60_6 := blk_frozen BK223.out 6
                          have hfz60_7 := blk_frozen BK223.out 7
                          have hfz60_8 := blk_frozen BK223.out 8
                          have hfz60_9 := blk_frozen BK223.out 9
                          have hfz60_10 := blk_frozen BK223.out 10
                          have hfz60_11 := blk_frozen BK223.out 11
                          have hfz60_12 := blk_frozen BK223.out 12
                          have hfz60_13 := blk_frozen BK223.out 13
                          have hfz60_14 := blk_frozen BK223.out 14
                          have hfz60_15 := blk_frozen BK223.out 15
                          have hfz60_16 := blk_frozen BK223.out 16
                          go_wp2
                          go_ret
                          exact ⟨by first | rfl | (simp [errW_none, errW_some] <;> rfl) | (simp [*, errW_none, errW_some] <;> rfl), by repeat (first | (with_reducible first | exact HB.out | apply below_alloc | apply pw_below_drewN | apply below_drew1 | refine below_set ?_ GE223.out) | exact HB.out)⟩
                        · rw [if_neg c59] at H
                          have c59b0 : (a0_0 == 12) = false := beq_eq_false_iff_ne.mpr c59
                          have c59b1 : (a0_0 != 12) = true := bne_iff_ne.mpr c59
                          by_cases c61 : a0_0 = 13
                          · rw [if_pos c61] at H
                            have c61b0 : (a0_0 == 13) = true := beq_iff_eq.mpr c61
                            have c61b1 : (a0_0 != 13) = false := bne_eq_false_iff_eq.mpr c61
                            clear c61
                            obtain rfl := Option.some.inj H
                            have hcz62_0 : wc.cell? ⟨gb223, 0, none⟩ = some (.int .i64 a0_0) := (blk_cell BK223.out 0).trans rfl
                            have hcz62_1 : wc.cell? ⟨gb223, 1, none⟩ = some (.int .i64 a0_1) := (blk_cell BK223.out 1).trans rfl
                            have hcz62_2 : wc.cell? ⟨gb223, 2, none⟩ = some (.int .i64 a0_2) := (blk_cell BK223.out 2).trans rfl
                            have hcz62_3 : wc.cell? ⟨gb223, 3, none⟩ = some (.int .i64 a0_3) := (blk_cell BK223.out 3).trans rfl
                            have hcz62_4 : wc.cell? ⟨gb223, 4, none⟩ = some (.int .i64 a0_4) := (blk_cell BK223.out 4).trans rfl
                            have hcz62_5 : wc.cell? ⟨gb223, 5, none⟩ = some (.int .i64 a0_5) := (blk_cell BK223.out 5).trans rfl
                            have hcz62_6 : wc.cell? ⟨gb223, 6, none⟩ = some (.float .f64 a0_6) := (blk_cell BK223.out 6).trans rfl
                            have hcz62_7 : wc.cell? ⟨gb223, 7, none⟩ = some (.slice A0_7 l0_7.length c0_7) := (blk_cell BK223.out 7).trans rfl
                            have hcz62_8 : wc.cell? ⟨gb223, 8, none⟩ = some (.int .i64 a0_8) := (blk_cell BK223.out 8).trans rfl
                            have hcz62_9 : wc.cell? ⟨gb223, 9, none⟩ = some (.int .i64 a0_9) := (blk_cell BK223.out 9).trans rfl
                            have hcz62_10 : wc.cell? ⟨gb223, 10, none⟩ = some (.float .f64 a0_10) := (blk_cell BK223.out 10).trans rfl
                            have hcz62_11 : wc.cell? ⟨gb223, 11, none⟩ = some (.slice A0_11 l0_11.length c0_11) := (blk_cell BK223.out 11).trans rfl
                            have hcz62_12 : wc.cell? ⟨gb223, 12, none⟩ = some (.int .i64 a0_12) := (blk_cell BK223.out 12).trans rfl
                            have hcz62_13 : wc.cell? ⟨gb223, 13, none⟩ = some (.int .i64 a0_13) := (blk_cell BK223.out 13).trans rfl
                            have hcz62_14 : wc.cell? ⟨gb223, 14, none⟩ = some (.float .f64 a0_14) := (blk_cell BK223.out 14).trans rfl
                            have hcz62_15 : wc.cell? ⟨gb223, 15, none⟩ = some (.slice A0_15 l0_15.length c0_15) := (blk_cell BK223.out 15).trans rfl
                            have hcz62_16 : wc.cell? ⟨gb223, 16, none⟩ = some (.slice A0_16 l0_16.length c0_16) := (blk_cell BK223.out 16).trans rfl
                            have hfz62_0 := blk_frozen BK223.out 0
                            have hfz62_1 := blk_frozen BK223.out 1
                            have hfz62_2 := blk_frozen BK223.out 2
                            have hfz62_3 := blk_frozen BK223.out 3
                            have hfz62_4 := blk_frozen BK223.out 4
                            have hfz62_5 := blk_frozen BK223.out 5
                            have hfz62_6 := blk_frozen BK223.out 6
                            have hfz62_7 := blk_frozen BK223.out 7
                            have hfz62_8 := blk_frozen BK223.out 8
                            have hfz62_9 := blk_frozen BK223.out 9
                            have hfz62_10 := blk_frozen BK223.out 10
                            have hfz62_11 := blk_frozen BK223.out 11
                            have hfz62_12 := blk_frozen BK223.out 12
                            have hfz62_13 := blk_frozen BK223.out 13
                            have hfz62_14 := blk_frozen BK223.out 14
                            have hfz62_15 := blk_frozen BK223.out 15
                            have hfz62_16 := blk_frozen BK223.out 16
                            go_wp2
                            go_ret
                            exact ⟨by first | rfl | (simp [errW_none, errW_some] <;> rfl) | (simp [*, errW_none, errW_some] <;> rfl), by repeat (first | (with_reducible first | exact HB.out | apply below_alloc | apply pw_below_drewN | apply below_drew1 | refine below_set ?_ GE223.out) | exact HB.out)⟩
                          · rw [if_neg c61] at H
                            have c61b0 : (a0_0 == 13) = false := beq_eq_false_iff_ne.mpr c61
                            have c61b1 : (a0_0 != 13) = true := bne_iff_ne.mpr c61
                            replace H := Option.bind_eq_some_iff.mp H
                            obtain ⟨t235, A630, H⟩ := H
                            replace H : (some t235) = some r := H
                            have A63 := Aside0.mk A630
                            clear A630
                            obtain rfl := Option.some.inj H
                            have hcz64_0 : wc.cell? ⟨gb223, 0, none⟩ = some (.int .i64 a0_0) := (blk_cell BK223.out 0).trans rfl
                            have hcz64_1 : wc.cell? ⟨gb223, 1, none⟩ = some (.int .i64 a0_1) := (blk_cell BK223.out 1).trans rfl
                            have hcz64_2 : wc.cell? ⟨gb223, 2, none⟩ = some (.int .i64 a0_2) := (blk_cell BK223.out 2).trans rfl
                            have hcz64_3 : wc.cell? ⟨gb223, 3, none⟩ = some (.int .i64 a0_3) := (blk_cell BK223.out 3).trans rfl
                            have hcz64_4 : wc.cell? ⟨gb223, 4, none⟩ = some (.int .i64 a0_4) := (blk_cell BK223.out 4).trans rfl
                            have hcz64_5 : wc.cell? ⟨gb223, 5, none⟩ = some (.int .i64 a0_5) := (blk_cell BK223.out 5).trans rfl
                            have hcz64_6 : wc.cell? ⟨gb223, 6, none⟩ = some (.float .f64 a0_6) := (blk_cell BK223.out 6).trans rfl
                            have hcz64_7 : wc.cell? ⟨gb223, 7, none⟩ = some (.slice A0_7 l0_7.length c0_7) := (blk_cell BK223.out 7).trans rfl
                            have hcz64_8 : wc.cell? ⟨gb223, 8, none⟩ = some (.int .i64 a0_8) := (blk_cell BK223.out 8).trans rfl
                            have hcz64_9 : wc.cell? ⟨gb223, 9, none⟩ = some (.int .i64 a0_9) := (blk_cell BK223.out 9).trans rfl
                            have hcz64_10 : wc.cell? ⟨gb223, 10, none⟩ = some (.float .f64 a0_10) := (blk_cell BK223.out 10).trans rfl
                            have hcz64_11 : wc.cell? ⟨gb223, 11, none⟩ = some (.slice A0_11 l0_11.length c0_11) := (blk_cell BK223.out 11).trans rfl
                            have hcz64_12 : wc.cell? ⟨gb223, 12, none⟩ = some (.int .i64 a0_12) := (blk_cell BK223.out 12).trans rfl
                            have hcz64_13 : wc.cell? ⟨gb223, 13, none⟩ = some (.int .i64 a0_13) := (blk_cell BK223.out 13).trans rfl
                            have hcz64_14 : wc.cell? ⟨gb223, 14, none⟩ = some (.float .f64 a0_14) := (blk_cell BK223.out 14).trans rfl
                            have hcz64_15 : wc.cell? ⟨gb223, 15, none⟩ = some (.slice A0_15 l0_15.length c0_15) := (blk_cell BK223.out 15).trans rfl
                            have hcz64_16 : wc.cell? ⟨gb223, 16, none⟩ = some (.slice A0_16 l0_16.length c0_16) := (blk_cell BK223.out 16).trans rfl
                            have hfz64_0 := blk_frozen BK223.out 0
                            have hfz64_1 := blk_frozen BK223.out 1
                            have hfz64_2 := blk_frozen BK223.out 2
                            have hfz64_3 := blk_frozen BK223.out 3
                            have hfz64_4 := blk_frozen BK223.out 4
                            have hfz64_5 := blk_frozen BK223.out 5
                            have hfz64_6 := blk_frozen BK223.out 6
                            have hfz64_7 := blk_frozen BK223.out 7
                            have hfz64_8 := blk_frozen BK223.out 8
                            have hfz64_9 := blk_frozen BK223.out 9
                            have hfz64_10 := blk_frozen BK223.out 10
                            have hfz64_11 := blk_frozen BK223.out 11
                            have hfz64_12 := blk_frozen BK223.out 12
                            have hfz64_13 := blk_frozen BK223.out 13
                            have hfz64_14 := blk_frozen BK223.out 14
                            have hfz64_15 := blk_frozen BK223.out 15
                            have hfz64_16 := blk_frozen BK223.out 16
                            go_wp2_with (first | ((with_reducible refine gate_callee (f := 77) rfl ?_); refine goesL_ (some 78) rfl rfl Try.func77 (by kernel_rfl) rfl #[.int .i64 a0_0, .int .i64 1, .int .i64 13] rfl (by (try simp only [List.map_toArray, List.map_cons, List.map_nil]); first | done | rfl | (simp only [List.length_drop, List.length_take]; rfl)) ?_; (with_reducible refine (impl_within.calls a0_0 1 13 t235 _ A63.out).mono ?_); rintro e w' ⟨rfl, ⟨nd, rfl⟩⟩; refine ⟨_, rfl, ?_⟩))
                            go_ret
                            exact ⟨by first | rfl | (simp [errW_none, errW_some] <;> rfl) | (simp [*, errW_none, errW_some] <;> rfl), by repeat (first | (with_reducible first | exact HB.out | apply below_alloc | apply pw_below_drewN | apply below_drew1 | refine below_set ?_ GE223.out) | exact HB.out)⟩

end Go.Proofs.Ytjmlbkhcjgehdaa.PFnExactOpOk
