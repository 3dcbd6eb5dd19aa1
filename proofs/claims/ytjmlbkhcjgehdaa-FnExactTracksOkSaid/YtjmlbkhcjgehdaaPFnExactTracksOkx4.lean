-- Written by hv.py, a program of this session's own, over the kit's print: FnExactTracksOk
import Derived.Test.YtjmlbkhcjgehdaaPFnExactTracksOkx0
import Derived.Test.YtjmlbkhcjgehdaaPFnExactTracksOkx2
import Derived.Test.YtjmlbkhcjgehdaaPFnExactTracksOkx3
namespace Go.Proofs.Ytjmlbkhcjgehdaa.PFnExactTracksOk
open Go.RowKit Go.Proofs.YtjmlbkhcjgehdaaW.PrintWords Go.Proofs.YtjmlbkhcjgehdaaW.PrintLast Go.Proofs.YtjmlbkhcjgehdaaW.PrintMore Go.Proofs.Ytjmlbkhcjgehdaa.HFl Go.Proofs.Ytjmlbkhcjgehdaa.HMap Go.Proofs.Ytjmlbkhcjgehdaa.HMore Go.Proofs.Ytjmlbkhcjgehdaa
attribute [local go_sem] max2_int min2_int max_two min_two max_three min_three max_four min_four   -- for this text's walks alone
set_option linter.unusedVariables false
set_option linter.unusedSimpArgs false

/-! ### spec_TracksOk: function 41 -/
mutual
def spec_TracksOk.l0 : Nat → List (S61) → Int → Option (Bool)
  | 0, _, _ => none
  | k + 1, x0, x3 => if x3 < (x0.length : Int) then (if 0 ≤ x3 then ((spec_l5in.f ((rd_T61 x0 x3).f0) 1 400).bind fun t139 => (if t139 = true then (if ((rd_T61 x0 x3).f1) < 1 then (spec_TracksOk.j1 k x0 x3 true ((rd_T61 x0 x3).f0) ((rd_T61 x0 x3).f1) ((rd_T61 x0 x3).f2) ((rd_T61 x0 x3).f3) ((rd_T61 x0 x3).f4) ((rd_T61 x0 x3).f5) ((rd_T61 x0 x3).f6) ((rd_T61 x0 x3).f7)) else (if ((rd_T61 x0 x3).f2) = 0 then (if (((rd_T61 x0 x3).f4).length : Int) > 6 then (spec_TracksOk.j1 k x0 x3 true ((rd_T61 x0 x3).f0) ((rd_T61 x0 x3).f1) ((rd_T61 x0 x3).f2) ((rd_T61 x0 x3).f3) ((rd_T61 x0 x3).f4) ((rd_T61 x0 x3).f5) ((rd_T61 x0 x3).f6) ((rd_T61 x0 x3).f7)) else (if (rd_T61 x0 x3).f3 = true then (if (((rd_T61 x0 x3).f4).length : Int) > 0 then (spec_TracksOk.j1 k x0 x3 true ((rd_T61 x0 x3).f0) ((rd_T61 x0 x3).f1) ((rd_T61 x0 x3).f2) ((rd_T61 x0 x3).f3) ((rd_T61 x0 x3).f4) ((rd_T61 x0 x3).f5) ((rd_T61 x0 x3).f6) ((rd_T61 x0 x3).f7)) else (spec_TracksOk.j1 k x0 x3 (decide ((((rd_T61 x0 x3).f5).length : Int) > 200)) ((rd_T61 x0 x3).f0) ((rd_T61 x0 x3).f1) ((rd_T61 x0 x3).f2) ((rd_T61 x0 x3).f3) ((rd_T61 x0 x3).f4) ((rd_T61 x0 x3).f5) ((rd_T61 x0 x3).f6) ((rd_T61 x0 x3).f7))) else (spec_TracksOk.j1 k x0 x3 (decide ((((rd_T61 x0 x3).f5).length : Int) > 200)) ((rd_T61 x0 x3).f0) ((rd_T61 x0 x3).f1) ((rd_T61 x0 x3).f2) ((rd_T61 x0 x3).f3) ((rd_T61 x0 x3).f4) ((rd_T61 x0 x3).f5) ((rd_T61 x0 x3).f6) ((rd_T61 x0 x3).f7)))) else (if ((rd_T61 x0 x3).f2) ≤ ((rd_T61 x0 x3).f1) then (spec_TracksOk.j1 k x0 x3 true ((rd_T61 x0 x3).f0) ((rd_T61 x0 x3).f1) ((rd_T61 x0 x3).f2) ((rd_T61 x0 x3).f3) ((rd_T61 x0 x3).f4) ((rd_T61 x0 x3).f5) ((rd_T61 x0 x3).f6) ((rd_T61 x0 x3).f7)) else (if (((rd_T61 x0 x3).f4).length : Int) > 6 then (spec_TracksOk.j1 k x0 x3 true ((rd_T61 x0 x3).f0) ((rd_T61 x0 x3).f1) ((rd_T61 x0 x3).f2) ((rd_T61 x0 x3).f3) ((rd_T61 x0 x3).f4) ((rd_T61 x0 x3).f5) ((rd_T61 x0 x3).f6) ((rd_T61 x0 x3).f7)) else (if (rd_T61 x0 x3).f3 = true then (if (((rd_T61 x0 x3).f4).length : Int) > 0 then (spec_TracksOk.j1 k x0 x3 true ((rd_T61 x0 x3).f0) ((rd_T61 x0 x3).f1) ((rd_T61 x0 x3).f2) ((rd_T61 x0 x3).f3) ((rd_T61 x0 x3).f4) ((rd_T61 x0 x3).f5) ((rd_T61 x0 x3).f6) ((rd_T61 x0 x3).f7)) else (spec_TracksOk.j1 k x0 x3 (decide ((((rd_T61 x0 x3).f5).length : Int) > 200)) ((rd_T61 x0 x3).f0) ((rd_T61 x0 x3).f1) ((rd_T61 x0 x3).f2) ((rd_T61 x0 x3).f3) ((rd_T61 x0 x3).f4) ((rd_T61 x0 x3).f5) ((rd_T61 x0 x3).f6) ((rd_T61 x0 x3).f7))) else (spec_TracksOk.j1 k x0 x3 (decide ((((rd_T61 x0 x3).f5).length : Int) > 200)) ((rd_T61 x0 x3).f0) ((rd_T61 x0 x3).f1) ((rd_T61 x0 x3).f2) ((rd_T61 x0 x3).f3) ((rd_T61 x0 x3).f4) ((rd_T61 x0 x3).f5) ((rd_T61 x0 x3).f6) ((rd_T61 x0 x3).f7))))))) else (spec_TracksOk.j1 k x0 x3 true ((rd_T61 x0 x3).f0) ((rd_T61 x0 x3).f1) ((rd_T61 x0 x3).f2) ((rd_T61 x0 x3).f3) ((rd_T61 x0 x3).f4) ((rd_T61 x0 x3).f5) ((rd_T61 x0 x3).f6) ((rd_T61 x0 x3).f7)))) else (none)) else (some true)
def spec_TracksOk.j1 : Nat → List (S61) → Int → Bool → Int → Int → Int → Bool → List (S38) → List (S27) → Bool → Bool → Option (Bool)
  | 0, _, _, _, _, _, _, _, _, _, _, _ => none
  | k + 1, x0, x3, x63, x139000, x139001, x139002, x139003, x139004, x139005, x139006, x139007 => if x63 = true then (some false) else (spec_TracksOk.l1 k x0 x3 0 x139000 x139001 x139002 x139003 x139004 x139005 x139006 x139007)
def spec_TracksOk.l1 : Nat → List (S61) → Int → Int → Int → Int → Int → Bool → List (S38) → List (S27) → Bool → Bool → Option (Bool)
  | 0, _, _, _, _, _, _, _, _, _, _, _ => none
  | k + 1, x0, x3, x5, x139000, x139001, x139002, x139003, x139004, x139005, x139006, x139007 => if x5 < (x139004.length : Int) then (if 0 ≤ x5 then ((spec_SpanOk.f k ((rd_T38 x139004 x5).f0.f0) ((rd_T38 x139004 x5).f0.f1) ((rd_T38 x139004 x5).f0.f2) ((rd_T38 x139004 x5).f0.f3) ((rd_T38 x139004 x5).f1.f0) ((rd_T38 x139004 x5).f1.f1) ((rd_T38 x139004 x5).f1.f2) ((rd_T38 x139004 x5).f1.f3)).bind fun t141 => (if t141 = true then (spec_TracksOk.l1 k x0 x3 (wrap64 (x5 + 1)) x139000 x139001 x139002 x139003 x139004 x139005 x139006 x139007) else (some false))) else (none)) else (spec_TracksOk.l2 k x0 x3 0 x139000 x139001 x139002 x139003 x139004 x139005 x139006 x139007)
def spec_TracksOk.l2 : Nat → List (S61) → Int → Int → Int → Int → Int → Bool → List (S38) → List (S27) → Bool → Bool → Option (Bool)
  | 0, _, _, _, _, _, _, _, _, _, _, _ => none
  | k + 1, x0, x3, x6, x139000, x139001, x139002, x139003, x139004, x139005, x139006, x139007 => if x6 < (x139005.length : Int) then (if 0 ≤ x6 then ((spec_KeyOk.f k ((rd_T27 x139005 x6).f0) ((rd_T27 x139005 x6).f1) ((rd_T27 x139005 x6).f2) ((rd_T27 x139005 x6).f3)).bind fun t143 => (if t143 = true then (spec_TracksOk.l2 k x0 x3 (wrap64 (x6 + 1)) x139000 x139001 x139002 x139003 x139004 x139005 x139006 x139007) else (some false))) else (none)) else (spec_TracksOk.l3 k x0 x3 0 x139000 x139001 x139002 x139003 x139004 x139005 x139006 x139007)
def spec_TracksOk.l3 : Nat → List (S61) → Int → Int → Int → Int → Int → Bool → List (S38) → List (S27) → Bool → Bool → Option (Bool)
  | 0, _, _, _, _, _, _, _, _, _, _, _ => none
  | k + 1, x0, x3, x7, x139000, x139001, x139002, x139003, x139004, x139005, x139006, x139007 => if x7 < x3 then (if 0 ≤ x7 then (if x7 < (x0.length : Int) then (if ((rd_T61 x0 x7).f0) = x139000 then (some false) else (spec_TracksOk.l3 k x0 x3 (wrap64 (x7 + 1)) x139000 x139001 x139002 x139003 x139004 x139005 x139006 x139007)) else (none)) else (none)) else (spec_TracksOk.l0 k x0 (wrap64 (x3 + 1)))
end
def spec_TracksOk.f (k : Nat) (l0 : List (S61)) : Option (Bool) := if (l0.length : Int) > 64 then (some false) else (spec_TracksOk.l0 k l0 0)
theorem spec_TracksOk.mono_l : ∀ k, (∀ y0 y1, LeO (spec_TracksOk.l0 k y0 y1) (spec_TracksOk.l0 (k + 1) y0 y1)) ∧ (∀ y0 y1 y2 y3 y4 y5 y6 y7 y8 y9 y10, LeO (spec_TracksOk.j1 k y0 y1 y2 y3 y4 y5 y6 y7 y8 y9 y10) (spec_TracksOk.j1 (k + 1) y0 y1 y2 y3 y4 y5 y6 y7 y8 y9 y10)) ∧ (∀ y0 y1 y2 y3 y4 y5 y6 y7 y8 y9 y10, LeO (spec_TracksOk.l1 k y0 y1 y2 y3 y4 y5 y6 y7 y8 y9 y10) (spec_TracksOk.l1 (k + 1) y0 y1 y2 y3 y4 y5 y6 y7 y8 y9 y10)) ∧ (∀ y0 y1 y2 y3 y4 y5 y6 y7 y8 y9 y10, LeO (spec_TracksOk.l2 k y0 y1 y2 y3 y4 y5 y6 y7 y8 y9 y10) (spec_TracksOk.l2 (k + 1) y0 y1 y2 y3 y4 y5 y6 y7 y8 y9 y10)) ∧ (∀ y0 y1 y2 y3 y4 y5 y6 y7 y8 y9 y10, LeO (spec_TracksOk.l3 k y0 y1 y2 y3 y4 y5 y6 y7 y8 y9 y10) (spec_TracksOk.l3 (k + 1) y0 y1 y2 y3 y4 y5 y6 y7 y8 y9 y10))
  | 0 => ⟨fun _ _ r h => by simp [spec_TracksOk.l0] at h, fun _ _ _ _ _ _ _ _ _ _ _ r h => by simp [spec_TracksOk.j1] at h, fun _ _ _ _ _ _ _ _ _ _ _ r h => by simp [spec_TracksOk.l1] at h, fun _ _ _ _ _ _ _ _ _ _ _ r h => by simp [spec_TracksOk.l2] at h, fun _ _ _ _ _ _ _ _ _ _ _ r h => by simp [spec_TracksOk.l3] at h⟩
  | k + 1 => by
    obtain ⟨ih0, ih1, ih2, ih3, ih4⟩ := spec_TracksOk.mono_l k
    refine ⟨?_, ?_, ?_, ?_, ?_⟩
    · intro y0 y1
      unfold spec_TracksOk.l0
      repeat' first
      | (with_reducible exact ih0 _ _)
      | (with_reducible exact ih1 _ _ _ _ _ _ _ _ _ _ _)
      | (with_reducible exact ih2 _ _ _ _ _ _ _ _ _ _ _)
      | (with_reducible exact ih3 _ _ _ _ _ _ _ _ _ _ _)
      | (with_reducible exact ih4 _ _ _ _ _ _ _ _ _ _ _)
      | (with_reducible exact spec_KeyOk.mono _ _ _ _ _)
      | (with_reducible exact spec_SpanOk.mono _ _ _ _ _ _ _ _ _)
      | (with_reducible exact LeO.refl _)
      | (with_reducible exact LeO.none _)
      | (with_reducible refine LeO.ite ?_ ?_)
      | (with_reducible refine LeO.bind ?_ (fun _ => ?_))
      | exact ih0 _ _
      | exact ih1 _ _ _ _ _ _ _ _ _ _ _
      | exact ih2 _ _ _ _ _ _ _ _ _ _ _
      | exact ih3 _ _ _ _ _ _ _ _ _ _ _
      | exact ih4 _ _ _ _ _ _ _ _ _ _ _
      | exact spec_KeyOk.mono _ _ _ _ _
      | exact spec_SpanOk.mono _ _ _ _ _ _ _ _ _
      | exact LeO.none _
      | refine LeO.ite ?_ ?_
      | refine LeO.bind ?_ (fun _ => ?_)
    · intro y0 y1 y2 y3 y4 y5 y6 y7 y8 y9 y10
      unfold spec_TracksOk.j1
      repeat' first
      | (with_reducible exact ih0 _ _)
      | (with_reducible exact ih1 _ _ _ _ _ _ _ _ _ _ _)
      | (with_reducible exact ih2 _ _ _ _ _ _ _ _ _ _ _)
      | (with_reducible exact ih3 _ _ _ _ _ _ _ _ _ _ _)
      | (with_reducible exact ih4 _ _ _ _ _ _ _ _ _ _ _)
      | (with_reducible exact spec_KeyOk.mono _ _ _ _ _)
      | (with_reducible exact spec_SpanOk.mono _ _ _ _ _ _ _ _ _)
      | (with_reducible exact LeO.refl _)
      | (with_reducible exact LeO.none _)
      | (with_reducible refine LeO.ite ?_ ?_)
      | (with_reducible refine LeO.bind ?_ (fun _ => ?_))
      | exact ih0 _ _
      | exact ih1 _ _ _ _ _ _ _ _ _ _ _
      | exact ih2 _ _ _ _ _ _ _ _ _ _ _
      | exact ih3 _ _ _ _ _ _ _ _ _ _ _
      | exact ih4 _ _ _ _ _ _ _ _ _ _ _
      | exact spec_KeyOk.mono _ _ _ _ _
      | exact spec_SpanOk.mono _ _ _ _ _ _ _ _ _
      | exact LeO.none _
      | refine LeO.ite ?_ ?_
      | refine LeO.bind ?_ (fun _ => ?_)
    · intro y0 y1 y2 y3 y4 y5 y6 y7 y8 y9 y10
      unfold spec_TracksOk.l1
      repeat' first
      | (with_reducible exact ih0 _ _)
      | (with_reducible exact ih1 _ _ _ _ _ _ _ _ _ _ _)
      | (with_reducible exact ih2 _ _ _ _ _ _ _ _ _ _ _)
      | (with_reducible exact ih3 _ _ _ _ _ _ _ _ _ _ _)
      | (with_reducible exact ih4 _ _ _ _ _ _ _ _ _ _ _)
      | (with_reducible exact spec_KeyOk.mono _ _ _ _ _)
      | (with_reducible exact spec_SpanOk.mono _ _ _ _ _ _ _ _ _)
      | (with_reducible exact LeO.refl _)
      | (with_reducible exact LeO.none _)
      | (with_reducible refine LeO.ite ?_ ?_)
      | (with_reducible refine LeO.bind ?_ (fun _ => ?_))
      | exact ih0 _ _
      | exact ih1 _ _ _ _ _ _ _ _ _ _ _
      | exact ih2 _ _ _ _ _ _ _ _ _ _ _
      | exact ih3 _ _ _ _ _ _ _ _ _ _ _
      | exact ih4 _ _ _ _ _ _ _ _ _ _ _
      | exact spec_KeyOk.mono _ _ _ _ _
      | exact spec_SpanOk.mono _ _ _ _ _ _ _ _ _
      | exact LeO.none _
      | refine LeO.ite ?_ ?_
      | refine LeO.bind ?_ (fun _ => ?_)
    · intro y0 y1 y2 y3 y4 y5 y6 y7 y8 y9 y10
      unfold spec_TracksOk.l2
      repeat' first
      | (with_reducible exact ih0 _ _)
      | (with_reducible exact ih1 _ _ _ _ _ _ _ _ _ _ _)
      | (with_reducible exact ih2 _ _ _ _ _ _ _ _ _ _ _)
      | (with_reducible exact ih3 _ _ _ _ _ _ _ _ _ _ _)
      | (with_reducible exact ih4 _ _ _ _ _ _ _ _ _ _ _)
      | (with_reducible exact spec_KeyOk.mono _ _ _ _ _)
      | (with_reducible exact spec_SpanOk.mono _ _ _ _ _ _ _ _ _)
      | (with_reducible exact LeO.refl _)
      | (with_reducible exact LeO.none _)
      | (with_reducible refine LeO.ite ?_ ?_)
      | (with_reducible refine LeO.bind ?_ (fun _ => ?_))
      | exact ih0 _ _
      | exact ih1 _ _ _ _ _ _ _ _ _ _ _
      | exact ih2 _ _ _ _ _ _ _ _ _ _ _
      | exact ih3 _ _ _ _ _ _ _ _ _ _ _
      | exact ih4 _ _ _ _ _ _ _ _ _ _ _
      | exact spec_KeyOk.mono _ _ _ _ _
      | exact spec_SpanOk.mono _ _ _ _ _ _ _ _ _
      | exact LeO.none _
      | refine LeO.ite ?_ ?_
      | refine LeO.bind ?_ (fun _ => ?_)
    · intro y0 y1 y2 y3 y4 y5 y6 y7 y8 y9 y10
      unfold spec_TracksOk.l3
      repeat' first
      | (with_reducible exact ih0 _ _)
      | (with_reducible exact ih1 _ _ _ _ _ _ _ _ _ _ _)
      | (with_reducible exact ih2 _ _ _ _ _ _ _ _ _ _ _)
      | (with_reducible exact ih3 _ _ _ _ _ _ _ _ _ _ _)
      | (with_reducible exact ih4 _ _ _ _ _ _ _ _ _ _ _)
      | (with_reducible exact spec_KeyOk.mono _ _ _ _ _)
      | (with_reducible exact spec_SpanOk.mono _ _ _ _ _ _ _ _ _)
      | (with_reducible exact LeO.refl _)
      | (with_reducible exact LeO.none _)
      | (with_reducible refine LeO.ite ?_ ?_)
      | (with_reducible refine LeO.bind ?_ (fun _ => ?_))
      | exact ih0 _ _
      | exact ih1 _ _ _ _ _ _ _ _ _ _ _
      | exact ih2 _ _ _ _ _ _ _ _ _ _ _
      | exact ih3 _ _ _ _ _ _ _ _ _ _ _
      | exact ih4 _ _ _ _ _ _ _ _ _ _ _
      | exact spec_KeyOk.mono _ _ _ _ _
      | exact spec_SpanOk.mono _ _ _ _ _ _ _ _ _
      | exact LeO.none _
      | refine LeO.ite ?_ ?_
      | refine LeO.bind ?_ (fun _ => ?_)
theorem spec_TracksOk.mono : ∀ a0 k, LeO (spec_TracksOk.f k a0) (spec_TracksOk.f (k + 1) a0) := by
  intro a0 k
  obtain ⟨ih0, ih1, ih2, ih3, ih4⟩ := spec_TracksOk.mono_l k
  unfold spec_TracksOk.f
  repeat' first
      | (with_reducible exact ih0 _ _)
      | (with_reducible exact ih1 _ _ _ _ _ _ _ _ _ _ _)
      | (with_reducible exact ih2 _ _ _ _ _ _ _ _ _ _ _)
      | (with_reducible exact ih3 _ _ _ _ _ _ _ _ _ _ _)
      | (with_reducible exact ih4 _ _ _ _ _ _ _ _ _ _ _)
      | (with_reducible exact spec_KeyOk.mono _ _ _ _ _)
      | (with_reducible exact spec_SpanOk.mono _ _ _ _ _ _ _ _ _)
      | (with_reducible exact LeO.refl _)
      | (with_reducible exact LeO.none _)
      | (with_reducible refine LeO.ite ?_ ?_)
      | (with_reducible refine LeO.bind ?_ (fun _ => ?_))
      | exact ih0 _ _
      | exact ih1 _ _ _ _ _ _ _ _ _ _ _
      | exact ih2 _ _ _ _ _ _ _ _ _ _ _
      | exact ih3 _ _ _ _ _ _ _ _ _ _ _
      | exact ih4 _ _ _ _ _ _ _ _ _ _ _
      | exact spec_KeyOk.mono _ _ _ _ _
      | exact spec_SpanOk.mono _ _ _ _ _ _ _ _ _
      | exact LeO.none _
      | refine LeO.ite ?_ ?_
      | refine LeO.bind ?_ (fun _ => ?_)
set_option maxHeartbeats 8000000 in
set_option maxRecDepth 100000 in
theorem spec_TracksOk.calls (k : Nat) (A0 : Option Addr) (c0 : Nat) (l0 : List (S61)) (r : Bool) (w : World) (hr0 : Kd.C k61 w A0 l0.length l0) (hc0 : l0.length ≤ c0) (h : spec_TracksOk.f k l0 = some r) :
    Calls Try.prog 41 #[.slice A0 l0.length c0] w fun e w' => e = .returned (.bool r) ∧ Below w.heap.size w w' := by
  have hu61 := Try.underlying61
  have hu38 := Try.underlying38
  have hu27 := Try.underlying27
  have HR0 := Aside0.mk hr0
  have HC0 := Aside0.mk hc0
  clear hr0 hc0
  have HB := Aside0.mk (Below.refl w.heap.size w)
  have H : (if (l0.length : Int) > 64 then (some false) else (spec_TracksOk.l0 k l0 0)) = some r := h
  clear h
  by_cases c2 : (l0.length : Int) > 64
  · rw [if_pos c2] at H
    have c2b0 : decide (64 < (l0.length : Int)) = true := decide_eq_true c2
    have c2b1 : decide (64 < l0.length) = true := decide_eq_true (by omega)
    clear c2
    obtain rfl := Option.some.inj H
    go_enter Try.func41, Try.ntmps41
    go_wp2
    repeat (go_quiet (fail); try go_wp2)
    go_ret
    exact ⟨by first | rfl | (simp [errW_none, errW_some] <;> rfl) | (simp [*, errW_none, errW_some] <;> rfl), by repeat (first | (with_reducible first | exact HB.out | apply below_alloc | apply pw_below_drewN | apply below_drew1) | exact HB.out)⟩
  · rw [if_neg c2] at H
    have c2b0 : decide (64 < (l0.length : Int)) = false := decide_eq_false c2
    have c2b1 : decide (64 < l0.length) = false := decide_eq_false (by omega)
    clear c2
    have H' := Aside0.mk H
    clear H
    go_enter Try.func41, Try.ntmps41
    go_wp2
    repeat (go_quiet (fail); try go_wp2)
    go_loopg [3] k (fun kq v3 w' => ∃ (x3_1 : Int), v3 = .int .i64 x3_1 ∧ Aside0 (spec_TracksOk.l0 kq l0 x3_1 = some r) ∧ Aside0 (kq ≤ k) ∧ Aside0 (Below w.heap.size w w'))
    case atStart => exact ⟨(0), (by first | rfl | (simp; done) | (simp [*]; done)), H', ⟨Nat.le_refl _⟩, ⟨by repeat (first | (with_reducible first | exact HB.out | apply below_alloc | apply pw_below_drewN | apply below_drew1) | exact HB.out)⟩⟩
    case round =>
      clear H'
      try clear c2
      try clear c2b0
      try clear c2b1
      try clear p2
      obtain ⟨x3_1, rfl, HA, HK1, HB⟩ := hrel
      cases gk with
      | zero => exact absurd HA.out (by simp [spec_TracksOk.l0])
      | succ k1 =>
        have H := HA.out
        clear HA
        simp only [spec_TracksOk.l0] at H
        by_cases c3 : x3_1 < (l0.length : Int)
        · rw [if_pos c3] at H
          have c3b0 : decide (x3_1 < (l0.length : Int)) = true := decide_eq_true c3
          clear c3
          by_cases c4 : 0 ≤ x3_1
          · rw [if_pos c4] at H
            have c4b0 : decide (0 ≤ x3_1) = true := decide_eq_true c4
            clear c4
            have HC5 := Aside0.mk H
            clear H
            have p137 : 0 ≤ (x3_1 : Int) := of_decide_eq_true (by first | (with_reducible assumption) | assumption)
            have q137 : x3_1 < (l0.length : Int) := of_decide_eq_true (by first | (with_reducible assumption) | assumption)
            obtain ⟨ad137, A137_4, c137_4, A137_5, c137_5, e137, hx137_0, hx137_1, hx137_2, hx137_3, hx137_4, hx137_5, hx137_6, hx137_7, hl137_4, hi137_4, hl137_5, hi137_5⟩ := at_T61 HR0.out x3_1 p137 q137
            cases e137
            replace hx137_0 := (HB.out.cell (World.block_lt_of_cell? w _ hx137_0)).trans hx137_0
            replace hx137_1 := (HB.out.cell (World.block_lt_of_cell? w _ hx137_1)).trans hx137_1
            replace hx137_2 := (HB.out.cell (World.block_lt_of_cell? w _ hx137_2)).trans hx137_2
            replace hx137_3 := (HB.out.cell (World.block_lt_of_cell? w _ hx137_3)).trans hx137_3
            replace hx137_4 := (HB.out.cell (World.block_lt_of_cell? w _ hx137_4)).trans hx137_4
            replace hx137_5 := (HB.out.cell (World.block_lt_of_cell? w _ hx137_5)).trans hx137_5
            replace hx137_6 := (HB.out.cell (World.block_lt_of_cell? w _ hx137_6)).trans hx137_6
            replace hx137_7 := (HB.out.cell (World.block_lt_of_cell? w _ hx137_7)).trans hx137_7
            have HR137_4 := Aside0.mk hi137_4
            have HC137_4 := Aside0.mk hl137_4
            clear hi137_4 hl137_4
            have HR137_5 := Aside0.mk hi137_5
            have HC137_5 := Aside0.mk hl137_5
            clear hi137_5 hl137_5
            replace p137 := eq_true p137
            replace q137 := eq_true q137
            go_upto_region 7 with (first | ((with_reducible refine gate_dst (N := 4) rfl ?_); (try (refine gate_guard (by rfl) ?_; dsimp only)); refine box_event ?hg (N := 4) ?hd (cs := #[.int .i64 0, .int .i64 0, .int .i64 0, .bool false, .slice none 0 0, .slice none 0 0, .bool false, .bool false]) (t := 61) ?hr ?_; (case hd => rfl); (case hg => rfl); (case hr => first | (go_simp; done) | (go_simp; rfl)); intro gb138 hg w6 hbox hb; have n0_ := Aside0.mk (below_step (by repeat (first | (with_reducible first | exact HB.out | apply below_alloc | apply pw_below_drewN | apply below_drew1) | exact HB.out)) hb); have n1_ := Aside0.mk (hbox); have n2_ := Aside0.mk ((by rw [hg]; exact (below_size (by repeat (first | (with_reducible first | exact HB.out | apply below_alloc | apply pw_below_drewN | apply below_drew1) | exact HB.out))) : w.heap.size ≤ gb138)); have n3_ := Aside0.mk ((by rw [hg]; exact (below_size (by repeat (first | (with_reducible first | exact HB.out | apply below_alloc | apply pw_below_drewN | apply below_drew1) | exact HB.out))) : w.heap.size ≤ gb138)); clear HB; have HB := n0_; have BK138 := n1_; have GW138 := n2_; have GE138 := n3_; clear n0_ n1_ n2_ n3_; clear hb hbox hg; have hcz7_0 : w6.cell? ⟨gb138, 0, none⟩ = some (.int .i64 0) := (blk_cell BK138.out 0).trans rfl; have hcz7_1 : w6.cell? ⟨gb138, 1, none⟩ = some (.int .i64 0) := (blk_cell BK138.out 1).trans rfl; have hcz7_2 : w6.cell? ⟨gb138, 2, none⟩ = some (.int .i64 0) := (blk_cell BK138.out 2).trans rfl; have hcz7_3 : w6.cell? ⟨gb138, 3, none⟩ = some (.bool false) := (blk_cell BK138.out 3).trans rfl; have hcz7_4 : w6.cell? ⟨gb138, 4, none⟩ = some (.slice none 0 0) := (blk_cell BK138.out 4).trans rfl; have hcz7_5 : w6.cell? ⟨gb138, 5, none⟩ = some (.slice none 0 0) := (blk_cell BK138.out 5).trans rfl; have hcz7_6 : w6.cell? ⟨gb138, 6, none⟩ = some (.bool false) := (blk_cell BK138.out 6).trans rfl; have hcz7_7 : w6.cell? ⟨gb138, 7, none⟩ = some (.bool false) := (blk_cell BK138.out 7).trans rfl; have hfz7_0 := blk_frozen BK138.out 0; have hfz7_1 := blk_frozen BK138.out 1; have hfz7_2 := blk_frozen BK138.out 2; have hfz7_3 := blk_frozen BK138.out 3; have hfz7_4 := blk_frozen BK138.out 4; have hfz7_5 := blk_frozen BK138.out 5; have hfz7_6 := blk_frozen BK138.out 6; have hfz7_7 := blk_frozen BK138.out 7))
            repeat (go_quiet (first | ((with_reducible refine gate_dst (N := 4) rfl ?_); (try (refine gate_guard (by rfl) ?_; dsimp only)); refine box_event ?hg (N := 4) ?hd (cs := #[.int .i64 0, .int .i64 0, .int .i64 0, .bool false, .slice none 0 0, .slice none 0 0, .bool false, .bool false]) (t := 61) ?hr ?_; (case hd => rfl); (case hg => rfl); (case hr => first | (go_simp; done) | (go_simp; rfl)); intro gb138 hg w6 hbox hb; have n0_ := Aside0.mk (below_step (by repeat (first | (with_reducible first | exact HB.out | apply below_alloc | apply pw_below_drewN | apply below_drew1) | exact HB.out)) hb); have n1_ := Aside0.mk (hbox); have n2_ := Aside0.mk ((by rw [hg]; exact (below_size (by repeat (first | (with_reducible first | exact HB.out | apply below_alloc | apply pw_below_drewN | apply below_drew1) | exact HB.out))) : w.heap.size ≤ gb138)); have n3_ := Aside0.mk ((by rw [hg]; exact (below_size (by repeat (first | (with_reducible first | exact HB.out | apply below_alloc | apply pw_below_drewN | apply below_drew1) | exact HB.out))) : w.heap.size ≤ gb138)); clear HB; have HB := n0_; have BK138 := n1_; have GW138 := n2_; have GE138 := n3_; clear n0_ n1_ n2_ n3_; clear hb hbox hg; have hcz7_0 : w6.cell? ⟨gb138, 0, none⟩ = some (.int .i64 0) := (blk_cell BK138.out 0).trans rfl; have hcz7_1 : w6.cell? ⟨gb138, 1, none⟩ = some (.int .i64 0) := (blk_cell BK138.out 1).trans rfl; have hcz7_2 : w6.cell? ⟨gb138, 2, none⟩ = some (.int .i64 0) := (blk_cell BK138.out 2).trans rfl; have hcz7_3 : w6.cell? ⟨gb138, 3, none⟩ = some (.bool false) := (blk_cell BK138.out 3).trans rfl; have hcz7_4 : w6.cell? ⟨gb138, 4, none⟩ = some (.slice none 0 0) := (blk_cell BK138.out 4).trans rfl; have hcz7_5 : w6.cell? ⟨gb138, 5, none⟩ = some (.slice none 0 0) := (blk_cell BK138.out 5).trans rfl; have hcz7_6 : w6.cell? ⟨gb138, 6, none⟩ = some (.bool false) := (blk_cell BK138.out 6).trans rfl; have hcz7_7 : w6.cell? ⟨gb138, 7, none⟩ = some (.bool false) := (blk_cell BK138.out 7).trans rfl; have hfz7_0 := blk_frozen BK138.out 0; have hfz7_1 := blk_frozen BK138.out 1; have hfz7_2 := blk_frozen BK138.out 2; have hfz7_3 := blk_frozen BK138.out 3; have hfz7_4 := blk_frozen BK138.out 4; have hfz7_5 := blk_frozen BK138.out 5; have hfz7_6 := blk_frozen BK138.out 6; have hfz7_7 := blk_frozen BK138.out 7)); go_upto_region 7 with (first | ((with_reducible refine gate_dst (N := 4) rfl ?_); (try (refine gate_guard (by rfl) ?_; dsimp only)); refine box_event ?hg (N := 4) ?hd (cs := #[.int .i64 0, .int .i64 0, .int .i64 0, .bool false, .slice none 0 0, .slice none 0 0, .bool false, .bool false]) (t := 61) ?hr ?_; (case hd => rfl); (case hg => rfl); (case hr => first | (go_simp; done) | (go_simp; rfl)); intro gb138 hg w6 hbox hb; have n0_ := Aside0.mk (below_step (by repeat (first | (with_reducible first | exact HB.out | apply below_alloc | apply pw_below_drewN | apply below_drew1) | exact HB.out)) hb); have n1_ := Aside0.mk (hbox); have n2_ := Aside0.mk ((by rw [hg]; exact (below_size (by repeat (first | (with_reducible first | exact HB.out | apply below_alloc | apply pw_below_drewN | apply below_drew1) | exact HB.out))) : w.heap.size ≤ gb138)); have n3_ := Aside0.mk ((by rw [hg]; exact (below_size (by repeat (first | (with_reducible first | exact HB.out | apply below_alloc | apply pw_below_drewN | apply below_drew1) | exact HB.out))) : w.heap.size ≤ gb138)); clear HB; have HB := n0_; have BK138 := n1_; have GW138 := n2_; have GE138 := n3_; clear n0_ n1_ n2_ n3_; clear hb hbox hg; have hcz7_0 : w6.cell? ⟨gb138, 0, none⟩ = some (.int .i64 0) := (blk_cell BK138.out 0).trans rfl; have hcz7_1 : w6.cell? ⟨gb138, 1, none⟩ = some (.int .i64 0) := (blk_cell BK138.out 1).trans rfl; have hcz7_2 : w6.cell? ⟨gb138, 2, none⟩ = some (.int .i64 0) := (blk_cell BK138.out 2).trans rfl; have hcz7_3 : w6.cell? ⟨gb138, 3, none⟩ = some (.bool false) := (blk_cell BK138.out 3).trans rfl; have hcz7_4 : w6.cell? ⟨gb138, 4, none⟩ = some (.slice none 0 0) := (blk_cell BK138.out 4).trans rfl; have hcz7_5 : w6.cell? ⟨gb138, 5, none⟩ = some (.slice none 0 0) := (blk_cell BK138.out 5).trans rfl; have hcz7_6 : w6.cell? ⟨gb138, 6, none⟩ = some (.bool false) := (blk_cell BK138.out 6).trans rfl; have hcz7_7 : w6.cell? ⟨gb138, 7, none⟩ = some (.bool false) := (blk_cell BK138.out 7).trans rfl; have hfz7_0 := blk_frozen BK138.out 0; have hfz7_1 := blk_frozen BK138.out 1; have hfz7_2 := blk_frozen BK138.out 2; have hfz7_3 := blk_frozen BK138.out 3; have hfz7_4 := blk_frozen BK138.out 4; have hfz7_5 := blk_frozen BK138.out 5; have hfz7_6 := blk_frozen BK138.out 6; have hfz7_7 := blk_frozen BK138.out 7)))
            (try simp only [Act.put, List.setIfInBounds_toArray, List.set_cons_zero, List.set_cons_succ])
            go_cut [63] (fun v63 wc => ∃ (kq : Nat) (x63_4 : Bool), v63 = .bool x63_4 ∧ Aside0 (spec_TracksOk.j1 kq l0 x3_1 x63_4 ((rd_T61 l0 x3_1).f0) ((rd_T61 l0 x3_1).f1) ((rd_T61 l0 x3_1).f2) ((rd_T61 l0 x3_1).f3) ((rd_T61 l0 x3_1).f4) ((rd_T61 l0 x3_1).f5) ((rd_T61 l0 x3_1).f6) ((rd_T61 l0 x3_1).f7) = some r) ∧ Aside0 (kq ≤ k1) ∧ Aside0 (wc.heap[gb138]? = some (.cells #[.int .i64 ((rd_T61 l0 x3_1).f0), .int .i64 ((rd_T61 l0 x3_1).f1), .int .i64 ((rd_T61 l0 x3_1).f2), .bool ((rd_T61 l0 x3_1).f3), (.slice A137_4 ((rd_T61 l0 x3_1).f4).length c137_4), (.slice A137_5 ((rd_T61 l0 x3_1).f5).length c137_5), .bool ((rd_T61 l0 x3_1).f6), .bool ((rd_T61 l0 x3_1).f7)] 61 (0, 0))) ∧ Aside0 (Below w.heap.size w wc))
            case first =>
              have H := HC5.out
              clear HC5
              replace H := Option.bind_eq_some_iff.mp H
              obtain ⟨t139, A80, H⟩ := H
              replace H : (if t139 = true then (if ((rd_T61 l0 x3_1).f1) < 1 then (spec_TracksOk.j1 k1 l0 x3_1 true ((rd_T61 l0 x3_1).f0) ((rd_T61 l0 x3_1).f1) ((rd_T61 l0 x3_1).f2) ((rd_T61 l0 x3_1).f3) ((rd_T61 l0 x3_1).f4) ((rd_T61 l0 x3_1).f5) ((rd_T61 l0 x3_1).f6) ((rd_T61 l0 x3_1).f7)) else (if ((rd_T61 l0 x3_1).f2) = 0 then (if (((rd_T61 l0 x3_1).f4).length : Int) > 6 then (spec_TracksOk.j1 k1 l0 x3_1 true ((rd_T61 l0 x3_1).f0) ((rd_T61 l0 x3_1).f1) ((rd_T61 l0 x3_1).f2) ((rd_T61 l0 x3_1).f3) ((rd_T61 l0 x3_1).f4) ((rd_T61 l0 x3_1).f5) ((rd_T61 l0 x3_1).f6) ((rd_T61 l0 x3_1).f7)) else (if (rd_T61 l0 x3_1).f3 = true then (if (((rd_T61 l0 x3_1).f4).length : Int) > 0 then (spec_TracksOk.j1 k1 l0 x3_1 true ((rd_T61 l0 x3_1).f0) ((rd_T61 l0 x3_1).f1) ((rd_T61 l0 x3_1).f2) ((rd_T61 l0 x3_1).f3) ((rd_T61 l0 x3_1).f4) ((rd_T61 l0 x3_1).f5) ((rd_T61 l0 x3_1).f6) ((rd_T61 l0 x3_1).f7)) else (spec_TracksOk.j1 k1 l0 x3_1 (decide ((((rd_T61 l0 x3_1).f5).length : Int) > 200)) ((rd_T61 l0 x3_1).f0) ((rd_T61 l0 x3_1).f1) ((rd_T61 l0 x3_1).f2) ((rd_T61 l0 x3_1).f3) ((rd_T61 l0 x3_1).f4) ((rd_T61 l0 x3_1).f5) ((rd_T61 l0 x3_1).f6) ((rd_T61 l0 x3_1).f7))) else (spec_TracksOk.j1 k1 l0 x3_1 (decide ((((rd_T61 l0 x3_1).f5).length : Int) > 200)) ((rd_T61 l0 x3_1).f0) ((rd_T61 l0 x3_1).f1) ((rd_T61 l0 x3_1).f2) ((rd_T61 l0 x3_1).f3) ((rd_T61 l0 x3_1).f4) ((rd_T61 l0 x3_1).f5) ((rd_T61 l0 x3_1).f6) ((rd_T61 l0 x3_1).f7)))) else (if ((rd_T61 l0 x3_1).f2) ≤ ((rd_T61 l0 x3_1).f1) then (spec_TracksOk.j1 k1 l0 x3_1 true ((rd_T61 l0 x3_1).f0) ((rd_T61 l0 x3_1).f1) ((rd_T61 l0 x3_1).f2) ((rd_T61 l0 x3_1).f3) ((rd_T61 l0 x3_1).f4) ((rd_T61 l0 x3_1).f5) ((rd_T61 l0 x3_1).f6) ((rd_T61 l0 x3_1).f7)) else (if (((rd_T61 l0 x3_1).f4).length : Int) > 6 then (spec_TracksOk.j1 k1 l0 x3_1 true ((rd_T61 l0 x3_1).f0) ((rd_T61 l0 x3_1).f1) ((rd_T61 l0 x3_1).f2) ((rd_T61 l0 x3_1).f3) ((rd_T61 l0 x3_1).f4) ((rd_T61 l0 x3_1).f5) ((rd_T61 l0 x3_1).f6) ((rd_T61 l0 x3_1).f7)) else (if (rd_T61 l0 x3_1).f3 = true then (if (((rd_T61 l0 x3_1).f4).length : Int) > 0 then (spec_TracksOk.j1 k1 l0 x3_1 true ((rd_T61 l0 x3_1).f0) ((rd_T61 l0 x3_1).f1) ((rd_T61 l0 x3_1).f2) ((rd_T61 l0 x3_1).f3) ((rd_T61 l0 x3_1).f4) ((rd_T61 l0 x3_1).f5) ((rd_T61 l0 x3_1).f6) ((rd_T61 l0 x3_1).f7)) else (spec_TracksOk.j1 k1 l0 x3_1 (decide ((((rd_T61 l0 x3_1).f5).length : Int) > 200)) ((rd_T61 l0 x3_1).f0) ((rd_T61 l0 x3_1).f1) ((rd_T61 l0 x3_1).f2) ((rd_T61 l0 x3_1).f3) ((rd_T61 l0 x3_1).f4) ((rd_T61 l0 x3_1).f5) ((rd_T61 l0 x3_1).f6) ((rd_T61 l0 x3_1).f7))) else (spec_TracksOk.j1 k1 l0 x3_1 (decide ((((rd_T61 l0 x3_1).f5).length : Int) > 200)) ((rd_T61 l0 x3_1).f0) ((rd_T61 l0 x3_1).f1) ((rd_T61 l0 x3_1).f2) ((rd_T61 l0 x3_1).f3) ((rd_T61 l0 x3_1).f4) ((rd_T61 l0 x3_1).f5) ((rd_T61 l0 x3_1).f6) ((rd_T61 l0 x3_1).f7))))))) else (spec_TracksOk.j1 k1 l0 x3_1 true ((rd_T61 l0 x3_1).f0) ((rd_T61 l0 x3_1).f1) ((rd_T61 l0 x3_1).f2) ((rd_T61 l0 x3_1).f3) ((rd_T61 l0 x3_1).f4) ((rd_T61 l0 x3_1).f5) ((rd_T61 l0 x3_1).f6) ((rd_T61 l0 x3_1).f7))) = some r := H
              have A8 := Aside0.mk A80
              clear A80
              by_cases c9 : t139 = true
              · subst c9
                have H1 : (if ((rd_T61 l0 x3_1).f1) < 1 then (spec_TracksOk.j1 k1 l0 x3_1 true ((rd_T61 l0 x3_1).f0) ((rd_T61 l0 x3_1).f1) ((rd_T61 l0 x3_1).f2) ((rd_T61 l0 x3_1).f3) ((rd_T61 l0 x3_1).f4) ((rd_T61 l0 x3_1).f5) ((rd_T61 l0 x3_1).f6) ((rd_T61 l0 x3_1).f7)) else (if ((rd_T61 l0 x3_1).f2) = 0 then (if (((rd_T61 l0 x3_1).f4).length : Int) > 6 then (spec_TracksOk.j1 k1 l0 x3_1 true ((rd_T61 l0 x3_1).f0) ((rd_T61 l0 x3_1).f1) ((rd_T61 l0 x3_1).f2) ((rd_T61 l0 x3_1).f3) ((rd_T61 l0 x3_1).f4) ((rd_T61 l0 x3_1).f5) ((rd_T61 l0 x3_1).f6) ((rd_T61 l0 x3_1).f7)) else (if (rd_T61 l0 x3_1).f3 = true then (if (((rd_T61 l0 x3_1).f4).length : Int) > 0 then (spec_TracksOk.j1 k1 l0 x3_1 true ((rd_T61 l0 x3_1).f0) ((rd_T61 l0 x3_1).f1) ((rd_T61 l0 x3_1).f2) ((rd_T61 l0 x3_1).f3) ((rd_T61 l0 x3_1).f4) ((rd_T61 l0 x3_1).f5) ((rd_T61 l0 x3_1).f6) ((rd_T61 l0 x3_1).f7)) else (spec_TracksOk.j1 k1 l0 x3_1 (decide ((((rd_T61 l0 x3_1).f5).length : Int) > 200)) ((rd_T61 l0 x3_1).f0) ((rd_T61 l0 x3_1).f1) ((rd_T61 l0 x3_1).f2) ((rd_T61 l0 x3_1).f3) ((rd_T61 l0 x3_1).f4) ((rd_T61 l0 x3_1).f5) ((rd_T61 l0 x3_1).f6) ((rd_T61 l0 x3_1).f7))) else (spec_TracksOk.j1 k1 l0 x3_1 (decide ((((rd_T61 l0 x3_1).f5).length : Int) > 200)) ((rd_T61 l0 x3_1).f0) ((rd_T61 l0 x3_1).f1) ((rd_T61 l0 x3_1).f2) ((rd_T61 l0 x3_1).f3) ((rd_T61 l0 x3_1).f4) ((rd_T61 l0 x3_1).f5) ((rd_T61 l0 x3_1).f6) ((rd_T61 l0 x3_1).f7)))) else (if ((rd_T61 l0 x3_1).f2) ≤ ((rd_T61 l0 x3_1).f1) then (spec_TracksOk.j1 k1 l0 x3_1 true ((rd_T61 l0 x3_1).f0) ((rd_T61 l0 x3_1).f1) ((rd_T61 l0 x3_1).f2) ((rd_T61 l0 x3_1).f3) ((rd_T61 l0 x3_1).f4) ((rd_T61 l0 x3_1).f5) ((rd_T61 l0 x3_1).f6) ((rd_T61 l0 x3_1).f7)) else (if (((rd_T61 l0 x3_1).f4).length : Int) > 6 then (spec_TracksOk.j1 k1 l0 x3_1 true ((rd_T61 l0 x3_1).f0) ((rd_T61 l0 x3_1).f1) ((rd_T61 l0 x3_1).f2) ((rd_T61 l0 x3_1).f3) ((rd_T61 l0 x3_1).f4) ((rd_T61 l0 x3_1).f5) ((rd_T61 l0 x3_1).f6) ((rd_T61 l0 x3_1).f7)) else (if (rd_T61 l0 x3_1).f3 = true then (if (((rd_T61 l0 x3_1).f4).length : Int) > 0 then (spec_TracksOk.j1 k1 l0 x3_1 true ((rd_T61 l0 x3_1).f0) ((rd_T61 l0 x3_1).f1) ((rd_T61 l0 x3_1).f2) ((rd_T61 l0 x3_1).f3) ((rd_T61 l0 x3_1).f4) ((rd_T61 l0 x3_1).f5) ((rd_T61 l0 x3_1).f6) ((rd_T61 l0 x3_1).f7)) else (spec_TracksOk.j1 k1 l0 x3_1 (decide ((((rd_T61 l0 x3_1).f5).length : Int) > 200)) ((rd_T61 l0 x3_1).f0) ((rd_T61 l0 x3_1).f1) ((rd_T61 l0 x3_1).f2) ((rd_T61 l0 x3_1).f3) ((rd_T61 l0 x3_1).f4) ((rd_T61 l0 x3_1).f5) ((rd_T61 l0 x3_1).f6) ((rd_T61 l0 x3_1).f7))) else (spec_TracksOk.j1 k1 l0 x3_1 (decide ((((rd_T61 l0 x3_1).f5).length : Int) > 200)) ((rd_T61 l0 x3_1).f0) ((rd_T61 l0 x3_1).f1) ((rd_T61 l0 x3_1).f2) ((rd_T61 l0 x3_1).f3) ((rd_T61 l0 x3_1).f4) ((rd_T61 l0 x3_1).f5) ((rd_T61 l0 x3_1).f6) ((rd_T61 l0 x3_1).f7))))))) = some r := by rw [if_pos rfl] at H; exact H
                clear H
                have H := H1
                clear H1
                by_cases c10 : ((rd_T61 l0 x3_1).f1) < 1
                · rw [if_pos c10] at H
                  have c10b0 : decide (((rd_T61 l0 x3_1).f1) < 1) = true := decide_eq_true c10
                  clear c10
                  (first | rw [c10b0] | (simp only [i64_w, i32_w]; rw [c10b0]) | skip)
                  have H' := Aside0.mk H
                  clear H
                  have hcz11_0 : w6.cell? ⟨gb138, 0, none⟩ = some (.int .i64 0) := (blk_cell BK138.out 0).trans rfl
                  have hcz11_1 : w6.cell? ⟨gb138, 1, none⟩ = some (.int .i64 0) := (blk_cell BK138.out 1).trans rfl
                  have hcz11_2 : w6.cell? ⟨gb138, 2, none⟩ = some (.int .i64 0) := (blk_cell BK138.out 2).trans rfl
                  have hcz11_3 : w6.cell? ⟨gb138, 3, none⟩ = some (.bool false) := (blk_cell BK138.out 3).trans rfl
                  have hcz11_4 : w6.cell? ⟨gb138, 4, none⟩ = some (.slice none 0 0) := (blk_cell BK138.out 4).trans rfl
                  have hcz11_5 : w6.cell? ⟨gb138, 5, none⟩ = some (.slice none 0 0) := (blk_cell BK138.out 5).trans rfl
                  have hcz11_6 : w6.cell? ⟨gb138, 6, none⟩ = some (.bool false) := (blk_cell BK138.out 6).trans rfl
                  have hcz11_7 : w6.cell? ⟨gb138, 7, none⟩ = some (.bool false) := (blk_cell BK138.out 7).trans rfl
                  have hfz11_0 := blk_frozen BK138.out 0
                  have hfz11_1 := blk_frozen BK138.out 1
                  have hfz11_2 := blk_frozen BK138.out 2
                  have hfz11_3 := blk_frozen BK138.out 3
                  have hfz11_4 := blk_frozen BK138.out 4
                  have hfz11_5 := blk_frozen BK138.out 5
                  have hfz11_6 := blk_frozen BK138.out 6
                  have hfz11_7 := blk_frozen BK138.out 7
                  go_wp2_with (first | (go_at_call 75; (with_reducible refine (spec_l5in.calls ((rd_T61 l0 x3_1).f0) 1 400 true _ A8.out).mono ?_); rintro e w' ⟨rfl, ⟨nd, rfl⟩⟩; (try first | exact ⟨rfl, _, World.drewN_drewN _ _ _⟩ | exact ⟨rfl, _, Eq.trans (World.drewN_drewN _ _ _) (congrArg (World.drewN _) (Nat.add_assoc _ _ _))⟩)))
                  repeat (go_quiet (first | (go_at_call 75; (with_reducible refine (spec_l5in.calls ((rd_T61 l0 x3_1).f0) 1 400 true _ A8.out).mono ?_); rintro e w' ⟨rfl, ⟨nd, rfl⟩⟩; (try first | exact ⟨rfl, _, World.drewN_drewN _ _ _⟩ | exact ⟨rfl, _, Eq.trans (World.drewN_drewN _ _ _) (congrArg (World.drewN _) (Nat.add_assoc _ _ _))⟩))); try go_wp2_with (first | (go_at_call 75; (with_reducible refine (spec_l5in.calls ((rd_T61 l0 x3_1).f0) 1 400 true _ A8.out).mono ?_); rintro e w' ⟨rfl, ⟨nd, rfl⟩⟩; (try first | exact ⟨rfl, _, World.drewN_drewN _ _ _⟩ | exact ⟨rfl, _, Eq.trans (World.drewN_drewN _ _ _) (congrArg (World.drewN _) (Nat.add_assoc _ _ _))⟩))))
                  go_meet
                  case rel => (try simp only [← Nbq15.out]); (try simp only [← Nbq25.out]); exact ⟨_, (true), (by first | rfl | (simp; done) | (simp [*]; done)), H', ⟨by have := HK1.out; first | omega | exact Nat.le_refl _⟩, ⟨by (with_reducible repeat (first | refine blk_drewN ?_ _ | refine blk_drew ?_ | refine blk_alloc ?_ _)); refine blk_put (cs := #[.int .i64 ((rd_T61 l0 x3_1).f0), .int .i64 ((rd_T61 l0 x3_1).f1), .int .i64 ((rd_T61 l0 x3_1).f2), .bool ((rd_T61 l0 x3_1).f3), .slice A137_4 ((rd_T61 l0 x3_1).f4).length c137_4, .slice A137_5 ((rd_T61 l0 x3_1).f5).length c137_5, .bool ((rd_T61 l0 x3_1).f6), .bool false]) ?_ 7 _ rfl; (with_reducible repeat (first | refine blk_drewN ?_ _ | refine blk_drew ?_ | refine blk_alloc ?_ _)); refine blk_put (cs := #[.int .i64 ((rd_T61 l0 x3_1).f0), .int .i64 ((rd_T61 l0 x3_1).f1), .int .i64 ((rd_T61 l0 x3_1).f2), .bool ((rd_T61 l0 x3_1).f3), .slice A137_4 ((rd_T61 l0 x3_1).f4).length c137_4, .slice A137_5 ((rd_T61 l0 x3_1).f5).length c137_5, .bool false, .bool false]) ?_ 6 _ rfl; (with_reducible repeat (first | refine blk_drewN ?_ _ | refine blk_drew ?_ | refine blk_alloc ?_ _)); refine blk_put (cs := #[.int .i64 ((rd_T61 l0 x3_1).f0), .int .i64 ((rd_T61 l0 x3_1).f1), .int .i64 ((rd_T61 l0 x3_1).f2), .bool ((rd_T61 l0 x3_1).f3), .slice A137_4 ((rd_T61 l0 x3_1).f4).length c137_4, .slice none 0 0, .bool false, .bool false]) ?_ 5 _ rfl; (with_reducible repeat (first | refine blk_drewN ?_ _ | refine blk_drew ?_ | refine blk_alloc ?_ _)); refine blk_put (cs := #[.int .i64 ((rd_T61 l0 x3_1).f0), .int .i64 ((rd_T61 l0 x3_1).f1), .int .i64 ((rd_T61 l0 x3_1).f2), .bool ((rd_T61 l0 x3_1).f3), .slice none 0 0, .slice none 0 0, .bool false, .bool false]) ?_ 4 _ rfl; (with_reducible repeat (first | refine blk_drewN ?_ _ | refine blk_drew ?_ | refine blk_alloc ?_ _)); refine blk_put (cs := #[.int .i64 ((rd_T61 l0 x3_1).f0), .int .i64 ((rd_T61 l0 x3_1).f1), .int .i64 ((rd_T61 l0 x3_1).f2), .bool false, .slice none 0 0, .slice none 0 0, .bool false, .bool false]) ?_ 3 _ rfl; (with_reducible repeat (first | refine blk_drewN ?_ _ | refine blk_drew ?_ | refine blk_alloc ?_ _)); refine blk_put (cs := #[.int .i64 ((rd_T61 l0 x3_1).f0), .int .i64 ((rd_T61 l0 x3_1).f1), .int .i64 0, .bool false, .slice none 0 0, .slice none 0 0, .bool false, .bool false]) ?_ 2 _ rfl; (with_reducible repeat (first | refine blk_drewN ?_ _ | refine blk_drew ?_ | refine blk_alloc ?_ _)); refine blk_put (cs := #[.int .i64 ((rd_T61 l0 x3_1).f0), .int .i64 0, .int .i64 0, .bool false, .slice none 0 0, .slice none 0 0, .bool false, .bool false]) ?_ 1 _ rfl; (with_reducible repeat (first | refine blk_drewN ?_ _ | refine blk_drew ?_ | refine blk_alloc ?_ _)); refine blk_put (cs := #[.int .i64 0, .int .i64 0, .int .i64 0, .bool false, .slice none 0 0, .slice none 0 0, .bool false, .bool false]) ?_ 0 _ rfl; (with_reducible repeat (first | refine blk_drewN ?_ _ | refine blk_drew ?_ | refine blk_alloc ?_ _)); exact BK138.out⟩, ⟨by repeat (first | (with_reducible first | exact HB.out | apply below_alloc | apply pw_below_drewN | apply below_drew1 | refine below_set ?_ GE138.out) | exact HB.out)⟩⟩
                · rw [if_neg c10] at H
                  have c10b0 : decide (((rd_T61 l0 x3_1).f1) < 1) = false := decide_eq_false c10
                  clear c10
                  (first | rw [c10b0] | (simp only [i64_w, i32_w]; rw [c10b0]) | skip)
                  by_cases c12 : ((rd_T61 l0 x3_1).f2) = 0
                  · rw [if_pos c12] at H
                    have c12b0 : (((rd_T61 l0 x3_1).f2) == 0) = true := beq_iff_eq.mpr c12
                    have c12b1 : (((rd_T61 l0 x3_1).f2) != 0) = false := bne_eq_false_iff_eq.mpr c12
                    clear c12
                    by_cases c13 : (((rd_T61 l0 x3_1).f4).length : Int) > 6
                    · rw [if_pos c13] at H
                      have c13b0 : decide (6 < (((rd_T61 l0 x3_1).f4).length : Int)) = true := decide_eq_true c13
                      have c13b1 : decide (6 < ((rd_T61 l0 x3_1).f4).length) = true := decide_eq_true (by omega)
                      clear c13
                      have H' := Aside0.mk H
                      clear H
                      have hcz14_0 : w6.cell? ⟨gb138, 0, none⟩ = some (.int .i64 0) := (blk_cell BK138.out 0).trans rfl
                      have hcz14_1 : w6.cell? ⟨gb138, 1, none⟩ = some (.int .i64 0) := (blk_cell BK138.out 1).trans rfl
                      have hcz14_2 : w6.cell? ⟨gb138, 2, none⟩ = some (.int .i64 0) := (blk_cell BK138.out 2).trans rfl
                      have hcz14_3 : w6.cell? ⟨gb138, 3, none⟩ = some (.bool false) := (blk_cell BK138.out 3).trans rfl
                      have hcz14_4 : w6.cell? ⟨gb138, 4, none⟩ = some (.slice none 0 0) := (blk_cell BK138.out 4).trans rfl
                      have hcz14_5 : w6.cell? ⟨gb138, 5, none⟩ = some (.slice none 0 0) := (blk_cell BK138.out 5).trans rfl
                      have hcz14_6 : w6.cell? ⟨gb138, 6, none⟩ = some (.bool false) := (blk_cell BK138.out 6).trans rfl
                      have hcz14_7 : w6.cell? ⟨gb138, 7, none⟩ = some (.bool false) := (blk_cell BK138.out 7).trans rfl
                      have hfz14_0 := blk_frozen BK138.out 0
                      have hfz14_1 := blk_frozen BK138.out 1
                      have hfz14_2 := blk_frozen BK138.out 2
                      have hfz14_3 := blk_frozen BK138.out 3
                      have hfz14_4 := blk_frozen BK138.out 4
                      have hfz14_5 := blk_frozen BK138.out 5
                      have hfz14_6 := blk_frozen BK138.out 6
                      have hfz14_7 := blk_frozen BK138.out 7
                      go_wp2_with (first | (go_at_call 75; (with_reducible refine (spec_l5in.calls ((rd_T61 l0 x3_1).f0) 1 400 true _ A8.out).mono ?_); rintro e w' ⟨rfl, ⟨nd, rfl⟩⟩; (try first | exact ⟨rfl, _, World.drewN_drewN _ _ _⟩ | exact ⟨rfl, _, Eq.trans (World.drewN_drewN _ _ _) (congrArg (World.drewN _) (Nat.add_assoc _ _ _))⟩)))
                      repeat (go_quiet (first | (go_at_call 75; (with_reducible refine (spec_l5in.calls ((rd_T61 l0 x3_1).f0) 1 400 true _ A8.out).mono ?_); rintro e w' ⟨rfl, ⟨nd, rfl⟩⟩; (try first | exact ⟨rfl, _, World.drewN_drewN _ _ _⟩ | exact ⟨rfl, _, Eq.trans (World.drewN_drewN _ _ _) (congrArg (World.drewN _) (Nat.add_assoc _ _ _))⟩))); try go_wp2_with (first | (go_at_call 75; (with_reducible refine (spec_l5in.calls ((rd_T61 l0 x3_1).f0) 1 400 true _ A8.out).mono ?_); rintro e w' ⟨rfl, ⟨nd, rfl⟩⟩; (try first | exact ⟨rfl, _, World.drewN_drewN _ _ _⟩ | exact ⟨rfl, _, Eq.trans (World.drewN_drewN _ _ _) (congrArg (World.drewN _) (Nat.add_assoc _ _ _))⟩))))
                      go_meet
                      case rel => (try simp only [← Nbq15.out]); (try simp only [← Nbq25.out]); exact ⟨_, (true), (by first | rfl | (simp; done) | (simp [*]; done)), H', ⟨by have := HK1.out; first | omega | exact Nat.le_refl _⟩, ⟨by (with_reducible repeat (first | refine blk_drewN ?_ _ | refine blk_drew ?_ | refine blk_alloc ?_ _)); refine blk_put (cs := #[.int .i64 ((rd_T61 l0 x3_1).f0), .int .i64 ((rd_T61 l0 x3_1).f1), .int .i64 ((rd_T61 l0 x3_1).f2), .bool ((rd_T61 l0 x3_1).f3), .slice A137_4 ((rd_T61 l0 x3_1).f4).length c137_4, .slice A137_5 ((rd_T61 l0 x3_1).f5).length c137_5, .bool ((rd_T61 l0 x3_1).f6), .bool false]) ?_ 7 _ rfl; (with_reducible repeat (first | refine blk_drewN ?_ _ | refine blk_drew ?_ | refine blk_alloc ?_ _)); refine blk_put (cs := #[.int .i64 ((rd_T61 l0 x3_1).f0), .int .i64 ((rd_T61 l0 x3_1).f1), .int .i64 ((rd_T61 l0 x3_1).f2), .bool ((rd_T61 l0 x3_1).f3), .slice A137_4 ((rd_T61 l0 x3_1).f4).length c137_4, .slice A137_5 ((rd_T61 l0 x3_1).f5).length c137_5, .bool false, .bool false]) ?_ 6 _ rfl; (with_reducible repeat (first | refine blk_drewN ?_ _ | refine blk_drew ?_ | refine blk_alloc ?_ _)); refine blk_put (cs := #[.int .i64 ((rd_T61 l0 x3_1).f0), .int .i64 ((rd_T61 l0 x3_1).f1), .int .i64 ((rd_T61 l0 x3_1).f2), .bool ((rd_T61 l0 x3_1).f3), .slice A137_4 ((rd_T61 l0 x3_1).f4).length c137_4, .slice none 0 0, .bool false, .bool false]) ?_ 5 _ rfl; (with_reducible repeat (first | refine blk_drewN ?_ _ | refine blk_drew ?_ | refine blk_alloc ?_ _)); refine blk_put (cs := #[.int .i64 ((rd_T61 l0 x3_1).f0), .int .i64 ((rd_T61 l0 x3_1).f1), .int .i64 ((rd_T61 l0 x3_1).f2), .bool ((rd_T61 l0 x3_1).f3), .slice none 0 0, .slice none 0 0, .bool false, .bool false]) ?_ 4 _ rfl; (with_reducible repeat (first | refine blk_drewN ?_ _ | refine blk_drew ?_ | refine blk_alloc ?_ _)); refine blk_put (cs := #[.int .i64 ((rd_T61 l0 x3_1).f0), .int .i64 ((rd_T61 l0 x3_1).f1), .int .i64 ((rd_T61 l0 x3_1).f2), .bool false, .slice none 0 0, .slice none 0 0, .bool false, .bool false]) ?_ 3 _ rfl; (with_reducible repeat (first | refine blk_drewN ?_ _ | refine blk_drew ?_ | refine blk_alloc ?_ _)); refine blk_put (cs := #[.int .i64 ((rd_T61 l0 x3_1).f0), .int .i64 ((rd_T61 l0 x3_1).f1), .int .i64 0, .bool false, .slice none 0 0, .slice none 0 0, .bool false, .bool false]) ?_ 2 _ rfl; (with_reducible repeat (first | refine blk_drewN ?_ _ | refine blk_drew ?_ | refine blk_alloc ?_ _)); refine blk_put (cs := #[.int .i64 ((rd_T61 l0 x3_1).f0), .int .i64 0, .int .i64 0, .bool false, .slice none 0 0, .slice none 0 0, .bool false, .bool false]) ?_ 1 _ rfl; (with_reducible repeat (first | refine blk_drewN ?_ _ | refine blk_drew ?_ | refine blk_alloc ?_ _)); refine blk_put (cs := #[.int .i64 0, .int .i64 0, .int .i64 0, .bool false, .slice none 0 0, .slice none 0 0, .bool false, .bool false]) ?_ 0 _ rfl; (with_reducible repeat (first | refine blk_drewN ?_ _ | refine blk_drew ?_ | refine blk_alloc ?_ _)); exact BK138.out⟩, ⟨by repeat (first | (with_reducible first | exact HB.out | apply below_alloc | apply pw_below_drewN | apply below_drew1 | refine below_set ?_ GE138.out) | exact HB.out)⟩⟩
                    · rw [if_neg c13] at H
                      have c13b0 : decide (6 < (((rd_T61 l0 x3_1).f4).length : Int)) = false := decide_eq_false c13
                      have c13b1 : decide (6 < ((rd_T61 l0 x3_1).f4).length) = false := decide_eq_false (by omega)
                      clear c13
                      obtain ⟨bq15, hbq15⟩ : ∃ b_ : Bool, b_ = ((rd_T61 l0 x3_1).f3) := ⟨_, rfl⟩
                      replace H : (if bq15 = true then (if (((rd_T61 l0 x3_1).f4).length : Int) > 0 then (spec_TracksOk.j1 k1 l0 x3_1 true ((rd_T61 l0 x3_1).f0) ((rd_T61 l0 x3_1).f1) ((rd_T61 l0 x3_1).f2) bq15 ((rd_T61 l0 x3_1).f4) ((rd_T61 l0 x3_1).f5) ((rd_T61 l0 x3_1).f6) ((rd_T61 l0 x3_1).f7)) else (spec_TracksOk.j1 k1 l0 x3_1 (decide ((((rd_T61 l0 x3_1).f5).length : Int) > 200)) ((rd_T61 l0 x3_1).f0) ((rd_T61 l0 x3_1).f1) ((rd_T61 l0 x3_1).f2) bq15 ((rd_T61 l0 x3_1).f4) ((rd_T61 l0 x3_1).f5) ((rd_T61 l0 x3_1).f6) ((rd_T61 l0 x3_1).f7))) else (spec_TracksOk.j1 k1 l0 x3_1 (decide ((((rd_T61 l0 x3_1).f5).length : Int) > 200)) ((rd_T61 l0 x3_1).f0) ((rd_T61 l0 x3_1).f1) ((rd_T61 l0 x3_1).f2) bq15 ((rd_T61 l0 x3_1).f4) ((rd_T61 l0 x3_1).f5) ((rd_T61 l0 x3_1).f6) ((rd_T61 l0 x3_1).f7))) = some r := by rw [← hbq15] at H; exact H
                      have Nbq15 := Aside0.mk hbq15
                      clear hbq15
                      by_cases c16 : bq15 = true
                      · subst c16
                        have hv_bq15 := Nbq15.out.symm
                        have H1 : (if (((rd_T61 l0 x3_1).f4).length : Int) > 0 then (spec_TracksOk.j1 k1 l0 x3_1 true ((rd_T61 l0 x3_1).f0) ((rd_T61 l0 x3_1).f1) ((rd_T61 l0 x3_1).f2) true ((rd_T61 l0 x3_1).f4) ((rd_T61 l0 x3_1).f5) ((rd_T61 l0 x3_1).f6) ((rd_T61 l0 x3_1).f7)) else (spec_TracksOk.j1 k1 l0 x3_1 (decide ((((rd_T61 l0 x3_1).f5).length : Int) > 200)) ((rd_T61 l0 x3_1).f0) ((rd_T61 l0 x3_1).f1) ((rd_T61 l0 x3_1).f2) true ((rd_T61 l0 x3_1).f4) ((rd_T61 l0 x3_1).f5) ((rd_T61 l0 x3_1).f6) ((rd_T61 l0 x3_1).f7))) = some r := by rw [if_pos rfl] at H; exact H
                        clear H
                        have H := H1
                        clear H1
                        by_cases c17 : (((rd_T61 l0 x3_1).f4).length : Int) > 0
                        · rw [if_pos c17] at H
                          have c17b0 : decide (0 < (((rd_T61 l0 x3_1).f4).length : Int)) = true := decide_eq_true c17
                          have c17b1 : decide (0 < ((rd_T61 l0 x3_1).f4).length) = true := decide_eq_true (by omega)
                          clear c17
                          have H' := Aside0.mk H
                          clear H
                          have hcz18_0 : w6.cell? ⟨gb138, 0, none⟩ = some (.int .i64 0) := (blk_cell BK138.out 0).trans rfl
                          have hcz18_1 : w6.cell? ⟨gb138, 1, none⟩ = some (.int .i64 0) := (blk_cell BK138.out 1).trans rfl
                          have hcz18_2 : w6.cell? ⟨gb138, 2, none⟩ = some (.int .i64 0) := (blk_cell BK138.out 2).trans rfl
                          have hcz18_3 : w6.cell? ⟨gb138, 3, none⟩ = some (.bool false) := (blk_cell BK138.out 3).trans rfl
                          have hcz18_4 : w6.cell? ⟨gb138, 4, none⟩ = some (.slice none 0 0) := (blk_cell BK138.out 4).trans rfl
                          have hcz18_5 : w6.cell? ⟨gb138, 5, none⟩ = some (.slice none 0 0) := (blk_cell BK138.out 5).trans rfl
                          have hcz18_6 : w6.cell? ⟨gb138, 6, none⟩ = some (.bool false) := (blk_cell BK138.out 6).trans rfl
                          have hcz18_7 : w6.cell? ⟨gb138, 7, none⟩ = some (.bool false) := (blk_cell BK138.out 7).trans rfl
                          have hfz18_0 := blk_frozen BK138.out 0
                          have hfz18_1 := blk_frozen BK138.out 1
                          have hfz18_2 := blk_frozen BK138.out 2
                          have hfz18_3 := blk_frozen BK138.out 3
                          have hfz18_4 := blk_frozen BK138.out 4
                          have hfz18_5 := blk_frozen BK138.out 5
                          have hfz18_6 := blk_frozen BK138.out 6
                          have hfz18_7 := blk_frozen BK138.out 7
                          go_wp2_with (first | (go_at_call 75; (with_reducible refine (spec_l5in.calls ((rd_T61 l0 x3_1).f0) 1 400 true _ A8.out).mono ?_); rintro e w' ⟨rfl, ⟨nd, rfl⟩⟩; (try first | exact ⟨rfl, _, World.drewN_drewN _ _ _⟩ | exact ⟨rfl, _, Eq.trans (World.drewN_drewN _ _ _) (congrArg (World.drewN _) (Nat.add_assoc _ _ _))⟩)))
                          repeat (go_quiet (first | (go_at_call 75; (with_reducible refine (spec_l5in.calls ((rd_T61 l0 x3_1).f0) 1 400 true _ A8.out).mono ?_); rintro e w' ⟨rfl, ⟨nd, rfl⟩⟩; (try first | exact ⟨rfl, _, World.drewN_drewN _ _ _⟩ | exact ⟨rfl, _, Eq.trans (World.drewN_drewN _ _ _) (congrArg (World.drewN _) (Nat.add_assoc _ _ _))⟩))); try go_wp2_with (first | (go_at_call 75; (with_reducible refine (spec_l5in.calls ((rd_T61 l0 x3_1).f0) 1 400 true _ A8.out).mono ?_); rintro e w' ⟨rfl, ⟨nd, rfl⟩⟩; (try first | exact ⟨rfl, _, World.drewN_drewN _ _ _⟩ | exact ⟨rfl, _, Eq.trans (World.drewN_drewN _ _ _) (congrArg (World.drewN _) (Nat.add_assoc _ _ _))⟩))))
                          go_meet
                          case rel => (try simp only [← Nbq15.out]); (try simp only [← Nbq25.out]); exact ⟨_, (true), (by first | rfl | (simp; done) | (simp [*]; done)), H', ⟨by have := HK1.out; first | omega | exact Nat.le_refl _⟩, ⟨by (with_reducible repeat (first | refine blk_drewN ?_ _ | refine blk_drew ?_ | refine blk_alloc ?_ _)); refine blk_put (cs := #[.int .i64 ((rd_T61 l0 x3_1).f0), .int .i64 ((rd_T61 l0 x3_1).f1), .int .i64 ((rd_T61 l0 x3_1).f2), .bool (true), .slice A137_4 ((rd_T61 l0 x3_1).f4).length c137_4, .slice A137_5 ((rd_T61 l0 x3_1).f5).length c137_5, .bool ((rd_T61 l0 x3_1).f6), .bool false]) ?_ 7 _ rfl; (with_reducible repeat (first | refine blk_drewN ?_ _ | refine blk_drew ?_ | refine blk_alloc ?_ _)); refine blk_put (cs := #[.int .i64 ((rd_T61 l0 x3_1).f0), .int .i64 ((rd_T61 l0 x3_1).f1), .int .i64 ((rd_T61 l0 x3_1).f2), .bool (true), .slice A137_4 ((rd_T61 l0 x3_1).f4).length c137_4, .slice A137_5 ((rd_T61 l0 x3_1).f5).length c137_5, .bool false, .bool false]) ?_ 6 _ rfl; (with_reducible repeat (first | refine blk_drewN ?_ _ | refine blk_drew ?_ | refine blk_alloc ?_ _)); refine blk_put (cs := #[.int .i64 ((rd_T61 l0 x3_1).f0), .int .i64 ((rd_T61 l0 x3_1).f1), .int .i64 ((rd_T61 l0 x3_1).f2), .bool (true), .slice A137_4 ((rd_T61 l0 x3_1).f4).length c137_4, .slice none 0 0, .bool false, .bool false]) ?_ 5 _ rfl; (with_reducible repeat (first | refine blk_drewN ?_ _ | refine blk_drew ?_ | refine blk_alloc ?_ _)); refine blk_put (cs := #[.int .i64 ((rd_T61 l0 x3_1).f0), .int .i64 ((rd_T61 l0 x3_1).f1), .int .i64 ((rd_T61 l0 x3_1).f2), .bool (true), .slice none 0 0, .slice none 0 0, .bool false, .bool false]) ?_ 4 _ rfl; (with_reducible repeat (first | refine blk_drewN ?_ _ | refine blk_drew ?_ | refine blk_alloc ?_ _)); refine blk_put (cs := #[.int .i64 ((rd_T61 l0 x3_1).f0), .int .i64 ((rd_T61 l0 x3_1).f1), .int .i64 ((rd_T61 l0 x3_1).f2), .bool false, .slice none 0 0, .slice none 0 0, .bool false, .bool false]) ?_ 3 _ rfl; (with_reducible repeat (first | refine blk_drewN ?_ _ | refine blk_drew ?_ | refine blk_alloc ?_ _)); refine blk_put (cs := #[.int .i64 ((rd_T61 l0 x3_1).f0), .int .i64 ((rd_T61 l0 x3_1).f1), .int .i64 0, .bool false, .slice none 0 0, .slice none 0 0, .bool false, .bool false]) ?_ 2 _ rfl; (with_reducible repeat (first | refine blk_drewN ?_ _ | refine blk_drew ?_ | refine blk_alloc ?_ _)); refine blk_put (cs := #[.int .i64 ((rd_T61 l0 x3_1).f0), .int .i64 0, .int .i64 0, .bool false, .slice none 0 0, .slice none 0 0, .bool false, .bool false]) ?_ 1 _ rfl; (with_reducible repeat (first | refine blk_drewN ?_ _ | refine blk_drew ?_ | refine blk_alloc ?_ _)); refine blk_put (cs := #[.int .i64 0, .int .i64 0, .int .i64 0, .bool false, .slice none 0 0, .slice none 0 0, .bool false, .bool false]) ?_ 0 _ rfl; (with_reducible repeat (first | refine blk_drewN ?_ _ | refine blk_drew ?_ | refine blk_alloc ?_ _)); exact BK138.out⟩, ⟨by repeat (first | (with_reducible first | exact HB.out | apply below_alloc | apply pw_below_drewN | apply below_drew1 | refine below_set ?_ GE138.out) | exact HB.out)⟩⟩
                        · rw [if_neg c17] at H
                          have c17b0 : decide (0 < (((rd_T61 l0 x3_1).f4).length : Int)) = false := decide_eq_false c17
                          have c17b1 : decide (0 < ((rd_T61 l0 x3_1).f4).length) = false := decide_eq_false (by omega)
                          clear c17
                          have H' := Aside0.mk H
                          clear H
                          have hcz19_0 : w6.cell? ⟨gb138, 0, none⟩ = some (.int .i64 0) := (blk_cell BK138.out 0).trans rfl
                          have hcz19_1 : w6.cell? ⟨gb138, 1, none⟩ = some (.int .i64 0) := (blk_cell BK138.out 1).trans rfl
                          have hcz19_2 : w6.cell? ⟨gb138, 2, none⟩ = some (.int .i64 0) := (blk_cell BK138.out 2).trans rfl
                          have hcz19_3 : w6.cell? ⟨gb138, 3, none⟩ = some (.bool false) := (blk_cell BK138.out 3).trans rfl
                          have hcz19_4 : w6.cell? ⟨gb138, 4, none⟩ = some (.slice none 0 0) := (blk_cell BK138.out 4).trans rfl
                          have hcz19_5 : w6.cell? ⟨gb138, 5, none⟩ = some (.slice none 0 0) := (blk_cell BK138.out 5).trans rfl
                          have hcz19_6 : w6.cell? ⟨gb138, 6, none⟩ = some (.bool false) := (blk_cell BK138.out 6).trans rfl
                          have hcz19_7 : w6.cell? ⟨gb138, 7, none⟩ = some (.bool false) := (blk_cell BK138.out 7).trans rfl
                          have hfz19_0 := blk_frozen BK138.out 0
                          have hfz19_1 := blk_frozen BK138.out 1
                          have hfz19_2 := blk_frozen BK138.out 2
                          have hfz19_3 := blk_frozen BK138.out 3
                          have hfz19_4 := blk_frozen BK138.out 4
                          have hfz19_5 := blk_frozen BK138.out 5
                          have hfz19_6 := blk_frozen BK138.out 6
                          have hfz19_7 := blk_frozen BK138.out 7
                          go_wp2_with (first | (go_at_call 75; (with_reducible refine (spec_l5in.calls ((rd_T61 l0 x3_1).f0) 1 400 true _ A8.out).mono ?_); rintro e w' ⟨rfl, ⟨nd, rfl⟩⟩; (try first | exact ⟨rfl, _, World.drewN_drewN _ _ _⟩ | exact ⟨rfl, _, Eq.trans (World.drewN_drewN _ _ _) (congrArg (World.drewN _) (Nat.add_assoc _ _ _))⟩)))
                          repeat (go_quiet (first | (go_at_call 75; (with_reducible refine (spec_l5in.calls ((rd_T61 l0 x3_1).f0) 1 400 true _ A8.out).mono ?_); rintro e w' ⟨rfl, ⟨nd, rfl⟩⟩; (try first | exact ⟨rfl, _, World.drewN_drewN _ _ _⟩ | exact ⟨rfl, _, Eq.trans (World.drewN_drewN _ _ _) (congrArg (World.drewN _) (Nat.add_assoc _ _ _))⟩))); try go_wp2_with (first | (go_at_call 75; (with_reducible refine (spec_l5in.calls ((rd_T61 l0 x3_1).f0) 1 400 true _ A8.out).mono ?_); rintro e w' ⟨rfl, ⟨nd, rfl⟩⟩; (try first | exact ⟨rfl, _, World.drewN_drewN _ _ _⟩ | exact ⟨rfl, _, Eq.trans (World.drewN_drewN _ _ _) (congrArg (World.drewN _) (Nat.add_assoc _ _ _))⟩))))
                          go_meet
                          case rel => (try simp only [← Nbq15.out]); (try simp only [← Nbq25.out]); exact ⟨_, (decide ((((rd_T61 l0 x3_1).f5).length : Int) > 200)), (by first | rfl | (simp; done) | (simp [*]; done)), H', ⟨by have := HK1.out; first | omega | exact Nat.le_refl _⟩, ⟨by (with_reducible repeat (first | refine blk_drewN ?_ _ | refine blk_drew ?_ | refine blk_alloc ?_ _)); refine blk_put (cs := #[.int .i64 ((rd_T61 l0 x3_1).f0), .int .i64 ((rd_T61 l0 x3_1).f1), .int .i64 ((rd_T61 l0 x3_1).f2), .bool (true), .slice A137_4 ((rd_T61 l0 x3_1).f4).length c137_4, .slice A137_5 ((rd_T61 l0 x3_1).f5).length c137_5, .bool ((rd_T61 l0 x3_1).f6), .bool false]) ?_ 7 _ rfl; (with_reducible repeat (first | refine blk_drewN ?_ _ | refine blk_drew ?_ | refine blk_alloc ?_ _)); refine blk_put (cs := #[.int .i64 ((rd_T61 l0 x3_1).f0), .int .i64 ((rd_T61 l0 x3_1).f1), .int .i64 ((rd_T61 l0 x3_1).f2), .bool (true), .slice A137_4 ((rd_T61 l0 x3_1).f4).length c137_4, .slice A137_5 ((rd_T61 l0 x3_1).f5).length c137_5, .bool false, .bool false]) ?_ 6 _ rfl; (with_reducible repeat (first | refine blk_drewN ?_ _ | refine blk_drew ?_ | refine blk_alloc ?_ _)); refine blk_put (cs := #[.int .i64 ((rd_T61 l0 x3_1).f0), .int .i64 ((rd_T61 l0 x3_1).f1), .int .i64 ((rd_T61 l0 x3_1).f2), .bool (true), .slice A137_4 ((rd_T61 l0 x3_1).f4).length c137_4, .slice none 0 0, .bool false, .bool false]) ?_ 5 _ rfl; (with_reducible repeat (first | refine blk_drewN ?_ _ | refine blk_drew ?_ | refine blk_alloc ?_ _)); refine blk_put (cs := #[.int .i64 ((rd_T61 l0 x3_1).f0), .int .i64 ((rd_T61 l0 x3_1).f1), .int .i64 ((rd_T61 l0 x3_1).f2), .bool (true), .slice none 0 0, .slice none 0 0, .bool false, .bool false]) ?_ 4 _ rfl; (with_reducible repeat (first | refine blk_drewN ?_ _ | refine blk_drew ?_ | refine blk_alloc ?_ _)); refine blk_put (cs := #[.int .i64 ((rd_T61 l0 x3_1).f0), .int .i64 ((rd_T61 l0 x3_1).f1), .int .i64 ((rd_T61 l0 x3_1).f2), .bool false, .slice none 0 0, .slice none 0 0, .bool false, .bool false]) ?_ 3 _ rfl; (with_reducible repeat (first | refine blk_drewN ?_ _ | refine blk_drew ?_ | refine blk_alloc ?_ _)); refine blk_put (cs := #[.int .i64 ((rd_T61 l0 x3_1).f0), .int .i64 ((rd_T61 l0 x3_1).f1), .int .i64 0, .bool false, .slice none 0 0, .slice none 0 0, .bool false, .bool false]) ?_ 2 _ rfl; (with_reducible repeat (first | refine blk_drewN ?_ _ | refine blk_drew ?_ | refine blk_alloc ?_ _)); refine blk_put (cs := #[.int .i64 ((rd_T61 l0 x3_1).f0), .int .i64 0, .int .i64 0, .bool false, .slice none 0 0, .slice none 0 0, .bool false, .bool false]) ?_ 1 _ rfl; (with_reducible repeat (first | refine blk_drewN ?_ _ | refine blk_drew ?_ | refine blk_alloc ?_ _)); refine blk_put (cs := #[.int .i64 0, .int .i64 0, .int .i64 0, .bool false, .slice none 0 0, .slice none 0 0, .bool false, .bool false]) ?_ 0 _ rfl; (with_reducible repeat (first | refine blk_drewN ?_ _ | refine blk_drew ?_ | refine blk_alloc ?_ _)); exact BK138.out⟩, ⟨by repeat (first | (with_reducible first | exact HB.out | apply below_alloc | apply pw_below_drewN | apply below_drew1 | refine below_set ?_ GE138.out) | exact HB.out)⟩⟩
                      · replace c16 := Bool.eq_false_iff.mpr c16
                        subst c16
                        have hv_bq15 := Nbq15.out.symm
                        have H1 : (spec_TracksOk.j1 k1 l0 x3_1 (decide ((((rd_T61 l0 x3_1).f5).length : Int) > 200)) ((rd_T61 l0 x3_1).f0) ((rd_T61 l0 x3_1).f1) ((rd_T61 l0 x3_1).f2) false ((rd_T61 l0 x3_1).f4) ((rd_T61 l0 x3_1).f5) ((rd_T61 l0 x3_1).f6) ((rd_T61 l0 x3_1).f7)) = some r := by rw [if_neg (show ¬ (false = true) by decide)] at H; exact H
                        clear H
                        have H := H1
                        clear H1
                        have H' := Aside0.mk H
                        clear H
                        have hcz20_0 : w6.cell? ⟨gb138, 0, none⟩ = some (.int .i64 0) := (blk_cell BK138.out 0).trans rfl
                        have hcz20_1 : w6.cell? ⟨gb138, 1, none⟩ = some (.int .i64 0) := (blk_cell BK138.out 1).trans rfl
                        have hcz20_2 : w6.cell? ⟨gb138, 2, none⟩ = some (.int .i64 0) := (blk_cell BK138.out 2).trans rfl
                        have hcz20_3 : w6.cell? ⟨gb138, 3, none⟩ = some (.bool false) := (blk_cell BK138.out 3).trans rfl
                        have hcz20_4 : w6.cell? ⟨gb138, 4, none⟩ = some (.slice none 0 0) := (blk_cell BK138.out 4).trans rfl
                        have hcz20_5 : w6.cell? ⟨gb138, 5, none⟩ = some (.slice none 0 0) := (blk_cell BK138.out 5).trans rfl
                        have hcz20_6 : w6.cell? ⟨gb138, 6, none⟩ = some (.bool false) := (blk_cell BK138.out 6).trans rfl
                        have hcz20_7 : w6.cell? ⟨gb138, 7, none⟩ = some (.bool false) := (blk_cell BK138.out 7).trans rfl
                        have hfz20_0 := blk_frozen BK138.out 0
                        have hfz20_1 := blk_frozen BK138.out 1
                        have hfz20_2 := blk_frozen BK138.out 2
                        have hfz20_3 := blk_frozen BK138.out 3
                        have hfz20_4 := blk_frozen BK138.out 4
                        have hfz20_5 := blk_frozen BK138.out 5
                        have hfz20_6 := blk_frozen BK138.out 6
                        have hfz20_7 := blk_frozen BK138.out 7
                        go_wp2_with (first | (go_at_call 75; (with_reducible refine (spec_l5in.calls ((rd_T61 l0 x3_1).f0) 1 400 true _ A8.out).mono ?_); rintro e w' ⟨rfl, ⟨nd, rfl⟩⟩; (try first | exact ⟨rfl, _, World.drewN_drewN _ _ _⟩ | exact ⟨rfl, _, Eq.trans (World.drewN_drewN _ _ _) (congrArg (World.drewN _) (Nat.add_assoc _ _ _))⟩)))
                        repeat (go_quiet (first | (go_at_call 75; (with_reducible refine (spec_l5in.calls ((rd_T61 l0 x3_1).f0) 1 400 true _ A8.out).mono ?_); rintro e w' ⟨rfl, ⟨nd, rfl⟩⟩; (try first | exact ⟨rfl, _, World.drewN_drewN _ _ _⟩ | exact ⟨rfl, _, Eq.trans (World.drewN_drewN _ _ _) (congrArg (World.drewN _) (Nat.add_assoc _ _ _))⟩))); try go_wp2_with (first | (go_at_call 75; (with_reducible refine (spec_l5in.calls ((rd_T61 l0 x3_1).f0) 1 400 true _ A8.out).mono ?_); rintro e w' ⟨rfl, ⟨nd, rfl⟩⟩; (try first | exact ⟨rfl, _, World.drewN_drewN _ _ _⟩ | exact ⟨rfl, _, Eq.trans (World.drewN_drewN _ _ _) (congrArg (World.drewN _) (Nat.add_assoc _ _ _))⟩))))
                        go_meet
                        case rel => (try simp only [← Nbq15.out]); (try simp only [← Nbq25.out]); exact ⟨_, (decide ((((rd_T61 l0 x3_1).f5).length : Int) > 200)), (by first | rfl | (simp; done) | (simp [*]; done)), H', ⟨by have := HK1.out; first | omega | exact Nat.le_refl _⟩, ⟨by (with_reducible repeat (first | refine blk_drewN ?_ _ | refine blk_drew ?_ | refine blk_alloc ?_ _)); refine blk_put (cs := #[.int .i64 ((rd_T61 l0 x3_1).f0), .int .i64 ((rd_T61 l0 x3_1).f1), .int .i64 ((rd_T61 l0 x3_1).f2), .bool (false), .slice A137_4 ((rd_T61 l0 x3_1).f4).length c137_4, .slice A137_5 ((rd_T61 l0 x3_1).f5).length c137_5, .bool ((rd_T61 l0 x3_1).f6), .bool false]) ?_ 7 _ rfl; (with_reducible repeat (first | refine blk_drewN ?_ _ | refine blk_drew ?_ | refine blk_alloc ?_ _)); refine blk_put (cs := #[.int .i64 ((rd_T61 l0 x3_1).f0), .int .i64 ((rd_T61 l0 x3_1).f1), .int .i64 ((rd_T61 l0 x3_1).f2), .bool (false), .slice A137_4 ((rd_T61 l0 x3_1).f4).length c137_4, .slice A137_5 ((rd_T61 l0 x3_1).f5).length c137_5, .bool false, .bool false]) ?_ 6 _ rfl; (with_reducible repeat (first | refine blk_drewN ?_ _ | refine blk_drew ?_ | refine blk_alloc ?_ _)); refine blk_put (cs := #[.int .i64 ((rd_T61 l0 x3_1).f0), .int .i64 ((rd_T61 l0 x3_1).f1), .int .i64 ((rd_T61 l0 x3_1).f2), .bool (false), .slice A137_4 ((rd_T61 l0 x3_1).f4).length c137_4, .slice none 0 0, .bool false, .bool false]) ?_ 5 _ rfl; (with_reducible repeat (first | refine blk_drewN ?_ _ | refine blk_drew ?_ | refine blk_alloc ?_ _)); refine blk_put (cs := #[.int .i64 ((rd_T61 l0 x3_1).f0), .int .i64 ((rd_T61 l0 x3_1).f1), .int .i64 ((rd_T61 l0 x3_1).f2), .bool (false), .slice none 0 0, .slice none 0 0, .bool false, .bool false]) ?_ 4 _ rfl; (with_reducible repeat (first | refine blk_drewN ?_ _ | refine blk_drew ?_ | refine blk_alloc ?_ _)); refine blk_put (cs := #[.int .i64 ((rd_T61 l0 x3_1).f0), .int .i64 ((rd_T61 l0 x3_1).f1), .int .i64 ((rd_T61 l0 x3_1).f2), .bool false, .slice none 0 0, .slice none 0 0, .bool false, .bool false]) ?_ 3 _ rfl; (with_reducible repeat (first | refine blk_drewN ?_ _ | refine blk_drew ?_ | refine blk_alloc ?_ _)); refine blk_put (cs := #[.int .i64 ((rd_T61 l0 x3_1).f0), .int .i64 ((rd_T61 l0 x3_1).f1), .int .i64 0, .bool false, .slice none 0 0, .slice none 0 0, .bool false, .bool false]) ?_ 2 _ rfl; (with_reducible repeat (first | refine blk_drewN ?_ _ | refine blk_drew ?_ | refine blk_alloc ?_ _)); refine blk_put (cs := #[.int .i64 ((rd_T61 l0 x3_1).f0), .int .i64 0, .int .i64 0, .bool false, .slice none 0 0, .slice none 0 0, .bool false, .bool false]) ?_ 1 _ rfl; (with_reducible repeat (first | refine blk_drewN ?_ _ | refine blk_drew ?_ | refine blk_alloc ?_ _)); refine blk_put (cs := #[.int .i64 0, .int .i64 0, .int .i64 0, .bool false, .slice none 0 0, .slice none 0 0, .bool false, .bool false]) ?_ 0 _ rfl; (with_reducible repeat (first | refine blk_drewN ?_ _ | refine blk_drew ?_ | refine blk_alloc ?_ _)); exact BK138.out⟩, ⟨by repeat (first | (with_reducible first | exact HB.out | apply below_alloc | apply pw_below_drewN | apply below_drew1 | refine below_set ?_ GE138.out) | exact HB.out)⟩⟩
                  · rw [if_neg c12] at H
                    have c12b0 : (((rd_T61 l0 x3_1).f2) == 0) = false := beq_eq_false_iff_ne.mpr c12
                    have c12b1 : (((rd_T61 l0 x3_1).f2) != 0) = true := bne_iff_ne.mpr c12
                    by_cases c21 : ((rd_T61 l0 x3_1).f2) ≤ ((rd_T61 l0 x3_1).f1)
                    · rw [if_pos c21] at H
                      have c21b0 : decide (((rd_T61 l0 x3_1).f2) ≤ ((rd_T61 l0 x3_1).f1)) = true := decide_eq_true c21
                      clear c21
                      have H' := Aside0.mk H
                      clear H
                      have hcz22_0 : w6.cell? ⟨gb138, 0, none⟩ = some (.int .i64 0) := (blk_cell BK138.out 0).trans rfl
                      have hcz22_1 : w6.cell? ⟨gb138, 1, none⟩ = some (.int .i64 0) := (blk_cell BK138.out 1).trans rfl
                      have hcz22_2 : w6.cell? ⟨gb138, 2, none⟩ = some (.int .i64 0) := (blk_cell BK138.out 2).trans rfl
                      have hcz22_3 : w6.cell? ⟨gb138, 3, none⟩ = some (.bool false) := (blk_cell BK138.out 3).trans rfl
                      have hcz22_4 : w6.cell? ⟨gb138, 4, none⟩ = some (.slice none 0 0) := (blk_cell BK138.out 4).trans rfl
                      have hcz22_5 : w6.cell? ⟨gb138, 5, none⟩ = some (.slice none 0 0) := (blk_cell BK138.out 5).trans rfl
                      have hcz22_6 : w6.cell? ⟨gb138, 6, none⟩ = some (.bool false) := (blk_cell BK138.out 6).trans rfl
                      have hcz22_7 : w6.cell? ⟨gb138, 7, none⟩ = some (.bool false) := (blk_cell BK138.out 7).trans rfl
                      have hfz22_0 := blk_frozen BK138.out 0
                      have hfz22_1 := blk_frozen BK138.out 1
                      have hfz22_2 := blk_frozen BK138.out 2
                      have hfz22_3 := blk_frozen BK138.out 3
                      have hfz22_4 := blk_frozen BK138.out 4
                      have hfz22_5 := blk_frozen BK138.out 5
                      have hfz22_6 := blk_frozen BK138.out 6
                      have hfz22_7 := blk_frozen BK138.out 7
                      go_wp2_with (first | (go_at_call 75; (with_reducible refine (spec_l5in.calls ((rd_T61 l0 x3_1).f0) 1 400 true _ A8.out).mono ?_); rintro e w' ⟨rfl, ⟨nd, rfl⟩⟩; (try first | exact ⟨rfl, _, World.drewN_drewN _ _ _⟩ | exact ⟨rfl, _, Eq.trans (World.drewN_drewN _ _ _) (congrArg (World.drewN _) (Nat.add_assoc _ _ _))⟩)))
                      repeat (go_quiet (first | (go_at_call 75; (with_reducible refine (spec_l5in.calls ((rd_T61 l0 x3_1).f0) 1 400 true _ A8.out).mono ?_); rintro e w' ⟨rfl, ⟨nd, rfl⟩⟩; (try first | exact ⟨rfl, _, World.drewN_drewN _ _ _⟩ | exact ⟨rfl, _, Eq.trans (World.drewN_drewN _ _ _) (congrArg (World.drewN _) (Nat.add_assoc _ _ _))⟩))); try go_wp2_with (first | (go_at_call 75; (with_reducible refine (spec_l5in.calls ((rd_T61 l0 x3_1).f0) 1 400 true _ A8.out).mono ?_); rintro e w' ⟨rfl, ⟨nd, rfl⟩⟩; (try first | exact ⟨rfl, _, World.drewN_drewN _ _ _⟩ | exact ⟨rfl, _, Eq.trans (World.drewN_drewN _ _ _) (congrArg (World.drewN _) (Nat.add_assoc _ _ _))⟩))))
                      go_meet
                      case rel => (try simp only [← Nbq15.out]); (try simp only [← Nbq25.out]); exact ⟨_, (true), (by first | rfl | (simp; done) | (simp [*]; done)), H', ⟨by have := HK1.out; first | omega | exact Nat.le_refl _⟩, ⟨by (with_reducible repeat (first | refine blk_drewN ?_ _ | refine blk_drew ?_ | refine blk_alloc ?_ _)); refine blk_put (cs := #[.int .i64 ((rd_T61 l0 x3_1).f0), .int .i64 ((rd_T61 l0 x3_1).f1), .int .i64 ((rd_T61 l0 x3_1).f2), .bool ((rd_T61 l0 x3_1).f3), .slice A137_4 ((rd_T61 l0 x3_1).f4).length c137_4, .slice A137_5 ((rd_T61 l0 x3_1).f5).length c137_5, .bool ((rd_T61 l0 x3_1).f6), .bool false]) ?_ 7 _ rfl; (with_reducible repeat (first | refine blk_drewN ?_ _ | refine blk_drew ?_ | refine blk_alloc ?_ _)); refine blk_put (cs := #[.int .i64 ((rd_T61 l0 x3_1).f0), .int .i64 ((rd_T61 l0 x3_1).f1), .int .i64 ((rd_T61 l0 x3_1).f2), .bool ((rd_T61 l0 x3_1).f3), .slice A137_4 ((rd_T61 l0 x3_1).f4).length c137_4, .slice A137_5 ((rd_T61 l0 x3_1).f5).length c137_5, .bool false, .bool false]) ?_ 6 _ rfl; (with_reducible repeat (first | refine blk_drewN ?_ _ | refine blk_drew ?_ | refine blk_alloc ?_ _)); refine blk_put (cs := #[.int .i64 ((rd_T61 l0 x3_1).f0), .int .i64 ((rd_T61 l0 x3_1).f1), .int .i64 ((rd_T61 l0 x3_1).f2), .bool ((rd_T61 l0 x3_1).f3), .slice A137_4 ((rd_T61 l0 x3_1).f4).length c137_4, .slice none 0 0, .bool false, .bool false]) ?_ 5 _ rfl; (with_reducible repeat (first | refine blk_drewN ?_ _ | refine blk_drew ?_ | refine blk_alloc ?_ _)); refine blk_put (cs := #[.int .i64 ((rd_T61 l0 x3_1).f0), .int .i64 ((rd_T61 l0 x3_1).f1), .int .i64 ((rd_T61 l0 x3_1).f2), .bool ((rd_T61 l0 x3_1).f3), .slice none 0 0, .slice none 0 0, .bool false, .bool false]) ?_ 4 _ rfl; (with_reducible repeat (first | refine blk_drewN ?_ _ | refine blk_drew ?_ | refine blk_alloc ?_ _)); refine blk_put (cs := #[.int .i64 ((rd_T61 l0 x3_1).f0), .int .i64 ((rd_T61 l0 x3_1).f1), .int .i64 ((rd_T61 l0 x3_1).f2), .bool false, .slice none 0 0, .slice none 0 0, .bool false, .bool false]) ?_ 3 _ rfl; (with_reducible repeat (first | refine blk_drewN ?_ _ | refine blk_drew ?_ | refine blk_alloc ?_ _)); refine blk_put (cs := #[.int .i64 ((rd_T61 l0 x3_1).f0), .int .i64 ((rd_T61 l0 x3_1).f1), .int .i64 0, .bool false, .slice none 0 0, .slice none 0 0, .bool false, .bool false]) ?_ 2 _ rfl; (with_reducible repeat (first | refine blk_drewN ?_ _ | refine blk_drew ?_ | refine blk_alloc ?_ _)); refine blk_put (cs := #[.int .i64 ((rd_T61 l0 x3_1).f0), .int .i64 0, .int .i64 0, .bool false, .slice none 0 0, .slice none 0 0, .bool false, .bool false]) ?_ 1 _ rfl; (with_reducible repeat (first | refine blk_drewN ?_ _ | refine blk_drew ?_ | refine blk_alloc ?_ _)); refine blk_put (cs := #[.int .i64 0, .int .i64 0, .int .i64 0, .bool false, .slice none 0 0, .slice none 0 0, .bool false, .bool false]) ?_ 0 _ rfl; (with_reducible repeat (first | refine blk_drewN ?_ _ | refine blk_drew ?_ | refine blk_alloc ?_ _)); exact BK138.out⟩, ⟨by repeat (first | (with_reducible first | exact HB.out | apply below_alloc | apply pw_below_drewN | apply below_drew1 | refine below_set ?_ GE138.out) | exact HB.out)⟩⟩
                    · rw [if_neg c21] at H
                      have c21b0 : decide (((rd_T61 l0 x3_1).f2) ≤ ((rd_T61 l0 x3_1).f1)) = false := decide_eq_false c21
                      clear c21
                      by_cases c23 : (((rd_T61 l0 x3_1).f4).length : Int) > 6
                      · rw [if_pos c23] at H
                        have c23b0 : decide (6 < (((rd_T61 l0 x3_1).f4).length : Int)) = true := decide_eq_true c23
                        have c23b1 : decide (6 < ((rd_T61 l0 x3_1).f4).length) = true := decide_eq_true (by omega)
                        clear c23
                        have H' := Aside0.mk H
                        clear H
                        have hcz24_0 : w6.cell? ⟨gb138, 0, none⟩ = some (.int .i64 0) := (blk_cell BK138.out 0).trans rfl
                        have hcz24_1 : w6.cell? ⟨gb138, 1, none⟩ = some (.int .i64 0) := (blk_cell BK138.out 1).trans rfl
                        have hcz24_2 : w6.cell? ⟨gb138, 2, none⟩ = some (.int .i64 0) := (blk_cell BK138.out 2).trans rfl
                        have hcz24_3 : w6.cell? ⟨gb138, 3, none⟩ = some (.bool false) := (blk_cell BK138.out 3).trans rfl
                        have hcz24_4 : w6.cell? ⟨gb138, 4, none⟩ = some (.slice none 0 0) := (blk_cell BK138.out 4).trans rfl
                        have hcz24_5 : w6.cell? ⟨gb138, 5, none⟩ = some (.slice none 0 0) := (blk_cell BK138.out 5).trans rfl
                        have hcz24_6 : w6.cell? ⟨gb138, 6, none⟩ = some (.bool false) := (blk_cell BK138.out 6).trans rfl
                        have hcz24_7 : w6.cell? ⟨gb138, 7, none⟩ = some (.bool false) := (blk_cell BK138.out 7).trans rfl
                        have hfz24_0 := blk_frozen BK138.out 0
                        have hfz24_1 := blk_frozen BK138.out 1
                        have hfz24_2 := blk_frozen BK138.out 2
                        have hfz24_3 := blk_frozen BK138.out 3
                        have hfz24_4 := blk_frozen BK138.out 4
                        have hfz24_5 := blk_frozen BK138.out 5
                        have hfz24_6 := blk_frozen BK138.out 6
                        have hfz24_7 := blk_frozen BK138.out 7
                        go_wp2_with (first | (go_at_call 75; (with_reducible refine (spec_l5in.calls ((rd_T61 l0 x3_1).f0) 1 400 true _ A8.out).mono ?_); rintro e w' ⟨rfl, ⟨nd, rfl⟩⟩; (try first | exact ⟨rfl, _, World.drewN_drewN _ _ _⟩ | exact ⟨rfl, _, Eq.trans (World.drewN_drewN _ _ _) (congrArg (World.drewN _) (Nat.add_assoc _ _ _))⟩)))
                        repeat (go_quiet (first | (go_at_call 75; (with_reducible refine (spec_l5in.calls ((rd_T61 l0 x3_1).f0) 1 400 true _ A8.out).mono ?_); rintro e w' ⟨rfl, ⟨nd, rfl⟩⟩; (try first | exact ⟨rfl, _, World.drewN_drewN _ _ _⟩ | exact ⟨rfl, _, Eq.trans (World.drewN_drewN _ _ _) (congrArg (World.drewN _) (Nat.add_assoc _ _ _))⟩))); try go_wp2_with (first | (go_at_call 75; (with_reducible refine (spec_l5in.calls ((rd_T61 l0 x3_1).f0) 1 400 true _ A8.out).mono ?_); rintro e w' ⟨rfl, ⟨nd, rfl⟩⟩; (try first | exact ⟨rfl, _, World.drewN_drewN _ _ _⟩ | exact ⟨rfl, _, Eq.trans (World.drewN_drewN _ _ _) (congrArg (World.drewN _) (Nat.add_assoc _ _ _))⟩))))
                        go_meet
                        case rel => (try simp only [← Nbq15.out]); (try simp only [← Nbq25.out]); exact ⟨_, (true), (by first | rfl | (simp; done) | (simp [*]; done)), H', ⟨by have := HK1.out; first | omega | exact Nat.le_refl _⟩, ⟨by (with_reducible repeat (first | refine blk_drewN ?_ _ | refine blk_drew ?_ | refine blk_alloc ?_ _)); refine blk_put (cs := #[.int .i64 ((rd_T61 l0 x3_1).f0), .int .i64 ((rd_T61 l0 x3_1).f1), .int .i64 ((rd_T61 l0 x3_1).f2), .bool ((rd_T61 l0 x3_1).f3), .slice A137_4 ((rd_T61 l0 x3_1).f4).length c137_4, .slice A137_5 ((rd_T61 l0 x3_1).f5).length c137_5, .bool ((rd_T61 l0 x3_1).f6), .bool false]) ?_ 7 _ rfl; (with_reducible repeat (first | refine blk_drewN ?_ _ | refine blk_drew ?_ | refine blk_alloc ?_ _)); refine blk_put (cs := #[.int .i64 ((rd_T61 l0 x3_1).f0), .int .i64 ((rd_T61 l0 x3_1).f1), .int .i64 ((rd_T61 l0 x3_1).f2), .bool ((rd_T61 l0 x3_1).f3), .slice A137_4 ((rd_T61 l0 x3_1).f4).length c137_4, .slice A137_5 ((rd_T61 l0 x3_1).f5).length c137_5, .bool false, .bool false]) ?_ 6 _ rfl; (with_reducible repeat (first | refine blk_drewN ?_ _ | refine blk_drew ?_ | refine blk_alloc ?_ _)); refine blk_put (cs := #[.int .i64 ((rd_T61 l0 x3_1).f0), .int .i64 ((rd_T61 l0 x3_1).f1), .int .i64 ((rd_T61 l0 x3_1).f2), .bool ((rd_T61 l0 x3_1).f3), .slice A137_4 ((rd_T61 l0 x3_1).f4).length c137_4, .slice none 0 0, .bool false, .bool false]) ?_ 5 _ rfl; (with_reducible repeat (first | refine blk_drewN ?_ _ | refine blk_drew ?_ | refine blk_alloc ?_ _)); refine blk_put (cs := #[.int .i64 ((rd_T61 l0 x3_1).f0), .int .i64 ((rd_T61 l0 x3_1).f1), .int .i64 ((rd_T61 l0 x3_1).f2), .bool ((rd_T61 l0 x3_1).f3), .slice none 0 0, .slice none 0 0, .bool false, .bool false]) ?_ 4 _ rfl; (with_reducible repeat (first | refine blk_drewN ?_ _ | refine blk_drew ?_ | refine blk_alloc ?_ _)); refine blk_put (cs := #[.int .i64 ((rd_T61 l0 x3_1).f0), .int .i64 ((rd_T61 l0 x3_1).f1), .int .i64 ((rd_T61 l0 x3_1).f2), .bool false, .slice none 0 0, .slice none 0 0, .bool false, .bool false]) ?_ 3 _ rfl; (with_reducible repeat (first | refine blk_drewN ?_ _ | refine blk_drew ?_ | refine blk_alloc ?_ _)); refine blk_put (cs := #[.int .i64 ((rd_T61 l0 x3_1).f0), .int .i64 ((rd_T61 l0 x3_1).f1), .int .i64 0, .bool false, .slice none 0 0, .slice none 0 0, .bool false, .bool false]) ?_ 2 _ rfl; (with_reducible repeat (first | refine blk_drewN ?_ _ | refine blk_drew ?_ | refine blk_alloc ?_ _)); refine blk_put (cs := #[.int .i64 ((rd_T61 l0 x3_1).f0), .int .i64 0, .int .i64 0, .bool false, .slice none 0 0, .slice none 0 0, .bool false, .bool false]) ?_ 1 _ rfl; (with_reducible repeat (first | refine blk_drewN ?_ _ | refine blk_drew ?_ | refine blk_alloc ?_ _)); refine blk_put (cs := #[.int .i64 0, .int .i64 0, .int .i64 0, .bool false, .slice none 0 0, .slice none 0 0, .bool false, .bool false]) ?_ 0 _ rfl; (with_reducible repeat (first | refine blk_drewN ?_ _ | refine blk_drew ?_ | refine blk_alloc ?_ _)); exact BK138.out⟩, ⟨by repeat (first | (with_reducible first | exact HB.out | apply below_alloc | apply pw_below_drewN | apply below_drew1 | refine below_set ?_ GE138.out) | exact HB.out)⟩⟩
                      · rw [if_neg c23] at H
                        have c23b0 : decide (6 < (((rd_T61 l0 x3_1).f4).length : Int)) = false := decide_eq_false c23
                        have c23b1 : decide (6 < ((rd_T61 l0 x3_1).f4).length) = false := decide_eq_false (by omega)
                        clear c23
                        obtain ⟨bq25, hbq25⟩ : ∃ b_ : Bool, b_ = ((rd_T61 l0 x3_1).f3) := ⟨_, rfl⟩
                        replace H : (if bq25 = true then (if (((rd_T61 l0 x3_1).f4).length : Int) > 0 then (spec_TracksOk.j1 k1 l0 x3_1 true ((rd_T61 l0 x3_1).f0) ((rd_T61 l0 x3_1).f1) ((rd_T61 l0 x3_1).f2) bq25 ((rd_T61 l0 x3_1).f4) ((rd_T61 l0 x3_1).f5) ((rd_T61 l0 x3_1).f6) ((rd_T61 l0 x3_1).f7)) else (spec_TracksOk.j1 k1 l0 x3_1 (decide ((((rd_T61 l0 x3_1).f5).length : Int) > 200)) ((rd_T61 l0 x3_1).f0) ((rd_T61 l0 x3_1).f1) ((rd_T61 l0 x3_1).f2) bq25 ((rd_T61 l0 x3_1).f4) ((rd_T61 l0 x3_1).f5) ((rd_T61 l0 x3_1).f6) ((rd_T61 l0 x3_1).f7))) else (spec_TracksOk.j1 k1 l0 x3_1 (decide ((((rd_T61 l0 x3_1).f5).length : Int) > 200)) ((rd_T61 l0 x3_1).f0) ((rd_T61 l0 x3_1).f1) ((rd_T61 l0 x3_1).f2) bq25 ((rd_T61 l0 x3_1).f4) ((rd_T61 l0 x3_1).f5) ((rd_T61 l0 x3_1).f6) ((rd_T61 l0 x3_1).f7))) = some r := by rw [← hbq25] at H; exact H
                        have Nbq25 := Aside0.mk hbq25
                        clear hbq25
                        by_cases c26 : bq25 = true
                        · subst c26
                          have hv_bq25 := Nbq25.out.symm
                          have H1 : (if (((rd_T61 l0 x3_1).f4).length : Int) > 0 then (spec_TracksOk.j1 k1 l0 x3_1 true ((rd_T61 l0 x3_1).f0) ((rd_T61 l0 x3_1).f1) ((rd_T61 l0 x3_1).f2) true ((rd_T61 l0 x3_1).f4) ((rd_T61 l0 x3_1).f5) ((rd_T61 l0 x3_1).f6) ((rd_T61 l0 x3_1).f7)) else (spec_TracksOk.j1 k1 l0 x3_1 (decide ((((rd_T61 l0 x3_1).f5).length : Int) > 200)) ((rd_T61 l0 x3_1).f0) ((rd_T61 l0 x3_1).f1) ((rd_T61 l0 x3_1).f2) true ((rd_T61 l0 x3_1).f4) ((rd_T61 l0 x3_1).f5) ((rd_T61 l0 x3_1).f6) ((rd_T61 l0 x3_1).f7))) = some r := by rw [if_pos rfl] at H; exact H
                          clear H
                          have H := H1
                          clear H1
                          by_cases c27 : (((rd_T61 l0 x3_1).f4).length : Int) > 0
                          · rw [if_pos c27] at H
                            have c27b0 : decide (0 < (((rd_T61 l0 x3_1).f4).length : Int)) = true := decide_eq_true c27
                            have c27b1 : decide (0 < ((rd_T61 l0 x3_1).f4).length) = true := decide_eq_true (by omega)
                            clear c27
                            have H' := Aside0.mk H
                            clear H
                            have hcz28_0 : w6.cell? ⟨gb138, 0, none⟩ = some (.int .i64 0) := (blk_cell BK138.out 0).trans rfl
                            have hcz28_1 : w6.cell? ⟨gb138, 1, none⟩ = some (.int .i64 0) := (blk_cell BK138.out 1).trans rfl
                            have hcz28_2 : w6.cell? ⟨gb138, 2, none⟩ = some (.int .i64 0) := (blk_cell BK138.out 2).trans rfl
                            have hcz28_3 : w6.cell? ⟨gb138, 3, none⟩ = some (.bool false) := (blk_cell BK138.out 3).trans rfl
                            have hcz28_4 : w6.cell? ⟨gb138, 4, none⟩ = some (.slice none 0 0) := (blk_cell BK138.out 4).trans rfl
                            have hcz28_5 : w6.cell? ⟨gb138, 5, none⟩ = some (.slice none 0 0) := (blk_cell BK138.out 5).trans rfl
                            have hcz28_6 : w6.cell? ⟨gb138, 6, none⟩ = some (.bool false) := (blk_cell BK138.out 6).trans rfl
                            have hcz28_7 : w6.cell? ⟨gb138, 7, none⟩ = some (.bool false) := (blk_cell BK138.out 7).trans rfl
                            have hfz28_0 := blk_frozen BK138.out 0
                            have hfz28_1 := blk_frozen BK138.out 1
                            have hfz28_2 := blk_frozen BK138.out 2
                            have hfz28_3 := blk_frozen BK138.out 3
                            have hfz28_4 := blk_frozen BK138.out 4
                            have hfz28_5 := blk_frozen BK138.out 5
                            have hfz28_6 := blk_frozen BK138.out 6
                            have hfz28_7 := blk_frozen BK138.out 7
                            go_wp2_with (first | (go_at_call 75; (with_reducible refine (spec_l5in.calls ((rd_T61 l0 x3_1).f0) 1 400 true _ A8.out).mono ?_); rintro e w' ⟨rfl, ⟨nd, rfl⟩⟩; (try first | exact ⟨rfl, _, World.drewN_drewN _ _ _⟩ | exact ⟨rfl, _, Eq.trans (World.drewN_drewN _ _ _) (congrArg (World.drewN _) (Nat.add_assoc _ _ _))⟩)))
                            repeat (go_quiet (first | (go_at_call 75; (with_reducible refine (spec_l5in.calls ((rd_T61 l0 x3_1).f0) 1 400 true _ A8.out).mono ?_); rintro e w' ⟨rfl, ⟨nd, rfl⟩⟩; (try first | exact ⟨rfl, _, World.drewN_drewN _ _ _⟩ | exact ⟨rfl, _, Eq.trans (World.drewN_drewN _ _ _) (congrArg (World.drewN _) (Nat.add_assoc _ _ _))⟩))); try go_wp2_with (first | (go_at_call 75; (with_reducible refine (spec_l5in.calls ((rd_T61 l0 x3_1).f0) 1 400 true _ A8.out).mono ?_); rintro e w' ⟨rfl, ⟨nd, rfl⟩⟩; (try first | exact ⟨rfl, _, World.drewN_drewN _ _ _⟩ | exact ⟨rfl, _, Eq.trans (World.drewN_drewN _ _ _) (congrArg (World.drewN _) (Nat.add_assoc _ _ _))⟩))))
                            go_meet
                            case rel => (try simp only [← Nbq15.out]); (try simp only [← Nbq25.out]); exact ⟨_, (true), (by first | rfl | (simp; done) | (simp [*]; done)), H', ⟨by have := HK1.out; first | omega | exact Nat.le_refl _⟩, ⟨by (with_reducible repeat (first | refine blk_drewN ?_ _ | refine blk_drew ?_ | refine blk_alloc ?_ _)); refine blk_put (cs := #[.int .i64 ((rd_T61 l0 x3_1).f0), .int .i64 ((rd_T61 l0 x3_1).f1), .int .i64 ((rd_T61 l0 x3_1).f2), .bool (true), .slice A137_4 ((rd_T61 l0 x3_1).f4).length c137_4, .slice A137_5 ((rd_T61 l0 x3_1).f5).length c137_5, .bool ((rd_T61 l0 x3_1).f6), .bool false]) ?_ 7 _ rfl; (with_reducible repeat (first | refine blk_drewN ?_ _ | refine blk_drew ?_ | refine blk_alloc ?_ _)); refine blk_put (cs := #[.int .i64 ((rd_T61 l0 x3_1).f0), .int .i64 ((rd_T61 l0 x3_1).f1), .int .i64 ((rd_T61 l0 x3_1).f2), .bool (true), .slice A137_4 ((rd_T61 l0 x3_1).f4).length c137_4, .slice A137_5 ((rd_T61 l0 x3_1).f5).length c137_5, .bool false, .bool false]) ?_ 6 _ rfl; (with_reducible repeat (first | refine blk_drewN ?_ _ | refine blk_drew ?_ | refine blk_alloc ?_ _)); refine blk_put (cs := #[.int .i64 ((rd_T61 l0 x3_1).f0), .int .i64 ((rd_T61 l0 x3_1).f1), .int .i64 ((rd_T61 l0 x3_1).f2), .bool (true), .slice A137_4 ((rd_T61 l0 x3_1).f4).length c137_4, .slice none 0 0, .bool false, .bool false]) ?_ 5 _ rfl; (with_reducible repeat (first | refine blk_drewN ?_ _ | refine blk_drew ?_ | refine blk_alloc ?_ _)); refine blk_put (cs := #[.int .i64 ((rd_T61 l0 x3_1).f0), .int .i64 ((rd_T61 l0 x3_1).f1), .int .i64 ((rd_T61 l0 x3_1).f2), .bool (true), .slice none 0 0, .slice none 0 0, .bool false, .bool false]) ?_ 4 _ rfl; (with_reducible repeat (first | refine blk_drewN ?_ _ | refine blk_drew ?_ | refine blk_alloc ?_ _)); refine blk_put (cs := #[.int .i64 ((rd_T61 l0 x3_1).f0), .int .i64 ((rd_T61 l0 x3_1).f1), .int .i64 ((rd_T61 l0 x3_1).f2), .bool false, .slice none 0 0, .slice none 0 0, .bool false, .bool false]) ?_ 3 _ rfl; (with_reducible repeat (first | refine blk_drewN ?_ _ | refine blk_drew ?_ | refine blk_alloc ?_ _)); refine blk_put (cs := #[.int .i64 ((rd_T61 l0 x3_1).f0), .int .i64 ((rd_T61 l0 x3_1).f1), .int .i64 0, .bool false, .slice none 0 0, .slice none 0 0, .bool false, .bool false]) ?_ 2 _ rfl; (with_reducible repeat (first | refine blk_drewN ?_ _ | refine blk_drew ?_ | refine blk_alloc ?_ _)); refine blk_put (cs := #[.int .i64 ((rd_T61 l0 x3_1).f0), .int .i64 0, .int .i64 0, .bool false, .slice none 0 0, .slice none 0 0, .bool false, .bool false]) ?_ 1 _ rfl; (with_reducible repeat (first | refine blk_drewN ?_ _ | refine blk_drew ?_ | refine blk_alloc ?_ _)); refine blk_put (cs := #[.int .i64 0, .int .i64 0, .int .i64 0, .bool false, .slice none 0 0, .slice none 0 0, .bool false, .bool false]) ?_ 0 _ rfl; (with_reducible repeat (first | refine blk_drewN ?_ _ | refine blk_drew ?_ | refine blk_alloc ?_ _)); exact BK138.out⟩, ⟨by repeat (first | (with_reducible first | exact HB.out | apply below_alloc | apply pw_below_drewN | apply below_drew1 | refine below_set ?_ GE138.out) | exact HB.out)⟩⟩
                          · rw [if_neg c27] at H
                            have c27b0 : decide (0 < (((rd_T61 l0 x3_1).f4).length : Int)) = false := decide_eq_false c27
                            have c27b1 : decide (0 < ((rd_T61 l0 x3_1).f4).length) = false := decide_eq_false (by omega)
                            clear c27
                            have H' := Aside0.mk H
                            clear H
                            have hcz29_0 : w6.cell? ⟨gb138, 0, none⟩ = some (.int .i64 0) := (blk_cell BK138.out 0).trans rfl
                            have hcz29_1 : w6.cell? ⟨gb138, 1, none⟩ = some (.int .i64 0) := (blk_cell BK138.out 1).trans rfl
                            have hcz29_2 : w6.cell? ⟨gb138, 2, none⟩ = some (.int .i64 0) := (blk_cell BK138.out 2).trans rfl
                            have hcz29_3 : w6.cell? ⟨gb138, 3, none⟩ = some (.bool false) := (blk_cell BK138.out 3).trans rfl
                            have hcz29_4 : w6.cell? ⟨gb138, 4, none⟩ = some (.slice none 0 0) := (blk_cell BK138.out 4).trans rfl
                            have hcz29_5 : w6.cell? ⟨gb138, 5, none⟩ = some (.slice none 0 0) := (blk_cell BK138.out 5).trans rfl
                            have hcz29_6 : w6.cell? ⟨gb138, 6, none⟩ = some (.bool false) := (blk_cell BK138.out 6).trans rfl
                            have hcz29_7 : w6.cell? ⟨gb138, 7, none⟩ = some (.bool false) := (blk_cell BK138.out 7).trans rfl
                            have hfz29_0 := blk_frozen BK138.out 0
                            have hfz29_1 := blk_frozen BK138.out 1
                            have hfz29_2 := blk_frozen BK138.out 2
                            have hfz29_3 := blk_frozen BK138.out 3
                            have hfz29_4 := blk_frozen BK138.out 4
                            have hfz29_5 := blk_frozen BK138.out 5
                            have hfz29_6 := blk_frozen BK138.out 6
                            have hfz29_7 := blk_frozen BK138.out 7
                            go_wp2_with (first | (go_at_call 75; (with_reducible refine (spec_l5in.calls ((rd_T61 l0 x3_1).f0) 1 400 true _ A8.out).mono ?_); rintro e w' ⟨rfl, ⟨nd, rfl⟩⟩; (try first | exact ⟨rfl, _, World.drewN_drewN _ _ _⟩ | exact ⟨rfl, _, Eq.trans (World.drewN_drewN _ _ _) (congrArg (World.drewN _) (Nat.add_assoc _ _ _))⟩)))
                            repeat (go_quiet (first | (go_at_call 75; (with_reducible refine (spec_l5in.calls ((rd_T61 l0 x3_1).f0) 1 400 true _ A8.out).mono ?_); rintro e w' ⟨rfl, ⟨nd, rfl⟩⟩; (try first | exact ⟨rfl, _, World.drewN_drewN _ _ _⟩ | exact ⟨rfl, _, Eq.trans (World.drewN_drewN _ _ _) (congrArg (World.drewN _) (Nat.add_assoc _ _ _))⟩))); try go_wp2_with (first | (go_at_call 75; (with_reducible refine (spec_l5in.calls ((rd_T61 l0 x3_1).f0) 1 400 true _ A8.out).mono ?_); rintro e w' ⟨rfl, ⟨nd, rfl⟩⟩; (try first | exact ⟨rfl, _, World.drewN_drewN _ _ _⟩ | exact ⟨rfl, _, Eq.trans (World.drewN_drewN _ _ _) (congrArg (World.drewN _) (Nat.add_assoc _ _ _))⟩))))
                            go_meet
                            case rel => (try simp only [← Nbq15.out]); (try simp only [← Nbq25.out]); exact ⟨_, (decide ((((rd_T61 l0 x3_1).f5).length : Int) > 200)), (by first | rfl | (simp; done) | (simp [*]; done)), H', ⟨by have := HK1.out; first | omega | exact Nat.le_refl _⟩, ⟨by (with_reducible repeat (first | refine blk_drewN ?_ _ | refine blk_drew ?_ | refine blk_alloc ?_ _)); refine blk_put (cs := #[.int .i64 ((rd_T61 l0 x3_1).f0), .int .i64 ((rd_T61 l0 x3_1).f1), .int .i64 ((rd_T61 l0 x3_1).f2), .bool (true), .slice A137_4 ((rd_T61 l0 x3_1).f4).length c137_4, .slice A137_5 ((rd_T61 l0 x3_1).f5).length c137_5, .bool ((rd_T61 l0 x3_1).f6), .bool false]) ?_ 7 _ rfl; (with_reducible repeat (first | refine blk_drewN ?_ _ | refine blk_drew ?_ | refine blk_alloc ?_ _)); refine blk_put (cs := #[.int .i64 ((rd_T61 l0 x3_1).f0), .int .i64 ((rd_T61 l0 x3_1).f1), .int .i64 ((rd_T61 l0 x3_1).f2), .bool (true), .slice A137_4 ((rd_T61 l0 x3_1).f4).length c137_4, .slice A137_5 ((rd_T61 l0 x3_1).f5).length c137_5, .bool false, .bool false]) ?_ 6 _ rfl; (with_reducible repeat (first | refine blk_drewN ?_ _ | refine blk_drew ?_ | refine blk_alloc ?_ _)); refine blk_put (cs := #[.int .i64 ((rd_T61 l0 x3_1).f0), .int .i64 ((rd_T61 l0 x3_1).f1), .int .i64 ((rd_T61 l0 x3_1).f2), .bool (true), .slice A137_4 ((rd_T61 l0 x3_1).f4).length c137_4, .slice none 0 0, .bool false, .bool false]) ?_ 5 _ rfl; (with_reducible repeat (first | refine blk_drewN ?_ _ | refine blk_drew ?_ | refine blk_alloc ?_ _)); refine blk_put (cs := #[.int .i64 ((rd_T61 l0 x3_1).f0), .int .i64 ((rd_T61 l0 x3_1).f1), .int .i64 ((rd_T61 l0 x3_1).f2), .bool (true), .slice none 0 0, .slice none 0 0, .bool false, .bool false]) ?_ 4 _ rfl; (with_reducible repeat (first | refine blk_drewN ?_ _ | refine blk_drew ?_ | refine blk_alloc ?_ _)); refine blk_put (cs := #[.int .i64 ((rd_T61 l0 x3_1).f0), .int .i64 ((rd_T61 l0 x3_1).f1), .int .i64 ((rd_T61 l0 x3_1).f2), .bool false, .slice none 0 0, .slice none 0 0, .bool false, .bool false]) ?_ 3 _ rfl; (with_reducible repeat (first | refine blk_drewN ?_ _ | refine blk_drew ?_ | refine blk_alloc ?_ _)); refine blk_put (cs := #[.int .i64 ((rd_T61 l0 x3_1).f0), .int .i64 ((rd_T61 l0 x3_1).f1), .int .i64 0, .bool false, .slice none 0 0, .slice none 0 0, .bool false, .bool false]) ?_ 2 _ rfl; (with_reducible repeat (first | refine blk_drewN ?_ _ | refine blk_drew ?_ | refine blk_alloc ?_ _)); refine blk_put (cs := #[.int .i64 ((rd_T61 l0 x3_1).f0), .int .i64 0, .int .i64 0, .bool false, .slice none 0 0, .slice none 0 0, .bool false, .bool false]) ?_ 1 _ rfl; (with_reducible repeat (first | refine blk_drewN ?_ _ | refine blk_drew ?_ | refine blk_alloc ?_ _)); refine blk_put (cs := #[.int .i64 0, .int .i64 0, .int .i64 0, .bool false, .slice none 0 0, .slice none 0 0, .bool false, .bool false]) ?_ 0 _ rfl; (with_reducible repeat (first | refine blk_drewN ?_ _ | refine blk_drew ?_ | refine blk_alloc ?_ _)); exact BK138.out⟩, ⟨by repeat (first | (with_reducible first | exact HB.out | apply below_alloc | apply pw_below_drewN | apply below_drew1 | refine below_set ?_ GE138.out) | exact HB.out)⟩⟩
                        · replace c26 := Bool.eq_false_iff.mpr c26
                          subst c26
                          have hv_bq25 := Nbq25.out.symm
                          have H1 : (spec_TracksOk.j1 k1 l0 x3_1 (decide ((((rd_T61 l0 x3_1).f5).length : Int) > 200)) ((rd_T61 l0 x3_1).f0) ((rd_T61 l0 x3_1).f1) ((rd_T61 l0 x3_1).f2) false ((rd_T61 l0 x3_1).f4) ((rd_T61 l0 x3_1).f5) ((rd_T61 l0 x3_1).f6) ((rd_T61 l0 x3_1).f7)) = some r := by rw [if_neg (show ¬ (false = true) by decide)] at H; exact H
                          clear H
                          have H := H1
                          clear H1
                          have H' := Aside0.mk H
                          clear H
                          have hcz30_0 : w6.cell? ⟨gb138, 0, none⟩ = some (.int .i64 0) := (blk_cell BK138.out 0).trans rfl
                          have hcz30_1 : w6.cell? ⟨gb138, 1, none⟩ = some (.int .i64 0) := (blk_cell BK138.out 1).trans rfl
                          have hcz30_2 : w6.cell? ⟨gb138, 2, none⟩ = some (.int .i64 0) := (blk_cell BK138.out 2).trans rfl
                          have hcz30_3 : w6.cell? ⟨gb138, 3, none⟩ = some (.bool false) := (blk_cell BK138.out 3).trans rfl
                          have hcz30_4 : w6.cell? ⟨gb138, 4, none⟩ = some (.slice none 0 0) := (blk_cell BK138.out 4).trans rfl
                          have hcz30_5 : w6.cell? ⟨gb138, 5, none⟩ = some (.slice none 0 0) := (blk_cell BK138.out 5).trans rfl
                          have hcz30_6 : w6.cell? ⟨gb138, 6, none⟩ = some (.bool false) := (blk_cell BK138.out 6).trans rfl
                          have hcz30_7 : w6.cell? ⟨gb138, 7, none⟩ = some (.bool false) := (blk_cell BK138.out 7).trans rfl
                          have hfz30_0 := blk_frozen BK138.out 0
                          have hfz30_1 := blk_frozen BK138.out 1
                          have hfz30_2 := blk_frozen BK138.out 2
                          have hfz30_3 := blk_frozen BK138.out 3
                          have hfz30_4 := blk_frozen BK138.out 4
                          have hfz30_5 := blk_frozen BK138.out 5
                          have hfz30_6 := blk_frozen BK138.out 6
                          have hfz30_7 := blk_frozen BK138.out 7
                          go_wp2_with (first | (go_at_call 75; (with_reducible refine (spec_l5in.calls ((rd_T61 l0 x3_1).f0) 1 400 true _ A8.out).mono ?_); rintro e w' ⟨rfl, ⟨nd, rfl⟩⟩; (try first | exact ⟨rfl, _, World.drewN_drewN _ _ _⟩ | exact ⟨rfl, _, Eq.trans (World.drewN_drewN _ _ _) (congrArg (World.drewN _) (Nat.add_assoc _ _ _))⟩)))
                          repeat (go_quiet (first | (go_at_call 75; (with_reducible refine (spec_l5in.calls ((rd_T61 l0 x3_1).f0) 1 400 true _ A8.out).mono ?_); rintro e w' ⟨rfl, ⟨nd, rfl⟩⟩; (try first | exact ⟨rfl, _, World.drewN_drewN _ _ _⟩ | exact ⟨rfl, _, Eq.trans (World.drewN_drewN _ _ _) (congrArg (World.drewN _) (Nat.add_assoc _ _ _))⟩))); try go_wp2_with (first | (go_at_call 75; (with_reducible refine (spec_l5in.calls ((rd_T61 l0 x3_1).f0) 1 400 true _ A8.out).mono ?_); rintro e w' ⟨rfl, ⟨nd, rfl⟩⟩; (try first | exact ⟨rfl, _, World.drewN_drewN _ _ _⟩ | exact ⟨rfl, _, Eq.trans (World.drewN_drewN _ _ _) (congrArg (World.drewN _) (Nat.add_assoc _ _ _))⟩))))
                          go_meet
                          case rel => (try simp only [← Nbq15.out]); (try simp only [← Nbq25.out]); exact ⟨_, (decide ((((rd_T61 l0 x3_1).f5).length : Int) > 200)), (by first | rfl | (simp; done) | (simp [*]; done)), H', ⟨by have := HK1.out; first | omega | exact Nat.le_refl _⟩, ⟨by (with_reducible repeat (first | refine blk_drewN ?_ _ | refine blk_drew ?_ | refine blk_alloc ?_ _)); refine blk_put (cs := #[.int .i64 ((rd_T61 l0 x3_1).f0), .int .i64 ((rd_T61 l0 x3_1).f1), .int .i64 ((rd_T61 l0 x3_1).f2), .bool (false), .slice A137_4 ((rd_T61 l0 x3_1).f4).length c137_4, .slice A137_5 ((rd_T61 l0 x3_1).f5).length c137_5, .bool ((rd_T61 l0 x3_1).f6), .bool false]) ?_ 7 _ rfl; (with_reducible repeat (first | refine blk_drewN ?_ _ | refine blk_drew ?_ | refine blk_alloc ?_ _)); refine blk_put (cs := #[.int .i64 ((rd_T61 l0 x3_1).f0), .int .i64 ((rd_T61 l0 x3_1).f1), .int .i64 ((rd_T61 l0 x3_1).f2), .bool (false), .slice A137_4 ((rd_T61 l0 x3_1).f4).length c137_4, .slice A137_5 ((rd_T61 l0 x3_1).f5).length c137_5, .bool false, .bool false]) ?_ 6 _ rfl; (with_reducible repeat (first | refine blk_drewN ?_ _ | refine blk_drew ?_ | refine blk_alloc ?_ _)); refine blk_put (cs := #[.int .i64 ((rd_T61 l0 x3_1).f0), .int .i64 ((rd_T61 l0 x3_1).f1), .int .i64 ((rd_T61 l0 x3_1).f2), .bool (false), .slice A137_4 ((rd_T61 l0 x3_1).f4).length c137_4, .slice none 0 0, .bool false, .bool false]) ?_ 5 _ rfl; (with_reducible repeat (first | refine blk_drewN ?_ _ | refine blk_drew ?_ | refine blk_alloc ?_ _)); refine blk_put (cs := #[.int .i64 ((rd_T61 l0 x3_1).f0), .int .i64 ((rd_T61 l0 x3_1).f1), .int .i64 ((rd_T61 l0 x3_1).f2), .bool (false), .slice none 0 0, .slice none 0 0, .bool false, .bool false]) ?_ 4 _ rfl; (with_reducible repeat (first | refine blk_drewN ?_ _ | refine blk_drew ?_ | refine blk_alloc ?_ _)); refine blk_put (cs := #[.int .i64 ((rd_T61 l0 x3_1).f0), .int .i64 ((rd_T61 l0 x3_1).f1), .int .i64 ((rd_T61 l0 x3_1).f2), .bool false, .slice none 0 0, .slice none 0 0, .bool false, .bool false]) ?_ 3 _ rfl; (with_reducible repeat (first | refine blk_drewN ?_ _ | refine blk_drew ?_ | refine blk_alloc ?_ _)); refine blk_put (cs := #[.int .i64 ((rd_T61 l0 x3_1).f0), .int .i64 ((rd_T61 l0 x3_1).f1), .int .i64 0, .bool false, .slice none 0 0, .slice none 0 0, .bool false, .bool false]) ?_ 2 _ rfl; (with_reducible repeat (first | refine blk_drewN ?_ _ | refine blk_drew ?_ | refine blk_alloc ?_ _)); refine blk_put (cs := #[.int .i64 ((rd_T61 l0 x3_1).f0), .int .i64 0, .int .i64 0, .bool false, .slice none 0 0, .slice none 0 0, .bool false, .bool false]) ?_ 1 _ rfl; (with_reducible repeat (first | refine blk_drewN ?_ _ | refine blk_drew ?_ | refine blk_alloc ?_ _)); refine blk_put (cs := #[.int .i64 0, .int .i64 0, .int .i64 0, .bool false, .slice none 0 0, .slice none 0 0, .bool false, .bool false]) ?_ 0 _ rfl; (with_reducible repeat (first | refine blk_drewN ?_ _ | refine blk_drew ?_ | refine blk_alloc ?_ _)); exact BK138.out⟩, ⟨by repeat (first | (with_reducible first | exact HB.out | apply below_alloc | apply pw_below_drewN | apply below_drew1 | refine below_set ?_ GE138.out) | exact HB.out)⟩⟩
              · replace c9 := Bool.eq_false_iff.mpr c9
                subst c9
                have H1 : (spec_TracksOk.j1 k1 l0 x3_1 true ((rd_T61 l0 x3_1).f0) ((rd_T61 l0 x3_1).f1) ((rd_T61 l0 x3_1).f2) ((rd_T61 l0 x3_1).f3) ((rd_T61 l0 x3_1).f4) ((rd_T61 l0 x3_1).f5) ((rd_T61 l0 x3_1).f6) ((rd_T61 l0 x3_1).f7)) = some r := by rw [if_neg (show ¬ (false = true) by decide)] at H; exact H
                clear H
                have H := H1
                clear H1
                have H' := Aside0.mk H
                clear H
                have hcz31_0 : w6.cell? ⟨gb138, 0, none⟩ = some (.int .i64 0) := (blk_cell BK138.out 0).trans rfl
                have hcz31_1 : w6.cell? ⟨gb138, 1, none⟩ = some (.int .i64 0) := (blk_cell BK138.out 1).trans rfl
                have hcz31_2 : w6.cell? ⟨gb138, 2, none⟩ = some (.int .i64 0) := (blk_cell BK138.out 2).trans rfl
                have hcz31_3 : w6.cell? ⟨gb138, 3, none⟩ = some (.bool false) := (blk_cell BK138.out 3).trans rfl
                have hcz31_4 : w6.cell? ⟨gb138, 4, none⟩ = some (.slice none 0 0) := (blk_cell BK138.out 4).trans rfl
                have hcz31_5 : w6.cell? ⟨gb138, 5, none⟩ = some (.slice none 0 0) := (blk_cell BK138.out 5).trans rfl
                have hcz31_6 : w6.cell? ⟨gb138, 6, none⟩ = some (.bool false) := (blk_cell BK138.out 6).trans rfl
                have hcz31_7 : w6.cell? ⟨gb138, 7, none⟩ = some (.bool false) := (blk_cell BK138.out 7).trans rfl
                have hfz31_0 := blk_frozen BK138.out 0
                have hfz31_1 := blk_frozen BK138.out 1
                have hfz31_2 := blk_frozen BK138.out 2
                have hfz31_3 := blk_frozen BK138.out 3
                have hfz31_4 := blk_frozen BK138.out 4
                have hfz31_5 := blk_frozen BK138.out 5
                have hfz31_6 := blk_frozen BK138.out 6
                have hfz31_7 := blk_frozen BK138.out 7
                go_wp2_with (first | (go_at_call 75; (with_reducible refine (spec_l5in.calls ((rd_T61 l0 x3_1).f0) 1 400 false _ A8.out).mono ?_); rintro e w' ⟨rfl, ⟨nd, rfl⟩⟩; (try first | exact ⟨rfl, _, World.drewN_drewN _ _ _⟩ | exact ⟨rfl, _, Eq.trans (World.drewN_drewN _ _ _) (congrArg (World.drewN _) (Nat.add_assoc _ _ _))⟩)))
                repeat (go_quiet (first | (go_at_call 75; (with_reducible refine (spec_l5in.calls ((rd_T61 l0 x3_1).f0) 1 400 false _ A8.out).mono ?_); rintro e w' ⟨rfl, ⟨nd, rfl⟩⟩; (try first | exact ⟨rfl, _, World.drewN_drewN _ _ _⟩ | exact ⟨rfl, _, Eq.trans (World.drewN_drewN _ _ _) (congrArg (World.drewN _) (Nat.add_assoc _ _ _))⟩))); try go_wp2_with (first | (go_at_call 75; (with_reducible refine (spec_l5in.calls ((rd_T61 l0 x3_1).f0) 1 400 false _ A8.out).mono ?_); rintro e w' ⟨rfl, ⟨nd, rfl⟩⟩; (try first | exact ⟨rfl, _, World.drewN_drewN _ _ _⟩ | exact ⟨rfl, _, Eq.trans (World.drewN_drewN _ _ _) (congrArg (World.drewN _) (Nat.add_assoc _ _ _))⟩))))
                go_meet
                case rel => (try simp only [← Nbq15.out]); (try simp only [← Nbq25.out]); exact ⟨_, (true), (by first | rfl | (simp; done) | (simp [*]; done)), H', ⟨by have := HK1.out; first | omega | exact Nat.le_refl _⟩, ⟨by (with_reducible repeat (first | refine blk_drewN ?_ _ | refine blk_drew ?_ | refine blk_alloc ?_ _)); refine blk_put (cs := #[.int .i64 ((rd_T61 l0 x3_1).f0), .int .i64 ((rd_T61 l0 x3_1).f1), .int .i64 ((rd_T61 l0 x3_1).f2), .bool ((rd_T61 l0 x3_1).f3), .slice A137_4 ((rd_T61 l0 x3_1).f4).length c137_4, .slice A137_5 ((rd_T61 l0 x3_1).f5).length c137_5, .bool ((rd_T61 l0 x3_1).f6), .bool false]) ?_ 7 _ rfl; (with_reducible repeat (first | refine blk_drewN ?_ _ | refine blk_drew ?_ | refine blk_alloc ?_ _)); refine blk_put (cs := #[.int .i64 ((rd_T61 l0 x3_1).f0), .int .i64 ((rd_T61 l0 x3_1).f1), .int .i64 ((rd_T61 l0 x3_1).f2), .bool ((rd_T61 l0 x3_1).f3), .slice A137_4 ((rd_T61 l0 x3_1).f4).length c137_4, .slice A137_5 ((rd_T61 l0 x3_1).f5).length c137_5, .bool false, .bool false]) ?_ 6 _ rfl; (with_reducible repeat (first | refine blk_drewN ?_ _ | refine blk_drew ?_ | refine blk_alloc ?_ _)); refine blk_put (cs := #[.int .i64 ((rd_T61 l0 x3_1).f0), .int .i64 ((rd_T61 l0 x3_1).f1), .int .i64 ((rd_T61 l0 x3_1).f2), .bool ((rd_T61 l0 x3_1).f3), .slice A137_4 ((rd_T61 l0 x3_1).f4).length c137_4, .slice none 0 0, .bool false, .bool false]) ?_ 5 _ rfl; (with_reducible repeat (first | refine blk_drewN ?_ _ | refine blk_drew ?_ | refine blk_alloc ?_ _)); refine blk_put (cs := #[.int .i64 ((rd_T61 l0 x3_1).f0), .int .i64 ((rd_T61 l0 x3_1).f1), .int .i64 ((rd_T61 l0 x3_1).f2), .bool ((rd_T61 l0 x3_1).f3), .slice none 0 0, .slice none 0 0, .bool false, .bool false]) ?_ 4 _ rfl; (with_reducible repeat (first | refine blk_drewN ?_ _ | refine blk_drew ?_ | refine blk_alloc ?_ _)); refine blk_put (cs := #[.int .i64 ((rd_T61 l0 x3_1).f0), .int .i64 ((rd_T61 l0 x3_1).f1), .int .i64 ((rd_T61 l0 x3_1).f2), .bool false, .slice none 0 0, .slice none 0 0, .bool false, .bool false]) ?_ 3 _ rfl; (with_reducible repeat (first | refine blk_drewN ?_ _ | refine blk_drew ?_ | refine blk_alloc ?_ _)); refine blk_put (cs := #[.int .i64 ((rd_T61 l0 x3_1).f0), .int .i64 ((rd_T61 l0 x3_1).f1), .int .i64 0, .bool false, .slice none 0 0, .slice none 0 0, .bool false, .bool false]) ?_ 2 _ rfl; (with_reducible repeat (first | refine blk_drewN ?_ _ | refine blk_drew ?_ | refine blk_alloc ?_ _)); refine blk_put (cs := #[.int .i64 ((rd_T61 l0 x3_1).f0), .int .i64 0, .int .i64 0, .bool false, .slice none 0 0, .slice none 0 0, .bool false, .bool false]) ?_ 1 _ rfl; (with_reducible repeat (first | refine blk_drewN ?_ _ | refine blk_drew ?_ | refine blk_alloc ?_ _)); refine blk_put (cs := #[.int .i64 0, .int .i64 0, .int .i64 0, .bool false, .slice none 0 0, .slice none 0 0, .bool false, .bool false]) ?_ 0 _ rfl; (with_reducible repeat (first | refine blk_drewN ?_ _ | refine blk_drew ?_ | refine blk_alloc ?_ _)); exact BK138.out⟩, ⟨by repeat (first | (with_reducible first | exact HB.out | apply below_alloc | apply pw_below_drewN | apply below_drew1 | refine below_set ?_ GE138.out) | exact HB.out)⟩⟩
            case rest =>
              clear HC5
              try clear c1
              try clear p1
              try clear q1
              try clear hx1
              try clear c2
              try clear c2b0
              try clear c2b1
              try clear p2
              try clear q2
              try clear c3
              try clear c3b0
              try clear c4
              try clear c4b0
              try clear c9
              try clear c10
              try clear c10b0
              try clear c12
              try clear c12b0
              try clear c12b1
              try clear c13
              try clear c13b0
              try clear c13b1
              try clear p13
              try clear q13
              try clear hx13
              try clear q15
              try clear c16
              try clear c17
              try clear c17b0
              try clear c17b1
              try clear c21
              try clear c21b0
              try clear c23
              try clear c23b0
              try clear c23b1
              try clear q25
              try clear c26
              try clear c27
              try clear c27b0
              try clear c27b1
              try clear hcz11_0
              try clear hcz11_1
              try clear hcz11_2
              try clear hcz11_3
              try clear hcz11_4
              try clear hcz11_5
              try clear hcz11_6
              try clear hcz11_7
              try clear hcz14_0
              try clear hcz14_1
              try clear hcz14_2
              try clear hcz14_3
              try clear hcz14_4
              try clear hcz14_5
              try clear hcz14_6
              try clear hcz14_7
              try clear hcz18_0
              try clear hcz18_1
              try clear hcz18_2
              try clear hcz18_3
              try clear hcz18_4
              try clear hcz18_5
              try clear hcz18_6
              try clear hcz18_7
              try clear hcz19_0
              try clear hcz19_1
              try clear hcz19_2
              try clear hcz19_3
              try clear hcz19_4
              try clear hcz19_5
              try clear hcz19_6
              try clear hcz19_7
              try clear hcz20_0
              try clear hcz20_1
              try clear hcz20_2
              try clear hcz20_3
              try clear hcz20_4
              try clear hcz20_5
              try clear hcz20_6
              try clear hcz20_7
              try clear hcz22_0
              try clear hcz22_1
              try clear hcz22_2
              try clear hcz22_3
              try clear hcz22_4
              try clear hcz22_5
              try clear hcz22_6
              try clear hcz22_7
              try clear hcz24_0
              try clear hcz24_1
              try clear hcz24_2
              try clear hcz24_3
              try clear hcz24_4
              try clear hcz24_5
              try clear hcz24_6
              try clear hcz24_7
              try clear hcz28_0
              try clear hcz28_1
              try clear hcz28_2
              try clear hcz28_3
              try clear hcz28_4
              try clear hcz28_5
              try clear hcz28_6
              try clear hcz28_7
              try clear hcz29_0
              try clear hcz29_1
              try clear hcz29_2
              try clear hcz29_3
              try clear hcz29_4
              try clear hcz29_5
              try clear hcz29_6
              try clear hcz29_7
              try clear hcz30_0
              try clear hcz30_1
              try clear hcz30_2
              try clear hcz30_3
              try clear hcz30_4
              try clear hcz30_5
              try clear hcz30_6
              try clear hcz30_7
              try clear hcz31_0
              try clear hcz31_1
              try clear hcz31_2
              try clear hcz31_3
              try clear hcz31_4
              try clear hcz31_5
              try clear hcz31_6
              try clear hcz31_7
              try clear hcz7_0
              try clear hcz7_1
              try clear hcz7_2
              try clear hcz7_3
              try clear hcz7_4
              try clear hcz7_5
              try clear hcz7_6
              try clear hcz7_7
              try clear hfz11_0
              try clear hfz11_1
              try clear hfz11_2
              try clear hfz11_3
              try clear hfz11_4
              try clear hfz11_5
              try clear hfz11_6
              try clear hfz11_7
              try clear hfz14_0
              try clear hfz14_1
              try clear hfz14_2
              try clear hfz14_3
              try clear hfz14_4
              try clear hfz14_5
              try clear hfz14_6
              try clear hfz14_7
              try clear hfz18_0
              try clear hfz18_1
              try clear hfz18_2
              try clear hfz18_3
              try clear hfz18_4
              try clear hfz18_5
              try clear hfz18_6
              try clear hfz18_7
              try clear hfz19_0
              try clear hfz19_1
              try clear hfz19_2
              try clear hfz19_3
              try clear hfz19_4
              try clear hfz19_5
              try clear hfz19_6
              try clear hfz19_7
              try clear hfz20_0
              try clear hfz20_1
              try clear hfz20_2
              try clear hfz20_3
              try clear hfz20_4
              try clear hfz20_5
              try clear hfz20_6
              try clear hfz20_7
              try clear hfz22_0
              try clear hfz22_1
              try clear hfz22_2
              try clear hfz22_3
              try clear hfz22_4
              try clear hfz22_5
              try clear hfz22_6
              try clear hfz22_7
              try clear hfz24_0
              try clear hfz24_1
              try clear hfz24_2
              try clear hfz24_3
              try clear hfz24_4
              try clear hfz24_5
              try clear hfz24_6
              try clear hfz24_7
              try clear hfz28_0
              try clear hfz28_1
              try clear hfz28_2
              try clear hfz28_3
              try clear hfz28_4
              try clear hfz28_5
              try clear hfz28_6
              try clear hfz28_7
              try clear hfz29_0
              try clear hfz29_1
              try clear hfz29_2
              try clear hfz29_3
              try clear hfz29_4
              try clear hfz29_5
              try clear hfz29_6
              try clear hfz29_7
              try clear hfz30_0
              try clear hfz30_1
              try clear hfz30_2
              try clear hfz30_3
              try clear hfz30_4
              try clear hfz30_5
              try clear hfz30_6
              try clear hfz30_7
              try clear hfz31_0
              try clear hfz31_1
              try clear hfz31_2
              try clear hfz31_3
              try clear hfz31_4
              try clear hfz31_5
              try clear hfz31_6
              try clear hfz31_7
              try clear hfz7_0
              try clear hfz7_1
              try clear hfz7_2
              try clear hfz7_3
              try clear hfz7_4
              try clear hfz7_5
              try clear hfz7_6
              try clear hfz7_7
              try clear hx137_0
              try clear hx137_1
              try clear hx137_2
              try clear hx137_3
              try clear hx137_4
              try clear hx137_5
              try clear hx137_6
              try clear hx137_7
              try clear p137
              try clear p2
              try clear q137
              obtain ⟨kq, x63_4, rfl, HA, HJ4, BK138, HB⟩ := hcut
              cases kq with
              | zero => exact absurd HA.out (by simp [spec_TracksOk.j1])
              | succ kj4 =>
                have H := HA.out
                clear HA
                simp only [spec_TracksOk.j1] at H
                by_cases c32 : x63_4 = true
                · subst c32
                  have H1 : (some false) = some r := by rw [if_pos rfl] at H; exact H
                  clear H
                  have H := H1
                  clear H1
                  obtain rfl := Option.some.inj H
                  go_wp2
                  repeat (go_quiet (fail); try go_wp2)
                  go_ret
                  exact ⟨by first | rfl | (simp [errW_none, errW_some] <;> rfl) | (simp [*, errW_none, errW_some] <;> rfl), by repeat (first | (with_reducible first | exact HB.out | apply below_alloc | apply pw_below_drewN | apply below_drew1 | refine below_set ?_ GE138.out) | exact HB.out)⟩
                · replace c32 := Bool.eq_false_iff.mpr c32
                  subst c32
                  have H1 : (spec_TracksOk.l1 kj4 l0 x3_1 0 ((rd_T61 l0 x3_1).f0) ((rd_T61 l0 x3_1).f1) ((rd_T61 l0 x3_1).f2) ((rd_T61 l0 x3_1).f3) ((rd_T61 l0 x3_1).f4) ((rd_T61 l0 x3_1).f5) ((rd_T61 l0 x3_1).f6) ((rd_T61 l0 x3_1).f7)) = some r := by rw [if_neg (show ¬ (false = true) by decide)] at H; exact H
                  clear H
                  have H := H1
                  clear H1
                  have H' := Aside0.mk H
                  clear H
                  go_wp2
                  repeat (go_quiet (fail); try go_wp2)
                  go_loopg [5] kj4 (fun kq v5 w' => ∃ (x5_3 : Int), v5 = .int .i64 x5_3 ∧ Aside0 (spec_TracksOk.l1 kq l0 x3_1 x5_3 ((rd_T61 l0 x3_1).f0) ((rd_T61 l0 x3_1).f1) ((rd_T61 l0 x3_1).f2) ((rd_T61 l0 x3_1).f3) ((rd_T61 l0 x3_1).f4) ((rd_T61 l0 x3_1).f5) ((rd_T61 l0 x3_1).f6) ((rd_T61 l0 x3_1).f7) = some r) ∧ Aside0 (kq ≤ kj4) ∧ Aside0 (w'.heap[gb138]? = some (.cells #[.int .i64 ((rd_T61 l0 x3_1).f0), .int .i64 ((rd_T61 l0 x3_1).f1), .int .i64 ((rd_T61 l0 x3_1).f2), .bool ((rd_T61 l0 x3_1).f3), (.slice A137_4 ((rd_T61 l0 x3_1).f4).length c137_4), (.slice A137_5 ((rd_T61 l0 x3_1).f5).length c137_5), .bool ((rd_T61 l0 x3_1).f6), .bool ((rd_T61 l0 x3_1).f7)] 61 (0, 0))) ∧ Aside0 (Below w.heap.size w w'))
                  case atStart => exact ⟨(0), (by first | rfl | (simp; done) | (simp [*]; done)), H', ⟨Nat.le_refl _⟩, ⟨by (with_reducible repeat (first | refine blk_drewN ?_ _ | refine blk_drew ?_ | refine blk_alloc ?_ _)); exact BK138.out⟩, ⟨by repeat (first | (with_reducible first | exact HB.out | apply below_alloc | apply pw_below_drewN | apply below_drew1 | refine below_set ?_ GE138.out) | exact HB.out)⟩⟩
                  case round =>
                    clear H'
                    try clear c1
                    try clear p1
                    try clear q1
                    try clear hx1
                    try clear c2
                    try clear c2b0
                    try clear c2b1
                    try clear p2
                    try clear q2
                    try clear c3
                    try clear c3b0
                    try clear c4
                    try clear c4b0
                    try clear c9
                    try clear c10
                    try clear c10b0
                    try clear c12
                    try clear c12b0
                    try clear c12b1
                    try clear c13
                    try clear c13b0
                    try clear c13b1
                    try clear p13
                    try clear q13
                    try clear hx13
                    try clear q15
                    try clear c16
                    try clear c17
                    try clear c17b0
                    try clear c17b1
                    try clear c21
                    try clear c21b0
                    try clear c23
                    try clear c23b0
                    try clear c23b1
                    try clear q25
                    try clear c26
                    try clear c27
                    try clear c27b0
                    try clear c27b1
                    try clear c32
                    try clear hcz11_0
                    try clear hcz11_1
                    try clear hcz11_2
                    try clear hcz11_3
                    try clear hcz11_4
                    try clear hcz11_5
                    try clear hcz11_6
                    try clear hcz11_7
                    try clear hcz14_0
                    try clear hcz14_1
                    try clear hcz14_2
                    try clear hcz14_3
                    try clear hcz14_4
                    try clear hcz14_5
                    try clear hcz14_6
                    try clear hcz14_7
                    try clear hcz18_0
                    try clear hcz18_1
                    try clear hcz18_2
                    try clear hcz18_3
                    try clear hcz18_4
                    try clear hcz18_5
                    try clear hcz18_6
                    try clear hcz18_7
                    try clear hcz19_0
                    try clear hcz19_1
                    try clear hcz19_2
                    try clear hcz19_3
                    try clear hcz19_4
                    try clear hcz19_5
                    try clear hcz19_6
                    try clear hcz19_7
                    try clear hcz20_0
                    try clear hcz20_1
                    try clear hcz20_2
                    try clear hcz20_3
                    try clear hcz20_4
                    try clear hcz20_5
                    try clear hcz20_6
                    try clear hcz20_7
                    try clear hcz22_0
                    try clear hcz22_1
                    try clear hcz22_2
                    try clear hcz22_3
                    try clear hcz22_4
                    try clear hcz22_5
                    try clear hcz22_6
                    try clear hcz22_7
                    try clear hcz24_0
                    try clear hcz24_1
                    try clear hcz24_2
                    try clear hcz24_3
                    try clear hcz24_4
                    try clear hcz24_5
                    try clear hcz24_6
                    try clear hcz24_7
                    try clear hcz28_0
                    try clear hcz28_1
                    try clear hcz28_2
                    try clear hcz28_3
                    try clear hcz28_4
                    try clear hcz28_5
                    try clear hcz28_6
                    try clear hcz28_7
                    try clear hcz29_0
                    try clear hcz29_1
                    try clear hcz29_2
                    try clear hcz29_3
                    try clear hcz29_4
                    try clear hcz29_5
                    try clear hcz29_6
                    try clear hcz29_7
                    try clear hcz30_0
                    try clear hcz30_1
                    try clear hcz30_2
                    try clear hcz30_3
                    try clear hcz30_4
                    try clear hcz30_5
                    try clear hcz30_6
                    try clear hcz30_7
                    try clear hcz31_0
                    try clear hcz31_1
                    try clear hcz31_2
                    try clear hcz31_3
                    try clear hcz31_4
                    try clear hcz31_5
                    try clear hcz31_6
                    try clear hcz31_7
                    try clear hcz7_0
                    try clear hcz7_1
                    try clear hcz7_2
                    try clear hcz7_3
                    try clear hcz7_4
                    try clear hcz7_5
                    try clear hcz7_6
                    try clear hcz7_7
                    try clear hfz11_0
                    try clear hfz11_1
                    try clear hfz11_2
                    try clear hfz11_3
                    try clear hfz11_4
                    try clear hfz11_5
                    try clear hfz11_6
                    try clear hfz11_7
                    try clear hfz14_0
                    try clear hfz14_1
                    try clear hfz14_2
                    try clear hfz14_3
                    try clear hfz14_4
                    try clear hfz14_5
                    try clear hfz14_6
                    try clear hfz14_7
                    try clear hfz18_0
                    try clear hfz18_1
                    try clear hfz18_2
                    try clear hfz18_3
                    try clear hfz18_4
                    try clear hfz18_5
                    try clear hfz18_6
                    try clear hfz18_7
                    try clear hfz19_0
                    try clear hfz19_1
                    try clear hfz19_2
                    try clear hfz19_3
                    try clear hfz19_4
                    try clear hfz19_5
                    try clear hfz19_6
                    try clear hfz19_7
                    try clear hfz20_0
                    try clear hfz20_1
                    try clear hfz20_2
                    try clear hfz20_3
                    try clear hfz20_4
                    try clear hfz20_5
                    try clear hfz20_6
                    try clear hfz20_7
                    try clear hfz22_0
                    try clear hfz22_1
                    try clear hfz22_2
                    try clear hfz22_3
                    try clear hfz22_4
                    try clear hfz22_5
                    try clear hfz22_6
                    try clear hfz22_7
                    try clear hfz24_0
                    try clear hfz24_1
                    try clear hfz24_2
                    try clear hfz24_3
                    try clear hfz24_4
                    try clear hfz24_5
                    try clear hfz24_6
                    try clear hfz24_7
                    try clear hfz28_0
                    try clear hfz28_1
                    try clear hfz28_2
                    try clear hfz28_3
                    try clear hfz28_4
                    try clear hfz28_5
                    try clear hfz28_6
                    try clear hfz28_7
                    try clear hfz29_0
                    try clear hfz29_1
                    try clear hfz29_2
                    try clear hfz29_3
                    try clear hfz29_4
                    try clear hfz29_5
                    try clear hfz29_6
                    try clear hfz29_7
                    try clear hfz30_0
                    try clear hfz30_1
                    try clear hfz30_2
                    try clear hfz30_3
                    try clear hfz30_4
                    try clear hfz30_5
                    try clear hfz30_6
                    try clear hfz30_7
                    try clear hfz31_0
                    try clear hfz31_1
                    try clear hfz31_2
                    try clear hfz31_3
                    try clear hfz31_4
                    try clear hfz31_5
                    try clear hfz31_6
                    try clear hfz31_7
                    try clear hfz7_0
                    try clear hfz7_1
                    try clear hfz7_2
                    try clear hfz7_3
                    try clear hfz7_4
                    try clear hfz7_5
                    try clear hfz7_6
                    try clear hfz7_7
                    try clear hx137_0
                    try clear hx137_1
                    try clear hx137_2
                    try clear hx137_3
                    try clear hx137_4
                    try clear hx137_5
                    try clear hx137_6
                    try clear hx137_7
                    try clear p1
                    try clear p13
                    try clear p137
                    try clear p2
                    try clear q1
                    try clear q13
                    try clear q137
                    try clear q15
                    try clear q2
                    try clear q25
                    obtain ⟨x5_3, rfl, HA, HK3, BK138, HB⟩ := hrel
                    cases gk with
                    | zero => exact absurd HA.out (by simp [spec_TracksOk.l1])
                    | succ k3 =>
                      have H := HA.out
                      clear HA
                      simp only [spec_TracksOk.l1] at H
                      by_cases c33 : x5_3 < (((rd_T61 l0 x3_1).f4).length : Int)
                      · rw [if_pos c33] at H
                        have c33b0 : decide (x5_3 < (((rd_T61 l0 x3_1).f4).length : Int)) = true := decide_eq_true c33
                        clear c33
                        by_cases c34 : 0 ≤ x5_3
                        · rw [if_pos c34] at H
                          have c34b0 : decide (0 ≤ x5_3) = true := decide_eq_true c34
                          clear c34
                          replace H := Option.bind_eq_some_iff.mp H
                          obtain ⟨t141, A350, H⟩ := H
                          replace H : (if t141 = true then (spec_TracksOk.l1 k3 l0 x3_1 (wrap64 (x5_3 + 1)) ((rd_T61 l0 x3_1).f0) ((rd_T61 l0 x3_1).f1) ((rd_T61 l0 x3_1).f2) ((rd_T61 l0 x3_1).f3) ((rd_T61 l0 x3_1).f4) ((rd_T61 l0 x3_1).f5) ((rd_T61 l0 x3_1).f6) ((rd_T61 l0 x3_1).f7)) else (some false)) = some r := H
                          have A35 := Aside0.mk A350
                          clear A350
                          by_cases c36 : t141 = true
                          · subst c36
                            have H1 : (spec_TracksOk.l1 k3 l0 x3_1 (wrap64 (x5_3 + 1)) ((rd_T61 l0 x3_1).f0) ((rd_T61 l0 x3_1).f1) ((rd_T61 l0 x3_1).f2) ((rd_T61 l0 x3_1).f3) ((rd_T61 l0 x3_1).f4) ((rd_T61 l0 x3_1).f5) ((rd_T61 l0 x3_1).f6) ((rd_T61 l0 x3_1).f7)) = some r := by rw [if_pos rfl] at H; exact H
                            clear H
                            have H := H1
                            clear H1
                            have H' := Aside0.mk H
                            clear H
                            have hcz37_0 : wr.cell? ⟨gb138, 0, none⟩ = some (.int .i64 ((rd_T61 l0 x3_1).f0)) := (blk_cell BK138.out 0).trans rfl
                            have hcz37_1 : wr.cell? ⟨gb138, 1, none⟩ = some (.int .i64 ((rd_T61 l0 x3_1).f1)) := (blk_cell BK138.out 1).trans rfl
                            have hcz37_2 : wr.cell? ⟨gb138, 2, none⟩ = some (.int .i64 ((rd_T61 l0 x3_1).f2)) := (blk_cell BK138.out 2).trans rfl
                            have hcz37_3 : wr.cell? ⟨gb138, 3, none⟩ = some (.bool ((rd_T61 l0 x3_1).f3)) := (blk_cell BK138.out 3).trans rfl
                            have hcz37_4 : wr.cell? ⟨gb138, 4, none⟩ = some (.slice A137_4 ((rd_T61 l0 x3_1).f4).length c137_4) := (blk_cell BK138.out 4).trans rfl
                            have hcz37_5 : wr.cell? ⟨gb138, 5, none⟩ = some (.slice A137_5 ((rd_T61 l0 x3_1).f5).length c137_5) := (blk_cell BK138.out 5).trans rfl
                            have hcz37_6 : wr.cell? ⟨gb138, 6, none⟩ = some (.bool ((rd_T61 l0 x3_1).f6)) := (blk_cell BK138.out 6).trans rfl
                            have hcz37_7 : wr.cell? ⟨gb138, 7, none⟩ = some (.bool ((rd_T61 l0 x3_1).f7)) := (blk_cell BK138.out 7).trans rfl
                            have hfz37_0 := blk_frozen BK138.out 0
                            have hfz37_1 := blk_frozen BK138.out 1
                            have hfz37_2 := blk_frozen BK138.out 2
                            have hfz37_3 := blk_frozen BK138.out 3
                            have hfz37_4 := blk_frozen BK138.out 4
                            have hfz37_5 := blk_frozen BK138.out 5
                            have hfz37_6 := blk_frozen BK138.out 6
                            have hfz37_7 := blk_frozen BK138.out 7
                            have p140 : 0 ≤ (x5_3 : Int) := of_decide_eq_true (by first | (with_reducible assumption) | assumption)
                            have q140 : x5_3 < (((rd_T61 l0 x3_1).f4).length : Int) := of_decide_eq_true (by first | (with_reducible assumption) | assumption)
                            obtain ⟨ad140, A140_3, c140_3, A140_7, c140_7, e140, hx140_0, hx140_1, hx140_2, hx140_3, hx140_4, hx140_5, hx140_6, hx140_7, hl140_3, hi140_3, hl140_7, hi140_7⟩ := at_T38 HR137_4.out x5_3 p140 q140
                            cases e140
                            replace hx140_0 := (HB.out.cell (World.block_lt_of_cell? w _ hx140_0)).trans hx140_0
                            replace hx140_1 := (HB.out.cell (World.block_lt_of_cell? w _ hx140_1)).trans hx140_1
                            replace hx140_2 := (HB.out.cell (World.block_lt_of_cell? w _ hx140_2)).trans hx140_2
                            replace hx140_3 := (HB.out.cell (World.block_lt_of_cell? w _ hx140_3)).trans hx140_3
                            replace hx140_4 := (HB.out.cell (World.block_lt_of_cell? w _ hx140_4)).trans hx140_4
                            replace hx140_5 := (HB.out.cell (World.block_lt_of_cell? w _ hx140_5)).trans hx140_5
                            replace hx140_6 := (HB.out.cell (World.block_lt_of_cell? w _ hx140_6)).trans hx140_6
                            replace hx140_7 := (HB.out.cell (World.block_lt_of_cell? w _ hx140_7)).trans hx140_7
                            have HR140_3 := Aside0.mk hi140_3
                            have HC140_3 := Aside0.mk hl140_3
                            clear hi140_3 hl140_3
                            have HR140_7 := Aside0.mk hi140_7
                            have HC140_7 := Aside0.mk hl140_7
                            clear hi140_7 hl140_7
                            replace p140 := eq_true p140
                            replace q140 := eq_true q140
                            go_wp2_with (first | (go_at_call 21; (with_reducible refine (spec_SpanOk.calls k3 ((rd_T38 ((rd_T61 l0 x3_1).f4) x5_3).f0.f0) ((rd_T38 ((rd_T61 l0 x3_1).f4) x5_3).f0.f1) ((rd_T38 ((rd_T61 l0 x3_1).f4) x5_3).f0.f2) _ _ ((rd_T38 ((rd_T61 l0 x3_1).f4) x5_3).f0.f3) ((rd_T38 ((rd_T61 l0 x3_1).f4) x5_3).f1.f0) ((rd_T38 ((rd_T61 l0 x3_1).f4) x5_3).f1.f1) ((rd_T38 ((rd_T61 l0 x3_1).f4) x5_3).f1.f2) _ _ ((rd_T38 ((rd_T61 l0 x3_1).f4) x5_3).f1.f3) true _ ?side1 ?side2 ?side3 ?side4 A35.out).mono ?_); (case side1 => repeat (first | exact (Kd.C_below HR140_3.out HB.out) | (with_reducible refine Kd.C_alloc ?_ _) | (with_reducible refine Kd.C_drewN ?_ _) | (with_reducible refine Kd.C_drew ?_))); (case side2 => exact HC140_3.out); (case side3 => repeat (first | exact (Kd.C_below HR140_7.out HB.out) | (with_reducible refine Kd.C_alloc ?_ _) | (with_reducible refine Kd.C_drewN ?_ _) | (with_reducible refine Kd.C_drew ?_))); (case side4 => exact HC140_7.out); rintro e w38 ⟨rfl, hb⟩; have n0_ := Aside0.mk (blk_below (g := gb138) (o := .cells #[.int .i64 ((rd_T61 l0 x3_1).f0), .int .i64 ((rd_T61 l0 x3_1).f1), .int .i64 ((rd_T61 l0 x3_1).f2), .bool ((rd_T61 l0 x3_1).f3), .slice (some ad140) ((rd_T61 l0 x3_1).f4).length c137_4, .slice A137_5 ((rd_T61 l0 x3_1).f5).length c137_5, .bool ((rd_T61 l0 x3_1).f6), .bool ((rd_T61 l0 x3_1).f7)] 61 (0, 0)) (by (with_reducible repeat (first | refine blk_drewN ?_ _ | refine blk_drew ?_ | refine blk_alloc ?_ _)); exact BK138.out) hb); have n1_ := Aside0.mk (below_step (by repeat (first | (with_reducible first | exact HB.out | apply below_alloc | apply pw_below_drewN | apply below_drew1 | refine below_set ?_ GE138.out) | exact HB.out)) hb); clear BK138; clear HB; have BK138 := n0_; have HB := n1_; clear n0_ n1_; (try clear hb); (try clear hb2); (try clear hk); (try clear hi)))
                            repeat (go_quiet (first | (go_at_call 21; (with_reducible refine (spec_SpanOk.calls k3 ((rd_T38 ((rd_T61 l0 x3_1).f4) x5_3).f0.f0) ((rd_T38 ((rd_T61 l0 x3_1).f4) x5_3).f0.f1) ((rd_T38 ((rd_T61 l0 x3_1).f4) x5_3).f0.f2) _ _ ((rd_T38 ((rd_T61 l0 x3_1).f4) x5_3).f0.f3) ((rd_T38 ((rd_T61 l0 x3_1).f4) x5_3).f1.f0) ((rd_T38 ((rd_T61 l0 x3_1).f4) x5_3).f1.f1) ((rd_T38 ((rd_T61 l0 x3_1).f4) x5_3).f1.f2) _ _ ((rd_T38 ((rd_T61 l0 x3_1).f4) x5_3).f1.f3) true _ ?side1 ?side2 ?side3 ?side4 A35.out).mono ?_); (case side1 => repeat (first | exact (Kd.C_below HR140_3.out HB.out) | (with_reducible refine Kd.C_alloc ?_ _) | (with_reducible refine Kd.C_drewN ?_ _) | (with_reducible refine Kd.C_drew ?_))); (case side2 => exact HC140_3.out); (case side3 => repeat (first | exact (Kd.C_below HR140_7.out HB.out) | (with_reducible refine Kd.C_alloc ?_ _) | (with_reducible refine Kd.C_drewN ?_ _) | (with_reducible refine Kd.C_drew ?_))); (case side4 => exact HC140_7.out); rintro e w38 ⟨rfl, hb⟩; have n0_ := Aside0.mk (blk_below (g := gb138) (o := .cells #[.int .i64 ((rd_T61 l0 x3_1).f0), .int .i64 ((rd_T61 l0 x3_1).f1), .int .i64 ((rd_T61 l0 x3_1).f2), .bool ((rd_T61 l0 x3_1).f3), .slice (some ad140) ((rd_T61 l0 x3_1).f4).length c137_4, .slice A137_5 ((rd_T61 l0 x3_1).f5).length c137_5, .bool ((rd_T61 l0 x3_1).f6), .bool ((rd_T61 l0 x3_1).f7)] 61 (0, 0)) (by (with_reducible repeat (first | refine blk_drewN ?_ _ | refine blk_drew ?_ | refine blk_alloc ?_ _)); exact BK138.out) hb); have n1_ := Aside0.mk (below_step (by repeat (first | (with_reducible first | exact HB.out | apply below_alloc | apply pw_below_drewN | apply below_drew1 | refine below_set ?_ GE138.out) | exact HB.out)) hb); clear BK138; clear HB; have BK138 := n0_; have HB := n1_; clear n0_ n1_; (try clear hb); (try clear hb2); (try clear hk); (try clear hi))); try go_wp2_with (first | (go_at_call 21; (with_reducible refine (spec_SpanOk.calls k3 ((rd_T38 ((rd_T61 l0 x3_1).f4) x5_3).f0.f0) ((rd_T38 ((rd_T61 l0 x3_1).f4) x5_3).f0.f1) ((rd_T38 ((rd_T61 l0 x3_1).f4) x5_3).f0.f2) _ _ ((rd_T38 ((rd_T61 l0 x3_1).f4) x5_3).f0.f3) ((rd_T38 ((rd_T61 l0 x3_1).f4) x5_3).f1.f0) ((rd_T38 ((rd_T61 l0 x3_1).f4) x5_3).f1.f1) ((rd_T38 ((rd_T61 l0 x3_1).f4) x5_3).f1.f2) _ _ ((rd_T38 ((rd_T61 l0 x3_1).f4) x5_3).f1.f3) true _ ?side1 ?side2 ?side3 ?side4 A35.out).mono ?_); (case side1 => repeat (first | exact (Kd.C_below HR140_3.out HB.out) | (with_reducible refine Kd.C_alloc ?_ _) | (with_reducible refine Kd.C_drewN ?_ _) | (with_reducible refine Kd.C_drew ?_))); (case side2 => exact HC140_3.out); (case side3 => repeat (first | exact (Kd.C_below HR140_7.out HB.out) | (with_reducible refine Kd.C_alloc ?_ _) | (with_reducible refine Kd.C_drewN ?_ _) | (with_reducible refine Kd.C_drew ?_))); (case side4 => exact HC140_7.out); rintro e w38 ⟨rfl, hb⟩; have n0_ := Aside0.mk (blk_below (g := gb138) (o := .cells #[.int .i64 ((rd_T61 l0 x3_1).f0), .int .i64 ((rd_T61 l0 x3_1).f1), .int .i64 ((rd_T61 l0 x3_1).f2), .bool ((rd_T61 l0 x3_1).f3), .slice (some ad140) ((rd_T61 l0 x3_1).f4).length c137_4, .slice A137_5 ((rd_T61 l0 x3_1).f5).length c137_5, .bool ((rd_T61 l0 x3_1).f6), .bool ((rd_T61 l0 x3_1).f7)] 61 (0, 0)) (by (with_reducible repeat (first | refine blk_drewN ?_ _ | refine blk_drew ?_ | refine blk_alloc ?_ _)); exact BK138.out) hb); have n1_ := Aside0.mk (below_step (by repeat (first | (with_reducible first | exact HB.out | apply below_alloc | apply pw_below_drewN | apply below_drew1 | refine below_set ?_ GE138.out) | exact HB.out)) hb); clear BK138; clear HB; have BK138 := n0_; have HB := n1_; clear n0_ n1_; (try clear hb); (try clear hb2); (try clear hk); (try clear hi))))
                            go_roundg k3
                            case measure => have := HK1.out; have := HJ4.out; have := HK3.out; omega
                            case rel => (try simp only [← Nbq15.out]); (try simp only [← Nbq25.out]); exact ⟨(wrap64 (x5_3 + 1)), (by first | rfl | (simp; done) | (simp [*]; done)), H', ⟨by have := HK1.out; have := HJ4.out; have := HK3.out; omega⟩, ⟨by (with_reducible repeat (first | refine blk_drewN ?_ _ | refine blk_drew ?_ | refine blk_alloc ?_ _)); exact BK138.out⟩, ⟨by repeat (first | (with_reducible first | exact HB.out | apply below_alloc | apply pw_below_drewN | apply below_drew1 | refine below_set ?_ GE138.out) | exact HB.out)⟩⟩
                          · replace c36 := Bool.eq_false_iff.mpr c36
                            subst c36
                            have H1 : (some false) = some r := by rw [if_neg (show ¬ (false = true) by decide)] at H; exact H
                            clear H
                            have H := H1
                            clear H1
                            obtain rfl := Option.some.inj H
                            have hcz39_0 : wr.cell? ⟨gb138, 0, none⟩ = some (.int .i64 ((rd_T61 l0 x3_1).f0)) := (blk_cell BK138.out 0).trans rfl
                            have hcz39_1 : wr.cell? ⟨gb138, 1, none⟩ = some (.int .i64 ((rd_T61 l0 x3_1).f1)) := (blk_cell BK138.out 1).trans rfl
                            have hcz39_2 : wr.cell? ⟨gb138, 2, none⟩ = some (.int .i64 ((rd_T61 l0 x3_1).f2)) := (blk_cell BK138.out 2).trans rfl
                            have hcz39_3 : wr.cell? ⟨gb138, 3, none⟩ = some (.bool ((rd_T61 l0 x3_1).f3)) := (blk_cell BK138.out 3).trans rfl
                            have hcz39_4 : wr.cell? ⟨gb138, 4, none⟩ = some (.slice A137_4 ((rd_T61 l0 x3_1).f4).length c137_4) := (blk_cell BK138.out 4).trans rfl
                            have hcz39_5 : wr.cell? ⟨gb138, 5, none⟩ = some (.slice A137_5 ((rd_T61 l0 x3_1).f5).length c137_5) := (blk_cell BK138.out 5).trans rfl
                            have hcz39_6 : wr.cell? ⟨gb138, 6, none⟩ = some (.bool ((rd_T61 l0 x3_1).f6)) := (blk_cell BK138.out 6).trans rfl
                            have hcz39_7 : wr.cell? ⟨gb138, 7, none⟩ = some (.bool ((rd_T61 l0 x3_1).f7)) := (blk_cell BK138.out 7).trans rfl
                            have hfz39_0 := blk_frozen BK138.out 0
                            have hfz39_1 := blk_frozen BK138.out 1
                            have hfz39_2 := blk_frozen BK138.out 2
                            have hfz39_3 := blk_frozen BK138.out 3
                            have hfz39_4 := blk_frozen BK138.out 4
                            have hfz39_5 := blk_frozen BK138.out 5
                            have hfz39_6 := blk_frozen BK138.out 6
                            have hfz39_7 := blk_frozen BK138.out 7
                            have p140 : 0 ≤ (x5_3 : Int) := of_decide_eq_true (by first | (with_reducible assumption) | assumption)
                            have q140 : x5_3 < (((rd_T61 l0 x3_1).f4).length : Int) := of_decide_eq_true (by first | (with_reducible assumption) | assumption)
                            obtain ⟨ad140, A140_3, c140_3, A140_7, c140_7, e140, hx140_0, hx140_1, hx140_2, hx140_3, hx140_4, hx140_5, hx140_6, hx140_7, hl140_3, hi140_3, hl140_7, hi140_7⟩ := at_T38 HR137_4.out x5_3 p140 q140
                            cases e140
                            replace hx140_0 := (HB.out.cell (World.block_lt_of_cell? w _ hx140_0)).trans hx140_0
                            replace hx140_1 := (HB.out.cell (World.block_lt_of_cell? w _ hx140_1)).trans hx140_1
                            replace hx140_2 := (HB.out.cell (World.block_lt_of_cell? w _ hx140_2)).trans hx140_2
                            replace hx140_3 := (HB.out.cell (World.block_lt_of_cell? w _ hx140_3)).trans hx140_3
                            replace hx140_4 := (HB.out.cell (World.block_lt_of_cell? w _ hx140_4)).trans hx140_4
                            replace hx140_5 := (HB.out.cell (World.block_lt_of_cell? w _ hx140_5)).trans hx140_5
                            replace hx140_6 := (HB.out.cell (World.block_lt_of_cell? w _ hx140_6)).trans hx140_6
                            replace hx140_7 := (HB.out.cell (World.block_lt_of_cell? w _ hx140_7)).trans hx140_7
                            have HR140_3 := Aside0.mk hi140_3
                            have HC140_3 := Aside0.mk hl140_3
                            clear hi140_3 hl140_3
                            have HR140_7 := Aside0.mk hi140_7
                            have HC140_7 := Aside0.mk hl140_7
                            clear hi140_7 hl140_7
                            replace p140 := eq_true p140
                            replace q140 := eq_true q140
                            go_wp2_with (first | (go_at_call 21; (with_reducible refine (spec_SpanOk.calls k3 ((rd_T38 ((rd_T61 l0 x3_1).f4) x5_3).f0.f0) ((rd_T38 ((rd_T61 l0 x3_1).f4) x5_3).f0.f1) ((rd_T38 ((rd_T61 l0 x3_1).f4) x5_3).f0.f2) _ _ ((rd_T38 ((rd_T61 l0 x3_1).f4) x5_3).f0.f3) ((rd_T38 ((rd_T61 l0 x3_1).f4) x5_3).f1.f0) ((rd_T38 ((rd_T61 l0 x3_1).f4) x5_3).f1.f1) ((rd_T38 ((rd_T61 l0 x3_1).f4) x5_3).f1.f2) _ _ ((rd_T38 ((rd_T61 l0 x3_1).f4) x5_3).f1.f3) false _ ?side1 ?side2 ?side3 ?side4 A35.out).mono ?_); (case side1 => repeat (first | exact (Kd.C_below HR140_3.out HB.out) | (with_reducible refine Kd.C_alloc ?_ _) | (with_reducible refine Kd.C_drewN ?_ _) | (with_reducible refine Kd.C_drew ?_))); (case side2 => exact HC140_3.out); (case side3 => repeat (first | exact (Kd.C_below HR140_7.out HB.out) | (with_reducible refine Kd.C_alloc ?_ _) | (with_reducible refine Kd.C_drewN ?_ _) | (with_reducible refine Kd.C_drew ?_))); (case side4 => exact HC140_7.out); rintro e w40 ⟨rfl, hb⟩; have n0_ := Aside0.mk (blk_below (g := gb138) (o := .cells #[.int .i64 ((rd_T61 l0 x3_1).f0), .int .i64 ((rd_T61 l0 x3_1).f1), .int .i64 ((rd_T61 l0 x3_1).f2), .bool ((rd_T61 l0 x3_1).f3), .slice (some ad140) ((rd_T61 l0 x3_1).f4).length c137_4, .slice A137_5 ((rd_T61 l0 x3_1).f5).length c137_5, .bool ((rd_T61 l0 x3_1).f6), .bool ((rd_T61 l0 x3_1).f7)] 61 (0, 0)) (by (with_reducible repeat (first | refine blk_drewN ?_ _ | refine blk_drew ?_ | refine blk_alloc ?_ _)); exact BK138.out) hb); have n1_ := Aside0.mk (below_step (by repeat (first | (with_reducible first | exact HB.out | apply below_alloc | apply pw_below_drewN | apply below_drew1 | refine below_set ?_ GE138.out) | exact HB.out)) hb); clear BK138; clear HB; have BK138 := n0_; have HB := n1_; clear n0_ n1_; (try clear hb); (try clear hb2); (try clear hk); (try clear hi)))
                            repeat (go_quiet (first | (go_at_call 21; (with_reducible refine (spec_SpanOk.calls k3 ((rd_T38 ((rd_T61 l0 x3_1).f4) x5_3).f0.f0) ((rd_T38 ((rd_T61 l0 x3_1).f4) x5_3).f0.f1) ((rd_T38 ((rd_T61 l0 x3_1).f4) x5_3).f0.f2) _ _ ((rd_T38 ((rd_T61 l0 x3_1).f4) x5_3).f0.f3) ((rd_T38 ((rd_T61 l0 x3_1).f4) x5_3).f1.f0) ((rd_T38 ((rd_T61 l0 x3_1).f4) x5_3).f1.f1) ((rd_T38 ((rd_T61 l0 x3_1).f4) x5_3).f1.f2) _ _ ((rd_T38 ((rd_T61 l0 x3_1).f4) x5_3).f1.f3) false _ ?side1 ?side2 ?side3 ?side4 A35.out).mono ?_); (case side1 => repeat (first | exact (Kd.C_below HR140_3.out HB.out) | (with_reducible refine Kd.C_alloc ?_ _) | (with_reducible refine Kd.C_drewN ?_ _) | (with_reducible refine Kd.C_drew ?_))); (case side2 => exact HC140_3.out); (case side3 => repeat (first | exact (Kd.C_below HR140_7.out HB.out) | (with_reducible refine Kd.C_alloc ?_ _) | (with_reducible refine Kd.C_drewN ?_ _) | (with_reducible refine Kd.C_drew ?_))); (case side4 => exact HC140_7.out); rintro e w40 ⟨rfl, hb⟩; have n0_ := Aside0.mk (blk_below (g := gb138) (o := .cells #[.int .i64 ((rd_T61 l0 x3_1).f0), .int .i64 ((rd_T61 l0 x3_1).f1), .int .i64 ((rd_T61 l0 x3_1).f2), .bool ((rd_T61 l0 x3_1).f3), .slice (some ad140) ((rd_T61 l0 x3_1).f4).length c137_4, .slice A137_5 ((rd_T61 l0 x3_1).f5).length c137_5, .bool ((rd_T61 l0 x3_1).f6), .bool ((rd_T61 l0 x3_1).f7)] 61 (0, 0)) (by (with_reducible repeat (first | refine blk_drewN ?_ _ | refine blk_drew ?_ | refine blk_alloc ?_ _)); exact BK138.out) hb); have n1_ := Aside0.mk (below_step (by repeat (first | (with_reducible first | exact HB.out | apply below_alloc | apply pw_below_drewN | apply below_drew1 | refine below_set ?_ GE138.out) | exact HB.out)) hb); clear BK138; clear HB; have BK138 := n0_; have HB := n1_; clear n0_ n1_; (try clear hb); (try clear hb2); (try clear hk); (try clear hi))); try go_wp2_with (first | (go_at_call 21; (with_reducible refine (spec_SpanOk.calls k3 ((rd_T38 ((rd_T61 l0 x3_1).f4) x5_3).f0.f0) ((rd_T38 ((rd_T61 l0 x3_1).f4) x5_3).f0.f1) ((rd_T38 ((rd_T61 l0 x3_1).f4) x5_3).f0.f2) _ _ ((rd_T38 ((rd_T61 l0 x3_1).f4) x5_3).f0.f3) ((rd_T38 ((rd_T61 l0 x3_1).f4) x5_3).f1.f0) ((rd_T38 ((rd_T61 l0 x3_1).f4) x5_3).f1.f1) ((rd_T38 ((rd_T61 l0 x3_1).f4) x5_3).f1.f2) _ _ ((rd_T38 ((rd_T61 l0 x3_1).f4) x5_3).f1.f3) false _ ?side1 ?side2 ?side3 ?side4 A35.out).mono ?_); (case side1 => repeat (first | exact (Kd.C_below HR140_3.out HB.out) | (with_reducible refine Kd.C_alloc ?_ _) | (with_reducible refine Kd.C_drewN ?_ _) | (with_reducible refine Kd.C_drew ?_))); (case side2 => exact HC140_3.out); (case side3 => repeat (first | exact (Kd.C_below HR140_7.out HB.out) | (with_reducible refine Kd.C_alloc ?_ _) | (with_reducible refine Kd.C_drewN ?_ _) | (with_reducible refine Kd.C_drew ?_))); (case side4 => exact HC140_7.out); rintro e w40 ⟨rfl, hb⟩; have n0_ := Aside0.mk (blk_below (g := gb138) (o := .cells #[.int .i64 ((rd_T61 l0 x3_1).f0), .int .i64 ((rd_T61 l0 x3_1).f1), .int .i64 ((rd_T61 l0 x3_1).f2), .bool ((rd_T61 l0 x3_1).f3), .slice (some ad140) ((rd_T61 l0 x3_1).f4).length c137_4, .slice A137_5 ((rd_T61 l0 x3_1).f5).length c137_5, .bool ((rd_T61 l0 x3_1).f6), .bool ((rd_T61 l0 x3_1).f7)] 61 (0, 0)) (by (with_reducible repeat (first | refine blk_drewN ?_ _ | refine blk_drew ?_ | refine blk_alloc ?_ _)); exact BK138.out) hb); have n1_ := Aside0.mk (below_step (by repeat (first | (with_reducible first | exact HB.out | apply below_alloc | apply pw_below_drewN | apply below_drew1 | refine below_set ?_ GE138.out) | exact HB.out)) hb); clear BK138; clear HB; have BK138 := n0_; have HB := n1_; clear n0_ n1_; (try clear hb); (try clear hb2); (try clear hk); (try clear hi))))
                            go_ret
                            exact ⟨by first | rfl | (simp [errW_none, errW_some] <;> rfl) | (simp [*, errW_none, errW_some] <;> rfl), by repeat (first | (with_reducible first | exact HB.out | apply below_alloc | apply pw_below_drewN | apply below_drew1 | refine below_set ?_ GE138.out) | exact HB.out)⟩
                        · rw [if_neg c34] at H
                          exact absurd H (by simp)
                      · rw [if_neg c33] at H
                        have c33b0 : decide (x5_3 < (((rd_T61 l0 x3_1).f4).length : Int)) = false := decide_eq_false c33
                        clear c33
                        have H' := Aside0.mk H
                        clear H
                        have hcz41_0 : wr.cell? ⟨gb138, 0, none⟩ = some (.int .i64 ((rd_T61 l0 x3_1).f0)) := (blk_cell BK138.out 0).trans rfl
                        have hcz41_1 : wr.cell? ⟨gb138, 1, none⟩ = some (.int .i64 ((rd_T61 l0 x3_1).f1)) := (blk_cell BK138.out 1).trans rfl
                        have hcz41_2 : wr.cell? ⟨gb138, 2, none⟩ = some (.int .i64 ((rd_T61 l0 x3_1).f2)) := (blk_cell BK138.out 2).trans rfl
                        have hcz41_3 : wr.cell? ⟨gb138, 3, none⟩ = some (.bool ((rd_T61 l0 x3_1).f3)) := (blk_cell BK138.out 3).trans rfl
                        have hcz41_4 : wr.cell? ⟨gb138, 4, none⟩ = some (.slice A137_4 ((rd_T61 l0 x3_1).f4).length c137_4) := (blk_cell BK138.out 4).trans rfl
                        have hcz41_5 : wr.cell? ⟨gb138, 5, none⟩ = some (.slice A137_5 ((rd_T61 l0 x3_1).f5).length c137_5) := (blk_cell BK138.out 5).trans rfl
                        have hcz41_6 : wr.cell? ⟨gb138, 6, none⟩ = some (.bool ((rd_T61 l0 x3_1).f6)) := (blk_cell BK138.out 6).trans rfl
                        have hcz41_7 : wr.cell? ⟨gb138, 7, none⟩ = some (.bool ((rd_T61 l0 x3_1).f7)) := (blk_cell BK138.out 7).trans rfl
                        have hfz41_0 := blk_frozen BK138.out 0
                        have hfz41_1 := blk_frozen BK138.out 1
                        have hfz41_2 := blk_frozen BK138.out 2
                        have hfz41_3 := blk_frozen BK138.out 3
                        have hfz41_4 := blk_frozen BK138.out 4
                        have hfz41_5 := blk_frozen BK138.out 5
                        have hfz41_6 := blk_frozen BK138.out 6
                        have hfz41_7 := blk_frozen BK138.out 7
                        go_wp2
                        repeat (go_quiet (fail); try go_wp2)
                        go_loopg [6] k3 (fun kq v6 w' => ∃ (x6_4 : Int), v6 = .int .i64 x6_4 ∧ Aside0 (spec_TracksOk.l2 kq l0 x3_1 x6_4 ((rd_T61 l0 x3_1).f0) ((rd_T61 l0 x3_1).f1) ((rd_T61 l0 x3_1).f2) ((rd_T61 l0 x3_1).f3) ((rd_T61 l0 x3_1).f4) ((rd_T61 l0 x3_1).f5) ((rd_T61 l0 x3_1).f6) ((rd_T61 l0 x3_1).f7) = some r) ∧ Aside0 (kq ≤ k3) ∧ Aside0 (w'.heap[gb138]? = some (.cells #[.int .i64 ((rd_T61 l0 x3_1).f0), .int .i64 ((rd_T61 l0 x3_1).f1), .int .i64 ((rd_T61 l0 x3_1).f2), .bool ((rd_T61 l0 x3_1).f3), (.slice A137_4 ((rd_T61 l0 x3_1).f4).length c137_4), (.slice A137_5 ((rd_T61 l0 x3_1).f5).length c137_5), .bool ((rd_T61 l0 x3_1).f6), .bool ((rd_T61 l0 x3_1).f7)] 61 (0, 0))) ∧ Aside0 (Below w.heap.size w w'))
                        case atStart => exact ⟨(0), (by first | rfl | (simp; done) | (simp [*]; done)), H', ⟨Nat.le_refl _⟩, ⟨by (with_reducible repeat (first | refine blk_drewN ?_ _ | refine blk_drew ?_ | refine blk_alloc ?_ _)); exact BK138.out⟩, ⟨by repeat (first | (with_reducible first | exact HB.out | apply below_alloc | apply pw_below_drewN | apply below_drew1 | refine below_set ?_ GE138.out) | exact HB.out)⟩⟩
                        case round =>
                          clear H'
                          try clear c1
                          try clear p1
                          try clear q1
                          try clear hx1
                          try clear c2
                          try clear c2b0
                          try clear c2b1
                          try clear p2
                          try clear q2
                          try clear c3
                          try clear c3b0
                          try clear c4
                          try clear c4b0
                          try clear p6
                          try clear c9
                          try clear c10
                          try clear c10b0
                          try clear c12
                          try clear c12b0
                          try clear c12b1
                          try clear c13
                          try clear c13b0
                          try clear c13b1
                          try clear p13
                          try clear q13
                          try clear hx13
                          try clear c14
                          try clear p14
                          try clear q14
                          try clear hx14
                          try clear q15
                          try clear c16
                          try clear c17
                          try clear c17b0
                          try clear c17b1
                          try clear c21
                          try clear c21b0
                          try clear c23
                          try clear c23b0
                          try clear c23b1
                          try clear q25
                          try clear c26
                          try clear c27
                          try clear c27b0
                          try clear c27b1
                          try clear c32
                          try clear c33
                          try clear c33b0
                          try clear c34
                          try clear c34b0
                          try clear c36
                          try clear hcz11_0
                          try clear hcz11_1
                          try clear hcz11_2
                          try clear hcz11_3
                          try clear hcz11_4
                          try clear hcz11_5
                          try clear hcz11_6
                          try clear hcz11_7
                          try clear hcz14_0
                          try clear hcz14_1
                          try clear hcz14_2
                          try clear hcz14_3
                          try clear hcz14_4
                          try clear hcz14_5
                          try clear hcz14_6
                          try clear hcz14_7
                          try clear hcz18_0
                          try clear hcz18_1
                          try clear hcz18_2
                          try clear hcz18_3
                          try clear hcz18_4
                          try clear hcz18_5
                          try clear hcz18_6
                          try clear hcz18_7
                          try clear hcz19_0
                          try clear hcz19_1
                          try clear hcz19_2
                          try clear hcz19_3
                          try clear hcz19_4
                          try clear hcz19_5
                          try clear hcz19_6
                          try clear hcz19_7
                          try clear hcz20_0
                          try clear hcz20_1
                          try clear hcz20_2
                          try clear hcz20_3
                          try clear hcz20_4
                          try clear hcz20_5
                          try clear hcz20_6
                          try clear hcz20_7
                          try clear hcz22_0
                          try clear hcz22_1
                          try clear hcz22_2
                          try clear hcz22_3
                          try clear hcz22_4
                          try clear hcz22_5
                          try clear hcz22_6
                          try clear hcz22_7
                          try clear hcz24_0
                          try clear hcz24_1
                          try clear hcz24_2
                          try clear hcz24_3
                          try clear hcz24_4
                          try clear hcz24_5
                          try clear hcz24_6
                          try clear hcz24_7
                          try clear hcz28_0
                          try clear hcz28_1
                          try clear hcz28_2
                          try clear hcz28_3
                          try clear hcz28_4
                          try clear hcz28_5
                          try clear hcz28_6
                          try clear hcz28_7
                          try clear hcz29_0
                          try clear hcz29_1
                          try clear hcz29_2
                          try clear hcz29_3
                          try clear hcz29_4
                          try clear hcz29_5
                          try clear hcz29_6
                          try clear hcz29_7
                          try clear hcz30_0
                          try clear hcz30_1
                          try clear hcz30_2
                          try clear hcz30_3
                          try clear hcz30_4
                          try clear hcz30_5
                          try clear hcz30_6
                          try clear hcz30_7
                          try clear hcz31_0
                          try clear hcz31_1
                          try clear hcz31_2
                          try clear hcz31_3
                          try clear hcz31_4
                          try clear hcz31_5
                          try clear hcz31_6
                          try clear hcz31_7
                          try clear hcz37_0
                          try clear hcz37_1
                          try clear hcz37_2
                          try clear hcz37_3
                          try clear hcz37_4
                          try clear hcz37_5
                          try clear hcz37_6
                          try clear hcz37_7
                          try clear hcz39_0
                          try clear hcz39_1
                          try clear hcz39_2
                          try clear hcz39_3
                          try clear hcz39_4
                          try clear hcz39_5
                          try clear hcz39_6
                          try clear hcz39_7
                          try clear hcz41_0
                          try clear hcz41_1
                          try clear hcz41_2
                          try clear hcz41_3
                          try clear hcz41_4
                          try clear hcz41_5
                          try clear hcz41_6
                          try clear hcz41_7
                          try clear hcz7_0
                          try clear hcz7_1
                          try clear hcz7_2
                          try clear hcz7_3
                          try clear hcz7_4
                          try clear hcz7_5
                          try clear hcz7_6
                          try clear hcz7_7
                          try clear hfz11_0
                          try clear hfz11_1
                          try clear hfz11_2
                          try clear hfz11_3
                          try clear hfz11_4
                          try clear hfz11_5
                          try clear hfz11_6
                          try clear hfz11_7
                          try clear hfz14_0
                          try clear hfz14_1
                          try clear hfz14_2
                          try clear hfz14_3
                          try clear hfz14_4
                          try clear hfz14_5
                          try clear hfz14_6
                          try clear hfz14_7
                          try clear hfz18_0
                          try clear hfz18_1
                          try clear hfz18_2
                          try clear hfz18_3
                          try clear hfz18_4
                          try clear hfz18_5
                          try clear hfz18_6
                          try clear hfz18_7
                          try clear hfz19_0
                          try clear hfz19_1
                          try clear hfz19_2
                          try clear hfz19_3
                          try clear hfz19_4
                          try clear hfz19_5
                          try clear hfz19_6
                          try clear hfz19_7
                          try clear hfz20_0
                          try clear hfz20_1
                          try clear hfz20_2
                          try clear hfz20_3
                          try clear hfz20_4
                          try clear hfz20_5
                          try clear hfz20_6
                          try clear hfz20_7
                          try clear hfz22_0
                          try clear hfz22_1
                          try clear hfz22_2
                          try clear hfz22_3
                          try clear hfz22_4
                          try clear hfz22_5
                          try clear hfz22_6
                          try clear hfz22_7
                          try clear hfz24_0
                          try clear hfz24_1
                          try clear hfz24_2
                          try clear hfz24_3
                          try clear hfz24_4
                          try clear hfz24_5
                          try clear hfz24_6
                          try clear hfz24_7
                          try clear hfz28_0
                          try clear hfz28_1
                          try clear hfz28_2
                          try clear hfz28_3
                          try clear hfz28_4
                          try clear hfz28_5
                          try clear hfz28_6
                          try clear hfz28_7
                          try clear hfz29_0
                          try clear hfz29_1
                          try clear hfz29_2
                          try clear hfz29_3
                          try clear hfz29_4
                          try clear hfz29_5
                          try clear hfz29_6
                          try clear hfz29_7
                          try clear hfz30_0
                          try clear hfz30_1
                          try clear hfz30_2
                          try clear hfz30_3
                          try clear hfz30_4
                          try clear hfz30_5
                          try clear hfz30_6
                          try clear hfz30_7
                          try clear hfz31_0
                          try clear hfz31_1
                          try clear hfz31_2
                          try clear hfz31_3
                          try clear hfz31_4
                          try clear hfz31_5
                          try clear hfz31_6
                          try clear hfz31_7
                          try clear hfz37_0
                          try clear hfz37_1
                          try clear hfz37_2
                          try clear hfz37_3
                          try clear hfz37_4
                          try clear hfz37_5
                          try clear hfz37_6
                          try clear hfz37_7
                          try clear hfz39_0
                          try clear hfz39_1
                          try clear hfz39_2
                          try clear hfz39_3
                          try clear hfz39_4
                          try clear hfz39_5
                          try clear hfz39_6
                          try clear hfz39_7
                          try clear hfz41_0
                          try clear hfz41_1
                          try clear hfz41_2
                          try clear hfz41_3
                          try clear hfz41_4
                          try clear hfz41_5
                          try clear hfz41_6
                          try clear hfz41_7
                          try clear hfz7_0
                          try clear hfz7_1
                          try clear hfz7_2
                          try clear hfz7_3
                          try clear hfz7_4
                          try clear hfz7_5
                          try clear hfz7_6
                          try clear hfz7_7
                          try clear hx137_0
                          try clear hx137_1
                          try clear hx137_2
                          try clear hx137_3
                          try clear hx137_4
                          try clear hx137_5
                          try clear hx137_6
                          try clear hx137_7
                          try clear hx140_0
                          try clear hx140_1
                          try clear hx140_2
                          try clear hx140_3
                          try clear hx140_4
                          try clear hx140_5
                          try clear hx140_6
                          try clear hx140_7
                          try clear p1
                          try clear p13
                          try clear p137
                          try clear p140
                          try clear p2
                          try clear q1
                          try clear q13
                          try clear q137
                          try clear q140
                          try clear q15
                          try clear q2
                          try clear q25
                          obtain ⟨x6_4, rfl, HA, HK4, BK138, HB⟩ := hrel
                          cases gk with
                          | zero => exact absurd HA.out (by simp [spec_TracksOk.l2])
                          | succ k4 =>
                            have H := HA.out
                            clear HA
                            simp only [spec_TracksOk.l2] at H
                            by_cases c42 : x6_4 < (((rd_T61 l0 x3_1).f5).length : Int)
                            · rw [if_pos c42] at H
                              have c42b0 : decide (x6_4 < (((rd_T61 l0 x3_1).f5).length : Int)) = true := decide_eq_true c42
                              clear c42
                              by_cases c43 : 0 ≤ x6_4
                              · rw [if_pos c43] at H
                                have c43b0 : decide (0 ≤ x6_4) = true := decide_eq_true c43
                                clear c43
                                replace H := Option.bind_eq_some_iff.mp H
                                obtain ⟨t143, A440, H⟩ := H
                                replace H : (if t143 = true then (spec_TracksOk.l2 k4 l0 x3_1 (wrap64 (x6_4 + 1)) ((rd_T61 l0 x3_1).f0) ((rd_T61 l0 x3_1).f1) ((rd_T61 l0 x3_1).f2) ((rd_T61 l0 x3_1).f3) ((rd_T61 l0 x3_1).f4) ((rd_T61 l0 x3_1).f5) ((rd_T61 l0 x3_1).f6) ((rd_T61 l0 x3_1).f7)) else (some false)) = some r := H
                                have A44 := Aside0.mk A440
                                clear A440
                                by_cases c45 : t143 = true
                                · subst c45
                                  have H1 : (spec_TracksOk.l2 k4 l0 x3_1 (wrap64 (x6_4 + 1)) ((rd_T61 l0 x3_1).f0) ((rd_T61 l0 x3_1).f1) ((rd_T61 l0 x3_1).f2) ((rd_T61 l0 x3_1).f3) ((rd_T61 l0 x3_1).f4) ((rd_T61 l0 x3_1).f5) ((rd_T61 l0 x3_1).f6) ((rd_T61 l0 x3_1).f7)) = some r := by rw [if_pos rfl] at H; exact H
                                  clear H
                                  have H := H1
                                  clear H1
                                  have H' := Aside0.mk H
                                  clear H
                                  have hcz46_0 : wr.cell? ⟨gb138, 0, none⟩ = some (.int .i64 ((rd_T61 l0 x3_1).f0)) := (blk_cell BK138.out 0).trans rfl
                                  have hcz46_1 : wr.cell? ⟨gb138, 1, none⟩ = some (.int .i64 ((rd_T61 l0 x3_1).f1)) := (blk_cell BK138.out 1).trans rfl
                                  have hcz46_2 : wr.cell? ⟨gb138, 2, none⟩ = some (.int .i64 ((rd_T61 l0 x3_1).f2)) := (blk_cell BK138.out 2).trans rfl
                                  have hcz46_3 : wr.cell? ⟨gb138, 3, none⟩ = some (.bool ((rd_T61 l0 x3_1).f3)) := (blk_cell BK138.out 3).trans rfl
                                  have hcz46_4 : wr.cell? ⟨gb138, 4, none⟩ = some (.slice A137_4 ((rd_T61 l0 x3_1).f4).length c137_4) := (blk_cell BK138.out 4).trans rfl
                                  have hcz46_5 : wr.cell? ⟨gb138, 5, none⟩ = some (.slice A137_5 ((rd_T61 l0 x3_1).f5).length c137_5) := (blk_cell BK138.out 5).trans rfl
                                  have hcz46_6 : wr.cell? ⟨gb138, 6, none⟩ = some (.bool ((rd_T61 l0 x3_1).f6)) := (blk_cell BK138.out 6).trans rfl
                                  have hcz46_7 : wr.cell? ⟨gb138, 7, none⟩ = some (.bool ((rd_T61 l0 x3_1).f7)) := (blk_cell BK138.out 7).trans rfl
                                  have hfz46_0 := blk_frozen BK138.out 0
                                  have hfz46_1 := blk_frozen BK138.out 1
                                  have hfz46_2 := blk_frozen BK138.out 2
                                  have hfz46_3 := blk_frozen BK138.out 3
                                  have hfz46_4 := blk_frozen BK138.out 4
                                  have hfz46_5 := blk_frozen BK138.out 5
                                  have hfz46_6 := blk_frozen BK138.out 6
                                  have hfz46_7 := blk_frozen BK138.out 7
                                  have p142 : 0 ≤ (x6_4 : Int) := of_decide_eq_true (by first | (with_reducible assumption) | assumption)
                                  have q142 : x6_4 < (((rd_T61 l0 x3_1).f5).length : Int) := of_decide_eq_true (by first | (with_reducible assumption) | assumption)
                                  obtain ⟨ad142, A142_3, c142_3, e142, hx142_0, hx142_1, hx142_2, hx142_3, hl142_3, hi142_3⟩ := at_T27 HR137_5.out x6_4 p142 q142
                                  cases e142
                                  replace hx142_0 := (HB.out.cell (World.block_lt_of_cell? w _ hx142_0)).trans hx142_0
                                  replace hx142_1 := (HB.out.cell (World.block_lt_of_cell? w _ hx142_1)).trans hx142_1
                                  replace hx142_2 := (HB.out.cell (World.block_lt_of_cell? w _ hx142_2)).trans hx142_2
                                  replace hx142_3 := (HB.out.cell (World.block_lt_of_cell? w _ hx142_3)).trans hx142_3
                                  have HR142_3 := Aside0.mk hi142_3
                                  have HC142_3 := Aside0.mk hl142_3
                                  clear hi142_3 hl142_3
                                  replace p142 := eq_true p142
                                  replace q142 := eq_true q142
                                  go_wp2_with (first | (go_at_call 70; (with_reducible refine (spec_KeyOk.calls k4 ((rd_T27 ((rd_T61 l0 x3_1).f5) x6_4).f0) ((rd_T27 ((rd_T61 l0 x3_1).f5) x6_4).f1) ((rd_T27 ((rd_T61 l0 x3_1).f5) x6_4).f2) _ _ ((rd_T27 ((rd_T61 l0 x3_1).f5) x6_4).f3) true _ ?side1 ?side2 A44.out).mono ?_); (case side1 => repeat (first | exact (Kd.C_below HR142_3.out HB.out) | (with_reducible refine Kd.C_alloc ?_ _) | (with_reducible refine Kd.C_drewN ?_ _) | (with_reducible refine Kd.C_drew ?_))); (case side2 => exact HC142_3.out); rintro e w47 ⟨rfl, hb⟩; have n0_ := Aside0.mk (blk_below (g := gb138) (o := .cells #[.int .i64 ((rd_T61 l0 x3_1).f0), .int .i64 ((rd_T61 l0 x3_1).f1), .int .i64 ((rd_T61 l0 x3_1).f2), .bool ((rd_T61 l0 x3_1).f3), .slice A137_4 ((rd_T61 l0 x3_1).f4).length c137_4, .slice (some ad142) ((rd_T61 l0 x3_1).f5).length c137_5, .bool ((rd_T61 l0 x3_1).f6), .bool ((rd_T61 l0 x3_1).f7)] 61 (0, 0)) (by (with_reducible repeat (first | refine blk_drewN ?_ _ | refine blk_drew ?_ | refine blk_alloc ?_ _)); exact BK138.out) hb); have n1_ := Aside0.mk (below_step (by repeat (first | (with_reducible first | exact HB.out | apply below_alloc | apply pw_below_drewN | apply below_drew1 | refine below_set ?_ GE138.out) | exact HB.out)) hb); clear BK138; clear HB; have BK138 := n0_; have HB := n1_; clear n0_ n1_; (try clear hb); (try clear hb2); (try clear hk); (try clear hi)))
                                  repeat (go_quiet (first | (go_at_call 70; (with_reducible refine (spec_KeyOk.calls k4 ((rd_T27 ((rd_T61 l0 x3_1).f5) x6_4).f0) ((rd_T27 ((rd_T61 l0 x3_1).f5) x6_4).f1) ((rd_T27 ((rd_T61 l0 x3_1).f5) x6_4).f2) _ _ ((rd_T27 ((rd_T61 l0 x3_1).f5) x6_4).f3) true _ ?side1 ?side2 A44.out).mono ?_); (case side1 => repeat (first | exact (Kd.C_below HR142_3.out HB.out) | (with_reducible refine Kd.C_alloc ?_ _) | (with_reducible refine Kd.C_drewN ?_ _) | (with_reducible refine Kd.C_drew ?_))); (case side2 => exact HC142_3.out); rintro e w47 ⟨rfl, hb⟩; have n0_ := Aside0.mk (blk_below (g := gb138) (o := .cells #[.int .i64 ((rd_T61 l0 x3_1).f0), .int .i64 ((rd_T61 l0 x3_1).f1), .int .i64 ((rd_T61 l0 x3_1).f2), .bool ((rd_T61 l0 x3_1).f3), .slice A137_4 ((rd_T61 l0 x3_1).f4).length c137_4, .slice (some ad142) ((rd_T61 l0 x3_1).f5).length c137_5, .bool ((rd_T61 l0 x3_1).f6), .bool ((rd_T61 l0 x3_1).f7)] 61 (0, 0)) (by (with_reducible repeat (first | refine blk_drewN ?_ _ | refine blk_drew ?_ | refine blk_alloc ?_ _)); exact BK138.out) hb); have n1_ := Aside0.mk (below_step (by repeat (first | (with_reducible first | exact HB.out | apply below_alloc | apply pw_below_drewN | apply below_drew1 | refine below_set ?_ GE138.out) | exact HB.out)) hb); clear BK138; clear HB; have BK138 := n0_; have HB := n1_; clear n0_ n1_; (try clear hb); (try clear hb2); (try clear hk); (try clear hi))); try go_wp2_with (first | (go_at_call 70; (with_reducible refine (spec_KeyOk.calls k4 ((rd_T27 ((rd_T61 l0 x3_1).f5) x6_4).f0) ((rd_T27 ((rd_T61 l0 x3_1).f5) x6_4).f1) ((rd_T27 ((rd_T61 l0 x3_1).f5) x6_4).f2) _ _ ((rd_T27 ((rd_T61 l0 x3_1).f5) x6_4).f3) true _ ?side1 ?side2 A44.out).mono ?_); (case side1 => repeat (first | exact (Kd.C_below HR142_3.out HB.out) | (with_reducible refine Kd.C_alloc ?_ _) | (with_reducible refine Kd.C_drewN ?_ _) | (with_reducible refine Kd.C_drew ?_))); (case side2 => exact HC142_3.out); rintro e w47 ⟨rfl, hb⟩; have n0_ := Aside0.mk (blk_below (g := gb138) (o := .cells #[.int .i64 ((rd_T61 l0 x3_1).f0), .int .i64 ((rd_T61 l0 x3_1).f1), .int .i64 ((rd_T61 l0 x3_1).f2), .bool ((rd_T61 l0 x3_1).f3), .slice A137_4 ((rd_T61 l0 x3_1).f4).length c137_4, .slice (some ad142) ((rd_T61 l0 x3_1).f5).length c137_5, .bool ((rd_T61 l0 x3_1).f6), .bool ((rd_T61 l0 x3_1).f7)] 61 (0, 0)) (by (with_reducible repeat (first | refine blk_drewN ?_ _ | refine blk_drew ?_ | refine blk_alloc ?_ _)); exact BK138.out) hb); have n1_ := Aside0.mk (below_step (by repeat (first | (with_reducible first | exact HB.out | apply below_alloc | apply pw_below_drewN | apply below_drew1 | refine below_set ?_ GE138.out) | exact HB.out)) hb); clear BK138; clear HB; have BK138 := n0_; have HB := n1_; clear n0_ n1_; (try clear hb); (try clear hb2); (try clear hk); (try clear hi))))
                                  go_roundg k4
                                  case measure => have := HK1.out; have := HJ4.out; have := HK3.out; have := HK4.out; omega
                                  case rel => (try simp only [← Nbq15.out]); (try simp only [← Nbq25.out]); exact ⟨(wrap64 (x6_4 + 1)), (by first | rfl | (simp; done) | (simp [*]; done)), H', ⟨by have := HK1.out; have := HJ4.out; have := HK3.out; have := HK4.out; omega⟩, ⟨by (with_reducible repeat (first | refine blk_drewN ?_ _ | refine blk_drew ?_ | refine blk_alloc ?_ _)); exact BK138.out⟩, ⟨by repeat (first | (with_reducible first | exact HB.out | apply below_alloc | apply pw_below_drewN | apply below_drew1 | refine below_set ?_ GE138.out) | exact HB.out)⟩⟩
                                · replace c45 := Bool.eq_false_iff.mpr c45
                                  subst c45
                                  have H1 : (some false) = some r := by rw [if_neg (show ¬ (false = true) by decide)] at H; exact H
                                  clear H
                                  have H := H1
                                  clear H1
                                  obtain rfl := Option.some.inj H
                                  have hcz48_0 : wr.cell? ⟨gb138, 0, none⟩ = some (.int .i64 ((rd_T61 l0 x3_1).f0)) := (blk_cell BK138.out 0).trans rfl
                                  have hcz48_1 : wr.cell? ⟨gb138, 1, none⟩ = some (.int .i64 ((rd_T61 l0 x3_1).f1)) := (blk_cell BK138.out 1).trans rfl
                                  have hcz48_2 : wr.cell? ⟨gb138, 2, none⟩ = some (.int .i64 ((rd_T61 l0 x3_1).f2)) := (blk_cell BK138.out 2).trans rfl
                                  have hcz48_3 : wr.cell? ⟨gb138, 3, none⟩ = some (.bool ((rd_T61 l0 x3_1).f3)) := (blk_cell BK138.out 3).trans rfl
                                  have hcz48_4 : wr.cell? ⟨gb138, 4, none⟩ = some (.slice A137_4 ((rd_T61 l0 x3_1).f4).length c137_4) := (blk_cell BK138.out 4).trans rfl
                                  have hcz48_5 : wr.cell? ⟨gb138, 5, none⟩ = some (.slice A137_5 ((rd_T61 l0 x3_1).f5).length c137_5) := (blk_cell BK138.out 5).trans rfl
                                  have hcz48_6 : wr.cell? ⟨gb138, 6, none⟩ = some (.bool ((rd_T61 l0 x3_1).f6)) := (blk_cell BK138.out 6).trans rfl
                                  have hcz48_7 : wr.cell? ⟨gb138, 7, none⟩ = some (.bool ((rd_T61 l0 x3_1).f7)) := (blk_cell BK138.out 7).trans rfl
                                  have hfz48_0 := blk_frozen BK138.out 0
                                  have hfz48_1 := blk_frozen BK138.out 1
                                  have hfz48_2 := blk_frozen BK138.out 2
                                  have hfz48_3 := blk_frozen BK138.out 3
                                  have hfz48_4 := blk_frozen BK138.out 4
                                  have hfz48_5 := blk_frozen BK138.out 5
                                  have hfz48_6 := blk_frozen BK138.out 6
                                  have hfz48_7 := blk_frozen BK138.out 7
                                  have p142 : 0 ≤ (x6_4 : Int) := of_decide_eq_true (by first | (with_reducible assumption) | assumption)
                                  have q142 : x6_4 < (((rd_T61 l0 x3_1).f5).length : Int) := of_decide_eq_true (by first | (with_reducible assumption) | assumption)
                                  obtain ⟨ad142, A142_3, c142_3, e142, hx142_0, hx142_1, hx142_2, hx142_3, hl142_3, hi142_3⟩ := at_T27 HR137_5.out x6_4 p142 q142
                                  cases e142
                                  replace hx142_0 := (HB.out.cell (World.block_lt_of_cell? w _ hx142_0)).trans hx142_0
                                  replace hx142_1 := (HB.out.cell (World.block_lt_of_cell? w _ hx142_1)).trans hx142_1
                                  replace hx142_2 := (HB.out.cell (World.block_lt_of_cell? w _ hx142_2)).trans hx142_2
                                  replace hx142_3 := (HB.out.cell (World.block_lt_of_cell? w _ hx142_3)).trans hx142_3
                                  have HR142_3 := Aside0.mk hi142_3
                                  have HC142_3 := Aside0.mk hl142_3
                                  clear hi142_3 hl142_3
                                  replace p142 := eq_true p142
                                  replace q142 := eq_true q142
                                  go_wp2_with (first | (go_at_call 70; (with_reducible refine (spec_KeyOk.calls k4 ((rd_T27 ((rd_T61 l0 x3_1).f5) x6_4).f0) ((rd_T27 ((rd_T61 l0 x3_1).f5) x6_4).f1) ((rd_T27 ((rd_T61 l0 x3_1).f5) x6_4).f2) _ _ ((rd_T27 ((rd_T61 l0 x3_1).f5) x6_4).f3) false _ ?side1 ?side2 A44.out).mono ?_); (case side1 => repeat (first | exact (Kd.C_below HR142_3.out HB.out) | (with_reducible refine Kd.C_alloc ?_ _) | (with_reducible refine Kd.C_drewN ?_ _) | (with_reducible refine Kd.C_drew ?_))); (case side2 => exact HC142_3.out); rintro e w49 ⟨rfl, hb⟩; have n0_ := Aside0.mk (blk_below (g := gb138) (o := .cells #[.int .i64 ((rd_T61 l0 x3_1).f0), .int .i64 ((rd_T61 l0 x3_1).f1), .int .i64 ((rd_T61 l0 x3_1).f2), .bool ((rd_T61 l0 x3_1).f3), .slice A137_4 ((rd_T61 l0 x3_1).f4).length c137_4, .slice (some ad142) ((rd_T61 l0 x3_1).f5).length c137_5, .bool ((rd_T61 l0 x3_1).f6), .bool ((rd_T61 l0 x3_1).f7)] 61 (0, 0)) (by (with_reducible repeat (first | refine blk_drewN ?_ _ | refine blk_drew ?_ | refine blk_alloc ?_ _)); exact BK138.out) hb); have n1_ := Aside0.mk (below_step (by repeat (first | (with_reducible first | exact HB.out | apply below_alloc | apply pw_below_drewN | apply below_drew1 | refine below_set ?_ GE138.out) | exact HB.out)) hb); clear BK138; clear HB; have BK138 := n0_; have HB := n1_; clear n0_ n1_; (try clear hb); (try clear hb2); (try clear hk); (try clear hi)))
                                  repeat (go_quiet (first | (go_at_call 70; (with_reducible refine (spec_KeyOk.calls k4 ((rd_T27 ((rd_T61 l0 x3_1).f5) x6_4).f0) ((rd_T27 ((rd_T61 l0 x3_1).f5) x6_4).f1) ((rd_T27 ((rd_T61 l0 x3_1).f5) x6_4).f2) _ _ ((rd_T27 ((rd_T61 l0 x3_1).f5) x6_4).f3) false _ ?side1 ?side2 A44.out).mono ?_); (case side1 => repeat (first | exact (Kd.C_below HR142_3.out HB.out) | (with_reducible refine Kd.C_alloc ?_ _) | (with_reducible refine Kd.C_drewN ?_ _) | (with_reducible refine Kd.C_drew ?_))); (case side2 => exact HC142_3.out); rintro e w49 ⟨rfl, hb⟩; have n0_ := Aside0.mk (blk_below (g := gb138) (o := .cells #[.int .i64 ((rd_T61 l0 x3_1).f0), .int .i64 ((rd_T61 l0 x3_1).f1), .int .i64 ((rd_T61 l0 x3_1).f2), .bool ((rd_T61 l0 x3_1).f3), .slice A137_4 ((rd_T61 l0 x3_1).f4).length c137_4, .slice (some ad142) ((rd_T61 l0 x3_1).f5).length c137_5, .bool ((rd_T61 l0 x3_1).f6), .bool ((rd_T61 l0 x3_1).f7)] 61 (0, 0)) (by (with_reducible repeat (first | refine blk_drewN ?_ _ | refine blk_drew ?_ | refine blk_alloc ?_ _)); exact BK138.out) hb); have n1_ := Aside0.mk (below_step (by repeat (first | (with_reducible first | exact HB.out | apply below_alloc | apply pw_below_drewN | apply below_drew1 | refine below_set ?_ GE138.out) | exact HB.out)) hb); clear BK138; clear HB; have BK138 := n0_; have HB := n1_; clear n0_ n1_; (try clear hb); (try clear hb2); (try clear hk); (try clear hi))); try go_wp2_with (first | (go_at_call 70; (with_reducible refine (spec_KeyOk.calls k4 ((rd_T27 ((rd_T61 l0 x3_1).f5) x6_4).f0) ((rd_T27 ((rd_T61 l0 x3_1).f5) x6_4).f1) ((rd_T27 ((rd_T61 l0 x3_1).f5) x6_4).f2) _ _ ((rd_T27 ((rd_T61 l0 x3_1).f5) x6_4).f3) false _ ?side1 ?side2 A44.out).mono ?_); (case side1 => repeat (first | exact (Kd.C_below HR142_3.out HB.out) | (with_reducible refine Kd.C_alloc ?_ _) | (with_reducible refine Kd.C_drewN ?_ _) | (with_reducible refine Kd.C_drew ?_))); (case side2 => exact HC142_3.out); rintro e w49 ⟨rfl, hb⟩; have n0_ := Aside0.mk (blk_below (g := gb138) (o := .cells #[.int .i64 ((rd_T61 l0 x3_1).f0), .int .i64 ((rd_T61 l0 x3_1).f1), .int .i64 ((rd_T61 l0 x3_1).f2), .bool ((rd_T61 l0 x3_1).f3), .slice A137_4 ((rd_T61 l0 x3_1).f4).length c137_4, .slice (some ad142) ((rd_T61 l0 x3_1).f5).length c137_5, .bool ((rd_T61 l0 x3_1).f6), .bool ((rd_T61 l0 x3_1).f7)] 61 (0, 0)) (by (with_reducible repeat (first | refine blk_drewN ?_ _ | refine blk_drew ?_ | refine blk_alloc ?_ _)); exact BK138.out) hb); have n1_ := Aside0.mk (below_step (by repeat (first | (with_reducible first | exact HB.out | apply below_alloc | apply pw_below_drewN | apply below_drew1 | refine below_set ?_ GE138.out) | exact HB.out)) hb); clear BK138; clear HB; have BK138 := n0_; have HB := n1_; clear n0_ n1_; (try clear hb); (try clear hb2); (try clear hk); (try clear hi))))
                                  go_ret
                                  exact ⟨by first | rfl | (simp [errW_none, errW_some] <;> rfl) | (simp [*, errW_none, errW_some] <;> rfl), by repeat (first | (with_reducible first | exact HB.out | apply below_alloc | apply pw_below_drewN | apply below_drew1 | refine below_set ?_ GE138.out) | exact HB.out)⟩
                              · rw [if_neg c43] at H
                                exact absurd H (by simp)
                            · rw [if_neg c42] at H
                              have c42b0 : decide (x6_4 < (((rd_T61 l0 x3_1).f5).length : Int)) = false := decide_eq_false c42
                              clear c42
                              have H' := Aside0.mk H
                              clear H
                              have hcz50_0 : wr.cell? ⟨gb138, 0, none⟩ = some (.int .i64 ((rd_T61 l0 x3_1).f0)) := (blk_cell BK138.out 0).trans rfl
                              have hcz50_1 : wr.cell? ⟨gb138, 1, none⟩ = some (.int .i64 ((rd_T61 l0 x3_1).f1)) := (blk_cell BK138.out 1).trans rfl
                              have hcz50_2 : wr.cell? ⟨gb138, 2, none⟩ = some (.int .i64 ((rd_T61 l0 x3_1).f2)) := (blk_cell BK138.out 2).trans rfl
                              have hcz50_3 : wr.cell? ⟨gb138, 3, none⟩ = some (.bool ((rd_T61 l0 x3_1).f3)) := (blk_cell BK138.out 3).trans rfl
                              have hcz50_4 : wr.cell? ⟨gb138, 4, none⟩ = some (.slice A137_4 ((rd_T61 l0 x3_1).f4).length c137_4) := (blk_cell BK138.out 4).trans rfl
                              have hcz50_5 : wr.cell? ⟨gb138, 5, none⟩ = some (.slice A137_5 ((rd_T61 l0 x3_1).f5).length c137_5) := (blk_cell BK138.out 5).trans rfl
                              have hcz50_6 : wr.cell? ⟨gb138, 6, none⟩ = some (.bool ((rd_T61 l0 x3_1).f6)) := (blk_cell BK138.out 6).trans rfl
                              have hcz50_7 : wr.cell? ⟨gb138, 7, none⟩ = some (.bool ((rd_T61 l0 x3_1).f7)) := (blk_cell BK138.out 7).trans rfl
                              have hfz50_0 := blk_frozen BK138.out 0
                              have hfz50_1 := blk_frozen BK138.out 1
                              have hfz50_2 := blk_frozen BK138.out 2
                              have hfz50_3 := blk_frozen BK138.out 3
                              have hfz50_4 := blk_frozen BK138.out 4
                              have hfz50_5 := blk_frozen BK138.out 5
                              have hfz50_6 := blk_frozen BK138.out 6
                              have hfz50_7 := blk_frozen BK138.out 7
                              go_wp2
                              repeat (go_quiet (fail); try go_wp2)
                              go_loopg [7] k4 (fun kq v7 w' => ∃ (x7_5 : Int), v7 = .int .i64 x7_5 ∧ Aside0 (spec_TracksOk.l3 kq l0 x3_1 x7_5 ((rd_T61 l0 x3_1).f0) ((rd_T61 l0 x3_1).f1) ((rd_T61 l0 x3_1).f2) ((rd_T61 l0 x3_1).f3) ((rd_T61 l0 x3_1).f4) ((rd_T61 l0 x3_1).f5) ((rd_T61 l0 x3_1).f6) ((rd_T61 l0 x3_1).f7) = some r) ∧ Aside0 (kq ≤ k4) ∧ Aside0 (w'.heap[gb138]? = some (.cells #[.int .i64 ((rd_T61 l0 x3_1).f0), .int .i64 ((rd_T61 l0 x3_1).f1), .int .i64 ((rd_T61 l0 x3_1).f2), .bool ((rd_T61 l0 x3_1).f3), (.slice A137_4 ((rd_T61 l0 x3_1).f4).length c137_4), (.slice A137_5 ((rd_T61 l0 x3_1).f5).length c137_5), .bool ((rd_T61 l0 x3_1).f6), .bool ((rd_T61 l0 x3_1).f7)] 61 (0, 0))) ∧ Aside0 (Below w.heap.size w w'))
                              case atStart => exact ⟨(0), (by first | rfl | (simp; done) | (simp [*]; done)), H', ⟨Nat.le_refl _⟩, ⟨by (with_reducible repeat (first | refine blk_drewN ?_ _ | refine blk_drew ?_ | refine blk_alloc ?_ _)); exact BK138.out⟩, ⟨by repeat (first | (with_reducible first | exact HB.out | apply below_alloc | apply pw_below_drewN | apply below_drew1 | refine below_set ?_ GE138.out) | exact HB.out)⟩⟩
                              case round =>
                                clear H'
                                try clear c1
                                try clear p1
                                try clear q1
                                try clear hx1
                                try clear c2
                                try clear c2b0
                                try clear c2b1
                                try clear p2
                                try clear q2
                                try clear c3
                                try clear c3b0
                                try clear c4
                                try clear c4b0
                                try clear p6
                                try clear c9
                                try clear c10
                                try clear c10b0
                                try clear c12
                                try clear c12b0
                                try clear c12b1
                                try clear c13
                                try clear c13b0
                                try clear c13b1
                                try clear p13
                                try clear q13
                                try clear hx13
                                try clear c14
                                try clear p14
                                try clear q14
                                try clear hx14
                                try clear q15
                                try clear c16
                                try clear c17
                                try clear c17b0
                                try clear c17b1
                                try clear c21
                                try clear c21b0
                                try clear c23
                                try clear c23b0
                                try clear c23b1
                                try clear q25
                                try clear c26
                                try clear c27
                                try clear c27b0
                                try clear c27b1
                                try clear c32
                                try clear c33
                                try clear c33b0
                                try clear c34
                                try clear c34b0
                                try clear c36
                                try clear c42
                                try clear c42b0
                                try clear c43
                                try clear c43b0
                                try clear c45
                                try clear hcz11_0
                                try clear hcz11_1
                                try clear hcz11_2
                                try clear hcz11_3
                                try clear hcz11_4
                                try clear hcz11_5
                                try clear hcz11_6
                                try clear hcz11_7
                                try clear hcz14_0
                                try clear hcz14_1
                                try clear hcz14_2
                                try clear hcz14_3
                                try clear hcz14_4
                                try clear hcz14_5
                                try clear hcz14_6
                                try clear hcz14_7
                                try clear hcz18_0
                                try clear hcz18_1
                                try clear hcz18_2
                                try clear hcz18_3
                                try clear hcz18_4
                                try clear hcz18_5
                                try clear hcz18_6
                                try clear hcz18_7
                                try clear hcz19_0
                                try clear hcz19_1
                                try clear hcz19_2
                                try clear hcz19_3
                                try clear hcz19_4
                                try clear hcz19_5
                                try clear hcz19_6
                                try clear hcz19_7
                                try clear hcz20_0
                                try clear hcz20_1
                                try clear hcz20_2
                                try clear hcz20_3
                                try clear hcz20_4
                                try clear hcz20_5
                                try clear hcz20_6
                                try clear hcz20_7
                                try clear hcz22_0
                                try clear hcz22_1
                                try clear hcz22_2
                                try clear hcz22_3
                                try clear hcz22_4
                                try clear hcz22_5
                                try clear hcz22_6
                                try clear hcz22_7
                                try clear hcz24_0
                                try clear hcz24_1
                                try clear hcz24_2
                                try clear hcz24_3
                                try clear hcz24_4
                                try clear hcz24_5
                                try clear hcz24_6
                                try clear hcz24_7
                                try clear hcz28_0
                                try clear hcz28_1
                                try clear hcz28_2
                                try clear hcz28_3
                                try clear hcz28_4
                                try clear hcz28_5
                                try clear hcz28_6
                                try clear hcz28_7
                                try clear hcz29_0
                                try clear hcz29_1
                                try clear hcz29_2
                                try clear hcz29_3
                                try clear hcz29_4
                                try clear hcz29_5
                                try clear hcz29_6
                                try clear hcz29_7
                                try clear hcz30_0
                                try clear hcz30_1
                                try clear hcz30_2
                                try clear hcz30_3
                                try clear hcz30_4
                                try clear hcz30_5
                                try clear hcz30_6
                                try clear hcz30_7
                                try clear hcz31_0
                                try clear hcz31_1
                                try clear hcz31_2
                                try clear hcz31_3
                                try clear hcz31_4
                                try clear hcz31_5
                                try clear hcz31_6
                                try clear hcz31_7
                                try clear hcz37_0
                                try clear hcz37_1
                                try clear hcz37_2
                                try clear hcz37_3
                                try clear hcz37_4
                                try clear hcz37_5
                                try clear hcz37_6
                                try clear hcz37_7
                                try clear hcz39_0
                                try clear hcz39_1
                                try clear hcz39_2
                                try clear hcz39_3
                                try clear hcz39_4
                                try clear hcz39_5
                                try clear hcz39_6
                                try clear hcz39_7
                                try clear hcz41_0
                                try clear hcz41_1
                                try clear hcz41_2
                                try clear hcz41_3
                                try clear hcz41_4
                                try clear hcz41_5
                                try clear hcz41_6
                                try clear hcz41_7
                                try clear hcz46_0
                                try clear hcz46_1
                                try clear hcz46_2
                                try clear hcz46_3
                                try clear hcz46_4
                                try clear hcz46_5
                                try clear hcz46_6
                                try clear hcz46_7
                                try clear hcz48_0
                                try clear hcz48_1
                                try clear hcz48_2
                                try clear hcz48_3
                                try clear hcz48_4
                                try clear hcz48_5
                                try clear hcz48_6
                                try clear hcz48_7
                                try clear hcz50_0
                                try clear hcz50_1
                                try clear hcz50_2
                                try clear hcz50_3
                                try clear hcz50_4
                                try clear hcz50_5
                                try clear hcz50_6
                                try clear hcz50_7
                                try clear hcz7_0
                                try clear hcz7_1
                                try clear hcz7_2
                                try clear hcz7_3
                                try clear hcz7_4
                                try clear hcz7_5
                                try clear hcz7_6
                                try clear hcz7_7
                                try clear hfz11_0
                                try clear hfz11_1
                                try clear hfz11_2
                                try clear hfz11_3
                                try clear hfz11_4
                                try clear hfz11_5
                                try clear hfz11_6
                                try clear hfz11_7
                                try clear hfz14_0
                                try clear hfz14_1
                                try clear hfz14_2
                                try clear hfz14_3
                                try clear hfz14_4
                                try clear hfz14_5
                                try clear hfz14_6
                                try clear hfz14_7
                                try clear hfz18_0
                                try clear hfz18_1
                                try clear hfz18_2
                                try clear hfz18_3
                                try clear hfz18_4
                                try clear hfz18_5
                                try clear hfz18_6
                                try clear hfz18_7
                                try clear hfz19_0
                                try clear hfz19_1
                                try clear hfz19_2
                                try clear hfz19_3
                                try clear hfz19_4
                                try clear hfz19_5
                                try clear hfz19_6
                                try clear hfz19_7
                                try clear hfz20_0
                                try clear hfz20_1
                                try clear hfz20_2
                                try clear hfz20_3
                                try clear hfz20_4
                                try clear hfz20_5
                                try clear hfz20_6
                                try clear hfz20_7
                                try clear hfz22_0
                                try clear hfz22_1
                                try clear hfz22_2
                                try clear hfz22_3
                                try clear hfz22_4
                                try clear hfz22_5
                                try clear hfz22_6
                                try clear hfz22_7
                                try clear hfz24_0
                                try clear hfz24_1
                                try clear hfz24_2
                                try clear hfz24_3
                                try clear hfz24_4
                                try clear hfz24_5
                                try clear hfz24_6
                                try clear hfz24_7
                                try clear hfz28_0
                                try clear hfz28_1
                                try clear hfz28_2
                                try clear hfz28_3
                                try clear hfz28_4
                                try clear hfz28_5
                                try clear hfz28_6
                                try clear hfz28_7
                                try clear hfz29_0
                                try clear hfz29_1
                                try clear hfz29_2
                                try clear hfz29_3
                                try clear hfz29_4
                                try clear hfz29_5
                                try clear hfz29_6
                                try clear hfz29_7
                                try clear hfz30_0
                                try clear hfz30_1
                                try clear hfz30_2
                                try clear hfz30_3
                                try clear hfz30_4
                                try clear hfz30_5
                                try clear hfz30_6
                                try clear hfz30_7
                                try clear hfz31_0
                                try clear hfz31_1
                                try clear hfz31_2
                                try clear hfz31_3
                                try clear hfz31_4
                                try clear hfz31_5
                                try clear hfz31_6
                                try clear hfz31_7
                                try clear hfz37_0
                                try clear hfz37_1
                                try clear hfz37_2
                                try clear hfz37_3
                                try clear hfz37_4
                                try clear hfz37_5
                                try clear hfz37_6
                                try clear hfz37_7
                                try clear hfz39_0
                                try clear hfz39_1
                                try clear hfz39_2
                                try clear hfz39_3
                                try clear hfz39_4
                                try clear hfz39_5
                                try clear hfz39_6
                                try clear hfz39_7
                                try clear hfz41_0
                                try clear hfz41_1
                                try clear hfz41_2
                                try clear hfz41_3
                                try clear hfz41_4
                                try clear hfz41_5
                                try clear hfz41_6
                                try clear hfz41_7
                                try clear hfz46_0
                                try clear hfz46_1
                                try clear hfz46_2
                                try clear hfz46_3
                                try clear hfz46_4
                                try clear hfz46_5
                                try clear hfz46_6
                                try clear hfz46_7
                                try clear hfz48_0
                                try clear hfz48_1
                                try clear hfz48_2
                                try clear hfz48_3
                                try clear hfz48_4
                                try clear hfz48_5
                                try clear hfz48_6
                                try clear hfz48_7
                                try clear hfz50_0
                                try clear hfz50_1
                                try clear hfz50_2
                                try clear hfz50_3
                                try clear hfz50_4
                                try clear hfz50_5
                                try clear hfz50_6
                                try clear hfz50_7
                                try clear hfz7_0
                                try clear hfz7_1
                                try clear hfz7_2
                                try clear hfz7_3
                                try clear hfz7_4
                                try clear hfz7_5
                                try clear hfz7_6
                                try clear hfz7_7
                                try clear hx137_0
                                try clear hx137_1
                                try clear hx137_2
                                try clear hx137_3
                                try clear hx137_4
                                try clear hx137_5
                                try clear hx137_6
                                try clear hx137_7
                                try clear hx140_0
                                try clear hx140_1
                                try clear hx140_2
                                try clear hx140_3
                                try clear hx140_4
                                try clear hx140_5
                                try clear hx140_6
                                try clear hx140_7
                                try clear hx142_0
                                try clear hx142_1
                                try clear hx142_2
                                try clear hx142_3
                                try clear p1
                                try clear p13
                                try clear p137
                                try clear p14
                                try clear p140
                                try clear p142
                                try clear p2
                                try clear p6
                                try clear q1
                                try clear q13
                                try clear q137
                                try clear q14
                                try clear q140
                                try clear q142
                                try clear q15
                                try clear q2
                                try clear q25
                                obtain ⟨x7_5, rfl, HA, HK5, BK138, HB⟩ := hrel
                                cases gk with
                                | zero => exact absurd HA.out (by simp [spec_TracksOk.l3])
                                | succ k5 =>
                                  have H := HA.out
                                  clear HA
                                  simp only [spec_TracksOk.l3] at H
                                  by_cases c51 : x7_5 < x3_1
                                  · rw [if_pos c51] at H
                                    have c51b0 : decide (x7_5 < x3_1) = true := decide_eq_true c51
                                    clear c51
                                    by_cases c52 : 0 ≤ x7_5
                                    · rw [if_pos c52] at H
                                      have c52b0 : decide (0 ≤ x7_5) = true := decide_eq_true c52
                                      clear c52
                                      by_cases c53 : x7_5 < (l0.length : Int)
                                      · rw [if_pos c53] at H
                                        have c53b0 : decide (x7_5 < (l0.length : Int)) = true := decide_eq_true c53
                                        clear c53
                                        by_cases c54 : ((rd_T61 l0 x7_5).f0) = ((rd_T61 l0 x3_1).f0)
                                        · rw [if_pos c54] at H
                                          have c54b0 : (((rd_T61 l0 x7_5).f0) == ((rd_T61 l0 x3_1).f0)) = true := beq_iff_eq.mpr c54
                                          have c54b1 : (((rd_T61 l0 x7_5).f0) != ((rd_T61 l0 x3_1).f0)) = false := bne_eq_false_iff_eq.mpr c54
                                          clear c54
                                          obtain rfl := Option.some.inj H
                                          have p144 : 0 ≤ (x7_5 : Int) := of_decide_eq_true (by first | (with_reducible assumption) | assumption)
                                          have q144 : x7_5 < (l0.length : Int) := of_decide_eq_true (by first | (with_reducible assumption) | assumption)
                                          obtain ⟨ad144, A144_4, c144_4, A144_5, c144_5, e144, hx144_0, hx144_1, hx144_2, hx144_3, hx144_4, hx144_5, hx144_6, hx144_7, hl144_4, hi144_4, hl144_5, hi144_5⟩ := at_T61 HR0.out x7_5 p144 q144
                                          obtain rfl : ad137 = ad144 := (by injection e144)
                                          replace hx144_0 := (HB.out.cell (World.block_lt_of_cell? w _ hx144_0)).trans hx144_0
                                          replace hx144_1 := (HB.out.cell (World.block_lt_of_cell? w _ hx144_1)).trans hx144_1
                                          replace hx144_2 := (HB.out.cell (World.block_lt_of_cell? w _ hx144_2)).trans hx144_2
                                          replace hx144_3 := (HB.out.cell (World.block_lt_of_cell? w _ hx144_3)).trans hx144_3
                                          replace hx144_4 := (HB.out.cell (World.block_lt_of_cell? w _ hx144_4)).trans hx144_4
                                          replace hx144_5 := (HB.out.cell (World.block_lt_of_cell? w _ hx144_5)).trans hx144_5
                                          replace hx144_6 := (HB.out.cell (World.block_lt_of_cell? w _ hx144_6)).trans hx144_6
                                          replace hx144_7 := (HB.out.cell (World.block_lt_of_cell? w _ hx144_7)).trans hx144_7
                                          have HR144_4 := Aside0.mk hi144_4
                                          have HC144_4 := Aside0.mk hl144_4
                                          clear hi144_4 hl144_4
                                          have HR144_5 := Aside0.mk hi144_5
                                          have HC144_5 := Aside0.mk hl144_5
                                          clear hi144_5 hl144_5
                                          replace p144 := eq_true p144
                                          replace q144 := eq_true q144
                                          have hcz55_0 : wr.cell? ⟨gb138, 0, none⟩ = some (.int .i64 ((rd_T61 l0 x3_1).f0)) := (blk_cell BK138.out 0).trans rfl
                                          have hcz55_1 : wr.cell? ⟨gb138, 1, none⟩ = some (.int .i64 ((rd_T61 l0 x3_1).f1)) := (blk_cell BK138.out 1).trans rfl
                                          have hcz55_2 : wr.cell? ⟨gb138, 2, none⟩ = some (.int .i64 ((rd_T61 l0 x3_1).f2)) := (blk_cell BK138.out 2).trans rfl
                                          have hcz55_3 : wr.cell? ⟨gb138, 3, none⟩ = some (.bool ((rd_T61 l0 x3_1).f3)) := (blk_cell BK138.out 3).trans rfl
                                          have hcz55_4 : wr.cell? ⟨gb138, 4, none⟩ = some (.slice A137_4 ((rd_T61 l0 x3_1).f4).length c137_4) := (blk_cell BK138.out 4).trans rfl
                                          have hcz55_5 : wr.cell? ⟨gb138, 5, none⟩ = some (.slice A137_5 ((rd_T61 l0 x3_1).f5).length c137_5) := (blk_cell BK138.out 5).trans rfl
                                          have hcz55_6 : wr.cell? ⟨gb138, 6, none⟩ = some (.bool ((rd_T61 l0 x3_1).f6)) := (blk_cell BK138.out 6).trans rfl
                                          have hcz55_7 : wr.cell? ⟨gb138, 7, none⟩ = some (.bool ((rd_T61 l0 x3_1).f7)) := (blk_cell BK138.out 7).trans rfl
                                          have hfz55_0 := blk_frozen BK138.out 0
                                          have hfz55_1 := blk_frozen BK138.out 1
                                          have hfz55_2 := blk_frozen BK138.out 2
                                          have hfz55_3 := blk_frozen BK138.out 3
                                          have hfz55_4 := blk_frozen BK138.out 4
                                          have hfz55_5 := blk_frozen BK138.out 5
                                          have hfz55_6 := blk_frozen BK138.out 6
                                          have hfz55_7 := blk_frozen BK138.out 7
                                          go_wp2
                                          repeat (go_quiet (fail); try go_wp2)
                                          go_ret
                                          exact ⟨by first | rfl | (simp [errW_none, errW_some] <;> rfl) | (simp [*, errW_none, errW_some] <;> rfl), by repeat (first | (with_reducible first | exact HB.out | apply below_alloc | apply pw_below_drewN | apply below_drew1 | refine below_set ?_ GE138.out) | exact HB.out)⟩
                                        · rw [if_neg c54] at H
                                          have c54b0 : (((rd_T61 l0 x7_5).f0) == ((rd_T61 l0 x3_1).f0)) = false := beq_eq_false_iff_ne.mpr c54
                                          have c54b1 : (((rd_T61 l0 x7_5).f0) != ((rd_T61 l0 x3_1).f0)) = true := bne_iff_ne.mpr c54
                                          have H' := Aside0.mk H
                                          clear H
                                          have p144 : 0 ≤ (x7_5 : Int) := of_decide_eq_true (by first | (with_reducible assumption) | assumption)
                                          have q144 : x7_5 < (l0.length : Int) := of_decide_eq_true (by first | (with_reducible assumption) | assumption)
                                          obtain ⟨ad144, A144_4, c144_4, A144_5, c144_5, e144, hx144_0, hx144_1, hx144_2, hx144_3, hx144_4, hx144_5, hx144_6, hx144_7, hl144_4, hi144_4, hl144_5, hi144_5⟩ := at_T61 HR0.out x7_5 p144 q144
                                          obtain rfl : ad137 = ad144 := (by injection e144)
                                          replace hx144_0 := (HB.out.cell (World.block_lt_of_cell? w _ hx144_0)).trans hx144_0
                                          replace hx144_1 := (HB.out.cell (World.block_lt_of_cell? w _ hx144_1)).trans hx144_1
                                          replace hx144_2 := (HB.out.cell (World.block_lt_of_cell? w _ hx144_2)).trans hx144_2
                                          replace hx144_3 := (HB.out.cell (World.block_lt_of_cell? w _ hx144_3)).trans hx144_3
                                          replace hx144_4 := (HB.out.cell (World.block_lt_of_cell? w _ hx144_4)).trans hx144_4
                                          replace hx144_5 := (HB.out.cell (World.block_lt_of_cell? w _ hx144_5)).trans hx144_5
                                          replace hx144_6 := (HB.out.cell (World.block_lt_of_cell? w _ hx144_6)).trans hx144_6
                                          replace hx144_7 := (HB.out.cell (World.block_lt_of_cell? w _ hx144_7)).trans hx144_7
                                          have HR144_4 := Aside0.mk hi144_4
                                          have HC144_4 := Aside0.mk hl144_4
                                          clear hi144_4 hl144_4
                                          have HR144_5 := Aside0.mk hi144_5
                                          have HC144_5 := Aside0.mk hl144_5
                                          clear hi144_5 hl144_5
                                          replace p144 := eq_true p144
                                          replace q144 := eq_true q144
                                          have hcz56_0 : wr.cell? ⟨gb138, 0, none⟩ = some (.int .i64 ((rd_T61 l0 x3_1).f0)) := (blk_cell BK138.out 0).trans rfl
                                          have hcz56_1 : wr.cell? ⟨gb138, 1, none⟩ = some (.int .i64 ((rd_T61 l0 x3_1).f1)) := (blk_cell BK138.out 1).trans rfl
                                          have hcz56_2 : wr.cell? ⟨gb138, 2, none⟩ = some (.int .i64 ((rd_T61 l0 x3_1).f2)) := (blk_cell BK138.out 2).trans rfl
                                          have hcz56_3 : wr.cell? ⟨gb138, 3, none⟩ = some (.bool ((rd_T61 l0 x3_1).f3)) := (blk_cell BK138.out 3).trans rfl
                                          have hcz56_4 : wr.cell? ⟨gb138, 4, none⟩ = some (.slice A137_4 ((rd_T61 l0 x3_1).f4).length c137_4) := (blk_cell BK138.out 4).trans rfl
                                          have hcz56_5 : wr.cell? ⟨gb138, 5, none⟩ = some (.slice A137_5 ((rd_T61 l0 x3_1).f5).length c137_5) := (blk_cell BK138.out 5).trans rfl
                                          have hcz56_6 : wr.cell? ⟨gb138, 6, none⟩ = some (.bool ((rd_T61 l0 x3_1).f6)) := (blk_cell BK138.out 6).trans rfl
                                          have hcz56_7 : wr.cell? ⟨gb138, 7, none⟩ = some (.bool ((rd_T61 l0 x3_1).f7)) := (blk_cell BK138.out 7).trans rfl
                                          have hfz56_0 := blk_frozen BK138.out 0
                                          have hfz56_1 := blk_frozen BK138.out 1
                                          have hfz56_2 := blk_frozen BK138.out 2
                                          have hfz56_3 := blk_frozen BK138.out 3
                                          have hfz56_4 := blk_frozen BK138.out 4
                                          have hfz56_5 := blk_frozen BK138.out 5
                                          have hfz56_6 := blk_frozen BK138.out 6
                                          have hfz56_7 := blk_frozen BK138.out 7
                                          go_wp2
                                          repeat (go_quiet (fail); try go_wp2)
                                          go_roundg k5
                                          case measure => have := HK1.out; have := HJ4.out; have := HK3.out; have := HK4.out; have := HK5.out; omega
                                          case rel => (try simp only [← Nbq15.out]); (try simp only [← Nbq25.out]); exact ⟨(wrap64 (x7_5 + 1)), (by first | rfl | (simp; done) | (simp [*]; done)), H', ⟨by have := HK1.out; have := HJ4.out; have := HK3.out; have := HK4.out; have := HK5.out; omega⟩, ⟨by (with_reducible repeat (first | refine blk_drewN ?_ _ | refine blk_drew ?_ | refine blk_alloc ?_ _)); exact BK138.out⟩, ⟨by repeat (first | (with_reducible first | exact HB.out | apply below_alloc | apply pw_below_drewN | apply below_drew1 | refine below_set ?_ GE138.out) | exact HB.out)⟩⟩
                                      · rw [if_neg c53] at H
                                        exact absurd H (by simp)
                                    · rw [if_neg c52] at H
                                      exact absurd H (by simp)
                                  · rw [if_neg c51] at H
                                    have c51b0 : decide (x7_5 < x3_1) = false := decide_eq_false c51
                                    clear c51
                                    have H' := Aside0.mk H
                                    clear H
                                    go_wp2
                                    repeat (go_quiet (fail); try go_wp2)
                                    go_roundg k5
                                    case measure => have := HK1.out; have := HJ4.out; have := HK3.out; have := HK4.out; have := HK5.out; omega
                                    case rel => (try simp only [← Nbq15.out]); (try simp only [← Nbq25.out]); exact ⟨(wrap64 (x3_1 + 1)), (by first | rfl | (simp; done) | (simp [*]; done)), H', ⟨by have := HK1.out; have := HJ4.out; have := HK3.out; have := HK4.out; have := HK5.out; omega⟩, ⟨by repeat (first | (with_reducible first | exact HB.out | apply below_alloc | apply pw_below_drewN | apply below_drew1 | refine below_set ?_ GE138.out) | exact HB.out)⟩⟩
          · rw [if_neg c4] at H
            exact absurd H (by simp)
        · rw [if_neg c3] at H
          have c3b0 : decide (x3_1 < (l0.length : Int)) = false := decide_eq_false c3
          clear c3
          obtain rfl := Option.some.inj H
          go_wp2
          repeat (go_quiet (fail); try go_wp2)
          go_ret
          exact ⟨by first | rfl | (simp [errW_none, errW_some] <;> rfl) | (simp [*, errW_none, errW_some] <;> rfl), by repeat (first | (with_reducible first | exact HB.out | apply below_alloc | apply pw_below_drewN | apply below_drew1) | exact HB.out)⟩

end Go.Proofs.Ytjmlbkhcjgehdaa.PFnExactTracksOk
