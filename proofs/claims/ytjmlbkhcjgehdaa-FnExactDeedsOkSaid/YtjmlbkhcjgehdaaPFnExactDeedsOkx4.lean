-- Written by hv.py, a program of this session's own, over the kit's print: FnExactDeedsOk
import Derived.Test.YtjmlbkhcjgehdaaPFnExactDeedsOkx0
import Derived.Test.YtjmlbkhcjgehdaaPFnExactDeedsOkx2
import Derived.Test.YtjmlbkhcjgehdaaPFnExactDeedsOkx3
namespace Go.Proofs.Ytjmlbkhcjgehdaa.PFnExactDeedsOk
open Go.RowKit Go.Proofs.YtjmlbkhcjgehdaaW.PrintWords Go.Proofs.YtjmlbkhcjgehdaaW.PrintLast Go.Proofs.YtjmlbkhcjgehdaaW.PrintMore Go.Proofs.Ytjmlbkhcjgehdaa.HFl Go.Proofs.Ytjmlbkhcjgehdaa.HMap Go.Proofs.Ytjmlbkhcjgehdaa.HMore Go.Proofs.Ytjmlbkhcjgehdaa
attribute [local go_sem] max2_int min2_int max_two min_two max_three min_three max_four min_four   -- for this text's walks alone
set_option linter.unusedVariables false
set_option linter.unusedSimpArgs false

/-! ### spec_DeedsOk: function 36 -/
mutual
def spec_DeedsOk.l0 : Nat → List (S119) → List Int → Int → Option (Bool)
  | 0, _, _, _ => none
  | k + 1, x0, x3, x4 => if x4 < (x0.length : Int) then (if 0 ≤ x4 then (if ((rd_T119 x0 x4).f1) < 1 then (spec_DeedsOk.j1 k x0 x3 x4 true ((rd_T119 x0 x4).f0) ((rd_T119 x0 x4).f1) ((rd_T119 x0 x4).f2) ((rd_T119 x0 x4).f3) ((rd_T119 x0 x4).f4)) else (if ((rd_T119 x0 x4).f2) ≤ ((rd_T119 x0 x4).f1) then (spec_DeedsOk.j1 k x0 x3 x4 true ((rd_T119 x0 x4).f0) ((rd_T119 x0 x4).f1) ((rd_T119 x0 x4).f2) ((rd_T119 x0 x4).f3) ((rd_T119 x0 x4).f4)) else (if (((rd_T119 x0 x4).f3).length : Int) > 200 then (spec_DeedsOk.j1 k x0 x3 x4 true ((rd_T119 x0 x4).f0) ((rd_T119 x0 x4).f1) ((rd_T119 x0 x4).f2) ((rd_T119 x0 x4).f3) ((rd_T119 x0 x4).f4)) else (spec_DeedsOk.j1 k x0 x3 x4 (decide ((((rd_T119 x0 x4).f4).length : Int) > 200)) ((rd_T119 x0 x4).f0) ((rd_T119 x0 x4).f1) ((rd_T119 x0 x4).f2) ((rd_T119 x0 x4).f3) ((rd_T119 x0 x4).f4))))) else (none)) else (some true)
def spec_DeedsOk.j1 : Nat → List (S119) → List Int → Int → Bool → Int → Int → Int → List (S38) → List (S27) → Option (Bool)
  | 0, _, _, _, _, _, _, _, _, _ => none
  | k + 1, x0, x3, x4, x43, x139000, x139001, x139002, x139003, x139004 => if x43 = true then (some false) else (spec_DeedsOk.l1 k x0 x3 x4 0 x139000 x139001 x139002 x139003 x139004)
def spec_DeedsOk.l1 : Nat → List (S119) → List Int → Int → Int → Int → Int → Int → List (S38) → List (S27) → Option (Bool)
  | 0, _, _, _, _, _, _, _, _, _ => none
  | k + 1, x0, x3, x4, x6, x139000, x139001, x139002, x139003, x139004 => if x6 < (x139003.length : Int) then (if 0 ≤ x6 then ((spec_SpanOk.f k ((rd_T38 x139003 x6).f0.f0) ((rd_T38 x139003 x6).f0.f1) ((rd_T38 x139003 x6).f0.f2) ((rd_T38 x139003 x6).f0.f3) ((rd_T38 x139003 x6).f1.f0) ((rd_T38 x139003 x6).f1.f1) ((rd_T38 x139003 x6).f1.f2) ((rd_T38 x139003 x6).f1.f3)).bind fun t140 => (if t140 = true then (spec_DeedsOk.l1 k x0 x3 x4 (wrap64 (x6 + 1)) x139000 x139001 x139002 x139003 x139004) else (some false))) else (none)) else (spec_DeedsOk.l2 k x0 x3 x4 0 x139000 x139001 x139002 x139003 x139004)
def spec_DeedsOk.l2 : Nat → List (S119) → List Int → Int → Int → Int → Int → Int → List (S38) → List (S27) → Option (Bool)
  | 0, _, _, _, _, _, _, _, _, _ => none
  | k + 1, x0, x3, x4, x7, x139000, x139001, x139002, x139003, x139004 => if x7 < (x139004.length : Int) then (if 0 ≤ x7 then ((spec_KeyOk.f k ((rd_T27 x139004 x7).f0) ((rd_T27 x139004 x7).f1) ((rd_T27 x139004 x7).f2) ((rd_T27 x139004 x7).f3)).bind fun t142 => (if t142 = true then (spec_DeedsOk.l2 k x0 x3 x4 (wrap64 (x7 + 1)) x139000 x139001 x139002 x139003 x139004) else (some false))) else (none)) else (spec_DeedsOk.l3 k x0 x3 x4 0 x139000 x139001 x139002 x139003 x139004)
def spec_DeedsOk.l3 : Nat → List (S119) → List Int → Int → Int → Int → Int → Int → List (S38) → List (S27) → Option (Bool)
  | 0, _, _, _, _, _, _, _, _, _ => none
  | k + 1, x0, x3, x4, x8, x139000, x139001, x139002, x139003, x139004 => if x8 < (x3.length : Int) then (if 0 ≤ x8 then (if (rd x3 x8) = x139001 then (some false) else (if (rd x3 x8) = x139002 then (some false) else (spec_DeedsOk.l3 k x0 x3 x4 (wrap64 (x8 + 1)) x139000 x139001 x139002 x139003 x139004))) else (none)) else (if x3.length < 17592186044416 then ((some (x3 ++ [x139001] : List Int)).bind fun y145 => (if y145.length < 17592186044416 then (spec_DeedsOk.l0 k x0 (y145 ++ [x139002]) (wrap64 (x4 + 1))) else (none))) else (none))
end
def spec_DeedsOk.f (k : Nat) (l0 : List (S119)) : Option (Bool) := if (l0.length : Int) > 100 then (some false) else (spec_DeedsOk.l0 k l0 ([] : List Int) 0)
theorem spec_DeedsOk.mono_l : ∀ k, (∀ y0 y1 y2, LeO (spec_DeedsOk.l0 k y0 y1 y2) (spec_DeedsOk.l0 (k + 1) y0 y1 y2)) ∧ (∀ y0 y1 y2 y3 y4 y5 y6 y7 y8, LeO (spec_DeedsOk.j1 k y0 y1 y2 y3 y4 y5 y6 y7 y8) (spec_DeedsOk.j1 (k + 1) y0 y1 y2 y3 y4 y5 y6 y7 y8)) ∧ (∀ y0 y1 y2 y3 y4 y5 y6 y7 y8, LeO (spec_DeedsOk.l1 k y0 y1 y2 y3 y4 y5 y6 y7 y8) (spec_DeedsOk.l1 (k + 1) y0 y1 y2 y3 y4 y5 y6 y7 y8)) ∧ (∀ y0 y1 y2 y3 y4 y5 y6 y7 y8, LeO (spec_DeedsOk.l2 k y0 y1 y2 y3 y4 y5 y6 y7 y8) (spec_DeedsOk.l2 (k + 1) y0 y1 y2 y3 y4 y5 y6 y7 y8)) ∧ (∀ y0 y1 y2 y3 y4 y5 y6 y7 y8, LeO (spec_DeedsOk.l3 k y0 y1 y2 y3 y4 y5 y6 y7 y8) (spec_DeedsOk.l3 (k + 1) y0 y1 y2 y3 y4 y5 y6 y7 y8))
  | 0 => ⟨fun _ _ _ r h => by simp [spec_DeedsOk.l0] at h, fun _ _ _ _ _ _ _ _ _ r h => by simp [spec_DeedsOk.j1] at h, fun _ _ _ _ _ _ _ _ _ r h => by simp [spec_DeedsOk.l1] at h, fun _ _ _ _ _ _ _ _ _ r h => by simp [spec_DeedsOk.l2] at h, fun _ _ _ _ _ _ _ _ _ r h => by simp [spec_DeedsOk.l3] at h⟩
  | k + 1 => by
    obtain ⟨ih0, ih1, ih2, ih3, ih4⟩ := spec_DeedsOk.mono_l k
    refine ⟨?_, ?_, ?_, ?_, ?_⟩
    · intro y0 y1 y2
      unfold spec_DeedsOk.l0
      repeat' first
      | (with_reducible exact ih0 _ _ _)
      | (with_reducible exact ih1 _ _ _ _ _ _ _ _ _)
      | (with_reducible exact ih2 _ _ _ _ _ _ _ _ _)
      | (with_reducible exact ih3 _ _ _ _ _ _ _ _ _)
      | (with_reducible exact ih4 _ _ _ _ _ _ _ _ _)
      | (with_reducible exact spec_KeyOk.mono _ _ _ _ _)
      | (with_reducible exact spec_SpanOk.mono _ _ _ _ _ _ _ _ _)
      | (with_reducible exact LeO.refl _)
      | (with_reducible exact LeO.none _)
      | (with_reducible refine LeO.ite ?_ ?_)
      | (with_reducible refine LeO.bind ?_ (fun _ => ?_))
      | exact ih0 _ _ _
      | exact ih1 _ _ _ _ _ _ _ _ _
      | exact ih2 _ _ _ _ _ _ _ _ _
      | exact ih3 _ _ _ _ _ _ _ _ _
      | exact ih4 _ _ _ _ _ _ _ _ _
      | exact spec_KeyOk.mono _ _ _ _ _
      | exact spec_SpanOk.mono _ _ _ _ _ _ _ _ _
      | exact LeO.none _
      | refine LeO.ite ?_ ?_
      | refine LeO.bind ?_ (fun _ => ?_)
    · intro y0 y1 y2 y3 y4 y5 y6 y7 y8
      unfold spec_DeedsOk.j1
      repeat' first
      | (with_reducible exact ih0 _ _ _)
      | (with_reducible exact ih1 _ _ _ _ _ _ _ _ _)
      | (with_reducible exact ih2 _ _ _ _ _ _ _ _ _)
      | (with_reducible exact ih3 _ _ _ _ _ _ _ _ _)
      | (with_reducible exact ih4 _ _ _ _ _ _ _ _ _)
      | (with_reducible exact spec_KeyOk.mono _ _ _ _ _)
      | (with_reducible exact spec_SpanOk.mono _ _ _ _ _ _ _ _ _)
      | (with_reducible exact LeO.refl _)
      | (with_reducible exact LeO.none _)
      | (with_reducible refine LeO.ite ?_ ?_)
      | (with_reducible refine LeO.bind ?_ (fun _ => ?_))
      | exact ih0 _ _ _
      | exact ih1 _ _ _ _ _ _ _ _ _
      | exact ih2 _ _ _ _ _ _ _ _ _
      | exact ih3 _ _ _ _ _ _ _ _ _
      | exact ih4 _ _ _ _ _ _ _ _ _
      | exact spec_KeyOk.mono _ _ _ _ _
      | exact spec_SpanOk.mono _ _ _ _ _ _ _ _ _
      | exact LeO.none _
      | refine LeO.ite ?_ ?_
      | refine LeO.bind ?_ (fun _ => ?_)
    · intro y0 y1 y2 y3 y4 y5 y6 y7 y8
      unfold spec_DeedsOk.l1
      repeat' first
      | (with_reducible exact ih0 _ _ _)
      | (with_reducible exact ih1 _ _ _ _ _ _ _ _ _)
      | (with_reducible exact ih2 _ _ _ _ _ _ _ _ _)
      | (with_reducible exact ih3 _ _ _ _ _ _ _ _ _)
      | (with_reducible exact ih4 _ _ _ _ _ _ _ _ _)
      | (with_reducible exact spec_KeyOk.mono _ _ _ _ _)
      | (with_reducible exact spec_SpanOk.mono _ _ _ _ _ _ _ _ _)
      | (with_reducible exact LeO.refl _)
      | (with_reducible exact LeO.none _)
      | (with_reducible refine LeO.ite ?_ ?_)
      | (with_reducible refine LeO.bind ?_ (fun _ => ?_))
      | exact ih0 _ _ _
      | exact ih1 _ _ _ _ _ _ _ _ _
      | exact ih2 _ _ _ _ _ _ _ _ _
      | exact ih3 _ _ _ _ _ _ _ _ _
      | exact ih4 _ _ _ _ _ _ _ _ _
      | exact spec_KeyOk.mono _ _ _ _ _
      | exact spec_SpanOk.mono _ _ _ _ _ _ _ _ _
      | exact LeO.none _
      | refine LeO.ite ?_ ?_
      | refine LeO.bind ?_ (fun _ => ?_)
    · intro y0 y1 y2 y3 y4 y5 y6 y7 y8
      unfold spec_DeedsOk.l2
      repeat' first
      | (with_reducible exact ih0 _ _ _)
      | (with_reducible exact ih1 _ _ _ _ _ _ _ _ _)
      | (with_reducible exact ih2 _ _ _ _ _ _ _ _ _)
      | (with_reducible exact ih3 _ _ _ _ _ _ _ _ _)
      | (with_reducible exact ih4 _ _ _ _ _ _ _ _ _)
      | (with_reducible exact spec_KeyOk.mono _ _ _ _ _)
      | (with_reducible exact spec_SpanOk.mono _ _ _ _ _ _ _ _ _)
      | (with_reducible exact LeO.refl _)
      | (with_reducible exact LeO.none _)
      | (with_reducible refine LeO.ite ?_ ?_)
      | (with_reducible refine LeO.bind ?_ (fun _ => ?_))
      | exact ih0 _ _ _
      | exact ih1 _ _ _ _ _ _ _ _ _
      | exact ih2 _ _ _ _ _ _ _ _ _
      | exact ih3 _ _ _ _ _ _ _ _ _
      | exact ih4 _ _ _ _ _ _ _ _ _
      | exact spec_KeyOk.mono _ _ _ _ _
      | exact spec_SpanOk.mono _ _ _ _ _ _ _ _ _
      | exact LeO.none _
      | refine LeO.ite ?_ ?_
      | refine LeO.bind ?_ (fun _ => ?_)
    · intro y0 y1 y2 y3 y4 y5 y6 y7 y8
      unfold spec_DeedsOk.l3
      repeat' first
      | (with_reducible exact ih0 _ _ _)
      | (with_reducible exact ih1 _ _ _ _ _ _ _ _ _)
      | (with_reducible exact ih2 _ _ _ _ _ _ _ _ _)
      | (with_reducible exact ih3 _ _ _ _ _ _ _ _ _)
      | (with_reducible exact ih4 _ _ _ _ _ _ _ _ _)
      | (with_reducible exact spec_KeyOk.mono _ _ _ _ _)
      | (with_reducible exact spec_SpanOk.mono _ _ _ _ _ _ _ _ _)
      | (with_reducible exact LeO.refl _)
      | (with_reducible exact LeO.none _)
      | (with_reducible refine LeO.ite ?_ ?_)
      | (with_reducible refine LeO.bind ?_ (fun _ => ?_))
      | exact ih0 _ _ _
      | exact ih1 _ _ _ _ _ _ _ _ _
      | exact ih2 _ _ _ _ _ _ _ _ _
      | exact ih3 _ _ _ _ _ _ _ _ _
      | exact ih4 _ _ _ _ _ _ _ _ _
      | exact spec_KeyOk.mono _ _ _ _ _
      | exact spec_SpanOk.mono _ _ _ _ _ _ _ _ _
      | exact LeO.none _
      | refine LeO.ite ?_ ?_
      | refine LeO.bind ?_ (fun _ => ?_)
theorem spec_DeedsOk.mono : ∀ a0 k, LeO (spec_DeedsOk.f k a0) (spec_DeedsOk.f (k + 1) a0) := by
  intro a0 k
  obtain ⟨ih0, ih1, ih2, ih3, ih4⟩ := spec_DeedsOk.mono_l k
  unfold spec_DeedsOk.f
  repeat' first
      | (with_reducible exact ih0 _ _ _)
      | (with_reducible exact ih1 _ _ _ _ _ _ _ _ _)
      | (with_reducible exact ih2 _ _ _ _ _ _ _ _ _)
      | (with_reducible exact ih3 _ _ _ _ _ _ _ _ _)
      | (with_reducible exact ih4 _ _ _ _ _ _ _ _ _)
      | (with_reducible exact spec_KeyOk.mono _ _ _ _ _)
      | (with_reducible exact spec_SpanOk.mono _ _ _ _ _ _ _ _ _)
      | (with_reducible exact LeO.refl _)
      | (with_reducible exact LeO.none _)
      | (with_reducible refine LeO.ite ?_ ?_)
      | (with_reducible refine LeO.bind ?_ (fun _ => ?_))
      | exact ih0 _ _ _
      | exact ih1 _ _ _ _ _ _ _ _ _
      | exact ih2 _ _ _ _ _ _ _ _ _
      | exact ih3 _ _ _ _ _ _ _ _ _
      | exact ih4 _ _ _ _ _ _ _ _ _
      | exact spec_KeyOk.mono _ _ _ _ _
      | exact spec_SpanOk.mono _ _ _ _ _ _ _ _ _
      | exact LeO.none _
      | refine LeO.ite ?_ ?_
      | refine LeO.bind ?_ (fun _ => ?_)
set_option maxHeartbeats 8000000 in
set_option maxRecDepth 100000 in
theorem spec_DeedsOk.calls (k : Nat) (A0 : Option Addr) (c0 : Nat) (l0 : List (S119)) (r : Bool) (w : World) (hr0 : Kd.C k119 w A0 l0.length l0) (hc0 : l0.length ≤ c0) (h : spec_DeedsOk.f k l0 = some r) :
    Calls Try.prog 36 #[.slice A0 l0.length c0] w fun e w' => e = .returned (.bool r) ∧ Below w.heap.size w w' := by
  have hu119 := Try.underlying119
  have hu38 := Try.underlying38
  have hu27 := Try.underlying27
  have HR0 := Aside0.mk hr0
  have HC0 := Aside0.mk hc0
  clear hr0 hc0
  have HB := Aside0.mk (Below.refl w.heap.size w)
  have H : (if (l0.length : Int) > 100 then (some false) else (spec_DeedsOk.l0 k l0 ([] : List Int) 0)) = some r := h
  clear h
  by_cases c2 : (l0.length : Int) > 100
  · rw [if_pos c2] at H
    have c2b0 : decide (100 < (l0.length : Int)) = true := decide_eq_true c2
    have c2b1 : decide (100 < l0.length) = true := decide_eq_true (by omega)
    clear c2
    obtain rfl := Option.some.inj H
    go_enter Try.func36, Try.ntmps36
    go_wp2
    repeat (go_quiet (fail); try go_wp2)
    go_ret
    exact ⟨by first | rfl | (simp [errW_none, errW_some] <;> rfl) | (simp [*, errW_none, errW_some] <;> rfl), by repeat (first | (with_reducible first | exact HB.out | apply below_alloc | apply pw_below_drewN | apply below_drew1) | exact HB.out)⟩
  · rw [if_neg c2] at H
    have c2b0 : decide (100 < (l0.length : Int)) = false := decide_eq_false c2
    have c2b1 : decide (100 < l0.length) = false := decide_eq_false (by omega)
    clear c2
    have H' := Aside0.mk H
    clear H
    go_enter Try.func36, Try.ntmps36
    go_wp2
    repeat (go_quiet (fail); try go_wp2)
    go_loopg [3, 4] k (fun kq v3 v4 w' => ∃ (x3_1 : List Int) (x4_1 : Int), v4 = .int .i64 x4_1 ∧ Aside0 (spec_DeedsOk.l0 kq l0 x3_1 x4_1 = some r) ∧ Aside0 (kq ≤ k) ∧ Aside0 (Kd.R (Kd.int .i64) 3 w' w.heap.size (fun _ => True) v3 x3_1) ∧ Aside0 (Below w.heap.size w w'))
    case atStart => exact ⟨(([] : List Int)), (0), (by first | rfl | (simp; done) | (simp [*]; done)), H', ⟨Nat.le_refl _⟩, ⟨by first | exact Kd.R_nil _ _ _ _ _ | exact Kd.N_nil _ _ _ _ _ | exact Kd.V_nil _ _ _ _ _ | exact Kd.Q_nil _ _ _ _ _ | exact Kd.S_nil _ _ _ _ _⟩, ⟨by repeat (first | (with_reducible first | exact HB.out | apply below_alloc | apply pw_below_drewN | apply below_drew1) | exact HB.out)⟩⟩
    case round =>
      clear H'
      try clear c2
      try clear c2b0
      try clear c2b1
      try clear p2
      obtain ⟨x3_1, x4_1, rfl, HA, HK1, HO_3, HB⟩ := hrel
      cases gk with
      | zero => exact absurd HA.out (by simp [spec_DeedsOk.l0])
      | succ k1 =>
        have H := HA.out
        clear HA
        simp only [spec_DeedsOk.l0] at H
        by_cases c3 : x4_1 < (l0.length : Int)
        · rw [if_pos c3] at H
          have c3b0 : decide (x4_1 < (l0.length : Int)) = true := decide_eq_true c3
          clear c3
          by_cases c4 : 0 ≤ x4_1
          · rw [if_pos c4] at H
            have c4b0 : decide (0 ≤ x4_1) = true := decide_eq_true c4
            clear c4
            have HC5 := Aside0.mk H
            clear H
            have p137 : 0 ≤ (x4_1 : Int) := of_decide_eq_true (by first | (with_reducible assumption) | assumption)
            have q137 : x4_1 < (l0.length : Int) := of_decide_eq_true (by first | (with_reducible assumption) | assumption)
            obtain ⟨ad137, A137_3, c137_3, A137_4, c137_4, e137, hx137_0, hx137_1, hx137_2, hx137_3, hx137_4, hl137_3, hi137_3, hl137_4, hi137_4⟩ := at_T119 HR0.out x4_1 p137 q137
            cases e137
            replace hx137_0 := (HB.out.cell (World.block_lt_of_cell? w _ hx137_0)).trans hx137_0
            replace hx137_1 := (HB.out.cell (World.block_lt_of_cell? w _ hx137_1)).trans hx137_1
            replace hx137_2 := (HB.out.cell (World.block_lt_of_cell? w _ hx137_2)).trans hx137_2
            replace hx137_3 := (HB.out.cell (World.block_lt_of_cell? w _ hx137_3)).trans hx137_3
            replace hx137_4 := (HB.out.cell (World.block_lt_of_cell? w _ hx137_4)).trans hx137_4
            have HR137_3 := Aside0.mk hi137_3
            have HC137_3 := Aside0.mk hl137_3
            clear hi137_3 hl137_3
            have HR137_4 := Aside0.mk hi137_4
            have HC137_4 := Aside0.mk hl137_4
            clear hi137_4 hl137_4
            replace p137 := eq_true p137
            replace q137 := eq_true q137
            go_upto_region 8 with (first | ((with_reducible refine gate_dst (N := 5) rfl ?_); (try (refine gate_guard (by rfl) ?_; dsimp only)); refine box_event ?hg (N := 5) ?hd (cs := #[.int .i64 0, .int .i64 0, .int .i64 0, .slice none 0 0, .slice none 0 0]) (t := 119) ?hr ?_; (case hd => rfl); (case hg => rfl); (case hr => first | (go_simp; done) | (go_simp; rfl)); intro gb138 hg w6 hbox hb; have n0_ := Aside0.mk (Kd.R_below (by (with_reducible repeat (first | apply Kd.R_alloc | apply Kd.R_drewN | apply Kd.R_drew)); exact HO_3.out) hb); have n1_ := Aside0.mk (below_step (by repeat (first | (with_reducible first | exact HB.out | apply below_alloc | apply pw_below_drewN | apply below_drew1) | exact HB.out)) hb); have n2_ := Aside0.mk (hbox); have n3_ := Aside0.mk ((by rw [hg]; exact (below_size (by repeat (first | (with_reducible first | exact HB.out | apply below_alloc | apply pw_below_drewN | apply below_drew1) | exact HB.out))) : w.heap.size ≤ gb138)); have n4_ := Aside0.mk ((by rw [hg]; exact (below_size (by repeat (first | (with_reducible first | exact HB.out | apply below_alloc | apply pw_below_drewN | apply below_drew1) | exact HB.out))) : w.heap.size ≤ gb138)); clear HO_3; clear HB; have HO_3 := n0_; have HB := n1_; have BK138 := n2_; have GW138 := n3_; have GE138 := n4_; clear n0_ n1_ n2_ n3_ n4_; clear hb hbox hg; have hcz7_0 : w6.cell? ⟨gb138, 0, none⟩ = some (.int .i64 0) := (blk_cell BK138.out 0).trans rfl; have hcz7_1 : w6.cell? ⟨gb138, 1, none⟩ = some (.int .i64 0) := (blk_cell BK138.out 1).trans rfl; have hcz7_2 : w6.cell? ⟨gb138, 2, none⟩ = some (.int .i64 0) := (blk_cell BK138.out 2).trans rfl; have hcz7_3 : w6.cell? ⟨gb138, 3, none⟩ = some (.slice none 0 0) := (blk_cell BK138.out 3).trans rfl; have hcz7_4 : w6.cell? ⟨gb138, 4, none⟩ = some (.slice none 0 0) := (blk_cell BK138.out 4).trans rfl; have hfz7_0 := blk_frozen BK138.out 0; have hfz7_1 := blk_frozen BK138.out 1; have hfz7_2 := blk_frozen BK138.out 2; have hfz7_3 := blk_frozen BK138.out 3; have hfz7_4 := blk_frozen BK138.out 4))
            repeat (go_quiet (first | ((with_reducible refine gate_dst (N := 5) rfl ?_); (try (refine gate_guard (by rfl) ?_; dsimp only)); refine box_event ?hg (N := 5) ?hd (cs := #[.int .i64 0, .int .i64 0, .int .i64 0, .slice none 0 0, .slice none 0 0]) (t := 119) ?hr ?_; (case hd => rfl); (case hg => rfl); (case hr => first | (go_simp; done) | (go_simp; rfl)); intro gb138 hg w6 hbox hb; have n0_ := Aside0.mk (Kd.R_below (by (with_reducible repeat (first | apply Kd.R_alloc | apply Kd.R_drewN | apply Kd.R_drew)); exact HO_3.out) hb); have n1_ := Aside0.mk (below_step (by repeat (first | (with_reducible first | exact HB.out | apply below_alloc | apply pw_below_drewN | apply below_drew1) | exact HB.out)) hb); have n2_ := Aside0.mk (hbox); have n3_ := Aside0.mk ((by rw [hg]; exact (below_size (by repeat (first | (with_reducible first | exact HB.out | apply below_alloc | apply pw_below_drewN | apply below_drew1) | exact HB.out))) : w.heap.size ≤ gb138)); have n4_ := Aside0.mk ((by rw [hg]; exact (below_size (by repeat (first | (with_reducible first | exact HB.out | apply below_alloc | apply pw_below_drewN | apply below_drew1) | exact HB.out))) : w.heap.size ≤ gb138)); clear HO_3; clear HB; have HO_3 := n0_; have HB := n1_; have BK138 := n2_; have GW138 := n3_; have GE138 := n4_; clear n0_ n1_ n2_ n3_ n4_; clear hb hbox hg; have hcz7_0 : w6.cell? ⟨gb138, 0, none⟩ = some (.int .i64 0) := (blk_cell BK138.out 0).trans rfl; have hcz7_1 : w6.cell? ⟨gb138, 1, none⟩ = some (.int .i64 0) := (blk_cell BK138.out 1).trans rfl; have hcz7_2 : w6.cell? ⟨gb138, 2, none⟩ = some (.int .i64 0) := (blk_cell BK138.out 2).trans rfl; have hcz7_3 : w6.cell? ⟨gb138, 3, none⟩ = some (.slice none 0 0) := (blk_cell BK138.out 3).trans rfl; have hcz7_4 : w6.cell? ⟨gb138, 4, none⟩ = some (.slice none 0 0) := (blk_cell BK138.out 4).trans rfl; have hfz7_0 := blk_frozen BK138.out 0; have hfz7_1 := blk_frozen BK138.out 1; have hfz7_2 := blk_frozen BK138.out 2; have hfz7_3 := blk_frozen BK138.out 3; have hfz7_4 := blk_frozen BK138.out 4)); go_upto_region 8 with (first | ((with_reducible refine gate_dst (N := 5) rfl ?_); (try (refine gate_guard (by rfl) ?_; dsimp only)); refine box_event ?hg (N := 5) ?hd (cs := #[.int .i64 0, .int .i64 0, .int .i64 0, .slice none 0 0, .slice none 0 0]) (t := 119) ?hr ?_; (case hd => rfl); (case hg => rfl); (case hr => first | (go_simp; done) | (go_simp; rfl)); intro gb138 hg w6 hbox hb; have n0_ := Aside0.mk (Kd.R_below (by (with_reducible repeat (first | apply Kd.R_alloc | apply Kd.R_drewN | apply Kd.R_drew)); exact HO_3.out) hb); have n1_ := Aside0.mk (below_step (by repeat (first | (with_reducible first | exact HB.out | apply below_alloc | apply pw_below_drewN | apply below_drew1) | exact HB.out)) hb); have n2_ := Aside0.mk (hbox); have n3_ := Aside0.mk ((by rw [hg]; exact (below_size (by repeat (first | (with_reducible first | exact HB.out | apply below_alloc | apply pw_below_drewN | apply below_drew1) | exact HB.out))) : w.heap.size ≤ gb138)); have n4_ := Aside0.mk ((by rw [hg]; exact (below_size (by repeat (first | (with_reducible first | exact HB.out | apply below_alloc | apply pw_below_drewN | apply below_drew1) | exact HB.out))) : w.heap.size ≤ gb138)); clear HO_3; clear HB; have HO_3 := n0_; have HB := n1_; have BK138 := n2_; have GW138 := n3_; have GE138 := n4_; clear n0_ n1_ n2_ n3_ n4_; clear hb hbox hg; have hcz7_0 : w6.cell? ⟨gb138, 0, none⟩ = some (.int .i64 0) := (blk_cell BK138.out 0).trans rfl; have hcz7_1 : w6.cell? ⟨gb138, 1, none⟩ = some (.int .i64 0) := (blk_cell BK138.out 1).trans rfl; have hcz7_2 : w6.cell? ⟨gb138, 2, none⟩ = some (.int .i64 0) := (blk_cell BK138.out 2).trans rfl; have hcz7_3 : w6.cell? ⟨gb138, 3, none⟩ = some (.slice none 0 0) := (blk_cell BK138.out 3).trans rfl; have hcz7_4 : w6.cell? ⟨gb138, 4, none⟩ = some (.slice none 0 0) := (blk_cell BK138.out 4).trans rfl; have hfz7_0 := blk_frozen BK138.out 0; have hfz7_1 := blk_frozen BK138.out 1; have hfz7_2 := blk_frozen BK138.out 2; have hfz7_3 := blk_frozen BK138.out 3; have hfz7_4 := blk_frozen BK138.out 4)))
            (try simp only [Act.put, List.setIfInBounds_toArray, List.set_cons_zero, List.set_cons_succ])
            go_cut [43] (fun v43 wc => ∃ (kq : Nat) (x43_4 : Bool), v43 = .bool x43_4 ∧ Aside0 (spec_DeedsOk.j1 kq l0 x3_1 x4_1 x43_4 ((rd_T119 l0 x4_1).f0) ((rd_T119 l0 x4_1).f1) ((rd_T119 l0 x4_1).f2) ((rd_T119 l0 x4_1).f3) ((rd_T119 l0 x4_1).f4) = some r) ∧ Aside0 (kq ≤ k1) ∧ Aside0 (Kd.R (Kd.int .i64) 3 wc w.heap.size (fun _ => True) u3 x3_1) ∧ Aside0 (wc.heap[gb138]? = some (.cells #[.int .i64 ((rd_T119 l0 x4_1).f0), .int .i64 ((rd_T119 l0 x4_1).f1), .int .i64 ((rd_T119 l0 x4_1).f2), (.slice A137_3 ((rd_T119 l0 x4_1).f3).length c137_3), (.slice A137_4 ((rd_T119 l0 x4_1).f4).length c137_4)] 119 (0, 0))) ∧ Aside0 (Below w.heap.size w wc))
            case first =>
              have H := HC5.out
              clear HC5
              by_cases c8 : ((rd_T119 l0 x4_1).f1) < 1
              · rw [if_pos c8] at H
                have c8b0 : decide (((rd_T119 l0 x4_1).f1) < 1) = true := decide_eq_true c8
                clear c8
                (first | rw [c8b0] | (simp only [i64_w, i32_w]; rw [c8b0]) | skip)
                have H' := Aside0.mk H
                clear H
                have hcz9_0 : w6.cell? ⟨gb138, 0, none⟩ = some (.int .i64 0) := (blk_cell BK138.out 0).trans rfl
                have hcz9_1 : w6.cell? ⟨gb138, 1, none⟩ = some (.int .i64 0) := (blk_cell BK138.out 1).trans rfl
                have hcz9_2 : w6.cell? ⟨gb138, 2, none⟩ = some (.int .i64 0) := (blk_cell BK138.out 2).trans rfl
                have hcz9_3 : w6.cell? ⟨gb138, 3, none⟩ = some (.slice none 0 0) := (blk_cell BK138.out 3).trans rfl
                have hcz9_4 : w6.cell? ⟨gb138, 4, none⟩ = some (.slice none 0 0) := (blk_cell BK138.out 4).trans rfl
                have hfz9_0 := blk_frozen BK138.out 0
                have hfz9_1 := blk_frozen BK138.out 1
                have hfz9_2 := blk_frozen BK138.out 2
                have hfz9_3 := blk_frozen BK138.out 3
                have hfz9_4 := blk_frozen BK138.out 4
                go_wp2
                repeat (go_quiet (fail); try go_wp2)
                go_meet
                case rel => exact ⟨_, (true), (by first | rfl | (simp; done) | (simp [*]; done)), H', ⟨by have := HK1.out; first | omega | exact Nat.le_refl _⟩, ⟨by (with_reducible repeat (first | apply Kd.R_alloc | apply Kd.R_drewN | apply Kd.R_drew)); exact Kd.R_mono (Kd.R_far (p := ⟨gb138, 4, none⟩) (Kd.R_far (p := ⟨gb138, 3, none⟩) (Kd.R_far (p := ⟨gb138, 2, none⟩) (Kd.R_far (p := ⟨gb138, 1, none⟩) (Kd.R_far (p := ⟨gb138, 0, none⟩) (Kd.R_types HO_3.out BK138.out (by decide)) (fun _ hk => hk.2) (.int .i64 ((rd_T119 l0 x4_1).f0))) (fun _ hk => hk.2) (.int .i64 ((rd_T119 l0 x4_1).f1))) (fun _ hk => hk.2) (.int .i64 ((rd_T119 l0 x4_1).f2))) (fun _ hk => hk.2) (.slice A137_3 ((rd_T119 l0 x4_1).f3).length c137_3)) (fun _ hk => hk.2) (.slice A137_4 ((rd_T119 l0 x4_1).f4).length c137_4)) (fun _ hk => trivial)⟩, ⟨by (with_reducible repeat (first | refine blk_drewN ?_ _ | refine blk_drew ?_ | refine blk_alloc ?_ _)); refine blk_put (cs := #[.int .i64 ((rd_T119 l0 x4_1).f0), .int .i64 ((rd_T119 l0 x4_1).f1), .int .i64 ((rd_T119 l0 x4_1).f2), .slice A137_3 ((rd_T119 l0 x4_1).f3).length c137_3, .slice none 0 0]) ?_ 4 _ rfl; (with_reducible repeat (first | refine blk_drewN ?_ _ | refine blk_drew ?_ | refine blk_alloc ?_ _)); refine blk_put (cs := #[.int .i64 ((rd_T119 l0 x4_1).f0), .int .i64 ((rd_T119 l0 x4_1).f1), .int .i64 ((rd_T119 l0 x4_1).f2), .slice none 0 0, .slice none 0 0]) ?_ 3 _ rfl; (with_reducible repeat (first | refine blk_drewN ?_ _ | refine blk_drew ?_ | refine blk_alloc ?_ _)); refine blk_put (cs := #[.int .i64 ((rd_T119 l0 x4_1).f0), .int .i64 ((rd_T119 l0 x4_1).f1), .int .i64 0, .slice none 0 0, .slice none 0 0]) ?_ 2 _ rfl; (with_reducible repeat (first | refine blk_drewN ?_ _ | refine blk_drew ?_ | refine blk_alloc ?_ _)); refine blk_put (cs := #[.int .i64 ((rd_T119 l0 x4_1).f0), .int .i64 0, .int .i64 0, .slice none 0 0, .slice none 0 0]) ?_ 1 _ rfl; (with_reducible repeat (first | refine blk_drewN ?_ _ | refine blk_drew ?_ | refine blk_alloc ?_ _)); refine blk_put (cs := #[.int .i64 0, .int .i64 0, .int .i64 0, .slice none 0 0, .slice none 0 0]) ?_ 0 _ rfl; (with_reducible repeat (first | refine blk_drewN ?_ _ | refine blk_drew ?_ | refine blk_alloc ?_ _)); exact BK138.out⟩, ⟨by repeat (first | (with_reducible first | exact HB.out | apply below_alloc | apply pw_below_drewN | apply below_drew1 | refine below_set ?_ GE138.out) | exact HB.out)⟩⟩
              · rw [if_neg c8] at H
                have c8b0 : decide (((rd_T119 l0 x4_1).f1) < 1) = false := decide_eq_false c8
                clear c8
                (first | rw [c8b0] | (simp only [i64_w, i32_w]; rw [c8b0]) | skip)
                by_cases c10 : ((rd_T119 l0 x4_1).f2) ≤ ((rd_T119 l0 x4_1).f1)
                · rw [if_pos c10] at H
                  have c10b0 : decide (((rd_T119 l0 x4_1).f2) ≤ ((rd_T119 l0 x4_1).f1)) = true := decide_eq_true c10
                  clear c10
                  have H' := Aside0.mk H
                  clear H
                  have hcz11_0 : w6.cell? ⟨gb138, 0, none⟩ = some (.int .i64 0) := (blk_cell BK138.out 0).trans rfl
                  have hcz11_1 : w6.cell? ⟨gb138, 1, none⟩ = some (.int .i64 0) := (blk_cell BK138.out 1).trans rfl
                  have hcz11_2 : w6.cell? ⟨gb138, 2, none⟩ = some (.int .i64 0) := (blk_cell BK138.out 2).trans rfl
                  have hcz11_3 : w6.cell? ⟨gb138, 3, none⟩ = some (.slice none 0 0) := (blk_cell BK138.out 3).trans rfl
                  have hcz11_4 : w6.cell? ⟨gb138, 4, none⟩ = some (.slice none 0 0) := (blk_cell BK138.out 4).trans rfl
                  have hfz11_0 := blk_frozen BK138.out 0
                  have hfz11_1 := blk_frozen BK138.out 1
                  have hfz11_2 := blk_frozen BK138.out 2
                  have hfz11_3 := blk_frozen BK138.out 3
                  have hfz11_4 := blk_frozen BK138.out 4
                  go_wp2
                  repeat (go_quiet (fail); try go_wp2)
                  go_meet
                  case rel => exact ⟨_, (true), (by first | rfl | (simp; done) | (simp [*]; done)), H', ⟨by have := HK1.out; first | omega | exact Nat.le_refl _⟩, ⟨by (with_reducible repeat (first | apply Kd.R_alloc | apply Kd.R_drewN | apply Kd.R_drew)); exact Kd.R_mono (Kd.R_far (p := ⟨gb138, 4, none⟩) (Kd.R_far (p := ⟨gb138, 3, none⟩) (Kd.R_far (p := ⟨gb138, 2, none⟩) (Kd.R_far (p := ⟨gb138, 1, none⟩) (Kd.R_far (p := ⟨gb138, 0, none⟩) (Kd.R_types HO_3.out BK138.out (by decide)) (fun _ hk => hk.2) (.int .i64 ((rd_T119 l0 x4_1).f0))) (fun _ hk => hk.2) (.int .i64 ((rd_T119 l0 x4_1).f1))) (fun _ hk => hk.2) (.int .i64 ((rd_T119 l0 x4_1).f2))) (fun _ hk => hk.2) (.slice A137_3 ((rd_T119 l0 x4_1).f3).length c137_3)) (fun _ hk => hk.2) (.slice A137_4 ((rd_T119 l0 x4_1).f4).length c137_4)) (fun _ hk => trivial)⟩, ⟨by (with_reducible repeat (first | refine blk_drewN ?_ _ | refine blk_drew ?_ | refine blk_alloc ?_ _)); refine blk_put (cs := #[.int .i64 ((rd_T119 l0 x4_1).f0), .int .i64 ((rd_T119 l0 x4_1).f1), .int .i64 ((rd_T119 l0 x4_1).f2), .slice A137_3 ((rd_T119 l0 x4_1).f3).length c137_3, .slice none 0 0]) ?_ 4 _ rfl; (with_reducible repeat (first | refine blk_drewN ?_ _ | refine blk_drew ?_ | refine blk_alloc ?_ _)); refine blk_put (cs := #[.int .i64 ((rd_T119 l0 x4_1).f0), .int .i64 ((rd_T119 l0 x4_1).f1), .int .i64 ((rd_T119 l0 x4_1).f2), .slice none 0 0, .slice none 0 0]) ?_ 3 _ rfl; (with_reducible repeat (first | refine blk_drewN ?_ _ | refine blk_drew ?_ | refine blk_alloc ?_ _)); refine blk_put (cs := #[.int .i64 ((rd_T119 l0 x4_1).f0), .int .i64 ((rd_T119 l0 x4_1).f1), .int .i64 0, .slice none 0 0, .slice none 0 0]) ?_ 2 _ rfl; (with_reducible repeat (first | refine blk_drewN ?_ _ | refine blk_drew ?_ | refine blk_alloc ?_ _)); refine blk_put (cs := #[.int .i64 ((rd_T119 l0 x4_1).f0), .int .i64 0, .int .i64 0, .slice none 0 0, .slice none 0 0]) ?_ 1 _ rfl; (with_reducible repeat (first | refine blk_drewN ?_ _ | refine blk_drew ?_ | refine blk_alloc ?_ _)); refine blk_put (cs := #[.int .i64 0, .int .i64 0, .int .i64 0, .slice none 0 0, .slice none 0 0]) ?_ 0 _ rfl; (with_reducible repeat (first | refine blk_drewN ?_ _ | refine blk_drew ?_ | refine blk_alloc ?_ _)); exact BK138.out⟩, ⟨by repeat (first | (with_reducible first | exact HB.out | apply below_alloc | apply pw_below_drewN | apply below_drew1 | refine below_set ?_ GE138.out) | exact HB.out)⟩⟩
                · rw [if_neg c10] at H
                  have c10b0 : decide (((rd_T119 l0 x4_1).f2) ≤ ((rd_T119 l0 x4_1).f1)) = false := decide_eq_false c10
                  clear c10
                  by_cases c12 : (((rd_T119 l0 x4_1).f3).length : Int) > 200
                  · rw [if_pos c12] at H
                    have c12b0 : decide (200 < (((rd_T119 l0 x4_1).f3).length : Int)) = true := decide_eq_true c12
                    have c12b1 : decide (200 < ((rd_T119 l0 x4_1).f3).length) = true := decide_eq_true (by omega)
                    clear c12
                    have H' := Aside0.mk H
                    clear H
                    have hcz13_0 : w6.cell? ⟨gb138, 0, none⟩ = some (.int .i64 0) := (blk_cell BK138.out 0).trans rfl
                    have hcz13_1 : w6.cell? ⟨gb138, 1, none⟩ = some (.int .i64 0) := (blk_cell BK138.out 1).trans rfl
                    have hcz13_2 : w6.cell? ⟨gb138, 2, none⟩ = some (.int .i64 0) := (blk_cell BK138.out 2).trans rfl
                    have hcz13_3 : w6.cell? ⟨gb138, 3, none⟩ = some (.slice none 0 0) := (blk_cell BK138.out 3).trans rfl
                    have hcz13_4 : w6.cell? ⟨gb138, 4, none⟩ = some (.slice none 0 0) := (blk_cell BK138.out 4).trans rfl
                    have hfz13_0 := blk_frozen BK138.out 0
                    have hfz13_1 := blk_frozen BK138.out 1
                    have hfz13_2 := blk_frozen BK138.out 2
                    have hfz13_3 := blk_frozen BK138.out 3
                    have hfz13_4 := blk_frozen BK138.out 4
                    go_wp2
                    repeat (go_quiet (fail); try go_wp2)
                    go_meet
                    case rel => exact ⟨_, (true), (by first | rfl | (simp; done) | (simp [*]; done)), H', ⟨by have := HK1.out; first | omega | exact Nat.le_refl _⟩, ⟨by (with_reducible repeat (first | apply Kd.R_alloc | apply Kd.R_drewN | apply Kd.R_drew)); exact Kd.R_mono (Kd.R_far (p := ⟨gb138, 4, none⟩) (Kd.R_far (p := ⟨gb138, 3, none⟩) (Kd.R_far (p := ⟨gb138, 2, none⟩) (Kd.R_far (p := ⟨gb138, 1, none⟩) (Kd.R_far (p := ⟨gb138, 0, none⟩) (Kd.R_types HO_3.out BK138.out (by decide)) (fun _ hk => hk.2) (.int .i64 ((rd_T119 l0 x4_1).f0))) (fun _ hk => hk.2) (.int .i64 ((rd_T119 l0 x4_1).f1))) (fun _ hk => hk.2) (.int .i64 ((rd_T119 l0 x4_1).f2))) (fun _ hk => hk.2) (.slice A137_3 ((rd_T119 l0 x4_1).f3).length c137_3)) (fun _ hk => hk.2) (.slice A137_4 ((rd_T119 l0 x4_1).f4).length c137_4)) (fun _ hk => trivial)⟩, ⟨by (with_reducible repeat (first | refine blk_drewN ?_ _ | refine blk_drew ?_ | refine blk_alloc ?_ _)); refine blk_put (cs := #[.int .i64 ((rd_T119 l0 x4_1).f0), .int .i64 ((rd_T119 l0 x4_1).f1), .int .i64 ((rd_T119 l0 x4_1).f2), .slice A137_3 ((rd_T119 l0 x4_1).f3).length c137_3, .slice none 0 0]) ?_ 4 _ rfl; (with_reducible repeat (first | refine blk_drewN ?_ _ | refine blk_drew ?_ | refine blk_alloc ?_ _)); refine blk_put (cs := #[.int .i64 ((rd_T119 l0 x4_1).f0), .int .i64 ((rd_T119 l0 x4_1).f1), .int .i64 ((rd_T119 l0 x4_1).f2), .slice none 0 0, .slice none 0 0]) ?_ 3 _ rfl; (with_reducible repeat (first | refine blk_drewN ?_ _ | refine blk_drew ?_ | refine blk_alloc ?_ _)); refine blk_put (cs := #[.int .i64 ((rd_T119 l0 x4_1).f0), .int .i64 ((rd_T119 l0 x4_1).f1), .int .i64 0, .slice none 0 0, .slice none 0 0]) ?_ 2 _ rfl; (with_reducible repeat (first | refine blk_drewN ?_ _ | refine blk_drew ?_ | refine blk_alloc ?_ _)); refine blk_put (cs := #[.int .i64 ((rd_T119 l0 x4_1).f0), .int .i64 0, .int .i64 0, .slice none 0 0, .slice none 0 0]) ?_ 1 _ rfl; (with_reducible repeat (first | refine blk_drewN ?_ _ | refine blk_drew ?_ | refine blk_alloc ?_ _)); refine blk_put (cs := #[.int .i64 0, .int .i64 0, .int .i64 0, .slice none 0 0, .slice none 0 0]) ?_ 0 _ rfl; (with_reducible repeat (first | refine blk_drewN ?_ _ | refine blk_drew ?_ | refine blk_alloc ?_ _)); exact BK138.out⟩, ⟨by repeat (first | (with_reducible first | exact HB.out | apply below_alloc | apply pw_below_drewN | apply below_drew1 | refine below_set ?_ GE138.out) | exact HB.out)⟩⟩
                  · rw [if_neg c12] at H
                    have c12b0 : decide (200 < (((rd_T119 l0 x4_1).f3).length : Int)) = false := decide_eq_false c12
                    have c12b1 : decide (200 < ((rd_T119 l0 x4_1).f3).length) = false := decide_eq_false (by omega)
                    clear c12
                    have H' := Aside0.mk H
                    clear H
                    have hcz14_0 : w6.cell? ⟨gb138, 0, none⟩ = some (.int .i64 0) := (blk_cell BK138.out 0).trans rfl
                    have hcz14_1 : w6.cell? ⟨gb138, 1, none⟩ = some (.int .i64 0) := (blk_cell BK138.out 1).trans rfl
                    have hcz14_2 : w6.cell? ⟨gb138, 2, none⟩ = some (.int .i64 0) := (blk_cell BK138.out 2).trans rfl
                    have hcz14_3 : w6.cell? ⟨gb138, 3, none⟩ = some (.slice none 0 0) := (blk_cell BK138.out 3).trans rfl
                    have hcz14_4 : w6.cell? ⟨gb138, 4, none⟩ = some (.slice none 0 0) := (blk_cell BK138.out 4).trans rfl
                    have hfz14_0 := blk_frozen BK138.out 0
                    have hfz14_1 := blk_frozen BK138.out 1
                    have hfz14_2 := blk_frozen BK138.out 2
                    have hfz14_3 := blk_frozen BK138.out 3
                    have hfz14_4 := blk_frozen BK138.out 4
                    go_wp2
                    repeat (go_quiet (fail); try go_wp2)
                    go_meet
                    case rel => exact ⟨_, (decide ((((rd_T119 l0 x4_1).f4).length : Int) > 200)), (by first | rfl | (simp; done) | (simp [*]; done)), H', ⟨by have := HK1.out; first | omega | exact Nat.le_refl _⟩, ⟨by (with_reducible repeat (first | apply Kd.R_alloc | apply Kd.R_drewN | apply Kd.R_drew)); exact Kd.R_mono (Kd.R_far (p := ⟨gb138, 4, none⟩) (Kd.R_far (p := ⟨gb138, 3, none⟩) (Kd.R_far (p := ⟨gb138, 2, none⟩) (Kd.R_far (p := ⟨gb138, 1, none⟩) (Kd.R_far (p := ⟨gb138, 0, none⟩) (Kd.R_types HO_3.out BK138.out (by decide)) (fun _ hk => hk.2) (.int .i64 ((rd_T119 l0 x4_1).f0))) (fun _ hk => hk.2) (.int .i64 ((rd_T119 l0 x4_1).f1))) (fun _ hk => hk.2) (.int .i64 ((rd_T119 l0 x4_1).f2))) (fun _ hk => hk.2) (.slice A137_3 ((rd_T119 l0 x4_1).f3).length c137_3)) (fun _ hk => hk.2) (.slice A137_4 ((rd_T119 l0 x4_1).f4).length c137_4)) (fun _ hk => trivial)⟩, ⟨by (with_reducible repeat (first | refine blk_drewN ?_ _ | refine blk_drew ?_ | refine blk_alloc ?_ _)); refine blk_put (cs := #[.int .i64 ((rd_T119 l0 x4_1).f0), .int .i64 ((rd_T119 l0 x4_1).f1), .int .i64 ((rd_T119 l0 x4_1).f2), .slice A137_3 ((rd_T119 l0 x4_1).f3).length c137_3, .slice none 0 0]) ?_ 4 _ rfl; (with_reducible repeat (first | refine blk_drewN ?_ _ | refine blk_drew ?_ | refine blk_alloc ?_ _)); refine blk_put (cs := #[.int .i64 ((rd_T119 l0 x4_1).f0), .int .i64 ((rd_T119 l0 x4_1).f1), .int .i64 ((rd_T119 l0 x4_1).f2), .slice none 0 0, .slice none 0 0]) ?_ 3 _ rfl; (with_reducible repeat (first | refine blk_drewN ?_ _ | refine blk_drew ?_ | refine blk_alloc ?_ _)); refine blk_put (cs := #[.int .i64 ((rd_T119 l0 x4_1).f0), .int .i64 ((rd_T119 l0 x4_1).f1), .int .i64 0, .slice none 0 0, .slice none 0 0]) ?_ 2 _ rfl; (with_reducible repeat (first | refine blk_drewN ?_ _ | refine blk_drew ?_ | refine blk_alloc ?_ _)); refine blk_put (cs := #[.int .i64 ((rd_T119 l0 x4_1).f0), .int .i64 0, .int .i64 0, .slice none 0 0, .slice none 0 0]) ?_ 1 _ rfl; (with_reducible repeat (first | refine blk_drewN ?_ _ | refine blk_drew ?_ | refine blk_alloc ?_ _)); refine blk_put (cs := #[.int .i64 0, .int .i64 0, .int .i64 0, .slice none 0 0, .slice none 0 0]) ?_ 0 _ rfl; (with_reducible repeat (first | refine blk_drewN ?_ _ | refine blk_drew ?_ | refine blk_alloc ?_ _)); exact BK138.out⟩, ⟨by repeat (first | (with_reducible first | exact HB.out | apply below_alloc | apply pw_below_drewN | apply below_drew1 | refine below_set ?_ GE138.out) | exact HB.out)⟩⟩
            case rest =>
              clear HC5
              try clear c1
              try clear p1
              try clear q1
              try clear hx1
              try clear c2
              try clear c2b0
              try clear c2b1
              try clear p2
              try clear c3
              try clear c3b0
              try clear c4
              try clear c4b0
              try clear c8
              try clear c8b0
              try clear c10
              try clear c10b0
              try clear c12
              try clear c12b0
              try clear c12b1
              try clear c13
              try clear p13
              try clear q13
              try clear hx13
              try clear hcz11_0
              try clear hcz11_1
              try clear hcz11_2
              try clear hcz11_3
              try clear hcz11_4
              try clear hcz13_0
              try clear hcz13_1
              try clear hcz13_2
              try clear hcz13_3
              try clear hcz13_4
              try clear hcz14_0
              try clear hcz14_1
              try clear hcz14_2
              try clear hcz14_3
              try clear hcz14_4
              try clear hcz7_0
              try clear hcz7_1
              try clear hcz7_2
              try clear hcz7_3
              try clear hcz7_4
              try clear hcz9_0
              try clear hcz9_1
              try clear hcz9_2
              try clear hcz9_3
              try clear hcz9_4
              try clear hfz11_0
              try clear hfz11_1
              try clear hfz11_2
              try clear hfz11_3
              try clear hfz11_4
              try clear hfz13_0
              try clear hfz13_1
              try clear hfz13_2
              try clear hfz13_3
              try clear hfz13_4
              try clear hfz14_0
              try clear hfz14_1
              try clear hfz14_2
              try clear hfz14_3
              try clear hfz14_4
              try clear hfz7_0
              try clear hfz7_1
              try clear hfz7_2
              try clear hfz7_3
              try clear hfz7_4
              try clear hfz9_0
              try clear hfz9_1
              try clear hfz9_2
              try clear hfz9_3
              try clear hfz9_4
              try clear hx137_0
              try clear hx137_1
              try clear hx137_2
              try clear hx137_3
              try clear hx137_4
              try clear p137
              try clear p2
              try clear q137
              obtain ⟨kq, x43_4, rfl, HA, HJ4, HO_3, BK138, HB⟩ := hcut
              cases kq with
              | zero => exact absurd HA.out (by simp [spec_DeedsOk.j1])
              | succ kj4 =>
                have H := HA.out
                clear HA
                simp only [spec_DeedsOk.j1] at H
                by_cases c15 : x43_4 = true
                · subst c15
                  have H1 : (some false) = some r := by rw [if_pos rfl] at H; exact H
                  clear H
                  have H := H1
                  clear H1
                  obtain rfl := Option.some.inj H
                  go_wp2
                  repeat (go_quiet (fail); try go_wp2)
                  go_ret
                  exact ⟨by first | rfl | (simp [errW_none, errW_some] <;> rfl) | (simp [*, errW_none, errW_some] <;> rfl), by repeat (first | (with_reducible first | exact HB.out | apply below_alloc | apply pw_below_drewN | apply below_drew1 | refine below_set ?_ GE138.out) | exact HB.out)⟩
                · replace c15 := Bool.eq_false_iff.mpr c15
                  subst c15
                  have H1 : (spec_DeedsOk.l1 kj4 l0 x3_1 x4_1 0 ((rd_T119 l0 x4_1).f0) ((rd_T119 l0 x4_1).f1) ((rd_T119 l0 x4_1).f2) ((rd_T119 l0 x4_1).f3) ((rd_T119 l0 x4_1).f4)) = some r := by rw [if_neg (show ¬ (false = true) by decide)] at H; exact H
                  clear H
                  have H := H1
                  clear H1
                  have H' := Aside0.mk H
                  clear H
                  go_wp2
                  repeat (go_quiet (fail); try go_wp2)
                  go_loopg [6] kj4 (fun kq v6 w' => ∃ (x6_3 : Int), v6 = .int .i64 x6_3 ∧ Aside0 (spec_DeedsOk.l1 kq l0 x3_1 x4_1 x6_3 ((rd_T119 l0 x4_1).f0) ((rd_T119 l0 x4_1).f1) ((rd_T119 l0 x4_1).f2) ((rd_T119 l0 x4_1).f3) ((rd_T119 l0 x4_1).f4) = some r) ∧ Aside0 (kq ≤ kj4) ∧ Aside0 (Kd.R (Kd.int .i64) 3 w' w.heap.size (fun _ => True) u3 x3_1) ∧ Aside0 (w'.heap[gb138]? = some (.cells #[.int .i64 ((rd_T119 l0 x4_1).f0), .int .i64 ((rd_T119 l0 x4_1).f1), .int .i64 ((rd_T119 l0 x4_1).f2), (.slice A137_3 ((rd_T119 l0 x4_1).f3).length c137_3), (.slice A137_4 ((rd_T119 l0 x4_1).f4).length c137_4)] 119 (0, 0))) ∧ Aside0 (Below w.heap.size w w'))
                  case atStart => exact ⟨(0), (by first | rfl | (simp; done) | (simp [*]; done)), H', ⟨Nat.le_refl _⟩, ⟨by (with_reducible repeat (first | apply Kd.R_alloc | apply Kd.R_drewN | apply Kd.R_drew)); exact HO_3.out⟩, ⟨by (with_reducible repeat (first | refine blk_drewN ?_ _ | refine blk_drew ?_ | refine blk_alloc ?_ _)); exact BK138.out⟩, ⟨by repeat (first | (with_reducible first | exact HB.out | apply below_alloc | apply pw_below_drewN | apply below_drew1 | refine below_set ?_ GE138.out) | exact HB.out)⟩⟩
                  case round =>
                    clear H'
                    try clear c1
                    try clear p1
                    try clear q1
                    try clear hx1
                    try clear c2
                    try clear c2b0
                    try clear c2b1
                    try clear p2
                    try clear c3
                    try clear c3b0
                    try clear c4
                    try clear c4b0
                    try clear c8
                    try clear c8b0
                    try clear c10
                    try clear c10b0
                    try clear c12
                    try clear c12b0
                    try clear c12b1
                    try clear c13
                    try clear p13
                    try clear q13
                    try clear hx13
                    try clear c15
                    try clear hcz11_0
                    try clear hcz11_1
                    try clear hcz11_2
                    try clear hcz11_3
                    try clear hcz11_4
                    try clear hcz13_0
                    try clear hcz13_1
                    try clear hcz13_2
                    try clear hcz13_3
                    try clear hcz13_4
                    try clear hcz14_0
                    try clear hcz14_1
                    try clear hcz14_2
                    try clear hcz14_3
                    try clear hcz14_4
                    try clear hcz7_0
                    try clear hcz7_1
                    try clear hcz7_2
                    try clear hcz7_3
                    try clear hcz7_4
                    try clear hcz9_0
                    try clear hcz9_1
                    try clear hcz9_2
                    try clear hcz9_3
                    try clear hcz9_4
                    try clear hfz11_0
                    try clear hfz11_1
                    try clear hfz11_2
                    try clear hfz11_3
                    try clear hfz11_4
                    try clear hfz13_0
                    try clear hfz13_1
                    try clear hfz13_2
                    try clear hfz13_3
                    try clear hfz13_4
                    try clear hfz14_0
                    try clear hfz14_1
                    try clear hfz14_2
                    try clear hfz14_3
                    try clear hfz14_4
                    try clear hfz7_0
                    try clear hfz7_1
                    try clear hfz7_2
                    try clear hfz7_3
                    try clear hfz7_4
                    try clear hfz9_0
                    try clear hfz9_1
                    try clear hfz9_2
                    try clear hfz9_3
                    try clear hfz9_4
                    try clear hx137_0
                    try clear hx137_1
                    try clear hx137_2
                    try clear hx137_3
                    try clear hx137_4
                    try clear p1
                    try clear p13
                    try clear p137
                    try clear p2
                    try clear q1
                    try clear q13
                    try clear q137
                    obtain ⟨x6_3, rfl, HA, HK3, HO_3, BK138, HB⟩ := hrel
                    cases gk with
                    | zero => exact absurd HA.out (by simp [spec_DeedsOk.l1])
                    | succ k3 =>
                      have H := HA.out
                      clear HA
                      simp only [spec_DeedsOk.l1] at H
                      by_cases c16 : x6_3 < (((rd_T119 l0 x4_1).f3).length : Int)
                      · rw [if_pos c16] at H
                        have c16b0 : decide (x6_3 < (((rd_T119 l0 x4_1).f3).length : Int)) = true := decide_eq_true c16
                        clear c16
                        by_cases c17 : 0 ≤ x6_3
                        · rw [if_pos c17] at H
                          have c17b0 : decide (0 ≤ x6_3) = true := decide_eq_true c17
                          clear c17
                          replace H := Option.bind_eq_some_iff.mp H
                          obtain ⟨t140, A180, H⟩ := H
                          replace H : (if t140 = true then (spec_DeedsOk.l1 k3 l0 x3_1 x4_1 (wrap64 (x6_3 + 1)) ((rd_T119 l0 x4_1).f0) ((rd_T119 l0 x4_1).f1) ((rd_T119 l0 x4_1).f2) ((rd_T119 l0 x4_1).f3) ((rd_T119 l0 x4_1).f4)) else (some false)) = some r := H
                          have A18 := Aside0.mk A180
                          clear A180
                          by_cases c19 : t140 = true
                          · subst c19
                            have H1 : (spec_DeedsOk.l1 k3 l0 x3_1 x4_1 (wrap64 (x6_3 + 1)) ((rd_T119 l0 x4_1).f0) ((rd_T119 l0 x4_1).f1) ((rd_T119 l0 x4_1).f2) ((rd_T119 l0 x4_1).f3) ((rd_T119 l0 x4_1).f4)) = some r := by rw [if_pos rfl] at H; exact H
                            clear H
                            have H := H1
                            clear H1
                            have H' := Aside0.mk H
                            clear H
                            have hcz20_0 : wr.cell? ⟨gb138, 0, none⟩ = some (.int .i64 ((rd_T119 l0 x4_1).f0)) := (blk_cell BK138.out 0).trans rfl
                            have hcz20_1 : wr.cell? ⟨gb138, 1, none⟩ = some (.int .i64 ((rd_T119 l0 x4_1).f1)) := (blk_cell BK138.out 1).trans rfl
                            have hcz20_2 : wr.cell? ⟨gb138, 2, none⟩ = some (.int .i64 ((rd_T119 l0 x4_1).f2)) := (blk_cell BK138.out 2).trans rfl
                            have hcz20_3 : wr.cell? ⟨gb138, 3, none⟩ = some (.slice A137_3 ((rd_T119 l0 x4_1).f3).length c137_3) := (blk_cell BK138.out 3).trans rfl
                            have hcz20_4 : wr.cell? ⟨gb138, 4, none⟩ = some (.slice A137_4 ((rd_T119 l0 x4_1).f4).length c137_4) := (blk_cell BK138.out 4).trans rfl
                            have hfz20_0 := blk_frozen BK138.out 0
                            have hfz20_1 := blk_frozen BK138.out 1
                            have hfz20_2 := blk_frozen BK138.out 2
                            have hfz20_3 := blk_frozen BK138.out 3
                            have hfz20_4 := blk_frozen BK138.out 4
                            have p139 : 0 ≤ (x6_3 : Int) := of_decide_eq_true (by first | (with_reducible assumption) | assumption)
                            have q139 : x6_3 < (((rd_T119 l0 x4_1).f3).length : Int) := of_decide_eq_true (by first | (with_reducible assumption) | assumption)
                            obtain ⟨ad139, A139_3, c139_3, A139_7, c139_7, e139, hx139_0, hx139_1, hx139_2, hx139_3, hx139_4, hx139_5, hx139_6, hx139_7, hl139_3, hi139_3, hl139_7, hi139_7⟩ := at_T38 HR137_3.out x6_3 p139 q139
                            cases e139
                            replace hx139_0 := (HB.out.cell (World.block_lt_of_cell? w _ hx139_0)).trans hx139_0
                            replace hx139_1 := (HB.out.cell (World.block_lt_of_cell? w _ hx139_1)).trans hx139_1
                            replace hx139_2 := (HB.out.cell (World.block_lt_of_cell? w _ hx139_2)).trans hx139_2
                            replace hx139_3 := (HB.out.cell (World.block_lt_of_cell? w _ hx139_3)).trans hx139_3
                            replace hx139_4 := (HB.out.cell (World.block_lt_of_cell? w _ hx139_4)).trans hx139_4
                            replace hx139_5 := (HB.out.cell (World.block_lt_of_cell? w _ hx139_5)).trans hx139_5
                            replace hx139_6 := (HB.out.cell (World.block_lt_of_cell? w _ hx139_6)).trans hx139_6
                            replace hx139_7 := (HB.out.cell (World.block_lt_of_cell? w _ hx139_7)).trans hx139_7
                            have HR139_3 := Aside0.mk hi139_3
                            have HC139_3 := Aside0.mk hl139_3
                            clear hi139_3 hl139_3
                            have HR139_7 := Aside0.mk hi139_7
                            have HC139_7 := Aside0.mk hl139_7
                            clear hi139_7 hl139_7
                            replace p139 := eq_true p139
                            replace q139 := eq_true q139
                            go_wp2_with (first | (go_at_call 21; (with_reducible refine (spec_SpanOk.calls k3 ((rd_T38 ((rd_T119 l0 x4_1).f3) x6_3).f0.f0) ((rd_T38 ((rd_T119 l0 x4_1).f3) x6_3).f0.f1) ((rd_T38 ((rd_T119 l0 x4_1).f3) x6_3).f0.f2) _ _ ((rd_T38 ((rd_T119 l0 x4_1).f3) x6_3).f0.f3) ((rd_T38 ((rd_T119 l0 x4_1).f3) x6_3).f1.f0) ((rd_T38 ((rd_T119 l0 x4_1).f3) x6_3).f1.f1) ((rd_T38 ((rd_T119 l0 x4_1).f3) x6_3).f1.f2) _ _ ((rd_T38 ((rd_T119 l0 x4_1).f3) x6_3).f1.f3) true _ ?side1 ?side2 ?side3 ?side4 A18.out).mono ?_); (case side1 => repeat (first | exact (Kd.C_below HR139_3.out HB.out) | (with_reducible refine Kd.C_alloc ?_ _) | (with_reducible refine Kd.C_drewN ?_ _) | (with_reducible refine Kd.C_drew ?_))); (case side2 => exact HC139_3.out); (case side3 => repeat (first | exact (Kd.C_below HR139_7.out HB.out) | (with_reducible refine Kd.C_alloc ?_ _) | (with_reducible refine Kd.C_drewN ?_ _) | (with_reducible refine Kd.C_drew ?_))); (case side4 => exact HC139_7.out); rintro e w21 ⟨rfl, hb⟩; have n0_ := Aside0.mk (Kd.R_below (by (with_reducible repeat (first | apply Kd.R_alloc | apply Kd.R_drewN | apply Kd.R_drew)); exact HO_3.out) hb); have n1_ := Aside0.mk (blk_below (g := gb138) (o := .cells #[.int .i64 ((rd_T119 l0 x4_1).f0), .int .i64 ((rd_T119 l0 x4_1).f1), .int .i64 ((rd_T119 l0 x4_1).f2), .slice (some ad139) ((rd_T119 l0 x4_1).f3).length c137_3, .slice A137_4 ((rd_T119 l0 x4_1).f4).length c137_4] 119 (0, 0)) (by (with_reducible repeat (first | refine blk_drewN ?_ _ | refine blk_drew ?_ | refine blk_alloc ?_ _)); exact BK138.out) hb); have n2_ := Aside0.mk (below_step (by repeat (first | (with_reducible first | exact HB.out | apply below_alloc | apply pw_below_drewN | apply below_drew1 | refine below_set ?_ GE138.out) | exact HB.out)) hb); clear HO_3; clear BK138; clear HB; have HO_3 := n0_; have BK138 := n1_; have HB := n2_; clear n0_ n1_ n2_; (try clear hb); (try clear hb2); (try clear hk); (try clear hi)))
                            repeat (go_quiet (first | (go_at_call 21; (with_reducible refine (spec_SpanOk.calls k3 ((rd_T38 ((rd_T119 l0 x4_1).f3) x6_3).f0.f0) ((rd_T38 ((rd_T119 l0 x4_1).f3) x6_3).f0.f1) ((rd_T38 ((rd_T119 l0 x4_1).f3) x6_3).f0.f2) _ _ ((rd_T38 ((rd_T119 l0 x4_1).f3) x6_3).f0.f3) ((rd_T38 ((rd_T119 l0 x4_1).f3) x6_3).f1.f0) ((rd_T38 ((rd_T119 l0 x4_1).f3) x6_3).f1.f1) ((rd_T38 ((rd_T119 l0 x4_1).f3) x6_3).f1.f2) _ _ ((rd_T38 ((rd_T119 l0 x4_1).f3) x6_3).f1.f3) true _ ?side1 ?side2 ?side3 ?side4 A18.out).mono ?_); (case side1 => repeat (first | exact (Kd.C_below HR139_3.out HB.out) | (with_reducible refine Kd.C_alloc ?_ _) | (with_reducible refine Kd.C_drewN ?_ _) | (with_reducible refine Kd.C_drew ?_))); (case side2 => exact HC139_3.out); (case side3 => repeat (first | exact (Kd.C_below HR139_7.out HB.out) | (with_reducible refine Kd.C_alloc ?_ _) | (with_reducible refine Kd.C_drewN ?_ _) | (with_reducible refine Kd.C_drew ?_))); (case side4 => exact HC139_7.out); rintro e w21 ⟨rfl, hb⟩; have n0_ := Aside0.mk (Kd.R_below (by (with_reducible repeat (first | apply Kd.R_alloc | apply Kd.R_drewN | apply Kd.R_drew)); exact HO_3.out) hb); have n1_ := Aside0.mk (blk_below (g := gb138) (o := .cells #[.int .i64 ((rd_T119 l0 x4_1).f0), .int .i64 ((rd_T119 l0 x4_1).f1), .int .i64 ((rd_T119 l0 x4_1).f2), .slice (some ad139) ((rd_T119 l0 x4_1).f3).length c137_3, .slice A137_4 ((rd_T119 l0 x4_1).f4).length c137_4] 119 (0, 0)) (by (with_reducible repeat (first | refine blk_drewN ?_ _ | refine blk_drew ?_ | refine blk_alloc ?_ _)); exact BK138.out) hb); have n2_ := Aside0.mk (below_step (by repeat (first | (with_reducible first | exact HB.out | apply below_alloc | apply pw_below_drewN | apply below_drew1 | refine below_set ?_ GE138.out) | exact HB.out)) hb); clear HO_3; clear BK138; clear HB; have HO_3 := n0_; have BK138 := n1_; have HB := n2_; clear n0_ n1_ n2_; (try clear hb); (try clear hb2); (try clear hk); (try clear hi))); try go_wp2_with (first | (go_at_call 21; (with_reducible refine (spec_SpanOk.calls k3 ((rd_T38 ((rd_T119 l0 x4_1).f3) x6_3).f0.f0) ((rd_T38 ((rd_T119 l0 x4_1).f3) x6_3).f0.f1) ((rd_T38 ((rd_T119 l0 x4_1).f3) x6_3).f0.f2) _ _ ((rd_T38 ((rd_T119 l0 x4_1).f3) x6_3).f0.f3) ((rd_T38 ((rd_T119 l0 x4_1).f3) x6_3).f1.f0) ((rd_T38 ((rd_T119 l0 x4_1).f3) x6_3).f1.f1) ((rd_T38 ((rd_T119 l0 x4_1).f3) x6_3).f1.f2) _ _ ((rd_T38 ((rd_T119 l0 x4_1).f3) x6_3).f1.f3) true _ ?side1 ?side2 ?side3 ?side4 A18.out).mono ?_); (case side1 => repeat (first | exact (Kd.C_below HR139_3.out HB.out) | (with_reducible refine Kd.C_alloc ?_ _) | (with_reducible refine Kd.C_drewN ?_ _) | (with_reducible refine Kd.C_drew ?_))); (case side2 => exact HC139_3.out); (case side3 => repeat (first | exact (Kd.C_below HR139_7.out HB.out) | (with_reducible refine Kd.C_alloc ?_ _) | (with_reducible refine Kd.C_drewN ?_ _) | (with_reducible refine Kd.C_drew ?_))); (case side4 => exact HC139_7.out); rintro e w21 ⟨rfl, hb⟩; have n0_ := Aside0.mk (Kd.R_below (by (with_reducible repeat (first | apply Kd.R_alloc | apply Kd.R_drewN | apply Kd.R_drew)); exact HO_3.out) hb); have n1_ := Aside0.mk (blk_below (g := gb138) (o := .cells #[.int .i64 ((rd_T119 l0 x4_1).f0), .int .i64 ((rd_T119 l0 x4_1).f1), .int .i64 ((rd_T119 l0 x4_1).f2), .slice (some ad139) ((rd_T119 l0 x4_1).f3).length c137_3, .slice A137_4 ((rd_T119 l0 x4_1).f4).length c137_4] 119 (0, 0)) (by (with_reducible repeat (first | refine blk_drewN ?_ _ | refine blk_drew ?_ | refine blk_alloc ?_ _)); exact BK138.out) hb); have n2_ := Aside0.mk (below_step (by repeat (first | (with_reducible first | exact HB.out | apply below_alloc | apply pw_below_drewN | apply below_drew1 | refine below_set ?_ GE138.out) | exact HB.out)) hb); clear HO_3; clear BK138; clear HB; have HO_3 := n0_; have BK138 := n1_; have HB := n2_; clear n0_ n1_ n2_; (try clear hb); (try clear hb2); (try clear hk); (try clear hi))))
                            go_roundg k3
                            case measure => have := HK1.out; have := HJ4.out; have := HK3.out; omega
                            case rel => exact ⟨(wrap64 (x6_3 + 1)), (by first | rfl | (simp; done) | (simp [*]; done)), H', ⟨by have := HK1.out; have := HJ4.out; have := HK3.out; omega⟩, ⟨by (with_reducible repeat (first | apply Kd.R_alloc | apply Kd.R_drewN | apply Kd.R_drew)); exact HO_3.out⟩, ⟨by (with_reducible repeat (first | refine blk_drewN ?_ _ | refine blk_drew ?_ | refine blk_alloc ?_ _)); exact BK138.out⟩, ⟨by repeat (first | (with_reducible first | exact HB.out | apply below_alloc | apply pw_below_drewN | apply below_drew1 | refine below_set ?_ GE138.out) | exact HB.out)⟩⟩
                          · replace c19 := Bool.eq_false_iff.mpr c19
                            subst c19
                            have H1 : (some false) = some r := by rw [if_neg (show ¬ (false = true) by decide)] at H; exact H
                            clear H
                            have H := H1
                            clear H1
                            obtain rfl := Option.some.inj H
                            have hcz22_0 : wr.cell? ⟨gb138, 0, none⟩ = some (.int .i64 ((rd_T119 l0 x4_1).f0)) := (blk_cell BK138.out 0).trans rfl
                            have hcz22_1 : wr.cell? ⟨gb138, 1, none⟩ = some (.int .i64 ((rd_T119 l0 x4_1).f1)) := (blk_cell BK138.out 1).trans rfl
                            have hcz22_2 : wr.cell? ⟨gb138, 2, none⟩ = some (.int .i64 ((rd_T119 l0 x4_1).f2)) := (blk_cell BK138.out 2).trans rfl
                            have hcz22_3 : wr.cell? ⟨gb138, 3, none⟩ = some (.slice A137_3 ((rd_T119 l0 x4_1).f3).length c137_3) := (blk_cell BK138.out 3).trans rfl
                            have hcz22_4 : wr.cell? ⟨gb138, 4, none⟩ = some (.slice A137_4 ((rd_T119 l0 x4_1).f4).length c137_4) := (blk_cell BK138.out 4).trans rfl
                            have hfz22_0 := blk_frozen BK138.out 0
                            have hfz22_1 := blk_frozen BK138.out 1
                            have hfz22_2 := blk_frozen BK138.out 2
                            have hfz22_3 := blk_frozen BK138.out 3
                            have hfz22_4 := blk_frozen BK138.out 4
                            have p139 : 0 ≤ (x6_3 : Int) := of_decide_eq_true (by first | (with_reducible assumption) | assumption)
                            have q139 : x6_3 < (((rd_T119 l0 x4_1).f3).length : Int) := of_decide_eq_true (by first | (with_reducible assumption) | assumption)
                            obtain ⟨ad139, A139_3, c139_3, A139_7, c139_7, e139, hx139_0, hx139_1, hx139_2, hx139_3, hx139_4, hx139_5, hx139_6, hx139_7, hl139_3, hi139_3, hl139_7, hi139_7⟩ := at_T38 HR137_3.out x6_3 p139 q139
                            cases e139
                            replace hx139_0 := (HB.out.cell (World.block_lt_of_cell? w _ hx139_0)).trans hx139_0
                            replace hx139_1 := (HB.out.cell (World.block_lt_of_cell? w _ hx139_1)).trans hx139_1
                            replace hx139_2 := (HB.out.cell (World.block_lt_of_cell? w _ hx139_2)).trans hx139_2
                            replace hx139_3 := (HB.out.cell (World.block_lt_of_cell? w _ hx139_3)).trans hx139_3
                            replace hx139_4 := (HB.out.cell (World.block_lt_of_cell? w _ hx139_4)).trans hx139_4
                            replace hx139_5 := (HB.out.cell (World.block_lt_of_cell? w _ hx139_5)).trans hx139_5
                            replace hx139_6 := (HB.out.cell (World.block_lt_of_cell? w _ hx139_6)).trans hx139_6
                            replace hx139_7 := (HB.out.cell (World.block_lt_of_cell? w _ hx139_7)).trans hx139_7
                            have HR139_3 := Aside0.mk hi139_3
                            have HC139_3 := Aside0.mk hl139_3
                            clear hi139_3 hl139_3
                            have HR139_7 := Aside0.mk hi139_7
                            have HC139_7 := Aside0.mk hl139_7
                            clear hi139_7 hl139_7
                            replace p139 := eq_true p139
                            replace q139 := eq_true q139
                            go_wp2_with (first | (go_at_call 21; (with_reducible refine (spec_SpanOk.calls k3 ((rd_T38 ((rd_T119 l0 x4_1).f3) x6_3).f0.f0) ((rd_T38 ((rd_T119 l0 x4_1).f3) x6_3).f0.f1) ((rd_T38 ((rd_T119 l0 x4_1).f3) x6_3).f0.f2) _ _ ((rd_T38 ((rd_T119 l0 x4_1).f3) x6_3).f0.f3) ((rd_T38 ((rd_T119 l0 x4_1).f3) x6_3).f1.f0) ((rd_T38 ((rd_T119 l0 x4_1).f3) x6_3).f1.f1) ((rd_T38 ((rd_T119 l0 x4_1).f3) x6_3).f1.f2) _ _ ((rd_T38 ((rd_T119 l0 x4_1).f3) x6_3).f1.f3) false _ ?side1 ?side2 ?side3 ?side4 A18.out).mono ?_); (case side1 => repeat (first | exact (Kd.C_below HR139_3.out HB.out) | (with_reducible refine Kd.C_alloc ?_ _) | (with_reducible refine Kd.C_drewN ?_ _) | (with_reducible refine Kd.C_drew ?_))); (case side2 => exact HC139_3.out); (case side3 => repeat (first | exact (Kd.C_below HR139_7.out HB.out) | (with_reducible refine Kd.C_alloc ?_ _) | (with_reducible refine Kd.C_drewN ?_ _) | (with_reducible refine Kd.C_drew ?_))); (case side4 => exact HC139_7.out); rintro e w23 ⟨rfl, hb⟩; have n0_ := Aside0.mk (Kd.R_below (by (with_reducible repeat (first | apply Kd.R_alloc | apply Kd.R_drewN | apply Kd.R_drew)); exact HO_3.out) hb); have n1_ := Aside0.mk (blk_below (g := gb138) (o := .cells #[.int .i64 ((rd_T119 l0 x4_1).f0), .int .i64 ((rd_T119 l0 x4_1).f1), .int .i64 ((rd_T119 l0 x4_1).f2), .slice (some ad139) ((rd_T119 l0 x4_1).f3).length c137_3, .slice A137_4 ((rd_T119 l0 x4_1).f4).length c137_4] 119 (0, 0)) (by (with_reducible repeat (first | refine blk_drewN ?_ _ | refine blk_drew ?_ | refine blk_alloc ?_ _)); exact BK138.out) hb); have n2_ := Aside0.mk (below_step (by repeat (first | (with_reducible first | exact HB.out | apply below_alloc | apply pw_below_drewN | apply below_drew1 | refine below_set ?_ GE138.out) | exact HB.out)) hb); clear HO_3; clear BK138; clear HB; have HO_3 := n0_; have BK138 := n1_; have HB := n2_; clear n0_ n1_ n2_; (try clear hb); (try clear hb2); (try clear hk); (try clear hi)))
                            repeat (go_quiet (first | (go_at_call 21; (with_reducible refine (spec_SpanOk.calls k3 ((rd_T38 ((rd_T119 l0 x4_1).f3) x6_3).f0.f0) ((rd_T38 ((rd_T119 l0 x4_1).f3) x6_3).f0.f1) ((rd_T38 ((rd_T119 l0 x4_1).f3) x6_3).f0.f2) _ _ ((rd_T38 ((rd_T119 l0 x4_1).f3) x6_3).f0.f3) ((rd_T38 ((rd_T119 l0 x4_1).f3) x6_3).f1.f0) ((rd_T38 ((rd_T119 l0 x4_1).f3) x6_3).f1.f1) ((rd_T38 ((rd_T119 l0 x4_1).f3) x6_3).f1.f2) _ _ ((rd_T38 ((rd_T119 l0 x4_1).f3) x6_3).f1.f3) false _ ?side1 ?side2 ?side3 ?side4 A18.out).mono ?_); (case side1 => repeat (first | exact (Kd.C_below HR139_3.out HB.out) | (with_reducible refine Kd.C_alloc ?_ _) | (with_reducible refine Kd.C_drewN ?_ _) | (with_reducible refine Kd.C_drew ?_))); (case side2 => exact HC139_3.out); (case side3 => repeat (first | exact (Kd.C_below HR139_7.out HB.out) | (with_reducible refine Kd.C_alloc ?_ _) | (with_reducible refine Kd.C_drewN ?_ _) | (with_reducible refine Kd.C_drew ?_))); (case side4 => exact HC139_7.out); rintro e w23 ⟨rfl, hb⟩; have n0_ := Aside0.mk (Kd.R_below (by (with_reducible repeat (first | apply Kd.R_alloc | apply Kd.R_drewN | apply Kd.R_drew)); exact HO_3.out) hb); have n1_ := Aside0.mk (blk_below (g := gb138) (o := .cells #[.int .i64 ((rd_T119 l0 x4_1).f0), .int .i64 ((rd_T119 l0 x4_1).f1), .int .i64 ((rd_T119 l0 x4_1).f2), .slice (some ad139) ((rd_T119 l0 x4_1).f3).length c137_3, .slice A137_4 ((rd_T119 l0 x4_1).f4).length c137_4] 119 (0, 0)) (by (with_reducible repeat (first | refine blk_drewN ?_ _ | refine blk_drew ?_ | refine blk_alloc ?_ _)); exact BK138.out) hb); have n2_ := Aside0.mk (below_step (by repeat (first | (with_reducible first | exact HB.out | apply below_alloc | apply pw_below_drewN | apply below_drew1 | refine below_set ?_ GE138.out) | exact HB.out)) hb); clear HO_3; clear BK138; clear HB; have HO_3 := n0_; have BK138 := n1_; have HB := n2_; clear n0_ n1_ n2_; (try clear hb); (try clear hb2); (try clear hk); (try clear hi))); try go_wp2_with (first | (go_at_call 21; (with_reducible refine (spec_SpanOk.calls k3 ((rd_T38 ((rd_T119 l0 x4_1).f3) x6_3).f0.f0) ((rd_T38 ((rd_T119 l0 x4_1).f3) x6_3).f0.f1) ((rd_T38 ((rd_T119 l0 x4_1).f3) x6_3).f0.f2) _ _ ((rd_T38 ((rd_T119 l0 x4_1).f3) x6_3).f0.f3) ((rd_T38 ((rd_T119 l0 x4_1).f3) x6_3).f1.f0) ((rd_T38 ((rd_T119 l0 x4_1).f3) x6_3).f1.f1) ((rd_T38 ((rd_T119 l0 x4_1).f3) x6_3).f1.f2) _ _ ((rd_T38 ((rd_T119 l0 x4_1).f3) x6_3).f1.f3) false _ ?side1 ?side2 ?side3 ?side4 A18.out).mono ?_); (case side1 => repeat (first | exact (Kd.C_below HR139_3.out HB.out) | (with_reducible refine Kd.C_alloc ?_ _) | (with_reducible refine Kd.C_drewN ?_ _) | (with_reducible refine Kd.C_drew ?_))); (case side2 => exact HC139_3.out); (case side3 => repeat (first | exact (Kd.C_below HR139_7.out HB.out) | (with_reducible refine Kd.C_alloc ?_ _) | (with_reducible refine Kd.C_drewN ?_ _) | (with_reducible refine Kd.C_drew ?_))); (case side4 => exact HC139_7.out); rintro e w23 ⟨rfl, hb⟩; have n0_ := Aside0.mk (Kd.R_below (by (with_reducible repeat (first | apply Kd.R_alloc | apply Kd.R_drewN | apply Kd.R_drew)); exact HO_3.out) hb); have n1_ := Aside0.mk (blk_below (g := gb138) (o := .cells #[.int .i64 ((rd_T119 l0 x4_1).f0), .int .i64 ((rd_T119 l0 x4_1).f1), .int .i64 ((rd_T119 l0 x4_1).f2), .slice (some ad139) ((rd_T119 l0 x4_1).f3).length c137_3, .slice A137_4 ((rd_T119 l0 x4_1).f4).length c137_4] 119 (0, 0)) (by (with_reducible repeat (first | refine blk_drewN ?_ _ | refine blk_drew ?_ | refine blk_alloc ?_ _)); exact BK138.out) hb); have n2_ := Aside0.mk (below_step (by repeat (first | (with_reducible first | exact HB.out | apply below_alloc | apply pw_below_drewN | apply below_drew1 | refine below_set ?_ GE138.out) | exact HB.out)) hb); clear HO_3; clear BK138; clear HB; have HO_3 := n0_; have BK138 := n1_; have HB := n2_; clear n0_ n1_ n2_; (try clear hb); (try clear hb2); (try clear hk); (try clear hi))))
                            go_ret
                            exact ⟨by first | rfl | (simp [errW_none, errW_some] <;> rfl) | (simp [*, errW_none, errW_some] <;> rfl), by repeat (first | (with_reducible first | exact HB.out | apply below_alloc | apply pw_below_drewN | apply below_drew1 | refine below_set ?_ GE138.out) | exact HB.out)⟩
                        · rw [if_neg c17] at H
                          exact absurd H (by simp)
                      · rw [if_neg c16] at H
                        have c16b0 : decide (x6_3 < (((rd_T119 l0 x4_1).f3).length : Int)) = false := decide_eq_false c16
                        clear c16
                        have H' := Aside0.mk H
                        clear H
                        have hcz24_0 : wr.cell? ⟨gb138, 0, none⟩ = some (.int .i64 ((rd_T119 l0 x4_1).f0)) := (blk_cell BK138.out 0).trans rfl
                        have hcz24_1 : wr.cell? ⟨gb138, 1, none⟩ = some (.int .i64 ((rd_T119 l0 x4_1).f1)) := (blk_cell BK138.out 1).trans rfl
                        have hcz24_2 : wr.cell? ⟨gb138, 2, none⟩ = some (.int .i64 ((rd_T119 l0 x4_1).f2)) := (blk_cell BK138.out 2).trans rfl
                        have hcz24_3 : wr.cell? ⟨gb138, 3, none⟩ = some (.slice A137_3 ((rd_T119 l0 x4_1).f3).length c137_3) := (blk_cell BK138.out 3).trans rfl
                        have hcz24_4 : wr.cell? ⟨gb138, 4, none⟩ = some (.slice A137_4 ((rd_T119 l0 x4_1).f4).length c137_4) := (blk_cell BK138.out 4).trans rfl
                        have hfz24_0 := blk_frozen BK138.out 0
                        have hfz24_1 := blk_frozen BK138.out 1
                        have hfz24_2 := blk_frozen BK138.out 2
                        have hfz24_3 := blk_frozen BK138.out 3
                        have hfz24_4 := blk_frozen BK138.out 4
                        go_wp2
                        repeat (go_quiet (fail); try go_wp2)
                        go_loopg [7] k3 (fun kq v7 w' => ∃ (x7_4 : Int), v7 = .int .i64 x7_4 ∧ Aside0 (spec_DeedsOk.l2 kq l0 x3_1 x4_1 x7_4 ((rd_T119 l0 x4_1).f0) ((rd_T119 l0 x4_1).f1) ((rd_T119 l0 x4_1).f2) ((rd_T119 l0 x4_1).f3) ((rd_T119 l0 x4_1).f4) = some r) ∧ Aside0 (kq ≤ k3) ∧ Aside0 (Kd.R (Kd.int .i64) 3 w' w.heap.size (fun _ => True) u3 x3_1) ∧ Aside0 (w'.heap[gb138]? = some (.cells #[.int .i64 ((rd_T119 l0 x4_1).f0), .int .i64 ((rd_T119 l0 x4_1).f1), .int .i64 ((rd_T119 l0 x4_1).f2), (.slice A137_3 ((rd_T119 l0 x4_1).f3).length c137_3), (.slice A137_4 ((rd_T119 l0 x4_1).f4).length c137_4)] 119 (0, 0))) ∧ Aside0 (Below w.heap.size w w'))
                        case atStart => exact ⟨(0), (by first | rfl | (simp; done) | (simp [*]; done)), H', ⟨Nat.le_refl _⟩, ⟨by (with_reducible repeat (first | apply Kd.R_alloc | apply Kd.R_drewN | apply Kd.R_drew)); exact HO_3.out⟩, ⟨by (with_reducible repeat (first | refine blk_drewN ?_ _ | refine blk_drew ?_ | refine blk_alloc ?_ _)); exact BK138.out⟩, ⟨by repeat (first | (with_reducible first | exact HB.out | apply below_alloc | apply pw_below_drewN | apply below_drew1 | refine below_set ?_ GE138.out) | exact HB.out)⟩⟩
                        case round =>
                          clear H'
                          try clear c1
                          try clear p1
                          try clear q1
                          try clear hx1
                          try clear c2
                          try clear c2b0
                          try clear c2b1
                          try clear p2
                          try clear c3
                          try clear c3b0
                          try clear c4
                          try clear c4b0
                          try clear p6
                          try clear c8
                          try clear c8b0
                          try clear c10
                          try clear c10b0
                          try clear c12
                          try clear c12b0
                          try clear c12b1
                          try clear c13
                          try clear p13
                          try clear q13
                          try clear hx13
                          try clear c15
                          try clear c16
                          try clear c16b0
                          try clear c17
                          try clear c17b0
                          try clear c19
                          try clear hcz11_0
                          try clear hcz11_1
                          try clear hcz11_2
                          try clear hcz11_3
                          try clear hcz11_4
                          try clear hcz13_0
                          try clear hcz13_1
                          try clear hcz13_2
                          try clear hcz13_3
                          try clear hcz13_4
                          try clear hcz14_0
                          try clear hcz14_1
                          try clear hcz14_2
                          try clear hcz14_3
                          try clear hcz14_4
                          try clear hcz20_0
                          try clear hcz20_1
                          try clear hcz20_2
                          try clear hcz20_3
                          try clear hcz20_4
                          try clear hcz22_0
                          try clear hcz22_1
                          try clear hcz22_2
                          try clear hcz22_3
                          try clear hcz22_4
                          try clear hcz24_0
                          try clear hcz24_1
                          try clear hcz24_2
                          try clear hcz24_3
                          try clear hcz24_4
                          try clear hcz7_0
                          try clear hcz7_1
                          try clear hcz7_2
                          try clear hcz7_3
                          try clear hcz7_4
                          try clear hcz9_0
                          try clear hcz9_1
                          try clear hcz9_2
                          try clear hcz9_3
                          try clear hcz9_4
                          try clear hfz11_0
                          try clear hfz11_1
                          try clear hfz11_2
                          try clear hfz11_3
                          try clear hfz11_4
                          try clear hfz13_0
                          try clear hfz13_1
                          try clear hfz13_2
                          try clear hfz13_3
                          try clear hfz13_4
                          try clear hfz14_0
                          try clear hfz14_1
                          try clear hfz14_2
                          try clear hfz14_3
                          try clear hfz14_4
                          try clear hfz20_0
                          try clear hfz20_1
                          try clear hfz20_2
                          try clear hfz20_3
                          try clear hfz20_4
                          try clear hfz22_0
                          try clear hfz22_1
                          try clear hfz22_2
                          try clear hfz22_3
                          try clear hfz22_4
                          try clear hfz24_0
                          try clear hfz24_1
                          try clear hfz24_2
                          try clear hfz24_3
                          try clear hfz24_4
                          try clear hfz7_0
                          try clear hfz7_1
                          try clear hfz7_2
                          try clear hfz7_3
                          try clear hfz7_4
                          try clear hfz9_0
                          try clear hfz9_1
                          try clear hfz9_2
                          try clear hfz9_3
                          try clear hfz9_4
                          try clear hx137_0
                          try clear hx137_1
                          try clear hx137_2
                          try clear hx137_3
                          try clear hx137_4
                          try clear hx139_0
                          try clear hx139_1
                          try clear hx139_2
                          try clear hx139_3
                          try clear hx139_4
                          try clear hx139_5
                          try clear hx139_6
                          try clear hx139_7
                          try clear p1
                          try clear p13
                          try clear p137
                          try clear p139
                          try clear p2
                          try clear q1
                          try clear q13
                          try clear q137
                          try clear q139
                          obtain ⟨x7_4, rfl, HA, HK4, HO_3, BK138, HB⟩ := hrel
                          cases gk with
                          | zero => exact absurd HA.out (by simp [spec_DeedsOk.l2])
                          | succ k4 =>
                            have H := HA.out
                            clear HA
                            simp only [spec_DeedsOk.l2] at H
                            by_cases c25 : x7_4 < (((rd_T119 l0 x4_1).f4).length : Int)
                            · rw [if_pos c25] at H
                              have c25b0 : decide (x7_4 < (((rd_T119 l0 x4_1).f4).length : Int)) = true := decide_eq_true c25
                              clear c25
                              by_cases c26 : 0 ≤ x7_4
                              · rw [if_pos c26] at H
                                have c26b0 : decide (0 ≤ x7_4) = true := decide_eq_true c26
                                clear c26
                                replace H := Option.bind_eq_some_iff.mp H
                                obtain ⟨t142, A270, H⟩ := H
                                replace H : (if t142 = true then (spec_DeedsOk.l2 k4 l0 x3_1 x4_1 (wrap64 (x7_4 + 1)) ((rd_T119 l0 x4_1).f0) ((rd_T119 l0 x4_1).f1) ((rd_T119 l0 x4_1).f2) ((rd_T119 l0 x4_1).f3) ((rd_T119 l0 x4_1).f4)) else (some false)) = some r := H
                                have A27 := Aside0.mk A270
                                clear A270
                                by_cases c28 : t142 = true
                                · subst c28
                                  have H1 : (spec_DeedsOk.l2 k4 l0 x3_1 x4_1 (wrap64 (x7_4 + 1)) ((rd_T119 l0 x4_1).f0) ((rd_T119 l0 x4_1).f1) ((rd_T119 l0 x4_1).f2) ((rd_T119 l0 x4_1).f3) ((rd_T119 l0 x4_1).f4)) = some r := by rw [if_pos rfl] at H; exact H
                                  clear H
                                  have H := H1
                                  clear H1
                                  have H' := Aside0.mk H
                                  clear H
                                  have hcz29_0 : wr.cell? ⟨gb138, 0, none⟩ = some (.int .i64 ((rd_T119 l0 x4_1).f0)) := (blk_cell BK138.out 0).trans rfl
                                  have hcz29_1 : wr.cell? ⟨gb138, 1, none⟩ = some (.int .i64 ((rd_T119 l0 x4_1).f1)) := (blk_cell BK138.out 1).trans rfl
                                  have hcz29_2 : wr.cell? ⟨gb138, 2, none⟩ = some (.int .i64 ((rd_T119 l0 x4_1).f2)) := (blk_cell BK138.out 2).trans rfl
                                  have hcz29_3 : wr.cell? ⟨gb138, 3, none⟩ = some (.slice A137_3 ((rd_T119 l0 x4_1).f3).length c137_3) := (blk_cell BK138.out 3).trans rfl
                                  have hcz29_4 : wr.cell? ⟨gb138, 4, none⟩ = some (.slice A137_4 ((rd_T119 l0 x4_1).f4).length c137_4) := (blk_cell BK138.out 4).trans rfl
                                  have hfz29_0 := blk_frozen BK138.out 0
                                  have hfz29_1 := blk_frozen BK138.out 1
                                  have hfz29_2 := blk_frozen BK138.out 2
                                  have hfz29_3 := blk_frozen BK138.out 3
                                  have hfz29_4 := blk_frozen BK138.out 4
                                  have p141 : 0 ≤ (x7_4 : Int) := of_decide_eq_true (by first | (with_reducible assumption) | assumption)
                                  have q141 : x7_4 < (((rd_T119 l0 x4_1).f4).length : Int) := of_decide_eq_true (by first | (with_reducible assumption) | assumption)
                                  obtain ⟨ad141, A141_3, c141_3, e141, hx141_0, hx141_1, hx141_2, hx141_3, hl141_3, hi141_3⟩ := at_T27 HR137_4.out x7_4 p141 q141
                                  cases e141
                                  replace hx141_0 := (HB.out.cell (World.block_lt_of_cell? w _ hx141_0)).trans hx141_0
                                  replace hx141_1 := (HB.out.cell (World.block_lt_of_cell? w _ hx141_1)).trans hx141_1
                                  replace hx141_2 := (HB.out.cell (World.block_lt_of_cell? w _ hx141_2)).trans hx141_2
                                  replace hx141_3 := (HB.out.cell (World.block_lt_of_cell? w _ hx141_3)).trans hx141_3
                                  have HR141_3 := Aside0.mk hi141_3
                                  have HC141_3 := Aside0.mk hl141_3
                                  clear hi141_3 hl141_3
                                  replace p141 := eq_true p141
                                  replace q141 := eq_true q141
                                  go_wp2_with (first | (go_at_call 70; (with_reducible refine (spec_KeyOk.calls k4 ((rd_T27 ((rd_T119 l0 x4_1).f4) x7_4).f0) ((rd_T27 ((rd_T119 l0 x4_1).f4) x7_4).f1) ((rd_T27 ((rd_T119 l0 x4_1).f4) x7_4).f2) _ _ ((rd_T27 ((rd_T119 l0 x4_1).f4) x7_4).f3) true _ ?side1 ?side2 A27.out).mono ?_); (case side1 => repeat (first | exact (Kd.C_below HR141_3.out HB.out) | (with_reducible refine Kd.C_alloc ?_ _) | (with_reducible refine Kd.C_drewN ?_ _) | (with_reducible refine Kd.C_drew ?_))); (case side2 => exact HC141_3.out); rintro e w30 ⟨rfl, hb⟩; have n0_ := Aside0.mk (Kd.R_below (by (with_reducible repeat (first | apply Kd.R_alloc | apply Kd.R_drewN | apply Kd.R_drew)); exact HO_3.out) hb); have n1_ := Aside0.mk (blk_below (g := gb138) (o := .cells #[.int .i64 ((rd_T119 l0 x4_1).f0), .int .i64 ((rd_T119 l0 x4_1).f1), .int .i64 ((rd_T119 l0 x4_1).f2), .slice A137_3 ((rd_T119 l0 x4_1).f3).length c137_3, .slice (some ad141) ((rd_T119 l0 x4_1).f4).length c137_4] 119 (0, 0)) (by (with_reducible repeat (first | refine blk_drewN ?_ _ | refine blk_drew ?_ | refine blk_alloc ?_ _)); exact BK138.out) hb); have n2_ := Aside0.mk (below_step (by repeat (first | (with_reducible first | exact HB.out | apply below_alloc | apply pw_below_drewN | apply below_drew1 | refine below_set ?_ GE138.out) | exact HB.out)) hb); clear HO_3; clear BK138; clear HB; have HO_3 := n0_; have BK138 := n1_; have HB := n2_; clear n0_ n1_ n2_; (try clear hb); (try clear hb2); (try clear hk); (try clear hi)))
                                  repeat (go_quiet (first | (go_at_call 70; (with_reducible refine (spec_KeyOk.calls k4 ((rd_T27 ((rd_T119 l0 x4_1).f4) x7_4).f0) ((rd_T27 ((rd_T119 l0 x4_1).f4) x7_4).f1) ((rd_T27 ((rd_T119 l0 x4_1).f4) x7_4).f2) _ _ ((rd_T27 ((rd_T119 l0 x4_1).f4) x7_4).f3) true _ ?side1 ?side2 A27.out).mono ?_); (case side1 => repeat (first | exact (Kd.C_below HR141_3.out HB.out) | (with_reducible refine Kd.C_alloc ?_ _) | (with_reducible refine Kd.C_drewN ?_ _) | (with_reducible refine Kd.C_drew ?_))); (case side2 => exact HC141_3.out); rintro e w30 ⟨rfl, hb⟩; have n0_ := Aside0.mk (Kd.R_below (by (with_reducible repeat (first | apply Kd.R_alloc | apply Kd.R_drewN | apply Kd.R_drew)); exact HO_3.out) hb); have n1_ := Aside0.mk (blk_below (g := gb138) (o := .cells #[.int .i64 ((rd_T119 l0 x4_1).f0), .int .i64 ((rd_T119 l0 x4_1).f1), .int .i64 ((rd_T119 l0 x4_1).f2), .slice A137_3 ((rd_T119 l0 x4_1).f3).length c137_3, .slice (some ad141) ((rd_T119 l0 x4_1).f4).length c137_4] 119 (0, 0)) (by (with_reducible repeat (first | refine blk_drewN ?_ _ | refine blk_drew ?_ | refine blk_alloc ?_ _)); exact BK138.out) hb); have n2_ := Aside0.mk (below_step (by repeat (first | (with_reducible first | exact HB.out | apply below_alloc | apply pw_below_drewN | apply below_drew1 | refine below_set ?_ GE138.out) | exact HB.out)) hb); clear HO_3; clear BK138; clear HB; have HO_3 := n0_; have BK138 := n1_; have HB := n2_; clear n0_ n1_ n2_; (try clear hb); (try clear hb2); (try clear hk); (try clear hi))); try go_wp2_with (first | (go_at_call 70; (with_reducible refine (spec_KeyOk.calls k4 ((rd_T27 ((rd_T119 l0 x4_1).f4) x7_4).f0) ((rd_T27 ((rd_T119 l0 x4_1).f4) x7_4).f1) ((rd_T27 ((rd_T119 l0 x4_1).f4) x7_4).f2) _ _ ((rd_T27 ((rd_T119 l0 x4_1).f4) x7_4).f3) true _ ?side1 ?side2 A27.out).mono ?_); (case side1 => repeat (first | exact (Kd.C_below HR141_3.out HB.out) | (with_reducible refine Kd.C_alloc ?_ _) | (with_reducible refine Kd.C_drewN ?_ _) | (with_reducible refine Kd.C_drew ?_))); (case side2 => exact HC141_3.out); rintro e w30 ⟨rfl, hb⟩; have n0_ := Aside0.mk (Kd.R_below (by (with_reducible repeat (first | apply Kd.R_alloc | apply Kd.R_drewN | apply Kd.R_drew)); exact HO_3.out) hb); have n1_ := Aside0.mk (blk_below (g := gb138) (o := .cells #[.int .i64 ((rd_T119 l0 x4_1).f0), .int .i64 ((rd_T119 l0 x4_1).f1), .int .i64 ((rd_T119 l0 x4_1).f2), .slice A137_3 ((rd_T119 l0 x4_1).f3).length c137_3, .slice (some ad141) ((rd_T119 l0 x4_1).f4).length c137_4] 119 (0, 0)) (by (with_reducible repeat (first | refine blk_drewN ?_ _ | refine blk_drew ?_ | refine blk_alloc ?_ _)); exact BK138.out) hb); have n2_ := Aside0.mk (below_step (by repeat (first | (with_reducible first | exact HB.out | apply below_alloc | apply pw_below_drewN | apply below_drew1 | refine below_set ?_ GE138.out) | exact HB.out)) hb); clear HO_3; clear BK138; clear HB; have HO_3 := n0_; have BK138 := n1_; have HB := n2_; clear n0_ n1_ n2_; (try clear hb); (try clear hb2); (try clear hk); (try clear hi))))
                                  go_roundg k4
                                  case measure => have := HK1.out; have := HJ4.out; have := HK3.out; have := HK4.out; omega
                                  case rel => exact ⟨(wrap64 (x7_4 + 1)), (by first | rfl | (simp; done) | (simp [*]; done)), H', ⟨by have := HK1.out; have := HJ4.out; have := HK3.out; have := HK4.out; omega⟩, ⟨by (with_reducible repeat (first | apply Kd.R_alloc | apply Kd.R_drewN | apply Kd.R_drew)); exact HO_3.out⟩, ⟨by (with_reducible repeat (first | refine blk_drewN ?_ _ | refine blk_drew ?_ | refine blk_alloc ?_ _)); exact BK138.out⟩, ⟨by repeat (first | (with_reducible first | exact HB.out | apply below_alloc | apply pw_below_drewN | apply below_drew1 | refine below_set ?_ GE138.out) | exact HB.out)⟩⟩
                                · replace c28 := Bool.eq_false_iff.mpr c28
                                  subst c28
                                  have H1 : (some false) = some r := by rw [if_neg (show ¬ (false = true) by decide)] at H; exact H
                                  clear H
                                  have H := H1
                                  clear H1
                                  obtain rfl := Option.some.inj H
                                  have hcz31_0 : wr.cell? ⟨gb138, 0, none⟩ = some (.int .i64 ((rd_T119 l0 x4_1).f0)) := (blk_cell BK138.out 0).trans rfl
                                  have hcz31_1 : wr.cell? ⟨gb138, 1, none⟩ = some (.int .i64 ((rd_T119 l0 x4_1).f1)) := (blk_cell BK138.out 1).trans rfl
                                  have hcz31_2 : wr.cell? ⟨gb138, 2, none⟩ = some (.int .i64 ((rd_T119 l0 x4_1).f2)) := (blk_cell BK138.out 2).trans rfl
                                  have hcz31_3 : wr.cell? ⟨gb138, 3, none⟩ = some (.slice A137_3 ((rd_T119 l0 x4_1).f3).length c137_3) := (blk_cell BK138.out 3).trans rfl
                                  have hcz31_4 : wr.cell? ⟨gb138, 4, none⟩ = some (.slice A137_4 ((rd_T119 l0 x4_1).f4).length c137_4) := (blk_cell BK138.out 4).trans rfl
                                  have hfz31_0 := blk_frozen BK138.out 0
                                  have hfz31_1 := blk_frozen BK138.out 1
                                  have hfz31_2 := blk_frozen BK138.out 2
                                  have hfz31_3 := blk_frozen BK138.out 3
                                  have hfz31_4 := blk_frozen BK138.out 4
                                  have p141 : 0 ≤ (x7_4 : Int) := of_decide_eq_true (by first | (with_reducible assumption) | assumption)
                                  have q141 : x7_4 < (((rd_T119 l0 x4_1).f4).length : Int) := of_decide_eq_true (by first | (with_reducible assumption) | assumption)
                                  obtain ⟨ad141, A141_3, c141_3, e141, hx141_0, hx141_1, hx141_2, hx141_3, hl141_3, hi141_3⟩ := at_T27 HR137_4.out x7_4 p141 q141
                                  cases e141
                                  replace hx141_0 := (HB.out.cell (World.block_lt_of_cell? w _ hx141_0)).trans hx141_0
                                  replace hx141_1 := (HB.out.cell (World.block_lt_of_cell? w _ hx141_1)).trans hx141_1
                                  replace hx141_2 := (HB.out.cell (World.block_lt_of_cell? w _ hx141_2)).trans hx141_2
                                  replace hx141_3 := (HB.out.cell (World.block_lt_of_cell? w _ hx141_3)).trans hx141_3
                                  have HR141_3 := Aside0.mk hi141_3
                                  have HC141_3 := Aside0.mk hl141_3
                                  clear hi141_3 hl141_3
                                  replace p141 := eq_true p141
                                  replace q141 := eq_true q141
                                  go_wp2_with (first | (go_at_call 70; (with_reducible refine (spec_KeyOk.calls k4 ((rd_T27 ((rd_T119 l0 x4_1).f4) x7_4).f0) ((rd_T27 ((rd_T119 l0 x4_1).f4) x7_4).f1) ((rd_T27 ((rd_T119 l0 x4_1).f4) x7_4).f2) _ _ ((rd_T27 ((rd_T119 l0 x4_1).f4) x7_4).f3) false _ ?side1 ?side2 A27.out).mono ?_); (case side1 => repeat (first | exact (Kd.C_below HR141_3.out HB.out) | (with_reducible refine Kd.C_alloc ?_ _) | (with_reducible refine Kd.C_drewN ?_ _) | (with_reducible refine Kd.C_drew ?_))); (case side2 => exact HC141_3.out); rintro e w32 ⟨rfl, hb⟩; have n0_ := Aside0.mk (Kd.R_below (by (with_reducible repeat (first | apply Kd.R_alloc | apply Kd.R_drewN | apply Kd.R_drew)); exact HO_3.out) hb); have n1_ := Aside0.mk (blk_below (g := gb138) (o := .cells #[.int .i64 ((rd_T119 l0 x4_1).f0), .int .i64 ((rd_T119 l0 x4_1).f1), .int .i64 ((rd_T119 l0 x4_1).f2), .slice A137_3 ((rd_T119 l0 x4_1).f3).length c137_3, .slice (some ad141) ((rd_T119 l0 x4_1).f4).length c137_4] 119 (0, 0)) (by (with_reducible repeat (first | refine blk_drewN ?_ _ | refine blk_drew ?_ | refine blk_alloc ?_ _)); exact BK138.out) hb); have n2_ := Aside0.mk (below_step (by repeat (first | (with_reducible first | exact HB.out | apply below_alloc | apply pw_below_drewN | apply below_drew1 | refine below_set ?_ GE138.out) | exact HB.out)) hb); clear HO_3; clear BK138; clear HB; have HO_3 := n0_; have BK138 := n1_; have HB := n2_; clear n0_ n1_ n2_; (try clear hb); (try clear hb2); (try clear hk); (try clear hi)))
                                  repeat (go_quiet (first | (go_at_call 70; (with_reducible refine (spec_KeyOk.calls k4 ((rd_T27 ((rd_T119 l0 x4_1).f4) x7_4).f0) ((rd_T27 ((rd_T119 l0 x4_1).f4) x7_4).f1) ((rd_T27 ((rd_T119 l0 x4_1).f4) x7_4).f2) _ _ ((rd_T27 ((rd_T119 l0 x4_1).f4) x7_4).f3) false _ ?side1 ?side2 A27.out).mono ?_); (case side1 => repeat (first | exact (Kd.C_below HR141_3.out HB.out) | (with_reducible refine Kd.C_alloc ?_ _) | (with_reducible refine Kd.C_drewN ?_ _) | (with_reducible refine Kd.C_drew ?_))); (case side2 => exact HC141_3.out); rintro e w32 ⟨rfl, hb⟩; have n0_ := Aside0.mk (Kd.R_below (by (with_reducible repeat (first | apply Kd.R_alloc | apply Kd.R_drewN | apply Kd.R_drew)); exact HO_3.out) hb); have n1_ := Aside0.mk (blk_below (g := gb138) (o := .cells #[.int .i64 ((rd_T119 l0 x4_1).f0), .int .i64 ((rd_T119 l0 x4_1).f1), .int .i64 ((rd_T119 l0 x4_1).f2), .slice A137_3 ((rd_T119 l0 x4_1).f3).length c137_3, .slice (some ad141) ((rd_T119 l0 x4_1).f4).length c137_4] 119 (0, 0)) (by (with_reducible repeat (first | refine blk_drewN ?_ _ | refine blk_drew ?_ | refine blk_alloc ?_ _)); exact BK138.out) hb); have n2_ := Aside0.mk (below_step (by repeat (first | (with_reducible first | exact HB.out | apply below_alloc | apply pw_below_drewN | apply below_drew1 | refine below_set ?_ GE138.out) | exact HB.out)) hb); clear HO_3; clear BK138; clear HB; have HO_3 := n0_; have BK138 := n1_; have HB := n2_; clear n0_ n1_ n2_; (try clear hb); (try clear hb2); (try clear hk); (try clear hi))); try go_wp2_with (first | (go_at_call 70; (with_reducible refine (spec_KeyOk.calls k4 ((rd_T27 ((rd_T119 l0 x4_1).f4) x7_4).f0) ((rd_T27 ((rd_T119 l0 x4_1).f4) x7_4).f1) ((rd_T27 ((rd_T119 l0 x4_1).f4) x7_4).f2) _ _ ((rd_T27 ((rd_T119 l0 x4_1).f4) x7_4).f3) false _ ?side1 ?side2 A27.out).mono ?_); (case side1 => repeat (first | exact (Kd.C_below HR141_3.out HB.out) | (with_reducible refine Kd.C_alloc ?_ _) | (with_reducible refine Kd.C_drewN ?_ _) | (with_reducible refine Kd.C_drew ?_))); (case side2 => exact HC141_3.out); rintro e w32 ⟨rfl, hb⟩; have n0_ := Aside0.mk (Kd.R_below (by (with_reducible repeat (first | apply Kd.R_alloc | apply Kd.R_drewN | apply Kd.R_drew)); exact HO_3.out) hb); have n1_ := Aside0.mk (blk_below (g := gb138) (o := .cells #[.int .i64 ((rd_T119 l0 x4_1).f0), .int .i64 ((rd_T119 l0 x4_1).f1), .int .i64 ((rd_T119 l0 x4_1).f2), .slice A137_3 ((rd_T119 l0 x4_1).f3).length c137_3, .slice (some ad141) ((rd_T119 l0 x4_1).f4).length c137_4] 119 (0, 0)) (by (with_reducible repeat (first | refine blk_drewN ?_ _ | refine blk_drew ?_ | refine blk_alloc ?_ _)); exact BK138.out) hb); have n2_ := Aside0.mk (below_step (by repeat (first | (with_reducible first | exact HB.out | apply below_alloc | apply pw_below_drewN | apply below_drew1 | refine below_set ?_ GE138.out) | exact HB.out)) hb); clear HO_3; clear BK138; clear HB; have HO_3 := n0_; have BK138 := n1_; have HB := n2_; clear n0_ n1_ n2_; (try clear hb); (try clear hb2); (try clear hk); (try clear hi))))
                                  go_ret
                                  exact ⟨by first | rfl | (simp [errW_none, errW_some] <;> rfl) | (simp [*, errW_none, errW_some] <;> rfl), by repeat (first | (with_reducible first | exact HB.out | apply below_alloc | apply pw_below_drewN | apply below_drew1 | refine below_set ?_ GE138.out) | exact HB.out)⟩
                              · rw [if_neg c26] at H
                                exact absurd H (by simp)
                            · rw [if_neg c25] at H
                              have c25b0 : decide (x7_4 < (((rd_T119 l0 x4_1).f4).length : Int)) = false := decide_eq_false c25
                              clear c25
                              have H' := Aside0.mk H
                              clear H
                              have hcz33_0 : wr.cell? ⟨gb138, 0, none⟩ = some (.int .i64 ((rd_T119 l0 x4_1).f0)) := (blk_cell BK138.out 0).trans rfl
                              have hcz33_1 : wr.cell? ⟨gb138, 1, none⟩ = some (.int .i64 ((rd_T119 l0 x4_1).f1)) := (blk_cell BK138.out 1).trans rfl
                              have hcz33_2 : wr.cell? ⟨gb138, 2, none⟩ = some (.int .i64 ((rd_T119 l0 x4_1).f2)) := (blk_cell BK138.out 2).trans rfl
                              have hcz33_3 : wr.cell? ⟨gb138, 3, none⟩ = some (.slice A137_3 ((rd_T119 l0 x4_1).f3).length c137_3) := (blk_cell BK138.out 3).trans rfl
                              have hcz33_4 : wr.cell? ⟨gb138, 4, none⟩ = some (.slice A137_4 ((rd_T119 l0 x4_1).f4).length c137_4) := (blk_cell BK138.out 4).trans rfl
                              have hfz33_0 := blk_frozen BK138.out 0
                              have hfz33_1 := blk_frozen BK138.out 1
                              have hfz33_2 := blk_frozen BK138.out 2
                              have hfz33_3 := blk_frozen BK138.out 3
                              have hfz33_4 := blk_frozen BK138.out 4
                              go_wp2
                              repeat (go_quiet (fail); try go_wp2)
                              go_loopg [8] k4 (fun kq v8 w' => ∃ (x8_5 : Int), v8 = .int .i64 x8_5 ∧ Aside0 (spec_DeedsOk.l3 kq l0 x3_1 x4_1 x8_5 ((rd_T119 l0 x4_1).f0) ((rd_T119 l0 x4_1).f1) ((rd_T119 l0 x4_1).f2) ((rd_T119 l0 x4_1).f3) ((rd_T119 l0 x4_1).f4) = some r) ∧ Aside0 (kq ≤ k4) ∧ Aside0 (Kd.R (Kd.int .i64) 3 w' w.heap.size (fun _ => True) u3 x3_1) ∧ Aside0 (w'.heap[gb138]? = some (.cells #[.int .i64 ((rd_T119 l0 x4_1).f0), .int .i64 ((rd_T119 l0 x4_1).f1), .int .i64 ((rd_T119 l0 x4_1).f2), (.slice A137_3 ((rd_T119 l0 x4_1).f3).length c137_3), (.slice A137_4 ((rd_T119 l0 x4_1).f4).length c137_4)] 119 (0, 0))) ∧ Aside0 (Below w.heap.size w w'))
                              case atStart => exact ⟨(0), (by first | rfl | (simp; done) | (simp [*]; done)), H', ⟨Nat.le_refl _⟩, ⟨by (with_reducible repeat (first | apply Kd.R_alloc | apply Kd.R_drewN | apply Kd.R_drew)); exact HO_3.out⟩, ⟨by (with_reducible repeat (first | refine blk_drewN ?_ _ | refine blk_drew ?_ | refine blk_alloc ?_ _)); exact BK138.out⟩, ⟨by repeat (first | (with_reducible first | exact HB.out | apply below_alloc | apply pw_below_drewN | apply below_drew1 | refine below_set ?_ GE138.out) | exact HB.out)⟩⟩
                              case round =>
                                clear H'
                                try clear c1
                                try clear p1
                                try clear q1
                                try clear hx1
                                try clear c2
                                try clear c2b0
                                try clear c2b1
                                try clear p2
                                try clear c3
                                try clear c3b0
                                try clear c4
                                try clear c4b0
                                try clear p6
                                try clear c8
                                try clear c8b0
                                try clear c10
                                try clear c10b0
                                try clear c12
                                try clear c12b0
                                try clear c12b1
                                try clear c13
                                try clear p13
                                try clear q13
                                try clear hx13
                                try clear c14
                                try clear p14
                                try clear q14
                                try clear hx14
                                try clear c15
                                try clear c16
                                try clear c16b0
                                try clear c17
                                try clear c17b0
                                try clear c19
                                try clear c25
                                try clear c25b0
                                try clear c26
                                try clear c26b0
                                try clear c28
                                try clear hcz11_0
                                try clear hcz11_1
                                try clear hcz11_2
                                try clear hcz11_3
                                try clear hcz11_4
                                try clear hcz13_0
                                try clear hcz13_1
                                try clear hcz13_2
                                try clear hcz13_3
                                try clear hcz13_4
                                try clear hcz14_0
                                try clear hcz14_1
                                try clear hcz14_2
                                try clear hcz14_3
                                try clear hcz14_4
                                try clear hcz20_0
                                try clear hcz20_1
                                try clear hcz20_2
                                try clear hcz20_3
                                try clear hcz20_4
                                try clear hcz22_0
                                try clear hcz22_1
                                try clear hcz22_2
                                try clear hcz22_3
                                try clear hcz22_4
                                try clear hcz24_0
                                try clear hcz24_1
                                try clear hcz24_2
                                try clear hcz24_3
                                try clear hcz24_4
                                try clear hcz29_0
                                try clear hcz29_1
                                try clear hcz29_2
                                try clear hcz29_3
                                try clear hcz29_4
                                try clear hcz31_0
                                try clear hcz31_1
                                try clear hcz31_2
                                try clear hcz31_3
                                try clear hcz31_4
                                try clear hcz33_0
                                try clear hcz33_1
                                try clear hcz33_2
                                try clear hcz33_3
                                try clear hcz33_4
                                try clear hcz7_0
                                try clear hcz7_1
                                try clear hcz7_2
                                try clear hcz7_3
                                try clear hcz7_4
                                try clear hcz9_0
                                try clear hcz9_1
                                try clear hcz9_2
                                try clear hcz9_3
                                try clear hcz9_4
                                try clear hfz11_0
                                try clear hfz11_1
                                try clear hfz11_2
                                try clear hfz11_3
                                try clear hfz11_4
                                try clear hfz13_0
                                try clear hfz13_1
                                try clear hfz13_2
                                try clear hfz13_3
                                try clear hfz13_4
                                try clear hfz14_0
                                try clear hfz14_1
                                try clear hfz14_2
                                try clear hfz14_3
                                try clear hfz14_4
                                try clear hfz20_0
                                try clear hfz20_1
                                try clear hfz20_2
                                try clear hfz20_3
                                try clear hfz20_4
                                try clear hfz22_0
                                try clear hfz22_1
                                try clear hfz22_2
                                try clear hfz22_3
                                try clear hfz22_4
                                try clear hfz24_0
                                try clear hfz24_1
                                try clear hfz24_2
                                try clear hfz24_3
                                try clear hfz24_4
                                try clear hfz29_0
                                try clear hfz29_1
                                try clear hfz29_2
                                try clear hfz29_3
                                try clear hfz29_4
                                try clear hfz31_0
                                try clear hfz31_1
                                try clear hfz31_2
                                try clear hfz31_3
                                try clear hfz31_4
                                try clear hfz33_0
                                try clear hfz33_1
                                try clear hfz33_2
                                try clear hfz33_3
                                try clear hfz33_4
                                try clear hfz7_0
                                try clear hfz7_1
                                try clear hfz7_2
                                try clear hfz7_3
                                try clear hfz7_4
                                try clear hfz9_0
                                try clear hfz9_1
                                try clear hfz9_2
                                try clear hfz9_3
                                try clear hfz9_4
                                try clear hx137_0
                                try clear hx137_1
                                try clear hx137_2
                                try clear hx137_3
                                try clear hx137_4
                                try clear hx139_0
                                try clear hx139_1
                                try clear hx139_2
                                try clear hx139_3
                                try clear hx139_4
                                try clear hx139_5
                                try clear hx139_6
                                try clear hx139_7
                                try clear hx141_0
                                try clear hx141_1
                                try clear hx141_2
                                try clear hx141_3
                                try clear p1
                                try clear p13
                                try clear p137
                                try clear p139
                                try clear p141
                                try clear p2
                                try clear p6
                                try clear q1
                                try clear q13
                                try clear q137
                                try clear q139
                                try clear q141
                                obtain ⟨x8_5, rfl, HA, HK5, HO_3, BK138, HB⟩ := hrel
                                cases gk with
                                | zero => exact absurd HA.out (by simp [spec_DeedsOk.l3])
                                | succ k5 =>
                                  have H := HA.out
                                  clear HA
                                  simp only [spec_DeedsOk.l3] at H
                                  by_cases c34 : x8_5 < (x3_1.length : Int)
                                  · rw [if_pos c34] at H
                                    have c34b0 : decide (x8_5 < (x3_1.length : Int)) = true := decide_eq_true c34
                                    clear c34
                                    by_cases c35 : 0 ≤ x8_5
                                    · rw [if_pos c35] at H
                                      have c35b0 : decide (0 ≤ x8_5) = true := decide_eq_true c35
                                      clear c35
                                      by_cases c36 : (rd x3_1 x8_5) = ((rd_T119 l0 x4_1).f1)
                                      · rw [if_pos c36] at H
                                        have c36b0 : ((rd x3_1 x8_5) == ((rd_T119 l0 x4_1).f1)) = true := beq_iff_eq.mpr c36
                                        have c36b1 : ((rd x3_1 x8_5) != ((rd_T119 l0 x4_1).f1)) = false := bne_eq_false_iff_eq.mpr c36
                                        clear c36
                                        obtain rfl := Option.some.inj H
                                        obtain ⟨Ao37, co37, eo37⟩ := Kd.R_slice HO_3.out
                                        subst eo37
                                        have p143 : 0 ≤ (x8_5 : Int) := of_decide_eq_true (by first | (with_reducible assumption) | assumption)
                                        have q143 : x8_5 < (x3_1.length : Int) := of_decide_eq_true (by first | (with_reducible assumption) | assumption)
                                        obtain ⟨ad143, e143, hx143_0⟩ := Kd.at_int (Kd.R_reads' HO_3.out).2.2 x8_5 p143 q143
                                        cases e143
                                        replace p143 := eq_true p143
                                        replace q143 := eq_true q143
                                        have hcz38_0 : wr.cell? ⟨gb138, 0, none⟩ = some (.int .i64 ((rd_T119 l0 x4_1).f0)) := (blk_cell BK138.out 0).trans rfl
                                        have hcz38_1 : wr.cell? ⟨gb138, 1, none⟩ = some (.int .i64 ((rd_T119 l0 x4_1).f1)) := (blk_cell BK138.out 1).trans rfl
                                        have hcz38_2 : wr.cell? ⟨gb138, 2, none⟩ = some (.int .i64 ((rd_T119 l0 x4_1).f2)) := (blk_cell BK138.out 2).trans rfl
                                        have hcz38_3 : wr.cell? ⟨gb138, 3, none⟩ = some (.slice A137_3 ((rd_T119 l0 x4_1).f3).length c137_3) := (blk_cell BK138.out 3).trans rfl
                                        have hcz38_4 : wr.cell? ⟨gb138, 4, none⟩ = some (.slice A137_4 ((rd_T119 l0 x4_1).f4).length c137_4) := (blk_cell BK138.out 4).trans rfl
                                        have hfz38_0 := blk_frozen BK138.out 0
                                        have hfz38_1 := blk_frozen BK138.out 1
                                        have hfz38_2 := blk_frozen BK138.out 2
                                        have hfz38_3 := blk_frozen BK138.out 3
                                        have hfz38_4 := blk_frozen BK138.out 4
                                        go_wp2
                                        repeat (go_quiet (fail); try go_wp2)
                                        go_ret
                                        exact ⟨by first | rfl | (simp [errW_none, errW_some] <;> rfl) | (simp [*, errW_none, errW_some] <;> rfl), by repeat (first | (with_reducible first | exact HB.out | apply below_alloc | apply pw_below_drewN | apply below_drew1 | refine below_set ?_ GE138.out) | exact HB.out)⟩
                                      · rw [if_neg c36] at H
                                        have c36b0 : ((rd x3_1 x8_5) == ((rd_T119 l0 x4_1).f1)) = false := beq_eq_false_iff_ne.mpr c36
                                        have c36b1 : ((rd x3_1 x8_5) != ((rd_T119 l0 x4_1).f1)) = true := bne_iff_ne.mpr c36
                                        by_cases c39 : (rd x3_1 x8_5) = ((rd_T119 l0 x4_1).f2)
                                        · rw [if_pos c39] at H
                                          have c39b0 : ((rd x3_1 x8_5) == ((rd_T119 l0 x4_1).f2)) = true := beq_iff_eq.mpr c39
                                          have c39b1 : ((rd x3_1 x8_5) != ((rd_T119 l0 x4_1).f2)) = false := bne_eq_false_iff_eq.mpr c39
                                          clear c39
                                          obtain rfl := Option.some.inj H
                                          obtain ⟨Ao40, co40, eo40⟩ := Kd.R_slice HO_3.out
                                          subst eo40
                                          have p143 : 0 ≤ (x8_5 : Int) := of_decide_eq_true (by first | (with_reducible assumption) | assumption)
                                          have q143 : x8_5 < (x3_1.length : Int) := of_decide_eq_true (by first | (with_reducible assumption) | assumption)
                                          obtain ⟨ad143, e143, hx143_0⟩ := Kd.at_int (Kd.R_reads' HO_3.out).2.2 x8_5 p143 q143
                                          cases e143
                                          replace p143 := eq_true p143
                                          replace q143 := eq_true q143
                                          have hcz41_0 : wr.cell? ⟨gb138, 0, none⟩ = some (.int .i64 ((rd_T119 l0 x4_1).f0)) := (blk_cell BK138.out 0).trans rfl
                                          have hcz41_1 : wr.cell? ⟨gb138, 1, none⟩ = some (.int .i64 ((rd_T119 l0 x4_1).f1)) := (blk_cell BK138.out 1).trans rfl
                                          have hcz41_2 : wr.cell? ⟨gb138, 2, none⟩ = some (.int .i64 ((rd_T119 l0 x4_1).f2)) := (blk_cell BK138.out 2).trans rfl
                                          have hcz41_3 : wr.cell? ⟨gb138, 3, none⟩ = some (.slice A137_3 ((rd_T119 l0 x4_1).f3).length c137_3) := (blk_cell BK138.out 3).trans rfl
                                          have hcz41_4 : wr.cell? ⟨gb138, 4, none⟩ = some (.slice A137_4 ((rd_T119 l0 x4_1).f4).length c137_4) := (blk_cell BK138.out 4).trans rfl
                                          have hfz41_0 := blk_frozen BK138.out 0
                                          have hfz41_1 := blk_frozen BK138.out 1
                                          have hfz41_2 := blk_frozen BK138.out 2
                                          have hfz41_3 := blk_frozen BK138.out 3
                                          have hfz41_4 := blk_frozen BK138.out 4
                                          have p144 : 0 ≤ (x8_5 : Int) := of_decide_eq_true (by first | (with_reducible assumption) | assumption)
                                          have q144 : x8_5 < (x3_1.length : Int) := of_decide_eq_true (by first | (with_reducible assumption) | assumption)
                                          obtain ⟨ad144, e144, hx144_0⟩ := Kd.at_int (Kd.R_reads' HO_3.out).2.2 x8_5 p144 q144
                                          obtain rfl : ad143 = ad144 := (by injection e144)
                                          replace p144 := eq_true p144
                                          replace q144 := eq_true q144
                                          go_wp2
                                          repeat (go_quiet (fail); try go_wp2)
                                          go_ret
                                          exact ⟨by first | rfl | (simp [errW_none, errW_some] <;> rfl) | (simp [*, errW_none, errW_some] <;> rfl), by repeat (first | (with_reducible first | exact HB.out | apply below_alloc | apply pw_below_drewN | apply below_drew1 | refine below_set ?_ GE138.out) | exact HB.out)⟩
                                        · rw [if_neg c39] at H
                                          have c39b0 : ((rd x3_1 x8_5) == ((rd_T119 l0 x4_1).f2)) = false := beq_eq_false_iff_ne.mpr c39
                                          have c39b1 : ((rd x3_1 x8_5) != ((rd_T119 l0 x4_1).f2)) = true := bne_iff_ne.mpr c39
                                          have H' := Aside0.mk H
                                          clear H
                                          obtain ⟨Ao42, co42, eo42⟩ := Kd.R_slice HO_3.out
                                          subst eo42
                                          have p143 : 0 ≤ (x8_5 : Int) := of_decide_eq_true (by first | (with_reducible assumption) | assumption)
                                          have q143 : x8_5 < (x3_1.length : Int) := of_decide_eq_true (by first | (with_reducible assumption) | assumption)
                                          obtain ⟨ad143, e143, hx143_0⟩ := Kd.at_int (Kd.R_reads' HO_3.out).2.2 x8_5 p143 q143
                                          cases e143
                                          replace p143 := eq_true p143
                                          replace q143 := eq_true q143
                                          have hcz43_0 : wr.cell? ⟨gb138, 0, none⟩ = some (.int .i64 ((rd_T119 l0 x4_1).f0)) := (blk_cell BK138.out 0).trans rfl
                                          have hcz43_1 : wr.cell? ⟨gb138, 1, none⟩ = some (.int .i64 ((rd_T119 l0 x4_1).f1)) := (blk_cell BK138.out 1).trans rfl
                                          have hcz43_2 : wr.cell? ⟨gb138, 2, none⟩ = some (.int .i64 ((rd_T119 l0 x4_1).f2)) := (blk_cell BK138.out 2).trans rfl
                                          have hcz43_3 : wr.cell? ⟨gb138, 3, none⟩ = some (.slice A137_3 ((rd_T119 l0 x4_1).f3).length c137_3) := (blk_cell BK138.out 3).trans rfl
                                          have hcz43_4 : wr.cell? ⟨gb138, 4, none⟩ = some (.slice A137_4 ((rd_T119 l0 x4_1).f4).length c137_4) := (blk_cell BK138.out 4).trans rfl
                                          have hfz43_0 := blk_frozen BK138.out 0
                                          have hfz43_1 := blk_frozen BK138.out 1
                                          have hfz43_2 := blk_frozen BK138.out 2
                                          have hfz43_3 := blk_frozen BK138.out 3
                                          have hfz43_4 := blk_frozen BK138.out 4
                                          have p144 : 0 ≤ (x8_5 : Int) := of_decide_eq_true (by first | (with_reducible assumption) | assumption)
                                          have q144 : x8_5 < (x3_1.length : Int) := of_decide_eq_true (by first | (with_reducible assumption) | assumption)
                                          obtain ⟨ad144, e144, hx144_0⟩ := Kd.at_int (Kd.R_reads' HO_3.out).2.2 x8_5 p144 q144
                                          obtain rfl : ad143 = ad144 := (by injection e144)
                                          replace p144 := eq_true p144
                                          replace q144 := eq_true q144
                                          go_wp2
                                          repeat (go_quiet (fail); try go_wp2)
                                          go_roundg k5
                                          case measure => have := HK1.out; have := HJ4.out; have := HK3.out; have := HK4.out; have := HK5.out; omega
                                          case rel => exact ⟨(wrap64 (x8_5 + 1)), (by first | rfl | (simp; done) | (simp [*]; done)), H', ⟨by have := HK1.out; have := HJ4.out; have := HK3.out; have := HK4.out; have := HK5.out; omega⟩, ⟨by (with_reducible repeat (first | apply Kd.R_alloc | apply Kd.R_drewN | apply Kd.R_drew)); exact HO_3.out⟩, ⟨by (with_reducible repeat (first | refine blk_drewN ?_ _ | refine blk_drew ?_ | refine blk_alloc ?_ _)); exact BK138.out⟩, ⟨by repeat (first | (with_reducible first | exact HB.out | apply below_alloc | apply pw_below_drewN | apply below_drew1 | refine below_set ?_ GE138.out) | exact HB.out)⟩⟩
                                    · rw [if_neg c35] at H
                                      exact absurd H (by simp)
                                  · rw [if_neg c34] at H
                                    have c34b0 : decide (x8_5 < (x3_1.length : Int)) = false := decide_eq_false c34
                                    clear c34
                                    by_cases c44 : x3_1.length < 17592186044416
                                    · rw [if_pos c44] at H
                                      have LMc44 := Aside0.mk c44
                                      clear c44
                                      obtain ⟨y145, hy145⟩ : ∃ y_ : List Int, y_ = (x3_1 ++ [((rd_T119 l0 x4_1).f1)]) := ⟨_, rfl⟩
                                      replace H : (if y145.length < 17592186044416 then (spec_DeedsOk.l0 k5 l0 (y145 ++ [((rd_T119 l0 x4_1).f2)]) (wrap64 (x4_1 + 1))) else (none)) = some r := by first | (rw [hy145]; with_reducible exact H) | (have H2_ := (Option.bind_some _ _).symm.trans H; rw [hy145]; with_reducible exact H2_) | (have H2_ := (Option.bind_some _ _).symm.trans H; with_reducible exact H2_) | with_reducible exact H | (rw [hy145]; exact H) | exact H
                                      have Ny145 := Aside0.mk hy145
                                      clear hy145
                                      by_cases c45 : y145.length < 17592186044416
                                      · rw [if_pos c45] at H
                                        have LMc45 := Aside0.mk c45
                                        clear c45
                                        obtain ⟨y148, hy148⟩ : ∃ y_ : List Int, y_ = (y145 ++ [((rd_T119 l0 x4_1).f2)]) := ⟨_, rfl⟩
                                        replace H : (spec_DeedsOk.l0 k5 l0 y148 (wrap64 (x4_1 + 1))) = some r := by first | (rw [hy148]; with_reducible exact H) | (have H2_ := (Option.bind_some _ _).symm.trans H; rw [hy148]; with_reducible exact H2_) | (have H2_ := (Option.bind_some _ _).symm.trans H; with_reducible exact H2_) | with_reducible exact H | (rw [hy148]; exact H) | exact H
                                        have Ny148 := Aside0.mk hy148
                                        clear hy148
                                        have H' := Aside0.mk H
                                        clear H
                                        obtain ⟨Ao46, co46, eo46⟩ := Kd.R_slice HO_3.out
                                        subst eo46
                                        have hcz47_0 : wr.cell? ⟨gb138, 0, none⟩ = some (.int .i64 ((rd_T119 l0 x4_1).f0)) := (blk_cell BK138.out 0).trans rfl
                                        have hcz47_1 : wr.cell? ⟨gb138, 1, none⟩ = some (.int .i64 ((rd_T119 l0 x4_1).f1)) := (blk_cell BK138.out 1).trans rfl
                                        have hcz47_2 : wr.cell? ⟨gb138, 2, none⟩ = some (.int .i64 ((rd_T119 l0 x4_1).f2)) := (blk_cell BK138.out 2).trans rfl
                                        have hcz47_3 : wr.cell? ⟨gb138, 3, none⟩ = some (.slice A137_3 ((rd_T119 l0 x4_1).f3).length c137_3) := (blk_cell BK138.out 3).trans rfl
                                        have hcz47_4 : wr.cell? ⟨gb138, 4, none⟩ = some (.slice A137_4 ((rd_T119 l0 x4_1).f4).length c137_4) := (blk_cell BK138.out 4).trans rfl
                                        have hfz47_0 := blk_frozen BK138.out 0
                                        have hfz47_1 := blk_frozen BK138.out 1
                                        have hfz47_2 := blk_frozen BK138.out 2
                                        have hfz47_3 := blk_frozen BK138.out 3
                                        have hfz47_4 := blk_frozen BK138.out 4
                                        go_wp2_with (first | ((with_reducible refine gate_builtin (b := .append) (xs := #[.tmp 94, .tmp 97]) rfl ?_); (try (refine gate_guard (by rfl) ?_; dsimp only)); at_builtin; refine Kd.R_append (Kd.int .i64) (w0 := w) w.heap.size rfl (.tmp 94) (.tmp 97) 87 3 (.int .i64 0) 8 rfl Try.underlying87 info3 rfl (by decide) (by omega) (.slice Ao46 x3_1.length co46) x3_1 ((rd_T119 l0 x4_1).f1) [.int .i64 ((rd_T119 l0 x4_1).f1)] (fun _ => True) (fun _ => False) rfl rfl ?aP (fun _ hk => hk.elim) ?aF ?aO ?aB ?aS ?aL ?_; (case aP => exact rfl); (case aB => exact (by repeat (first | (with_reducible first | exact HB.out | apply below_alloc | apply pw_below_drewN | apply below_drew1 | refine below_set ?_ GE138.out) | exact HB.out))); (case aF => exact (fun _ _ => trivial)); (case aO => exact (by (with_reducible repeat (first | apply Kd.R_alloc | apply Kd.R_drewN | apply Kd.R_drew)); exact HO_3.out)); (case aS => exact (below_size (by repeat (first | (with_reducible first | exact HB.out | apply below_alloc | apply pw_below_drewN | apply below_drew1 | refine below_set ?_ GE138.out) | exact HB.out)))); (case aL => have := LMc44.out; omega); intro v146 w48 ho hb hg hat; rw [← Ny145.out] at ho; have n0_ := Aside0.mk (blk_grown (g := gb138) (o := .cells #[.int .i64 ((rd_T119 l0 x4_1).f0), .int .i64 ((rd_T119 l0 x4_1).f1), .int .i64 ((rd_T119 l0 x4_1).f2), .slice A137_3 ((rd_T119 l0 x4_1).f3).length c137_3, .slice A137_4 ((rd_T119 l0 x4_1).f4).length c137_4] 119 (0, 0)) (by (with_reducible repeat (first | refine blk_drewN ?_ _ | refine blk_drew ?_ | refine blk_alloc ?_ _)); exact BK138.out) hg (Kd.R_ne HO_3.out BK138.out (by decide))); have n1_ := Aside0.mk (hb); have n2_ := Aside0.mk (ho); clear BK138; clear HB; clear HO_3; have BK138 := n0_; have HB := n1_; have HO147 := n2_; clear n0_ n1_ n2_; clear ho hb hg hat; have hcz49_0 : w48.cell? ⟨gb138, 0, none⟩ = some (.int .i64 ((rd_T119 l0 x4_1).f0)) := (blk_cell BK138.out 0).trans rfl; have hcz49_1 : w48.cell? ⟨gb138, 1, none⟩ = some (.int .i64 ((rd_T119 l0 x4_1).f1)) := (blk_cell BK138.out 1).trans rfl; have hcz49_2 : w48.cell? ⟨gb138, 2, none⟩ = some (.int .i64 ((rd_T119 l0 x4_1).f2)) := (blk_cell BK138.out 2).trans rfl; have hcz49_3 : w48.cell? ⟨gb138, 3, none⟩ = some (.slice A137_3 ((rd_T119 l0 x4_1).f3).length c137_3) := (blk_cell BK138.out 3).trans rfl; have hcz49_4 : w48.cell? ⟨gb138, 4, none⟩ = some (.slice A137_4 ((rd_T119 l0 x4_1).f4).length c137_4) := (blk_cell BK138.out 4).trans rfl; have hfz49_0 := blk_frozen BK138.out 0; have hfz49_1 := blk_frozen BK138.out 1; have hfz49_2 := blk_frozen BK138.out 2; have hfz49_3 := blk_frozen BK138.out 3; have hfz49_4 := blk_frozen BK138.out 4) | ((with_reducible refine gate_builtin (b := .append) (xs := #[.tmp 99, .tmp 102]) rfl ?_); (try (refine gate_guard (by rfl) ?_; dsimp only)); at_builtin; refine Kd.R_append (Kd.int .i64) (w0 := w) w.heap.size rfl (.tmp 99) (.tmp 102) 87 3 (.int .i64 0) 8 rfl Try.underlying87 info3 rfl (by decide) (by omega) v146 y145 ((rd_T119 l0 x4_1).f2) [.int .i64 ((rd_T119 l0 x4_1).f2)] (fun _ => True) (fun _ => False) rfl rfl ?aP (fun _ hk => hk.elim) ?aF ?aO ?aB ?aS ?aL ?_; (case aP => exact rfl); (case aB => exact (by repeat (first | (with_reducible first | exact HB.out | apply below_alloc | apply pw_below_drewN | apply below_drew1 | refine below_set ?_ GE138.out) | exact HB.out))); (case aF => exact (fun _ _ => trivial)); (case aO => exact (by (with_reducible repeat (first | apply Kd.R_alloc | apply Kd.R_drewN | apply Kd.R_drew)); exact HO147.out)); (case aS => exact (below_size (by repeat (first | (with_reducible first | exact HB.out | apply below_alloc | apply pw_below_drewN | apply below_drew1 | refine below_set ?_ GE138.out) | exact HB.out)))); (case aL => have := LMc45.out; omega); intro v149 w50 ho hb hg hat; rw [← Ny148.out] at ho; have n0_ := Aside0.mk (blk_grown (g := gb138) (o := .cells #[.int .i64 ((rd_T119 l0 x4_1).f0), .int .i64 ((rd_T119 l0 x4_1).f1), .int .i64 ((rd_T119 l0 x4_1).f2), .slice A137_3 ((rd_T119 l0 x4_1).f3).length c137_3, .slice A137_4 ((rd_T119 l0 x4_1).f4).length c137_4] 119 (0, 0)) (by (with_reducible repeat (first | refine blk_drewN ?_ _ | refine blk_drew ?_ | refine blk_alloc ?_ _)); exact BK138.out) hg (Kd.R_ne HO147.out BK138.out (by decide))); have n1_ := Aside0.mk (hb); have n2_ := Aside0.mk (ho); clear BK138; clear HB; clear HO147; have BK138 := n0_; have HB := n1_; have HO150 := n2_; clear n0_ n1_ n2_; clear ho hb hg hat))
                                        repeat (go_quiet (first | ((with_reducible refine gate_builtin (b := .append) (xs := #[.tmp 94, .tmp 97]) rfl ?_); (try (refine gate_guard (by rfl) ?_; dsimp only)); at_builtin; refine Kd.R_append (Kd.int .i64) (w0 := w) w.heap.size rfl (.tmp 94) (.tmp 97) 87 3 (.int .i64 0) 8 rfl Try.underlying87 info3 rfl (by decide) (by omega) (.slice Ao46 x3_1.length co46) x3_1 ((rd_T119 l0 x4_1).f1) [.int .i64 ((rd_T119 l0 x4_1).f1)] (fun _ => True) (fun _ => False) rfl rfl ?aP (fun _ hk => hk.elim) ?aF ?aO ?aB ?aS ?aL ?_; (case aP => exact rfl); (case aB => exact (by repeat (first | (with_reducible first | exact HB.out | apply below_alloc | apply pw_below_drewN | apply below_drew1 | refine below_set ?_ GE138.out) | exact HB.out))); (case aF => exact (fun _ _ => trivial)); (case aO => exact (by (with_reducible repeat (first | apply Kd.R_alloc | apply Kd.R_drewN | apply Kd.R_drew)); exact HO_3.out)); (case aS => exact (below_size (by repeat (first | (with_reducible first | exact HB.out | apply below_alloc | apply pw_below_drewN | apply below_drew1 | refine below_set ?_ GE138.out) | exact HB.out)))); (case aL => have := LMc44.out; omega); intro v146 w48 ho hb hg hat; rw [← Ny145.out] at ho; have n0_ := Aside0.mk (blk_grown (g := gb138) (o := .cells #[.int .i64 ((rd_T119 l0 x4_1).f0), .int .i64 ((rd_T119 l0 x4_1).f1), .int .i64 ((rd_T119 l0 x4_1).f2), .slice A137_3 ((rd_T119 l0 x4_1).f3).length c137_3, .slice A137_4 ((rd_T119 l0 x4_1).f4).length c137_4] 119 (0, 0)) (by (with_reducible repeat (first | refine blk_drewN ?_ _ | refine blk_drew ?_ | refine blk_alloc ?_ _)); exact BK138.out) hg (Kd.R_ne HO_3.out BK138.out (by decide))); have n1_ := Aside0.mk (hb); have n2_ := Aside0.mk (ho); clear BK138; clear HB; clear HO_3; have BK138 := n0_; have HB := n1_; have HO147 := n2_; clear n0_ n1_ n2_; clear ho hb hg hat; have hcz49_0 : w48.cell? ⟨gb138, 0, none⟩ = some (.int .i64 ((rd_T119 l0 x4_1).f0)) := (blk_cell BK138.out 0).trans rfl; have hcz49_1 : w48.cell? ⟨gb138, 1, none⟩ = some (.int .i64 ((rd_T119 l0 x4_1).f1)) := (blk_cell BK138.out 1).trans rfl; have hcz49_2 : w48.cell? ⟨gb138, 2, none⟩ = some (.int .i64 ((rd_T119 l0 x4_1).f2)) := (blk_cell BK138.out 2).trans rfl; have hcz49_3 : w48.cell? ⟨gb138, 3, none⟩ = some (.slice A137_3 ((rd_T119 l0 x4_1).f3).length c137_3) := (blk_cell BK138.out 3).trans rfl; have hcz49_4 : w48.cell? ⟨gb138, 4, none⟩ = some (.slice A137_4 ((rd_T119 l0 x4_1).f4).length c137_4) := (blk_cell BK138.out 4).trans rfl; have hfz49_0 := blk_frozen BK138.out 0; have hfz49_1 := blk_frozen BK138.out 1; have hfz49_2 := blk_frozen BK138.out 2; have hfz49_3 := blk_frozen BK138.out 3; have hfz49_4 := blk_frozen BK138.out 4) | ((with_reducible refine gate_builtin (b := .append) (xs := #[.tmp 99, .tmp 102]) rfl ?_); (try (refine gate_guard (by rfl) ?_; dsimp only)); at_builtin; refine Kd.R_append (Kd.int .i64) (w0 := w) w.heap.size rfl (.tmp 99) (.tmp 102) 87 3 (.int .i64 0) 8 rfl Try.underlying87 info3 rfl (by decide) (by omega) v146 y145 ((rd_T119 l0 x4_1).f2) [.int .i64 ((rd_T119 l0 x4_1).f2)] (fun _ => True) (fun _ => False) rfl rfl ?aP (fun _ hk => hk.elim) ?aF ?aO ?aB ?aS ?aL ?_; (case aP => exact rfl); (case aB => exact (by repeat (first | (with_reducible first | exact HB.out | apply below_alloc | apply pw_below_drewN | apply below_drew1 | refine below_set ?_ GE138.out) | exact HB.out))); (case aF => exact (fun _ _ => trivial)); (case aO => exact (by (with_reducible repeat (first | apply Kd.R_alloc | apply Kd.R_drewN | apply Kd.R_drew)); exact HO147.out)); (case aS => exact (below_size (by repeat (first | (with_reducible first | exact HB.out | apply below_alloc | apply pw_below_drewN | apply below_drew1 | refine below_set ?_ GE138.out) | exact HB.out)))); (case aL => have := LMc45.out; omega); intro v149 w50 ho hb hg hat; rw [← Ny148.out] at ho; have n0_ := Aside0.mk (blk_grown (g := gb138) (o := .cells #[.int .i64 ((rd_T119 l0 x4_1).f0), .int .i64 ((rd_T119 l0 x4_1).f1), .int .i64 ((rd_T119 l0 x4_1).f2), .slice A137_3 ((rd_T119 l0 x4_1).f3).length c137_3, .slice A137_4 ((rd_T119 l0 x4_1).f4).length c137_4] 119 (0, 0)) (by (with_reducible repeat (first | refine blk_drewN ?_ _ | refine blk_drew ?_ | refine blk_alloc ?_ _)); exact BK138.out) hg (Kd.R_ne HO147.out BK138.out (by decide))); have n1_ := Aside0.mk (hb); have n2_ := Aside0.mk (ho); clear BK138; clear HB; clear HO147; have BK138 := n0_; have HB := n1_; have HO150 := n2_; clear n0_ n1_ n2_; clear ho hb hg hat)); try go_wp2_with (first | ((with_reducible refine gate_builtin (b := .append) (xs := #[.tmp 94, .tmp 97]) rfl ?_); (try (refine gate_guard (by rfl) ?_; dsimp only)); at_builtin; refine Kd.R_append (Kd.int .i64) (w0 := w) w.heap.size rfl (.tmp 94) (.tmp 97) 87 3 (.int .i64 0) 8 rfl Try.underlying87 info3 rfl (by decide) (by omega) (.slice Ao46 x3_1.length co46) x3_1 ((rd_T119 l0 x4_1).f1) [.int .i64 ((rd_T119 l0 x4_1).f1)] (fun _ => True) (fun _ => False) rfl rfl ?aP (fun _ hk => hk.elim) ?aF ?aO ?aB ?aS ?aL ?_; (case aP => exact rfl); (case aB => exact (by repeat (first | (with_reducible first | exact HB.out | apply below_alloc | apply pw_below_drewN | apply below_drew1 | refine below_set ?_ GE138.out) | exact HB.out))); (case aF => exact (fun _ _ => trivial)); (case aO => exact (by (with_reducible repeat (first | apply Kd.R_alloc | apply Kd.R_drewN | apply Kd.R_drew)); exact HO_3.out)); (case aS => exact (below_size (by repeat (first | (with_reducible first | exact HB.out | apply below_alloc | apply pw_below_drewN | apply below_drew1 | refine below_set ?_ GE138.out) | exact HB.out)))); (case aL => have := LMc44.out; omega); intro v146 w48 ho hb hg hat; rw [← Ny145.out] at ho; have n0_ := Aside0.mk (blk_grown (g := gb138) (o := .cells #[.int .i64 ((rd_T119 l0 x4_1).f0), .int .i64 ((rd_T119 l0 x4_1).f1), .int .i64 ((rd_T119 l0 x4_1).f2), .slice A137_3 ((rd_T119 l0 x4_1).f3).length c137_3, .slice A137_4 ((rd_T119 l0 x4_1).f4).length c137_4] 119 (0, 0)) (by (with_reducible repeat (first | refine blk_drewN ?_ _ | refine blk_drew ?_ | refine blk_alloc ?_ _)); exact BK138.out) hg (Kd.R_ne HO_3.out BK138.out (by decide))); have n1_ := Aside0.mk (hb); have n2_ := Aside0.mk (ho); clear BK138; clear HB; clear HO_3; have BK138 := n0_; have HB := n1_; have HO147 := n2_; clear n0_ n1_ n2_; clear ho hb hg hat; have hcz49_0 : w48.cell? ⟨gb138, 0, none⟩ = some (.int .i64 ((rd_T119 l0 x4_1).f0)) := (blk_cell BK138.out 0).trans rfl; have hcz49_1 : w48.cell? ⟨gb138, 1, none⟩ = some (.int .i64 ((rd_T119 l0 x4_1).f1)) := (blk_cell BK138.out 1).trans rfl; have hcz49_2 : w48.cell? ⟨gb138, 2, none⟩ = some (.int .i64 ((rd_T119 l0 x4_1).f2)) := (blk_cell BK138.out 2).trans rfl; have hcz49_3 : w48.cell? ⟨gb138, 3, none⟩ = some (.slice A137_3 ((rd_T119 l0 x4_1).f3).length c137_3) := (blk_cell BK138.out 3).trans rfl; have hcz49_4 : w48.cell? ⟨gb138, 4, none⟩ = some (.slice A137_4 ((rd_T119 l0 x4_1).f4).length c137_4) := (blk_cell BK138.out 4).trans rfl; have hfz49_0 := blk_frozen BK138.out 0; have hfz49_1 := blk_frozen BK138.out 1; have hfz49_2 := blk_frozen BK138.out 2; have hfz49_3 := blk_frozen BK138.out 3; have hfz49_4 := blk_frozen BK138.out 4) | ((with_reducible refine gate_builtin (b := .append) (xs := #[.tmp 99, .tmp 102]) rfl ?_); (try (refine gate_guard (by rfl) ?_; dsimp only)); at_builtin; refine Kd.R_append (Kd.int .i64) (w0 := w) w.heap.size rfl (.tmp 99) (.tmp 102) 87 3 (.int .i64 0) 8 rfl Try.underlying87 info3 rfl (by decide) (by omega) v146 y145 ((rd_T119 l0 x4_1).f2) [.int .i64 ((rd_T119 l0 x4_1).f2)] (fun _ => True) (fun _ => False) rfl rfl ?aP (fun _ hk => hk.elim) ?aF ?aO ?aB ?aS ?aL ?_; (case aP => exact rfl); (case aB => exact (by repeat (first | (with_reducible first | exact HB.out | apply below_alloc | apply pw_below_drewN | apply below_drew1 | refine below_set ?_ GE138.out) | exact HB.out))); (case aF => exact (fun _ _ => trivial)); (case aO => exact (by (with_reducible repeat (first | apply Kd.R_alloc | apply Kd.R_drewN | apply Kd.R_drew)); exact HO147.out)); (case aS => exact (below_size (by repeat (first | (with_reducible first | exact HB.out | apply below_alloc | apply pw_below_drewN | apply below_drew1 | refine below_set ?_ GE138.out) | exact HB.out)))); (case aL => have := LMc45.out; omega); intro v149 w50 ho hb hg hat; rw [← Ny148.out] at ho; have n0_ := Aside0.mk (blk_grown (g := gb138) (o := .cells #[.int .i64 ((rd_T119 l0 x4_1).f0), .int .i64 ((rd_T119 l0 x4_1).f1), .int .i64 ((rd_T119 l0 x4_1).f2), .slice A137_3 ((rd_T119 l0 x4_1).f3).length c137_3, .slice A137_4 ((rd_T119 l0 x4_1).f4).length c137_4] 119 (0, 0)) (by (with_reducible repeat (first | refine blk_drewN ?_ _ | refine blk_drew ?_ | refine blk_alloc ?_ _)); exact BK138.out) hg (Kd.R_ne HO147.out BK138.out (by decide))); have n1_ := Aside0.mk (hb); have n2_ := Aside0.mk (ho); clear BK138; clear HB; clear HO147; have BK138 := n0_; have HB := n1_; have HO150 := n2_; clear n0_ n1_ n2_; clear ho hb hg hat)))
                                        go_roundg k5
                                        case measure => have := HK1.out; have := HJ4.out; have := HK3.out; have := HK4.out; have := HK5.out; omega
                                        case rel => exact ⟨(y148), (wrap64 (x4_1 + 1)), (by first | rfl | (simp; done) | (simp [*]; done)), H', ⟨by have := HK1.out; have := HJ4.out; have := HK3.out; have := HK4.out; have := HK5.out; omega⟩, ⟨by (with_reducible repeat (first | apply Kd.R_alloc | apply Kd.R_drewN | apply Kd.R_drew)); exact HO150.out⟩, ⟨by repeat (first | (with_reducible first | exact HB.out | apply below_alloc | apply pw_below_drewN | apply below_drew1 | refine below_set ?_ GE138.out) | exact HB.out)⟩⟩
                                      · rw [if_neg c45] at H
                                        exact absurd H (by simp)
                                    · rw [if_neg c44] at H
                                      exact absurd H (by simp)
          · rw [if_neg c4] at H
            exact absurd H (by simp)
        · rw [if_neg c3] at H
          have c3b0 : decide (x4_1 < (l0.length : Int)) = false := decide_eq_false c3
          clear c3
          obtain rfl := Option.some.inj H
          go_wp2
          repeat (go_quiet (fail); try go_wp2)
          go_ret
          exact ⟨by first | rfl | (simp [errW_none, errW_some] <;> rfl) | (simp [*, errW_none, errW_some] <;> rfl), by repeat (first | (with_reducible first | exact HB.out | apply below_alloc | apply pw_below_drewN | apply below_drew1) | exact HB.out)⟩

end Go.Proofs.Ytjmlbkhcjgehdaa.PFnExactDeedsOk
