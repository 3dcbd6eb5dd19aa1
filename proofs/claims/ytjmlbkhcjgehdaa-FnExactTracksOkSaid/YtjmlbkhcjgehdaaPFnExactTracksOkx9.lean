-- Written by hv.py, a program of this session's own, over the kit's print: FnExactTracksOk
import Derived.Test.YtjmlbkhcjgehdaaPFnExactTracksOkx0
import Derived.Test.YtjmlbkhcjgehdaaPFnExactTracksOkx8
namespace Go.Proofs.Ytjmlbkhcjgehdaa.PFnExactTracksOk
open Go.RowKit Go.Proofs.YtjmlbkhcjgehdaaW.PrintWords Go.Proofs.YtjmlbkhcjgehdaaW.PrintLast Go.Proofs.YtjmlbkhcjgehdaaW.PrintMore Go.Proofs.Ytjmlbkhcjgehdaa.HFl Go.Proofs.Ytjmlbkhcjgehdaa.HMap Go.Proofs.Ytjmlbkhcjgehdaa.HMore Go.Proofs.Ytjmlbkhcjgehdaa
attribute [local go_sem] max2_int min2_int max_two min_two max_three min_three max_four min_four   -- for this text's walks alone
set_option linter.unusedVariables false
set_option linter.unusedSimpArgs false

/-! ### laws_eqSpanS: function 89 -/
def laws_eqSpanS.l0 : Nat → List (S38) → List (S38) → Int → Option (Bool)
  | 0, _, _, _ => none
  | k + 1, x0, x1, x5 => if x5 < (x0.length : Int) then (if 0 ≤ x5 then (if x5 < (x1.length : Int) then ((laws_eqSpan.f k ((rd_T38 x0 x5).f0.f0) ((rd_T38 x0 x5).f0.f1) ((rd_T38 x0 x5).f0.f2) ((rd_T38 x0 x5).f0.f3) ((rd_T38 x0 x5).f1.f0) ((rd_T38 x0 x5).f1.f1) ((rd_T38 x0 x5).f1.f2) ((rd_T38 x0 x5).f1.f3) ((rd_T38 x1 x5).f0.f0) ((rd_T38 x1 x5).f0.f1) ((rd_T38 x1 x5).f0.f2) ((rd_T38 x1 x5).f0.f3) ((rd_T38 x1 x5).f1.f0) ((rd_T38 x1 x5).f1.f1) ((rd_T38 x1 x5).f1.f2) ((rd_T38 x1 x5).f1.f3)).bind fun t278 => (if t278 = true then (laws_eqSpanS.l0 k x0 x1 (wrap64 (x5 + 1))) else (some false))) else (none)) else (none)) else (some true)
def laws_eqSpanS.f (k : Nat) (l0 : List (S38)) (l1 : List (S38)) : Option (Bool) := if (l0.length : Int) = (l1.length : Int) then (laws_eqSpanS.l0 k l0 l1 0) else (some false)
theorem laws_eqSpanS.mono_l : ∀ k, (∀ y0 y1 y2, LeO (laws_eqSpanS.l0 k y0 y1 y2) (laws_eqSpanS.l0 (k + 1) y0 y1 y2))
  | 0 => fun _ _ _ r h => by simp [laws_eqSpanS.l0] at h
  | k + 1 => by
    have ih0 := laws_eqSpanS.mono_l k
    · intro y0 y1 y2
      unfold laws_eqSpanS.l0
      repeat' first
      | (with_reducible exact ih0 _ _ _)
      | (with_reducible exact laws_eqSpan.mono _ _ _ _ _ _ _ _ _ _ _ _ _ _ _ _ _)
      | (with_reducible exact LeO.refl _)
      | (with_reducible exact LeO.none _)
      | (with_reducible refine LeO.ite ?_ ?_)
      | (with_reducible refine LeO.bind ?_ (fun _ => ?_))
      | exact ih0 _ _ _
      | exact laws_eqSpan.mono _ _ _ _ _ _ _ _ _ _ _ _ _ _ _ _ _
      | exact LeO.none _
      | refine LeO.ite ?_ ?_
      | refine LeO.bind ?_ (fun _ => ?_)
theorem laws_eqSpanS.mono : ∀ a0 a1 k, LeO (laws_eqSpanS.f k a0 a1) (laws_eqSpanS.f (k + 1) a0 a1) := by
  intro a0 a1 k
  have ih0 := laws_eqSpanS.mono_l k
  unfold laws_eqSpanS.f
  repeat' first
      | (with_reducible exact ih0 _ _ _)
      | (with_reducible exact laws_eqSpan.mono _ _ _ _ _ _ _ _ _ _ _ _ _ _ _ _ _)
      | (with_reducible exact LeO.refl _)
      | (with_reducible exact LeO.none _)
      | (with_reducible refine LeO.ite ?_ ?_)
      | (with_reducible refine LeO.bind ?_ (fun _ => ?_))
      | exact ih0 _ _ _
      | exact laws_eqSpan.mono _ _ _ _ _ _ _ _ _ _ _ _ _ _ _ _ _
      | exact LeO.none _
      | refine LeO.ite ?_ ?_
      | refine LeO.bind ?_ (fun _ => ?_)
def laws_eqSpanS.T6 : Bool × List (List Nat × List Nat) := (true, [([], []), ([], []), ([0, 1], [0, 1]), ([2], [2]), ([], []), ([], []), ([4, 5], [4, 5]), ([6], [6]), ([3, 7], [3, 7]), ([8], [8])])
def laws_eqSpanS.B6 : List Nat := [0, 0, 3, 7, 0, 0, 48, 112, 255, 511]
theorem laws_eqSpanS.tab6 : rtab .any (opsOf Try.f89 6) = laws_eqSpanS.T6 := by kernel_rfl
theorem laws_eqSpanS.bits6 : waitsOk laws_eqSpanS.T6.2 laws_eqSpanS.B6 = true := by kernel_rfl
set_option maxHeartbeats 8000000 in
set_option maxRecDepth 100000 in
theorem laws_eqSpanS.calls (k : Nat) (A0 : Option Addr) (c0 : Nat) (l0 : List (S38)) (A1 : Option Addr) (c1 : Nat) (l1 : List (S38)) (r : Bool) (w : World) (hr0 : Kd.C k38 w A0 l0.length l0) (hc0 : l0.length ≤ c0) (hr1 : Kd.C k38 w A1 l1.length l1) (hc1 : l1.length ≤ c1) (h : laws_eqSpanS.f k l0 l1 = some r) (hrt : r = true) :
    Calls Try.prog 89 #[.slice A0 l0.length c0, .slice A1 l1.length c1] w fun e w' => e = .returned (.bool r) ∧ Below w.heap.size w w' := by
  have hu38 := Try.underlying38
  have HR0 := Aside0.mk hr0
  have HC0 := Aside0.mk hc0
  clear hr0 hc0
  have HR1 := Aside0.mk hr1
  have HC1 := Aside0.mk hc1
  clear hr1 hc1
  have HB := Aside0.mk (Below.refl w.heap.size w)
  have H : (if (l0.length : Int) = (l1.length : Int) then (laws_eqSpanS.l0 k l0 l1 0) else (some false)) = some r := h
  clear h
  by_cases c3 : (l0.length : Int) = (l1.length : Int)
  · rw [if_pos c3] at H
    have c3b0 : ((l0.length : Int) == (l1.length : Int)) = true := beq_iff_eq.mpr c3
    have c3b1 : ((l0.length : Int) != (l1.length : Int)) = false := bne_eq_false_iff_eq.mpr c3
    have c3b2 : (l0.length == l1.length) = true := by first | simpa using c3 | (simp at c3 ⊢; omega)
    clear c3
    have H' := Aside0.mk H
    clear H
    go_enter Try.func89, Try.ntmps89
    go_wp2
    go_loopg [5] k (fun kq v5 w' => ∃ (x5_1 : Int), v5 = .int .i64 x5_1 ∧ Aside0 (laws_eqSpanS.l0 kq l0 l1 x5_1 = some r) ∧ Aside0 (kq ≤ k) ∧ Aside0 (Below w.heap.size w w'))
    case atStart => exact ⟨(0), (by first | rfl | (simp; done) | (simp [*]; done)), H', ⟨Nat.le_refl _⟩, ⟨by repeat (first | (with_reducible first | exact HB.out | apply below_alloc | apply pw_below_drewN | apply below_drew1) | exact HB.out)⟩⟩
    case round =>
      clear H'
      try clear c1
      try clear p2
      try clear c3
      try clear c3b0
      try clear c3b1
      try clear c3b2
      obtain ⟨x5_1, rfl, HA, HK1, HB⟩ := hrel
      cases gk with
      | zero => exact absurd HA.out (by simp [laws_eqSpanS.l0])
      | succ k1 =>
        have H := HA.out
        clear HA
        simp only [laws_eqSpanS.l0] at H
        by_cases c4 : x5_1 < (l0.length : Int)
        · rw [if_pos c4] at H
          have c4b0 : decide (x5_1 < (l0.length : Int)) = true := decide_eq_true c4
          clear c4
          by_cases c5 : 0 ≤ x5_1
          · rw [if_pos c5] at H
            have c5b0 : decide (0 ≤ x5_1) = true := decide_eq_true c5
            clear c5
            by_cases c6 : x5_1 < (l1.length : Int)
            · rw [if_pos c6] at H
              have c6b0 : decide (x5_1 < (l1.length : Int)) = true := decide_eq_true c6
              clear c6
              replace H := Option.bind_eq_some_iff.mp H
              obtain ⟨t278, A70, H⟩ := H
              replace H : (if t278 = true then (laws_eqSpanS.l0 k1 l0 l1 (wrap64 (x5_1 + 1))) else (some false)) = some r := H
              have A7 := Aside0.mk A70
              clear A70
              by_cases c8 : t278 = true
              · subst c8
                have H1 : (laws_eqSpanS.l0 k1 l0 l1 (wrap64 (x5_1 + 1))) = some r := by rw [if_pos rfl] at H; exact H
                clear H
                have H := H1
                clear H1
                have H' := Aside0.mk H
                clear H
                try go_wp2
                have n0_ := Aside0.mk (below_drew1 HB.out)
                clear HB
                have HB := n0_
                clear n0_
                have p276 : 0 ≤ (x5_1 : Int) := of_decide_eq_true (by first | (with_reducible assumption) | assumption)
                have q276 : x5_1 < (l0.length : Int) := of_decide_eq_true (by first | (with_reducible assumption) | assumption)
                obtain ⟨ad276, A276_3, c276_3, A276_7, c276_7, e276, hx276_0, hx276_1, hx276_2, hx276_3, hx276_4, hx276_5, hx276_6, hx276_7, hl276_3, hi276_3, hl276_7, hi276_7⟩ := at_T38 HR0.out x5_1 p276 q276
                have hw276_7 := hx276_7
                have hw276_6 := hx276_6
                have hw276_5 := hx276_5
                have hw276_4 := hx276_4
                have hw276_3 := hx276_3
                have hw276_2 := hx276_2
                have hw276_1 := hx276_1
                have hw276_0 := hx276_0
                cases e276
                replace hx276_0 := (HB.out.cell (World.block_lt_of_cell? w _ hx276_0)).trans hx276_0
                replace hx276_1 := (HB.out.cell (World.block_lt_of_cell? w _ hx276_1)).trans hx276_1
                replace hx276_2 := (HB.out.cell (World.block_lt_of_cell? w _ hx276_2)).trans hx276_2
                replace hx276_3 := (HB.out.cell (World.block_lt_of_cell? w _ hx276_3)).trans hx276_3
                replace hx276_4 := (HB.out.cell (World.block_lt_of_cell? w _ hx276_4)).trans hx276_4
                replace hx276_5 := (HB.out.cell (World.block_lt_of_cell? w _ hx276_5)).trans hx276_5
                replace hx276_6 := (HB.out.cell (World.block_lt_of_cell? w _ hx276_6)).trans hx276_6
                replace hx276_7 := (HB.out.cell (World.block_lt_of_cell? w _ hx276_7)).trans hx276_7
                have HR276_3 := Aside0.mk hi276_3
                have HC276_3 := Aside0.mk hl276_3
                clear hi276_3 hl276_3
                have HR276_7 := Aside0.mk hi276_7
                have HC276_7 := Aside0.mk hl276_7
                clear hi276_7 hl276_7
                replace p276 := eq_true p276
                replace q276 := eq_true q276
                have p277 : 0 ≤ (x5_1 : Int) := of_decide_eq_true (by first | (with_reducible assumption) | assumption)
                have q277 : x5_1 < (l1.length : Int) := of_decide_eq_true (by first | (with_reducible assumption) | assumption)
                obtain ⟨ad277, A277_3, c277_3, A277_7, c277_7, e277, hx277_0, hx277_1, hx277_2, hx277_3, hx277_4, hx277_5, hx277_6, hx277_7, hl277_3, hi277_3, hl277_7, hi277_7⟩ := at_T38 HR1.out x5_1 p277 q277
                have hw277_7 := hx277_7
                have hw277_6 := hx277_6
                have hw277_5 := hx277_5
                have hw277_4 := hx277_4
                have hw277_3 := hx277_3
                have hw277_2 := hx277_2
                have hw277_1 := hx277_1
                have hw277_0 := hx277_0
                cases e277
                replace hx277_0 := (HB.out.cell (World.block_lt_of_cell? w _ hx277_0)).trans hx277_0
                replace hx277_1 := (HB.out.cell (World.block_lt_of_cell? w _ hx277_1)).trans hx277_1
                replace hx277_2 := (HB.out.cell (World.block_lt_of_cell? w _ hx277_2)).trans hx277_2
                replace hx277_3 := (HB.out.cell (World.block_lt_of_cell? w _ hx277_3)).trans hx277_3
                replace hx277_4 := (HB.out.cell (World.block_lt_of_cell? w _ hx277_4)).trans hx277_4
                replace hx277_5 := (HB.out.cell (World.block_lt_of_cell? w _ hx277_5)).trans hx277_5
                replace hx277_6 := (HB.out.cell (World.block_lt_of_cell? w _ hx277_6)).trans hx277_6
                replace hx277_7 := (HB.out.cell (World.block_lt_of_cell? w _ hx277_7)).trans hx277_7
                have HR277_3 := Aside0.mk hi277_3
                have HC277_3 := Aside0.mk hl277_3
                clear hi277_3 hl277_3
                have HR277_7 := Aside0.mk hi277_7
                have HC277_7 := Aside0.mk hl277_7
                clear hi277_7 hl277_7
                replace p277 := eq_true p277
                replace q277 := eq_true q277
                refine start_ (n := 10) (S := fun w' => w'.cell? (ad276.add ((x5_1).toNat * 8)) = some (.int .i64 ((rd_T38 l0 x5_1).f0.f0)) ∧ w'.cell? ⟨(ad276.add ((x5_1).toNat * 8)).block, (ad276.add ((x5_1).toNat * 8)).off + 1, none⟩ = some (.int .i64 ((rd_T38 l0 x5_1).f0.f1)) ∧ w'.cell? ⟨(ad276.add ((x5_1).toNat * 8)).block, (ad276.add ((x5_1).toNat * 8)).off + 2, none⟩ = some (.float .f64 ((rd_T38 l0 x5_1).f0.f2)) ∧ w'.cell? ⟨(ad276.add ((x5_1).toNat * 8)).block, (ad276.add ((x5_1).toNat * 8)).off + 3, none⟩ = some (.slice A276_3 ((rd_T38 l0 x5_1).f0.f3).length c276_3) ∧ w'.cell? ⟨(ad276.add ((x5_1).toNat * 8)).block, (ad276.add ((x5_1).toNat * 8)).off + 4, none⟩ = some (.int .i64 ((rd_T38 l0 x5_1).f1.f0)) ∧ w'.cell? ⟨(ad276.add ((x5_1).toNat * 8)).block, (ad276.add ((x5_1).toNat * 8)).off + 5, none⟩ = some (.int .i64 ((rd_T38 l0 x5_1).f1.f1)) ∧ w'.cell? ⟨(ad276.add ((x5_1).toNat * 8)).block, (ad276.add ((x5_1).toNat * 8)).off + 6, none⟩ = some (.float .f64 ((rd_T38 l0 x5_1).f1.f2)) ∧ w'.cell? ⟨(ad276.add ((x5_1).toNat * 8)).block, (ad276.add ((x5_1).toNat * 8)).off + 7, none⟩ = some (.slice A276_7 ((rd_T38 l0 x5_1).f1.f3).length c276_7) ∧ w'.cell? (ad277.add ((x5_1).toNat * 8)) = some (.int .i64 ((rd_T38 l1 x5_1).f0.f0)) ∧ w'.cell? ⟨(ad277.add ((x5_1).toNat * 8)).block, (ad277.add ((x5_1).toNat * 8)).off + 1, none⟩ = some (.int .i64 ((rd_T38 l1 x5_1).f0.f1)) ∧ w'.cell? ⟨(ad277.add ((x5_1).toNat * 8)).block, (ad277.add ((x5_1).toNat * 8)).off + 2, none⟩ = some (.float .f64 ((rd_T38 l1 x5_1).f0.f2)) ∧ w'.cell? ⟨(ad277.add ((x5_1).toNat * 8)).block, (ad277.add ((x5_1).toNat * 8)).off + 3, none⟩ = some (.slice A277_3 ((rd_T38 l1 x5_1).f0.f3).length c277_3) ∧ w'.cell? ⟨(ad277.add ((x5_1).toNat * 8)).block, (ad277.add ((x5_1).toNat * 8)).off + 4, none⟩ = some (.int .i64 ((rd_T38 l1 x5_1).f1.f0)) ∧ w'.cell? ⟨(ad277.add ((x5_1).toNat * 8)).block, (ad277.add ((x5_1).toNat * 8)).off + 5, none⟩ = some (.int .i64 ((rd_T38 l1 x5_1).f1.f1)) ∧ w'.cell? ⟨(ad277.add ((x5_1).toNat * 8)).block, (ad277.add ((x5_1).toNat * 8)).off + 6, none⟩ = some (.float .f64 ((rd_T38 l1 x5_1).f1.f2)) ∧ w'.cell? ⟨(ad277.add ((x5_1).toNat * 8)).block, (ad277.add ((x5_1).toNat * 8)).off + 7, none⟩ = some (.slice A277_7 ((rd_T38 l1 x5_1).f1.f3).length c277_7)) (ds := []) #[false, false, false, false, false, false, false, false, false, false] (by kernel_rfl) rfl rfl ⟨((HB.out.cell (World.block_lt_of_cell? w _ hw276_0)).trans hw276_0), ((HB.out.cell (World.block_lt_of_cell? w _ hw276_1)).trans hw276_1), ((HB.out.cell (World.block_lt_of_cell? w _ hw276_2)).trans hw276_2), ((HB.out.cell (World.block_lt_of_cell? w _ hw276_3)).trans hw276_3), ((HB.out.cell (World.block_lt_of_cell? w _ hw276_4)).trans hw276_4), ((HB.out.cell (World.block_lt_of_cell? w _ hw276_5)).trans hw276_5), ((HB.out.cell (World.block_lt_of_cell? w _ hw276_6)).trans hw276_6), ((HB.out.cell (World.block_lt_of_cell? w _ hw276_7)).trans hw276_7), ((HB.out.cell (World.block_lt_of_cell? w _ hw277_0)).trans hw277_0), ((HB.out.cell (World.block_lt_of_cell? w _ hw277_1)).trans hw277_1), ((HB.out.cell (World.block_lt_of_cell? w _ hw277_2)).trans hw277_2), ((HB.out.cell (World.block_lt_of_cell? w _ hw277_3)).trans hw277_3), ((HB.out.cell (World.block_lt_of_cell? w _ hw277_4)).trans hw277_4), ((HB.out.cell (World.block_lt_of_cell? w _ hw277_5)).trans hw277_5), ((HB.out.cell (World.block_lt_of_cell? w _ hw277_6)).trans hw277_6), ((HB.out.cell (World.block_lt_of_cell? w _ hw277_7)).trans hw277_7)⟩ (fun hHeld => ?_); refine with_tabW laws_eqSpanS.tab6 laws_eqSpanS.bits6 (fun HT_ HW_ => ?_)
                generalize wr.drew = w9 at HB HR276_3 HR276_7 HR277_3 HR277_7 hx276_0 hx276_1 hx276_2 hx276_3 hx276_4 hx276_5 hx276_6 hx276_7 hx277_0 hx277_1 hx277_2 hx277_3 hx277_4 hx277_5 hx277_6 hx277_7 hHeld ⊢
                refine pure_ (i := 0) (N := some 17) (v := ?_) (a' := ?_) #[true, false, false, false, false, false, false, false, false, false] rfl rfl (any_of HT_.out (by kernel_rfl)) (fun _ _ _ h => h) (Or.inl ⟨by rfl, ?_⟩) ?_ ?_
                rotate_left
                · intro w'
                  go_simp
                  with_reducible rfl
                rotate_left
                · simp only [Act.put, List.setIfInBounds_toArray, List.set_cons_zero, List.set_cons_succ, i64_w, i32_w]
                  rfl
                refine pure_ (i := 1) (N := some 18) (v := ?_) (a' := ?_) #[true, true, false, false, false, false, false, false, false, false] rfl rfl (any_of HT_.out (by kernel_rfl)) (fun _ _ _ h => h) (Or.inl ⟨by rfl, ?_⟩) ?_ ?_
                rotate_left
                · intro w'
                  go_simp
                  with_reducible rfl
                rotate_left
                · simp only [Act.put, List.setIfInBounds_toArray, List.set_cons_zero, List.set_cons_succ, i64_w, i32_w]
                  rfl
                refine pure_ (i := 2) (N := some 19) (v := ?_) (a' := ?_) #[true, true, true, false, false, false, false, false, false, false] rfl rfl (any_of HT_.out (by kernel_rfl)) (fun _ _ _ h => h) (Or.inl ⟨by rfl, ?_⟩) ?_ ?_
                rotate_left
                · intro w'
                  go_simp
                  with_reducible rfl
                rotate_left
                · simp only [Act.put, List.setIfInBounds_toArray, List.set_cons_zero, List.set_cons_succ, i64_w, i32_w]
                  rfl
                refine pure_ (i := 4) (N := some 21) (v := ?_) (a' := ?_) #[true, true, true, false, true, false, false, false, false, false] rfl rfl (any_of HT_.out (by kernel_rfl)) (fun _ _ _ h => h) (Or.inl ⟨by rfl, ?_⟩) ?_ ?_
                rotate_left
                · intro w'
                  go_simp
                  with_reducible rfl
                rotate_left
                · simp only [Act.put, List.setIfInBounds_toArray, List.set_cons_zero, List.set_cons_succ, i64_w, i32_w]
                  rfl
                refine pure_ (i := 5) (N := some 22) (v := ?_) (a' := ?_) #[true, true, true, false, true, true, false, false, false, false] rfl rfl (any_of HT_.out (by kernel_rfl)) (fun _ _ _ h => h) (Or.inl ⟨by rfl, ?_⟩) ?_ ?_
                rotate_left
                · intro w'
                  go_simp
                  with_reducible rfl
                rotate_left
                · simp only [Act.put, List.setIfInBounds_toArray, List.set_cons_zero, List.set_cons_succ, i64_w, i32_w]
                  rfl
                refine pure_ (i := 6) (N := some 23) (v := ?_) (a' := ?_) #[true, true, true, false, true, true, true, false, false, false] rfl rfl (any_of HT_.out (by kernel_rfl)) (fun _ _ _ h => h) (Or.inl ⟨by rfl, ?_⟩) ?_ ?_
                rotate_left
                · intro w'
                  go_simp
                  with_reducible rfl
                rotate_left
                · simp only [Act.put, List.setIfInBounds_toArray, List.set_cons_zero, List.set_cons_succ, i64_w, i32_w]
                  rfl
                refine take_ (i := 3) (N := some 20) (v := ?_) (a' := ?_) #[true, true, true, true, true, true, true, false, false, false] rfl rfl (take_ofW HT_.out HW_.out (by kernel_rfl)) (fun _ _ _ h => h) (Or.inl ⟨by rfl, ?_⟩) hHeld ?_ ?_
                rotate_left
                · rintro w' ⟨s0, s1, s2, s3, s4, s5, s6, s7, s8, s9, s10, s11, s12, s13, s14, s15⟩
                  go_simp
                  with_reducible rfl
                rotate_left
                · simp only [Act.put, List.setIfInBounds_toArray, List.set_cons_zero, List.set_cons_succ, i64_w, i32_w]
                  rfl
                refine take_ (i := 7) (N := some 24) (v := ?_) (a' := ?_) #[true, true, true, true, true, true, true, true, false, false] rfl rfl (take_ofW HT_.out HW_.out (by kernel_rfl)) (fun _ _ _ h => h) (Or.inl ⟨by rfl, ?_⟩) hHeld ?_ ?_
                rotate_left
                · rintro w' ⟨s0, s1, s2, s3, s4, s5, s6, s7, s8, s9, s10, s11, s12, s13, s14, s15⟩
                  go_simp
                  with_reducible rfl
                rotate_left
                · simp only [Act.put, List.setIfInBounds_toArray, List.set_cons_zero, List.set_cons_succ, i64_w, i32_w]
                  rfl
                refine one_ (i := 8) (N := some 25) #[true, true, true, true, true, true, true, true, true, false] rfl rfl (one_of HT_.out (by kernel_rfl)) (by decide) (fun K hK => ?_)
                refine goes_ Try.func24 (by kernel_rfl) rfl #[.agg #[.int .i64 ((rd_T38 l0 x5_1).f0.f0), .int .i64 ((rd_T38 l0 x5_1).f0.f1), .float .f64 ((rd_T38 l0 x5_1).f0.f2), .slice A276_3 ((rd_T38 l0 x5_1).f0.f3).length c276_3, .int .i64 ((rd_T38 l0 x5_1).f1.f0), .int .i64 ((rd_T38 l0 x5_1).f1.f1), .float .f64 ((rd_T38 l0 x5_1).f1.f2), .slice A276_7 ((rd_T38 l0 x5_1).f1.f3).length c276_7], .agg #[.int .i64 ((rd_T38 l1 x5_1).f0.f0), .int .i64 ((rd_T38 l1 x5_1).f0.f1), .float .f64 ((rd_T38 l1 x5_1).f0.f2), .slice A277_3 ((rd_T38 l1 x5_1).f0.f3).length c277_3, .int .i64 ((rd_T38 l1 x5_1).f1.f0), .int .i64 ((rd_T38 l1 x5_1).f1.f1), .float .f64 ((rd_T38 l1 x5_1).f1.f2), .slice A277_7 ((rd_T38 l1 x5_1).f1.f3).length c277_7]] (by rfl) rfl rfl (by (try simp only [List.map_toArray, List.map_cons, List.map_nil]); first | done | rfl | (simp only [List.length_drop, List.length_take]; rfl)) ?_
                with_reducible refine (laws_eqSpan.calls k1 ((rd_T38 l0 x5_1).f0.f0) ((rd_T38 l0 x5_1).f0.f1) ((rd_T38 l0 x5_1).f0.f2) _ _ ((rd_T38 l0 x5_1).f0.f3) ((rd_T38 l0 x5_1).f1.f0) ((rd_T38 l0 x5_1).f1.f1) ((rd_T38 l0 x5_1).f1.f2) _ _ ((rd_T38 l0 x5_1).f1.f3) ((rd_T38 l1 x5_1).f0.f0) ((rd_T38 l1 x5_1).f0.f1) ((rd_T38 l1 x5_1).f0.f2) _ _ ((rd_T38 l1 x5_1).f0.f3) ((rd_T38 l1 x5_1).f1.f0) ((rd_T38 l1 x5_1).f1.f1) ((rd_T38 l1 x5_1).f1.f2) _ _ ((rd_T38 l1 x5_1).f1.f3) true _ ?side1 ?side2 ?side3 ?side4 ?side5 ?side6 ?side7 ?side8 A7.out rfl).mono ?_
                (case side1 => repeat (first | exact (Kd.C_below HR276_3.out HB.out) | (with_reducible refine Kd.C_alloc ?_ _) | (with_reducible refine Kd.C_drewN ?_ _) | (with_reducible refine Kd.C_drew ?_)))
                (case side2 => exact HC276_3.out)
                (case side3 => repeat (first | exact (Kd.C_below HR276_7.out HB.out) | (with_reducible refine Kd.C_alloc ?_ _) | (with_reducible refine Kd.C_drewN ?_ _) | (with_reducible refine Kd.C_drew ?_)))
                (case side4 => exact HC276_7.out)
                (case side5 => repeat (first | exact (Kd.C_below HR277_3.out HB.out) | (with_reducible refine Kd.C_alloc ?_ _) | (with_reducible refine Kd.C_drewN ?_ _) | (with_reducible refine Kd.C_drew ?_)))
                (case side6 => exact HC277_3.out)
                (case side7 => repeat (first | exact (Kd.C_below HR277_7.out HB.out) | (with_reducible refine Kd.C_alloc ?_ _) | (with_reducible refine Kd.C_drewN ?_ _) | (with_reducible refine Kd.C_drew ?_)))
                (case side8 => exact HC277_7.out)
                rintro e w10 ⟨rfl, hb⟩
                refine ⟨_, rfl, ?_⟩
                have n0_ := Aside0.mk (below_step (by repeat (first | (with_reducible first | exact HB.out | apply below_alloc | apply pw_below_drewN | apply below_drew1) | exact HB.out)) hb)
                clear HB
                have HB := n0_
                clear n0_
                (try clear hb)
                (try clear hb2)
                (try clear hk)
                (try clear hi)
                refine hK.out _ _ ⟨((HB.out.cell (World.block_lt_of_cell? w _ hw276_0)).trans hw276_0), ((HB.out.cell (World.block_lt_of_cell? w _ hw276_1)).trans hw276_1), ((HB.out.cell (World.block_lt_of_cell? w _ hw276_2)).trans hw276_2), ((HB.out.cell (World.block_lt_of_cell? w _ hw276_3)).trans hw276_3), ((HB.out.cell (World.block_lt_of_cell? w _ hw276_4)).trans hw276_4), ((HB.out.cell (World.block_lt_of_cell? w _ hw276_5)).trans hw276_5), ((HB.out.cell (World.block_lt_of_cell? w _ hw276_6)).trans hw276_6), ((HB.out.cell (World.block_lt_of_cell? w _ hw276_7)).trans hw276_7), ((HB.out.cell (World.block_lt_of_cell? w _ hw277_0)).trans hw277_0), ((HB.out.cell (World.block_lt_of_cell? w _ hw277_1)).trans hw277_1), ((HB.out.cell (World.block_lt_of_cell? w _ hw277_2)).trans hw277_2), ((HB.out.cell (World.block_lt_of_cell? w _ hw277_3)).trans hw277_3), ((HB.out.cell (World.block_lt_of_cell? w _ hw277_4)).trans hw277_4), ((HB.out.cell (World.block_lt_of_cell? w _ hw277_5)).trans hw277_5), ((HB.out.cell (World.block_lt_of_cell? w _ hw277_6)).trans hw277_6), ((HB.out.cell (World.block_lt_of_cell? w _ hw277_7)).trans hw277_7)⟩ (fun hHeld => ?_)
                clear hK K
                refine norm_ (a' := ?_) ?_ ?_
                rotate_left
                · show Act.put _ (some 25) _ = _
                  simp only [Act.put, List.setIfInBounds_toArray, List.set_cons_zero, List.set_cons_succ, i64_w, i32_w]
                  rfl
                refine pure_ (i := 9) (N := some 26) (v := ?_) (a' := ?_) #[true, true, true, true, true, true, true, true, true, true] rfl rfl (any_of HT_.out (by kernel_rfl)) (fun _ _ _ h => h) (Or.inl ⟨by rfl, ?_⟩) ?_ ?_
                rotate_left
                · intro w'
                  go_simp
                  with_reducible rfl
                rotate_left
                · simp only [Act.put, List.setIfInBounds_toArray, List.set_cons_zero, List.set_cons_succ, i64_w, i32_w]
                  rfl
                refine done_ (done_of HT_.out (by kernel_rfl)) ?_
                try go_wp2
                go_roundg k1
                case measure => have := HK1.out; omega
                case rel => exact ⟨(wrap64 (x5_1 + 1)), (by first | rfl | (simp; done) | (simp [*]; done)), H', ⟨by have := HK1.out; omega⟩, ⟨by repeat (first | (with_reducible first | exact HB.out | apply below_alloc | apply pw_below_drewN | apply below_drew1) | exact HB.out)⟩⟩
              · replace c8 := Bool.eq_false_iff.mpr c8
                subst c8
                have H1 : (some false) = some r := by rw [if_neg (show ¬ (false = true) by decide)] at H; exact H
                clear H
                have H := H1
                clear H1
                exact absurd (Option.some.inj H) (by rw [hrt]; decide)
            · rw [if_neg c6] at H
              exact absurd H (by simp)
          · rw [if_neg c5] at H
            exact absurd H (by simp)
        · rw [if_neg c4] at H
          have c4b0 : decide (x5_1 < (l0.length : Int)) = false := decide_eq_false c4
          clear c4
          obtain rfl := Option.some.inj H
          go_wp2
          go_ret
          exact ⟨by first | rfl | (simp [errW_none, errW_some] <;> rfl) | (simp [*, errW_none, errW_some] <;> rfl), by repeat (first | (with_reducible first | exact HB.out | apply below_alloc | apply pw_below_drewN | apply below_drew1) | exact HB.out)⟩
  · rw [if_neg c3] at H
    have c3b0 : ((l0.length : Int) == (l1.length : Int)) = false := beq_eq_false_iff_ne.mpr c3
    have c3b1 : ((l0.length : Int) != (l1.length : Int)) = true := bne_iff_ne.mpr c3
    have c3b2 : (l0.length == l1.length) = false := by first | simpa using c3 | (simp at c3 ⊢; omega)
    exact absurd (Option.some.inj H) (by rw [hrt]; decide)

/-! ### laws_eqItemS: function 90 -/
def laws_eqItemS.l0 : Nat → List (S27) → List (S27) → Int → Option (Bool)
  | 0, _, _, _ => none
  | k + 1, x0, x1, x5 => if x5 < (x0.length : Int) then (if 0 ≤ x5 then (if x5 < (x1.length : Int) then ((laws_eqItem.f k ((rd_T27 x0 x5).f0) ((rd_T27 x0 x5).f1) ((rd_T27 x0 x5).f2) ((rd_T27 x0 x5).f3) ((rd_T27 x1 x5).f0) ((rd_T27 x1 x5).f1) ((rd_T27 x1 x5).f2) ((rd_T27 x1 x5).f3)).bind fun t281 => (if t281 = true then (laws_eqItemS.l0 k x0 x1 (wrap64 (x5 + 1))) else (some false))) else (none)) else (none)) else (some true)
def laws_eqItemS.f (k : Nat) (l0 : List (S27)) (l1 : List (S27)) : Option (Bool) := if (l0.length : Int) = (l1.length : Int) then (laws_eqItemS.l0 k l0 l1 0) else (some false)
theorem laws_eqItemS.mono_l : ∀ k, (∀ y0 y1 y2, LeO (laws_eqItemS.l0 k y0 y1 y2) (laws_eqItemS.l0 (k + 1) y0 y1 y2))
  | 0 => fun _ _ _ r h => by simp [laws_eqItemS.l0] at h
  | k + 1 => by
    have ih0 := laws_eqItemS.mono_l k
    · intro y0 y1 y2
      unfold laws_eqItemS.l0
      repeat' first
      | (with_reducible exact ih0 _ _ _)
      | (with_reducible exact laws_eqItem.mono _ _ _ _ _ _ _ _ _)
      | (with_reducible exact LeO.refl _)
      | (with_reducible exact LeO.none _)
      | (with_reducible refine LeO.ite ?_ ?_)
      | (with_reducible refine LeO.bind ?_ (fun _ => ?_))
      | exact ih0 _ _ _
      | exact laws_eqItem.mono _ _ _ _ _ _ _ _ _
      | exact LeO.none _
      | refine LeO.ite ?_ ?_
      | refine LeO.bind ?_ (fun _ => ?_)
theorem laws_eqItemS.mono : ∀ a0 a1 k, LeO (laws_eqItemS.f k a0 a1) (laws_eqItemS.f (k + 1) a0 a1) := by
  intro a0 a1 k
  have ih0 := laws_eqItemS.mono_l k
  unfold laws_eqItemS.f
  repeat' first
      | (with_reducible exact ih0 _ _ _)
      | (with_reducible exact laws_eqItem.mono _ _ _ _ _ _ _ _ _)
      | (with_reducible exact LeO.refl _)
      | (with_reducible exact LeO.none _)
      | (with_reducible refine LeO.ite ?_ ?_)
      | (with_reducible refine LeO.bind ?_ (fun _ => ?_))
      | exact ih0 _ _ _
      | exact laws_eqItem.mono _ _ _ _ _ _ _ _ _
      | exact LeO.none _
      | refine LeO.ite ?_ ?_
      | refine LeO.bind ?_ (fun _ => ?_)
def laws_eqItemS.T6 : Bool × List (List Nat × List Nat) := (true, [([], []), ([], []), ([0, 1], [0, 1]), ([2], [2]), ([], []), ([], []), ([4, 5], [4, 5]), ([6], [6]), ([3, 7], [3, 7]), ([8], [8])])
def laws_eqItemS.B6 : List Nat := [0, 0, 3, 7, 0, 0, 48, 112, 255, 511]
theorem laws_eqItemS.tab6 : rtab .any (opsOf Try.f90 6) = laws_eqItemS.T6 := by kernel_rfl
theorem laws_eqItemS.bits6 : waitsOk laws_eqItemS.T6.2 laws_eqItemS.B6 = true := by kernel_rfl
set_option maxHeartbeats 8000000 in
set_option maxRecDepth 100000 in
theorem laws_eqItemS.calls (k : Nat) (A0 : Option Addr) (c0 : Nat) (l0 : List (S27)) (A1 : Option Addr) (c1 : Nat) (l1 : List (S27)) (r : Bool) (w : World) (hr0 : Kd.C k27 w A0 l0.length l0) (hc0 : l0.length ≤ c0) (hr1 : Kd.C k27 w A1 l1.length l1) (hc1 : l1.length ≤ c1) (h : laws_eqItemS.f k l0 l1 = some r) (hrt : r = true) :
    Calls Try.prog 90 #[.slice A0 l0.length c0, .slice A1 l1.length c1] w fun e w' => e = .returned (.bool r) ∧ Below w.heap.size w w' := by
  have hu27 := Try.underlying27
  have HR0 := Aside0.mk hr0
  have HC0 := Aside0.mk hc0
  clear hr0 hc0
  have HR1 := Aside0.mk hr1
  have HC1 := Aside0.mk hc1
  clear hr1 hc1
  have HB := Aside0.mk (Below.refl w.heap.size w)
  have H : (if (l0.length : Int) = (l1.length : Int) then (laws_eqItemS.l0 k l0 l1 0) else (some false)) = some r := h
  clear h
  by_cases c3 : (l0.length : Int) = (l1.length : Int)
  · rw [if_pos c3] at H
    have c3b0 : ((l0.length : Int) == (l1.length : Int)) = true := beq_iff_eq.mpr c3
    have c3b1 : ((l0.length : Int) != (l1.length : Int)) = false := bne_eq_false_iff_eq.mpr c3
    have c3b2 : (l0.length == l1.length) = true := by first | simpa using c3 | (simp at c3 ⊢; omega)
    clear c3
    have H' := Aside0.mk H
    clear H
    go_enter Try.func90, Try.ntmps90
    go_wp2
    go_loopg [5] k (fun kq v5 w' => ∃ (x5_1 : Int), v5 = .int .i64 x5_1 ∧ Aside0 (laws_eqItemS.l0 kq l0 l1 x5_1 = some r) ∧ Aside0 (kq ≤ k) ∧ Aside0 (Below w.heap.size w w'))
    case atStart => exact ⟨(0), (by first | rfl | (simp; done) | (simp [*]; done)), H', ⟨Nat.le_refl _⟩, ⟨by repeat (first | (with_reducible first | exact HB.out | apply below_alloc | apply pw_below_drewN | apply below_drew1) | exact HB.out)⟩⟩
    case round =>
      clear H'
      try clear c1
      try clear p2
      try clear c3
      try clear c3b0
      try clear c3b1
      try clear c3b2
      obtain ⟨x5_1, rfl, HA, HK1, HB⟩ := hrel
      cases gk with
      | zero => exact absurd HA.out (by simp [laws_eqItemS.l0])
      | succ k1 =>
        have H := HA.out
        clear HA
        simp only [laws_eqItemS.l0] at H
        by_cases c4 : x5_1 < (l0.length : Int)
        · rw [if_pos c4] at H
          have c4b0 : decide (x5_1 < (l0.length : Int)) = true := decide_eq_true c4
          clear c4
          by_cases c5 : 0 ≤ x5_1
          · rw [if_pos c5] at H
            have c5b0 : decide (0 ≤ x5_1) = true := decide_eq_true c5
            clear c5
            by_cases c6 : x5_1 < (l1.length : Int)
            · rw [if_pos c6] at H
              have c6b0 : decide (x5_1 < (l1.length : Int)) = true := decide_eq_true c6
              clear c6
              replace H := Option.bind_eq_some_iff.mp H
              obtain ⟨t281, A70, H⟩ := H
              replace H : (if t281 = true then (laws_eqItemS.l0 k1 l0 l1 (wrap64 (x5_1 + 1))) else (some false)) = some r := H
              have A7 := Aside0.mk A70
              clear A70
              by_cases c8 : t281 = true
              · subst c8
                have H1 : (laws_eqItemS.l0 k1 l0 l1 (wrap64 (x5_1 + 1))) = some r := by rw [if_pos rfl] at H; exact H
                clear H
                have H := H1
                clear H1
                have H' := Aside0.mk H
                clear H
                try go_wp2
                have n0_ := Aside0.mk (below_drew1 HB.out)
                clear HB
                have HB := n0_
                clear n0_
                have p279 : 0 ≤ (x5_1 : Int) := of_decide_eq_true (by first | (with_reducible assumption) | assumption)
                have q279 : x5_1 < (l0.length : Int) := of_decide_eq_true (by first | (with_reducible assumption) | assumption)
                obtain ⟨ad279, A279_3, c279_3, e279, hx279_0, hx279_1, hx279_2, hx279_3, hl279_3, hi279_3⟩ := at_T27 HR0.out x5_1 p279 q279
                have hw279_3 := hx279_3
                have hw279_2 := hx279_2
                have hw279_1 := hx279_1
                have hw279_0 := hx279_0
                cases e279
                replace hx279_0 := (HB.out.cell (World.block_lt_of_cell? w _ hx279_0)).trans hx279_0
                replace hx279_1 := (HB.out.cell (World.block_lt_of_cell? w _ hx279_1)).trans hx279_1
                replace hx279_2 := (HB.out.cell (World.block_lt_of_cell? w _ hx279_2)).trans hx279_2
                replace hx279_3 := (HB.out.cell (World.block_lt_of_cell? w _ hx279_3)).trans hx279_3
                have HR279_3 := Aside0.mk hi279_3
                have HC279_3 := Aside0.mk hl279_3
                clear hi279_3 hl279_3
                replace p279 := eq_true p279
                replace q279 := eq_true q279
                have p280 : 0 ≤ (x5_1 : Int) := of_decide_eq_true (by first | (with_reducible assumption) | assumption)
                have q280 : x5_1 < (l1.length : Int) := of_decide_eq_true (by first | (with_reducible assumption) | assumption)
                obtain ⟨ad280, A280_3, c280_3, e280, hx280_0, hx280_1, hx280_2, hx280_3, hl280_3, hi280_3⟩ := at_T27 HR1.out x5_1 p280 q280
                have hw280_3 := hx280_3
                have hw280_2 := hx280_2
                have hw280_1 := hx280_1
                have hw280_0 := hx280_0
                cases e280
                replace hx280_0 := (HB.out.cell (World.block_lt_of_cell? w _ hx280_0)).trans hx280_0
                replace hx280_1 := (HB.out.cell (World.block_lt_of_cell? w _ hx280_1)).trans hx280_1
                replace hx280_2 := (HB.out.cell (World.block_lt_of_cell? w _ hx280_2)).trans hx280_2
                replace hx280_3 := (HB.out.cell (World.block_lt_of_cell? w _ hx280_3)).trans hx280_3
                have HR280_3 := Aside0.mk hi280_3
                have HC280_3 := Aside0.mk hl280_3
                clear hi280_3 hl280_3
                replace p280 := eq_true p280
                replace q280 := eq_true q280
                refine start_ (n := 10) (S := fun w' => w'.cell? (ad279.add ((x5_1).toNat * 4)) = some (.int .i64 ((rd_T27 l0 x5_1).f0)) ∧ w'.cell? ⟨(ad279.add ((x5_1).toNat * 4)).block, (ad279.add ((x5_1).toNat * 4)).off + 1, none⟩ = some (.int .i64 ((rd_T27 l0 x5_1).f1)) ∧ w'.cell? ⟨(ad279.add ((x5_1).toNat * 4)).block, (ad279.add ((x5_1).toNat * 4)).off + 2, none⟩ = some (.float .f64 ((rd_T27 l0 x5_1).f2)) ∧ w'.cell? ⟨(ad279.add ((x5_1).toNat * 4)).block, (ad279.add ((x5_1).toNat * 4)).off + 3, none⟩ = some (.slice A279_3 ((rd_T27 l0 x5_1).f3).length c279_3) ∧ w'.cell? (ad280.add ((x5_1).toNat * 4)) = some (.int .i64 ((rd_T27 l1 x5_1).f0)) ∧ w'.cell? ⟨(ad280.add ((x5_1).toNat * 4)).block, (ad280.add ((x5_1).toNat * 4)).off + 1, none⟩ = some (.int .i64 ((rd_T27 l1 x5_1).f1)) ∧ w'.cell? ⟨(ad280.add ((x5_1).toNat * 4)).block, (ad280.add ((x5_1).toNat * 4)).off + 2, none⟩ = some (.float .f64 ((rd_T27 l1 x5_1).f2)) ∧ w'.cell? ⟨(ad280.add ((x5_1).toNat * 4)).block, (ad280.add ((x5_1).toNat * 4)).off + 3, none⟩ = some (.slice A280_3 ((rd_T27 l1 x5_1).f3).length c280_3)) (ds := []) #[false, false, false, false, false, false, false, false, false, false] (by kernel_rfl) rfl rfl ⟨((HB.out.cell (World.block_lt_of_cell? w _ hw279_0)).trans hw279_0), ((HB.out.cell (World.block_lt_of_cell? w _ hw279_1)).trans hw279_1), ((HB.out.cell (World.block_lt_of_cell? w _ hw279_2)).trans hw279_2), ((HB.out.cell (World.block_lt_of_cell? w _ hw279_3)).trans hw279_3), ((HB.out.cell (World.block_lt_of_cell? w _ hw280_0)).trans hw280_0), ((HB.out.cell (World.block_lt_of_cell? w _ hw280_1)).trans hw280_1), ((HB.out.cell (World.block_lt_of_cell? w _ hw280_2)).trans hw280_2), ((HB.out.cell (World.block_lt_of_cell? w _ hw280_3)).trans hw280_3)⟩ (fun hHeld => ?_); refine with_tabW laws_eqItemS.tab6 laws_eqItemS.bits6 (fun HT_ HW_ => ?_)
                generalize wr.drew = w9 at HB HR279_3 HR280_3 hx279_0 hx279_1 hx279_2 hx279_3 hx280_0 hx280_1 hx280_2 hx280_3 hHeld ⊢
                refine pure_ (i := 0) (N := some 17) (v := ?_) (a' := ?_) #[true, false, false, false, false, false, false, false, false, false] rfl rfl (any_of HT_.out (by kernel_rfl)) (fun _ _ _ h => h) (Or.inl ⟨by rfl, ?_⟩) ?_ ?_
                rotate_left
                · intro w'
                  go_simp
                  with_reducible rfl
                rotate_left
                · simp only [Act.put, List.setIfInBounds_toArray, List.set_cons_zero, List.set_cons_succ, i64_w, i32_w]
                  rfl
                refine pure_ (i := 1) (N := some 18) (v := ?_) (a' := ?_) #[true, true, false, false, false, false, false, false, false, false] rfl rfl (any_of HT_.out (by kernel_rfl)) (fun _ _ _ h => h) (Or.inl ⟨by rfl, ?_⟩) ?_ ?_
                rotate_left
                · intro w'
                  go_simp
                  with_reducible rfl
                rotate_left
                · simp only [Act.put, List.setIfInBounds_toArray, List.set_cons_zero, List.set_cons_succ, i64_w, i32_w]
                  rfl
                refine pure_ (i := 2) (N := some 19) (v := ?_) (a' := ?_) #[true, true, true, false, false, false, false, false, false, false] rfl rfl (any_of HT_.out (by kernel_rfl)) (fun _ _ _ h => h) (Or.inl ⟨by rfl, ?_⟩) ?_ ?_
                rotate_left
                · intro w'
                  go_simp
                  with_reducible rfl
                rotate_left
                · simp only [Act.put, List.setIfInBounds_toArray, List.set_cons_zero, List.set_cons_succ, i64_w, i32_w]
                  rfl
                refine pure_ (i := 4) (N := some 21) (v := ?_) (a' := ?_) #[true, true, true, false, true, false, false, false, false, false] rfl rfl (any_of HT_.out (by kernel_rfl)) (fun _ _ _ h => h) (Or.inl ⟨by rfl, ?_⟩) ?_ ?_
                rotate_left
                · intro w'
                  go_simp
                  with_reducible rfl
                rotate_left
                · simp only [Act.put, List.setIfInBounds_toArray, List.set_cons_zero, List.set_cons_succ, i64_w, i32_w]
                  rfl
                refine pure_ (i := 5) (N := some 22) (v := ?_) (a' := ?_) #[true, true, true, false, true, true, false, false, false, false] rfl rfl (any_of HT_.out (by kernel_rfl)) (fun _ _ _ h => h) (Or.inl ⟨by rfl, ?_⟩) ?_ ?_
                rotate_left
                · intro w'
                  go_simp
                  with_reducible rfl
                rotate_left
                · simp only [Act.put, List.setIfInBounds_toArray, List.set_cons_zero, List.set_cons_succ, i64_w, i32_w]
                  rfl
                refine pure_ (i := 6) (N := some 23) (v := ?_) (a' := ?_) #[true, true, true, false, true, true, true, false, false, false] rfl rfl (any_of HT_.out (by kernel_rfl)) (fun _ _ _ h => h) (Or.inl ⟨by rfl, ?_⟩) ?_ ?_
                rotate_left
                · intro w'
                  go_simp
                  with_reducible rfl
                rotate_left
                · simp only [Act.put, List.setIfInBounds_toArray, List.set_cons_zero, List.set_cons_succ, i64_w, i32_w]
                  rfl
                refine take_ (i := 3) (N := some 20) (v := ?_) (a' := ?_) #[true, true, true, true, true, true, true, false, false, false] rfl rfl (take_ofW HT_.out HW_.out (by kernel_rfl)) (fun _ _ _ h => h) (Or.inl ⟨by rfl, ?_⟩) hHeld ?_ ?_
                rotate_left
                · rintro w' ⟨s0, s1, s2, s3, s4, s5, s6, s7⟩
                  go_simp
                  with_reducible rfl
                rotate_left
                · simp only [Act.put, List.setIfInBounds_toArray, List.set_cons_zero, List.set_cons_succ, i64_w, i32_w]
                  rfl
                refine take_ (i := 7) (N := some 24) (v := ?_) (a' := ?_) #[true, true, true, true, true, true, true, true, false, false] rfl rfl (take_ofW HT_.out HW_.out (by kernel_rfl)) (fun _ _ _ h => h) (Or.inl ⟨by rfl, ?_⟩) hHeld ?_ ?_
                rotate_left
                · rintro w' ⟨s0, s1, s2, s3, s4, s5, s6, s7⟩
                  go_simp
                  with_reducible rfl
                rotate_left
                · simp only [Act.put, List.setIfInBounds_toArray, List.set_cons_zero, List.set_cons_succ, i64_w, i32_w]
                  rfl
                refine one_ (i := 8) (N := some 25) #[true, true, true, true, true, true, true, true, true, false] rfl rfl (one_of HT_.out (by kernel_rfl)) (by decide) (fun K hK => ?_)
                refine goes_ Try.func17 (by kernel_rfl) rfl #[.agg #[.int .i64 ((rd_T27 l0 x5_1).f0), .int .i64 ((rd_T27 l0 x5_1).f1), .float .f64 ((rd_T27 l0 x5_1).f2), .slice A279_3 ((rd_T27 l0 x5_1).f3).length c279_3], .agg #[.int .i64 ((rd_T27 l1 x5_1).f0), .int .i64 ((rd_T27 l1 x5_1).f1), .float .f64 ((rd_T27 l1 x5_1).f2), .slice A280_3 ((rd_T27 l1 x5_1).f3).length c280_3]] (by rfl) rfl rfl (by (try simp only [List.map_toArray, List.map_cons, List.map_nil]); first | done | rfl | (simp only [List.length_drop, List.length_take]; rfl)) ?_
                with_reducible refine (laws_eqItem.calls k1 ((rd_T27 l0 x5_1).f0) ((rd_T27 l0 x5_1).f1) ((rd_T27 l0 x5_1).f2) _ _ ((rd_T27 l0 x5_1).f3) ((rd_T27 l1 x5_1).f0) ((rd_T27 l1 x5_1).f1) ((rd_T27 l1 x5_1).f2) _ _ ((rd_T27 l1 x5_1).f3) true _ ?side1 ?side2 ?side3 ?side4 A7.out rfl).mono ?_
                (case side1 => repeat (first | exact (Kd.C_below HR279_3.out HB.out) | (with_reducible refine Kd.C_alloc ?_ _) | (with_reducible refine Kd.C_drewN ?_ _) | (with_reducible refine Kd.C_drew ?_)))
                (case side2 => exact HC279_3.out)
                (case side3 => repeat (first | exact (Kd.C_below HR280_3.out HB.out) | (with_reducible refine Kd.C_alloc ?_ _) | (with_reducible refine Kd.C_drewN ?_ _) | (with_reducible refine Kd.C_drew ?_)))
                (case side4 => exact HC280_3.out)
                rintro e w10 ⟨rfl, hb⟩
                refine ⟨_, rfl, ?_⟩
                have n0_ := Aside0.mk (below_step (by repeat (first | (with_reducible first | exact HB.out | apply below_alloc | apply pw_below_drewN | apply below_drew1) | exact HB.out)) hb)
                clear HB
                have HB := n0_
                clear n0_
                (try clear hb)
                (try clear hb2)
                (try clear hk)
                (try clear hi)
                refine hK.out _ _ ⟨((HB.out.cell (World.block_lt_of_cell? w _ hw279_0)).trans hw279_0), ((HB.out.cell (World.block_lt_of_cell? w _ hw279_1)).trans hw279_1), ((HB.out.cell (World.block_lt_of_cell? w _ hw279_2)).trans hw279_2), ((HB.out.cell (World.block_lt_of_cell? w _ hw279_3)).trans hw279_3), ((HB.out.cell (World.block_lt_of_cell? w _ hw280_0)).trans hw280_0), ((HB.out.cell (World.block_lt_of_cell? w _ hw280_1)).trans hw280_1), ((HB.out.cell (World.block_lt_of_cell? w _ hw280_2)).trans hw280_2), ((HB.out.cell (World.block_lt_of_cell? w _ hw280_3)).trans hw280_3)⟩ (fun hHeld => ?_)
                clear hK K
                refine norm_ (a' := ?_) ?_ ?_
                rotate_left
                · show Act.put _ (some 25) _ = _
                  simp only [Act.put, List.setIfInBounds_toArray, List.set_cons_zero, List.set_cons_succ, i64_w, i32_w]
                  rfl
                refine pure_ (i := 9) (N := some 26) (v := ?_) (a' := ?_) #[true, true, true, true, true, true, true, true, true, true] rfl rfl (any_of HT_.out (by kernel_rfl)) (fun _ _ _ h => h) (Or.inl ⟨by rfl, ?_⟩) ?_ ?_
                rotate_left
                · intro w'
                  go_simp
                  with_reducible rfl
                rotate_left
                · simp only [Act.put, List.setIfInBounds_toArray, List.set_cons_zero, List.set_cons_succ, i64_w, i32_w]
                  rfl
                refine done_ (done_of HT_.out (by kernel_rfl)) ?_
                try go_wp2
                go_roundg k1
                case measure => have := HK1.out; omega
                case rel => exact ⟨(wrap64 (x5_1 + 1)), (by first | rfl | (simp; done) | (simp [*]; done)), H', ⟨by have := HK1.out; omega⟩, ⟨by repeat (first | (with_reducible first | exact HB.out | apply below_alloc | apply pw_below_drewN | apply below_drew1) | exact HB.out)⟩⟩
              · replace c8 := Bool.eq_false_iff.mpr c8
                subst c8
                have H1 : (some false) = some r := by rw [if_neg (show ¬ (false = true) by decide)] at H; exact H
                clear H
                have H := H1
                clear H1
                exact absurd (Option.some.inj H) (by rw [hrt]; decide)
            · rw [if_neg c6] at H
              exact absurd H (by simp)
          · rw [if_neg c5] at H
            exact absurd H (by simp)
        · rw [if_neg c4] at H
          have c4b0 : decide (x5_1 < (l0.length : Int)) = false := decide_eq_false c4
          clear c4
          obtain rfl := Option.some.inj H
          go_wp2
          go_ret
          exact ⟨by first | rfl | (simp [errW_none, errW_some] <;> rfl) | (simp [*, errW_none, errW_some] <;> rfl), by repeat (first | (with_reducible first | exact HB.out | apply below_alloc | apply pw_below_drewN | apply below_drew1) | exact HB.out)⟩
  · rw [if_neg c3] at H
    have c3b0 : ((l0.length : Int) == (l1.length : Int)) = false := beq_eq_false_iff_ne.mpr c3
    have c3b1 : ((l0.length : Int) != (l1.length : Int)) = true := bne_iff_ne.mpr c3
    have c3b2 : (l0.length == l1.length) = false := by first | simpa using c3 | (simp at c3 ⊢; omega)
    exact absurd (Option.some.inj H) (by rw [hrt]; decide)

/-! ### laws_eqTrack: function 34 -/
def laws_eqTrack.f (k : Nat) (a0_0 : Int) (a0_1 : Int) (a0_2 : Int) (a0_3 : Bool) (l0_4 : List (S38)) (l0_5 : List (S27)) (a0_6 : Bool) (a0_7 : Bool) (a1_0 : Int) (a1_1 : Int) (a1_2 : Int) (a1_3 : Bool) (l1_4 : List (S38)) (l1_5 : List (S27)) (a1_6 : Bool) (a1_7 : Bool) : Option (Bool) := if a0_0 = a1_0 then (if a0_1 = a1_1 then (if a0_2 = a1_2 then (if (a0_3 != a1_3) = true then (some false) else ((laws_eqSpanS.f k l0_4 l1_4).bind fun t284 => (if t284 = true then ((laws_eqItemS.f k l0_5 l1_5).bind fun t285 => (if t285 = true then (if (a0_6 != a1_6) = true then (some false) else (if (a0_7 != a1_7) = true then (some false) else (some true))) else (some false))) else (some false)))) else (some false)) else (some false)) else (some false)
theorem laws_eqTrack.mono : ∀ a0 a1 a2 a3 a4 a5 a6 a7 a8 a9 a10 a11 a12 a13 a14 a15 k, LeO (laws_eqTrack.f k a0 a1 a2 a3 a4 a5 a6 a7 a8 a9 a10 a11 a12 a13 a14 a15) (laws_eqTrack.f (k + 1) a0 a1 a2 a3 a4 a5 a6 a7 a8 a9 a10 a11 a12 a13 a14 a15) := by
  intro a0 a1 a2 a3 a4 a5 a6 a7 a8 a9 a10 a11 a12 a13 a14 a15 k
  unfold laws_eqTrack.f
  repeat' first
      | (with_reducible exact laws_eqItemS.mono _ _ _)
      | (with_reducible exact laws_eqSpanS.mono _ _ _)
      | (with_reducible exact LeO.refl _)
      | (with_reducible exact LeO.none _)
      | (with_reducible refine LeO.ite ?_ ?_)
      | (with_reducible refine LeO.bind ?_ (fun _ => ?_))
      | exact laws_eqItemS.mono _ _ _
      | exact laws_eqSpanS.mono _ _ _
      | exact LeO.none _
      | refine LeO.ite ?_ ?_
      | refine LeO.bind ?_ (fun _ => ?_)
set_option maxHeartbeats 8000000 in
set_option maxRecDepth 100000 in
theorem laws_eqTrack.calls (k : Nat) (a0_0 : Int) (a0_1 : Int) (a0_2 : Int) (a0_3 : Bool) (A0_4 : Option Addr) (c0_4 : Nat) (l0_4 : List (S38)) (A0_5 : Option Addr) (c0_5 : Nat) (l0_5 : List (S27)) (a0_6 : Bool) (a0_7 : Bool) (a1_0 : Int) (a1_1 : Int) (a1_2 : Int) (a1_3 : Bool) (A1_4 : Option Addr) (c1_4 : Nat) (l1_4 : List (S38)) (A1_5 : Option Addr) (c1_5 : Nat) (l1_5 : List (S27)) (a1_6 : Bool) (a1_7 : Bool) (r : Bool) (w : World) (hr0_4 : Kd.C k38 w A0_4 l0_4.length l0_4) (hc0_4 : l0_4.length ≤ c0_4) (hr0_5 : Kd.C k27 w A0_5 l0_5.length l0_5) (hc0_5 : l0_5.length ≤ c0_5) (hr1_4 : Kd.C k38 w A1_4 l1_4.length l1_4) (hc1_4 : l1_4.length ≤ c1_4) (hr1_5 : Kd.C k27 w A1_5 l1_5.length l1_5) (hc1_5 : l1_5.length ≤ c1_5) (h : laws_eqTrack.f k a0_0 a0_1 a0_2 a0_3 l0_4 l0_5 a0_6 a0_7 a1_0 a1_1 a1_2 a1_3 l1_4 l1_5 a1_6 a1_7 = some r) (hrt : r = true) :
    Calls Try.prog 34 #[.agg #[.int .i64 a0_0, .int .i64 a0_1, .int .i64 a0_2, .bool a0_3, .slice A0_4 l0_4.length c0_4, .slice A0_5 l0_5.length c0_5, .bool a0_6, .bool a0_7], .agg #[.int .i64 a1_0, .int .i64 a1_1, .int .i64 a1_2, .bool a1_3, .slice A1_4 l1_4.length c1_4, .slice A1_5 l1_5.length c1_5, .bool a1_6, .bool a1_7]] w fun e w' => e = .returned (.bool r) ∧ Below w.heap.size w w' := by
  have hu61 := Try.underlying61
  have HR0_4 := Aside0.mk hr0_4
  have HC0_4 := Aside0.mk hc0_4
  clear hr0_4 hc0_4
  have HR0_5 := Aside0.mk hr0_5
  have HC0_5 := Aside0.mk hc0_5
  clear hr0_5 hc0_5
  have HR1_4 := Aside0.mk hr1_4
  have HC1_4 := Aside0.mk hc1_4
  clear hr1_4 hc1_4
  have HR1_5 := Aside0.mk hr1_5
  have HC1_5 := Aside0.mk hc1_5
  clear hr1_5 hc1_5
  have HB := Aside0.mk (Below.refl w.heap.size w)
  have H : (if a0_0 = a1_0 then (if a0_1 = a1_1 then (if a0_2 = a1_2 then (if (a0_3 != a1_3) = true then (some false) else ((laws_eqSpanS.f k l0_4 l1_4).bind fun t284 => (if t284 = true then ((laws_eqItemS.f k l0_5 l1_5).bind fun t285 => (if t285 = true then (if (a0_6 != a1_6) = true then (some false) else (if (a0_7 != a1_7) = true then (some false) else (some true))) else (some false))) else (some false)))) else (some false)) else (some false)) else (some false)) = some r := h
  clear h
  by_cases c3 : a0_0 = a1_0
  · rw [if_pos c3] at H
    have c3b0 : (a0_0 == a1_0) = true := beq_iff_eq.mpr c3
    have c3b1 : (a0_0 != a1_0) = false := bne_eq_false_iff_eq.mpr c3
    clear c3
    by_cases c4 : a0_1 = a1_1
    · rw [if_pos c4] at H
      have c4b0 : (a0_1 == a1_1) = true := beq_iff_eq.mpr c4
      have c4b1 : (a0_1 != a1_1) = false := bne_eq_false_iff_eq.mpr c4
      clear c4
      by_cases c5 : a0_2 = a1_2
      · rw [if_pos c5] at H
        have c5b0 : (a0_2 == a1_2) = true := beq_iff_eq.mpr c5
        have c5b1 : (a0_2 != a1_2) = false := bne_eq_false_iff_eq.mpr c5
        clear c5
        by_cases c6 : (a0_3 != a1_3) = true
        · rw [if_pos c6] at H
          have c6b0 : (a0_3 != a1_3) = true := c6
          (try (have c6b1 : decide (a0_3 = a1_3) = false := by simpa using c6))
          (try (have c6b2 : (a0_3 == a1_3) = false := by simpa using c6))
          (try (have c6b3 : ¬ (a0_3 = a1_3) := by simpa using c6))
          (try (have c6b4 : (!a0_3 == a1_3) = true := by have h_ := c6; cases a0_3 <;> simp at h_ ⊢ <;> first | done | omega | exact List.length_pos_iff.2 h_ | simp_all))
          clear c6
          exact absurd (Option.some.inj H) (by rw [hrt]; decide)
        · rw [if_neg c6] at H
          have c6b0 : (a0_3 != a1_3) = false := by simpa using c6
          (try (have c6b1 : decide (a0_3 = a1_3) = true := by simpa using c6))
          (try (have c6b2 : (a0_3 == a1_3) = true := by simpa using c6))
          (try (have c6b3 : (!a0_3 == a1_3) = false := by have h_ := c6; cases a0_3 <;> simp at h_ ⊢ <;> first | done | omega | exact List.length_pos_iff.2 h_ | simp_all))
          clear c6
          replace H := Option.bind_eq_some_iff.mp H
          obtain ⟨t284, A70, H⟩ := H
          replace H : (if t284 = true then ((laws_eqItemS.f k l0_5 l1_5).bind fun t285 => (if t285 = true then (if (a0_6 != a1_6) = true then (some false) else (if (a0_7 != a1_7) = true then (some false) else (some true))) else (some false))) else (some false)) = some r := H
          have A7 := Aside0.mk A70
          clear A70
          by_cases c8 : t284 = true
          · subst c8
            have H1 : ((laws_eqItemS.f k l0_5 l1_5).bind fun t285 => (if t285 = true then (if (a0_6 != a1_6) = true then (some false) else (if (a0_7 != a1_7) = true then (some false) else (some true))) else (some false))) = some r := by rw [if_pos rfl] at H; exact H
            clear H
            have H := H1
            clear H1
            replace H := Option.bind_eq_some_iff.mp H
            obtain ⟨t285, A90, H⟩ := H
            replace H : (if t285 = true then (if (a0_6 != a1_6) = true then (some false) else (if (a0_7 != a1_7) = true then (some false) else (some true))) else (some false)) = some r := H
            have A9 := Aside0.mk A90
            clear A90
            by_cases c10 : t285 = true
            · subst c10
              have H1 : (if (a0_6 != a1_6) = true then (some false) else (if (a0_7 != a1_7) = true then (some false) else (some true))) = some r := by rw [if_pos rfl] at H; exact H
              clear H
              have H := H1
              clear H1
              by_cases c11 : (a0_6 != a1_6) = true
              · rw [if_pos c11] at H
                have c11b0 : (a0_6 != a1_6) = true := c11
                (try (have c11b1 : decide (a0_6 = a1_6) = false := by simpa using c11))
                (try (have c11b2 : (a0_6 == a1_6) = false := by simpa using c11))
                (try (have c11b3 : ¬ (a0_6 = a1_6) := by simpa using c11))
                (try (have c11b4 : (!a0_6 == a1_6) = true := by have h_ := c11; cases a0_6 <;> simp at h_ ⊢ <;> first | done | omega | exact List.length_pos_iff.2 h_ | simp_all))
                clear c11
                exact absurd (Option.some.inj H) (by rw [hrt]; decide)
              · rw [if_neg c11] at H
                have c11b0 : (a0_6 != a1_6) = false := by simpa using c11
                (try (have c11b1 : decide (a0_6 = a1_6) = true := by simpa using c11))
                (try (have c11b2 : (a0_6 == a1_6) = true := by simpa using c11))
                (try (have c11b3 : (!a0_6 == a1_6) = false := by have h_ := c11; cases a0_6 <;> simp at h_ ⊢ <;> first | done | omega | exact List.length_pos_iff.2 h_ | simp_all))
                clear c11
                by_cases c12 : (a0_7 != a1_7) = true
                · rw [if_pos c12] at H
                  have c12b0 : (a0_7 != a1_7) = true := c12
                  (try (have c12b1 : decide (a0_7 = a1_7) = false := by simpa using c12))
                  (try (have c12b2 : (a0_7 == a1_7) = false := by simpa using c12))
                  (try (have c12b3 : ¬ (a0_7 = a1_7) := by simpa using c12))
                  (try (have c12b4 : (!a0_7 == a1_7) = true := by have h_ := c12; cases a0_7 <;> simp at h_ ⊢ <;> first | done | omega | exact List.length_pos_iff.2 h_ | simp_all))
                  clear c12
                  exact absurd (Option.some.inj H) (by rw [hrt]; decide)
                · rw [if_neg c12] at H
                  have c12b0 : (a0_7 != a1_7) = false := by simpa using c12
                  (try (have c12b1 : decide (a0_7 = a1_7) = true := by simpa using c12))
                  (try (have c12b2 : (a0_7 == a1_7) = true := by simpa using c12))
                  (try (have c12b3 : (!a0_7 == a1_7) = false := by have h_ := c12; cases a0_7 <;> simp at h_ ⊢ <;> first | done | omega | exact List.length_pos_iff.2 h_ | simp_all))
                  clear c12
                  obtain rfl := Option.some.inj H
                  go_enter Try.func34, Try.ntmps34
                  go_wp2_with (first | ((with_reducible refine gate_dst (N := 2) rfl ?_); refine box_event ?hg (N := 2) ?hd (cs := #[.int .i64 a0_0, .int .i64 a0_1, .int .i64 a0_2, .bool a0_3, .slice A0_4 l0_4.length c0_4, .slice A0_5 l0_5.length c0_5, .bool a0_6, .bool a0_7]) (t := 61) ?hr ?_; (case hd => rfl); (case hg => rfl); (case hr => first | (go_simp; done) | (go_simp; rfl)); intro gb282 hg w13 hbox hb; have n0_ := Aside0.mk (below_step (by repeat (first | (with_reducible first | exact HB.out | apply below_alloc | apply pw_below_drewN | apply below_drew1) | exact HB.out)) hb); have n1_ := Aside0.mk (hbox); have n2_ := Aside0.mk ((by rw [hg]; exact (below_size (by repeat (first | (with_reducible first | exact HB.out | apply below_alloc | apply pw_below_drewN | apply below_drew1) | exact HB.out))) : w.heap.size ≤ gb282)); have n3_ := Aside0.mk ((by rw [hg]; exact (below_size (by repeat (first | (with_reducible first | exact HB.out | apply below_alloc | apply pw_below_drewN | apply below_drew1) | exact HB.out))) : w.heap.size ≤ gb282)); clear HB; have HB := n0_; have BK282 := n1_; have GW282 := n2_; have GE282 := n3_; clear n0_ n1_ n2_ n3_; clear hb hbox hg) | ((with_reducible refine gate_dst (N := 3) rfl ?_); refine box_event ?hg (N := 3) ?hd (cs := #[.int .i64 a1_0, .int .i64 a1_1, .int .i64 a1_2, .bool a1_3, .slice A1_4 l1_4.length c1_4, .slice A1_5 l1_5.length c1_5, .bool a1_6, .bool a1_7]) (t := 61) ?hr ?_; (case hd => rfl); (case hg => rfl); (case hr => first | (go_simp; done) | (go_simp; rfl)); intro gb283 hg w14 hbox hb; have n0_ := Aside0.mk (blk_below (g := gb282) (o := .cells #[.int .i64 a0_0, .int .i64 a0_1, .int .i64 a0_2, .bool a0_3, .slice A0_4 l0_4.length c0_4, .slice A0_5 l0_5.length c0_5, .bool a0_6, .bool a0_7] 61 (0, 0)) (by (with_reducible repeat (first | refine blk_drewN ?_ _ | refine blk_drew ?_ | refine blk_alloc ?_ _)); exact BK282.out) hb); have n1_ := Aside0.mk (below_step (by repeat (first | (with_reducible first | exact HB.out | apply below_alloc | apply pw_below_drewN | apply below_drew1 | refine below_set ?_ GE282.out) | exact HB.out)) hb); have n2_ := Aside0.mk (hbox); have n3_ := Aside0.mk ((by rw [hg]; exact (below_size (by repeat (first | (with_reducible first | exact HB.out | apply below_alloc | apply pw_below_drewN | apply below_drew1 | refine below_set ?_ GE282.out) | exact HB.out))) : w.heap.size ≤ gb283)); have n4_ := Aside0.mk ((by rw [hg]; exact (below_size (by repeat (first | (with_reducible first | exact HB.out | apply below_alloc | apply pw_below_drewN | apply below_drew1 | refine below_set ?_ GE282.out) | exact HB.out))) : w.heap.size ≤ gb283)); have n5_ := Aside0.mk ((by rw [hg]; exact Nat.ne_of_lt (blk_lt (g := gb282) (o := .cells #[.int .i64 a0_0, .int .i64 a0_1, .int .i64 a0_2, .bool a0_3, .slice A0_4 l0_4.length c0_4, .slice A0_5 l0_5.length c0_5, .bool a0_6, .bool a0_7] 61 (0, 0)) (by (with_reducible repeat (first | refine blk_drewN ?_ _ | refine blk_drew ?_ | refine blk_alloc ?_ _)); exact BK282.out)) : gb282 ≠ gb283)); have n6_ := Aside0.mk ((by rw [hg]; exact Nat.ne_of_gt (blk_lt (g := gb282) (o := .cells #[.int .i64 a0_0, .int .i64 a0_1, .int .i64 a0_2, .bool a0_3, .slice A0_4 l0_4.length c0_4, .slice A0_5 l0_5.length c0_5, .bool a0_6, .bool a0_7] 61 (0, 0)) (by (with_reducible repeat (first | refine blk_drewN ?_ _ | refine blk_drew ?_ | refine blk_alloc ?_ _)); exact BK282.out)) : gb283 ≠ gb282)); clear BK282; clear HB; have BK282 := n0_; have HB := n1_; have BK283 := n2_; have GW283 := n3_; have GE283 := n4_; have NB282_283 := n5_; have NB283_282 := n6_; clear n0_ n1_ n2_ n3_ n4_ n5_ n6_; clear hb hbox hg; have hnb15 := NB282_283.out; have hnc15 := NB283_282.out; have hcz16_0 : w14.cell? ⟨gb282, 0, none⟩ = some (.int .i64 a0_0) := (blk_cell BK282.out 0).trans rfl; have hcz16_1 : w14.cell? ⟨gb282, 1, none⟩ = some (.int .i64 a0_1) := (blk_cell BK282.out 1).trans rfl; have hcz16_2 : w14.cell? ⟨gb282, 2, none⟩ = some (.int .i64 a0_2) := (blk_cell BK282.out 2).trans rfl; have hcz16_3 : w14.cell? ⟨gb282, 3, none⟩ = some (.bool a0_3) := (blk_cell BK282.out 3).trans rfl; have hcz16_4 : w14.cell? ⟨gb282, 4, none⟩ = some (.slice A0_4 l0_4.length c0_4) := (blk_cell BK282.out 4).trans rfl; have hcz16_5 : w14.cell? ⟨gb282, 5, none⟩ = some (.slice A0_5 l0_5.length c0_5) := (blk_cell BK282.out 5).trans rfl; have hcz16_6 : w14.cell? ⟨gb282, 6, none⟩ = some (.bool a0_6) := (blk_cell BK282.out 6).trans rfl; have hcz16_7 : w14.cell? ⟨gb282, 7, none⟩ = some (.bool a0_7) := (blk_cell BK282.out 7).trans rfl; have hfz16_0 := blk_frozen BK282.out 0; have hfz16_1 := blk_frozen BK282.out 1; have hfz16_2 := blk_frozen BK282.out 2; have hfz16_3 := blk_frozen BK282.out 3; have hfz16_4 := blk_frozen BK282.out 4; have hfz16_5 := blk_frozen BK282.out 5; have hfz16_6 := blk_frozen BK282.out 6; have hfz16_7 := blk_frozen BK282.out 7; have hcz17_0 : w14.cell? ⟨gb283, 0, none⟩ = some (.int .i64 a1_0) := (blk_cell BK283.out 0).trans rfl; have hcz17_1 : w14.cell? ⟨gb283, 1, none⟩ = some (.int .i64 a1_1) := (blk_cell BK283.out 1).trans rfl; have hcz17_2 : w14.cell? ⟨gb283, 2, none⟩ = some (.int .i64 a1_2) := (blk_cell BK283.out 2).trans rfl; have hcz17_3 : w14.cell? ⟨gb283, 3, none⟩ = some (.bool a1_3) := (blk_cell BK283.out 3).trans rfl; have hcz17_4 : w14.cell? ⟨gb283, 4, none⟩ = some (.slice A1_4 l1_4.length c1_4) := (blk_cell BK283.out 4).trans rfl; have hcz17_5 : w14.cell? ⟨gb283, 5, none⟩ = some (.slice A1_5 l1_5.length c1_5) := (blk_cell BK283.out 5).trans rfl; have hcz17_6 : w14.cell? ⟨gb283, 6, none⟩ = some (.bool a1_6) := (blk_cell BK283.out 6).trans rfl; have hcz17_7 : w14.cell? ⟨gb283, 7, none⟩ = some (.bool a1_7) := (blk_cell BK283.out 7).trans rfl; have hfz17_0 := blk_frozen BK283.out 0; have hfz17_1 := blk_frozen BK283.out 1; have hfz17_2 := blk_frozen BK283.out 2; have hfz17_3 := blk_frozen BK283.out 3; have hfz17_4 := blk_frozen BK283.out 4; have hfz17_5 := blk_frozen BK283.out 5; have hfz17_6 := blk_frozen BK283.out 6; have hfz17_7 := blk_frozen BK283.out 7) | ((with_reducible refine gate_callee (f := 89) rfl ?_); refine goesL_ (some 29) rfl rfl Try.func89 (by kernel_rfl) rfl #[.slice A0_4 l0_4.length c0_4, .slice A1_4 l1_4.length c1_4] rfl (by (try simp only [List.map_toArray, List.map_cons, List.map_nil]); first | done | rfl | (simp only [List.length_drop, List.length_take]; rfl)) ?_; (with_reducible refine (laws_eqSpanS.calls k _ _ l0_4 _ _ l1_4 true _ ?side1 ?side2 ?side3 ?side4 A7.out rfl).mono ?_); (case side1 => repeat (first | exact (Kd.C_below HR0_4.out HB.out) | (with_reducible refine Kd.C_alloc ?_ _) | (with_reducible refine Kd.C_drewN ?_ _) | (with_reducible refine Kd.C_drew ?_))); (case side2 => exact HC0_4.out); (case side3 => repeat (first | exact (Kd.C_below HR1_4.out HB.out) | (with_reducible refine Kd.C_alloc ?_ _) | (with_reducible refine Kd.C_drewN ?_ _) | (with_reducible refine Kd.C_drew ?_))); (case side4 => exact HC1_4.out); rintro e w18 ⟨rfl, hb⟩; refine ⟨_, rfl, ?_⟩; have n0_ := Aside0.mk (blk_below (g := gb282) (o := .cells #[.int .i64 a0_0, .int .i64 a0_1, .int .i64 a0_2, .bool a0_3, .slice A0_4 l0_4.length c0_4, .slice A0_5 l0_5.length c0_5, .bool a0_6, .bool a0_7] 61 (0, 0)) (by (with_reducible repeat (first | refine blk_drewN ?_ _ | refine blk_drew ?_ | refine blk_alloc ?_ _)); exact BK282.out) hb); have n1_ := Aside0.mk (blk_below (g := gb283) (o := .cells #[.int .i64 a1_0, .int .i64 a1_1, .int .i64 a1_2, .bool a1_3, .slice A1_4 l1_4.length c1_4, .slice A1_5 l1_5.length c1_5, .bool a1_6, .bool a1_7] 61 (0, 0)) (by (with_reducible repeat (first | refine blk_drewN ?_ _ | refine blk_drew ?_ | refine blk_alloc ?_ _)); exact BK283.out) hb); have n2_ := Aside0.mk (below_step (by repeat (first | (with_reducible first | exact HB.out | apply below_alloc | apply pw_below_drewN | apply below_drew1 | refine below_set ?_ GE282.out | refine below_set ?_ GE283.out) | exact HB.out)) hb); clear BK282; clear BK283; clear HB; have BK282 := n0_; have BK283 := n1_; have HB := n2_; clear n0_ n1_ n2_; (try clear hb); (try clear hb2); (try clear hk); (try clear hi); have hcz19_0 : w18.cell? ⟨gb282, 0, none⟩ = some (.int .i64 a0_0) := (blk_cell BK282.out 0).trans rfl; have hcz19_1 : w18.cell? ⟨gb282, 1, none⟩ = some (.int .i64 a0_1) := (blk_cell BK282.out 1).trans rfl; have hcz19_2 : w18.cell? ⟨gb282, 2, none⟩ = some (.int .i64 a0_2) := (blk_cell BK282.out 2).trans rfl; have hcz19_3 : w18.cell? ⟨gb282, 3, none⟩ = some (.bool a0_3) := (blk_cell BK282.out 3).trans rfl; have hcz19_4 : w18.cell? ⟨gb282, 4, none⟩ = some (.slice A0_4 l0_4.length c0_4) := (blk_cell BK282.out 4).trans rfl; have hcz19_5 : w18.cell? ⟨gb282, 5, none⟩ = some (.slice A0_5 l0_5.length c0_5) := (blk_cell BK282.out 5).trans rfl; have hcz19_6 : w18.cell? ⟨gb282, 6, none⟩ = some (.bool a0_6) := (blk_cell BK282.out 6).trans rfl; have hcz19_7 : w18.cell? ⟨gb282, 7, none⟩ = some (.bool a0_7) := (blk_cell BK282.out 7).trans rfl; have hfz19_0 := blk_frozen BK282.out 0; have hfz19_1 := blk_frozen BK282.out 1; have hfz19_2 := blk_frozen BK282.out 2; have hfz19_3 := blk_frozen BK282.out 3; have hfz19_4 := blk_frozen BK282.out 4; have hfz19_5 := blk_frozen BK282.out 5; have hfz19_6 := blk_frozen BK282.out 6; have hfz19_7 := blk_frozen BK282.out 7; have hcz20_0 : w18.cell? ⟨gb283, 0, none⟩ = some (.int .i64 a1_0) := (blk_cell BK283.out 0).trans rfl; have hcz20_1 : w18.cell? ⟨gb283, 1, none⟩ = some (.int .i64 a1_1) := (blk_cell BK283.out 1).trans rfl; have hcz20_2 : w18.cell? ⟨gb283, 2, none⟩ = some (.int .i64 a1_2) := (blk_cell BK283.out 2).trans rfl; have hcz20_3 : w18.cell? ⟨gb283, 3, none⟩ = some (.bool a1_3) := (blk_cell BK283.out 3).trans rfl; have hcz20_4 : w18.cell? ⟨gb283, 4, none⟩ = some (.slice A1_4 l1_4.length c1_4) := (blk_cell BK283.out 4).trans rfl; have hcz20_5 : w18.cell? ⟨gb283, 5, none⟩ = some (.slice A1_5 l1_5.length c1_5) := (blk_cell BK283.out 5).trans rfl; have hcz20_6 : w18.cell? ⟨gb283, 6, none⟩ = some (.bool a1_6) := (blk_cell BK283.out 6).trans rfl; have hcz20_7 : w18.cell? ⟨gb283, 7, none⟩ = some (.bool a1_7) := (blk_cell BK283.out 7).trans rfl; have hfz20_0 := blk_frozen BK283.out 0; have hfz20_1 := blk_frozen BK283.out 1; have hfz20_2 := blk_frozen BK283.out 2; have hfz20_3 := blk_frozen BK283.out 3; have hfz20_4 := blk_frozen BK283.out 4; have hfz20_5 := blk_frozen BK283.out 5; have hfz20_6 := blk_frozen BK283.out 6; have hfz20_7 := blk_frozen BK283.out 7) | ((with_reducible refine gate_callee (f := 90) rfl ?_); refine goesL_ (some 35) rfl rfl Try.func90 (by kernel_rfl) rfl #[.slice A0_5 l0_5.length c0_5, .slice A1_5 l1_5.length c1_5] rfl (by (try simp only [List.map_toArray, List.map_cons, List.map_nil]); first | done | rfl | (simp only [List.length_drop, List.length_take]; rfl)) ?_; (with_reducible refine (laws_eqItemS.calls k _ _ l0_5 _ _ l1_5 true _ ?side1 ?side2 ?side3 ?side4 A9.out rfl).mono ?_); (case side1 => repeat (first | exact (Kd.C_below HR0_5.out HB.out) | (with_reducible refine Kd.C_alloc ?_ _) | (with_reducible refine Kd.C_drewN ?_ _) | (with_reducible refine Kd.C_drew ?_))); (case side2 => exact HC0_5.out); (case side3 => repeat (first | exact (Kd.C_below HR1_5.out HB.out) | (with_reducible refine Kd.C_alloc ?_ _) | (with_reducible refine Kd.C_drewN ?_ _) | (with_reducible refine Kd.C_drew ?_))); (case side4 => exact HC1_5.out); rintro e w21 ⟨rfl, hb⟩; refine ⟨_, rfl, ?_⟩; have n0_ := Aside0.mk (blk_below (g := gb282) (o := .cells #[.int .i64 a0_0, .int .i64 a0_1, .int .i64 a0_2, .bool a0_3, .slice A0_4 l0_4.length c0_4, .slice A0_5 l0_5.length c0_5, .bool a0_6, .bool a0_7] 61 (0, 0)) (by (with_reducible repeat (first | refine blk_drewN ?_ _ | refine blk_drew ?_ | refine blk_alloc ?_ _)); exact BK282.out) hb); have n1_ := Aside0.mk (blk_below (g := gb283) (o := .cells #[.int .i64 a1_0, .int .i64 a1_1, .int .i64 a1_2, .bool a1_3, .slice A1_4 l1_4.length c1_4, .slice A1_5 l1_5.length c1_5, .bool a1_6, .bool a1_7] 61 (0, 0)) (by (with_reducible repeat (first | refine blk_drewN ?_ _ | refine blk_drew ?_ | refine blk_alloc ?_ _)); exact BK283.out) hb); have n2_ := Aside0.mk (below_step (by repeat (first | (with_reducible first | exact HB.out | apply below_alloc | apply pw_below_drewN | apply below_drew1 | refine below_set ?_ GE282.out | refine below_set ?_ GE283.out) | exact HB.out)) hb); clear BK282; clear BK283; clear HB; have BK282 := n0_; have BK283 := n1_; have HB := n2_; clear n0_ n1_ n2_; (try clear hb); (try clear hb2); (try clear hk); (try clear hi); have hcz22_0 : w21.cell? ⟨gb282, 0, none⟩ = some (.int .i64 a0_0) := (blk_cell BK282.out 0).trans rfl; have hcz22_1 : w21.cell? ⟨gb282, 1, none⟩ = some (.int .i64 a0_1) := (blk_cell BK282.out 1).trans rfl; have hcz22_2 : w21.cell? ⟨gb282, 2, none⟩ = some (.int .i64 a0_2) := (blk_cell BK282.out 2).trans rfl; have hcz22_3 : w21.cell? ⟨gb282, 3, none⟩ = some (.bool a0_3) := (blk_cell BK282.out 3).trans rfl; have hcz22_4 : w21.cell? ⟨gb282, 4, none⟩ = some (.slice A0_4 l0_4.length c0_4) := (blk_cell BK282.out 4).trans rfl; have hcz22_5 : w21.cell? ⟨gb282, 5, none⟩ = some (.slice A0_5 l0_5.length c0_5) := (blk_cell BK282.out 5).trans rfl; have hcz22_6 : w21.cell? ⟨gb282, 6, none⟩ = some (.bool a0_6) := (blk_cell BK282.out 6).trans rfl; have hcz22_7 : w21.cell? ⟨gb282, 7, none⟩ = some (.bool a0_7) := (blk_cell BK282.out 7).trans rfl; have hfz22_0 := blk_frozen BK282.out 0; have hfz22_1 := blk_frozen BK282.out 1; have hfz22_2 := blk_frozen BK282.out 2; have hfz22_3 := blk_frozen BK282.out 3; have hfz22_4 := blk_frozen BK282.out 4; have hfz22_5 := blk_frozen BK282.out 5; have hfz22_6 := blk_frozen BK282.out 6; have hfz22_7 := blk_frozen BK282.out 7; have hcz23_0 : w21.cell? ⟨gb283, 0, none⟩ = some (.int .i64 a1_0) := (blk_cell BK283.out 0).trans rfl; have hcz23_1 : w21.cell? ⟨gb283, 1, none⟩ = some (.int .i64 a1_1) := (blk_cell BK283.out 1).trans rfl; have hcz23_2 : w21.cell? ⟨gb283, 2, none⟩ = some (.int .i64 a1_2) := (blk_cell BK283.out 2).trans rfl; have hcz23_3 : w21.cell? ⟨gb283, 3, none⟩ = some (.bool a1_3) := (blk_cell BK283.out 3).trans rfl; have hcz23_4 : w21.cell? ⟨gb283, 4, none⟩ = some (.slice A1_4 l1_4.length c1_4) := (blk_cell BK283.out 4).trans rfl; have hcz23_5 : w21.cell? ⟨gb283, 5, none⟩ = some (.slice A1_5 l1_5.length c1_5) := (blk_cell BK283.out 5).trans rfl; have hcz23_6 : w21.cell? ⟨gb283, 6, none⟩ = some (.bool a1_6) := (blk_cell BK283.out 6).trans rfl; have hcz23_7 : w21.cell? ⟨gb283, 7, none⟩ = some (.bool a1_7) := (blk_cell BK283.out 7).trans rfl; have hfz23_0 := blk_frozen BK283.out 0; have hfz23_1 := blk_frozen BK283.out 1; have hfz23_2 := blk_frozen BK283.out 2; have hfz23_3 := blk_frozen BK283.out 3; have hfz23_4 := blk_frozen BK283.out 4; have hfz23_5 := blk_frozen BK283.out 5; have hfz23_6 := blk_frozen BK283.out 6; have hfz23_7 := blk_frozen BK283.out 7))
                  go_ret
                  exact ⟨by first | rfl | (simp [errW_none, errW_some] <;> rfl) | (simp [*, errW_none, errW_some] <;> rfl), by repeat (first | (with_reducible first | exact HB.out | apply below_alloc | apply pw_below_drewN | apply below_drew1 | refine below_set ?_ GE282.out | refine below_set ?_ GE283.out) | exact HB.out)⟩
            · replace c10 := Bool.eq_false_iff.mpr c10
              subst c10
              have H1 : (some false) = some r := by rw [if_neg (show ¬ (false = true) by decide)] at H; exact H
              clear H
              have H := H1
              clear H1
              exact absurd (Option.some.inj H) (by rw [hrt]; decide)
          · replace c8 := Bool.eq_false_iff.mpr c8
            subst c8
            have H1 : (some false) = some r := by rw [if_neg (show ¬ (false = true) by decide)] at H; exact H
            clear H
            have H := H1
            clear H1
            exact absurd (Option.some.inj H) (by rw [hrt]; decide)
      · rw [if_neg c5] at H
        have c5b0 : (a0_2 == a1_2) = false := beq_eq_false_iff_ne.mpr c5
        have c5b1 : (a0_2 != a1_2) = true := bne_iff_ne.mpr c5
        exact absurd (Option.some.inj H) (by rw [hrt]; decide)
    · rw [if_neg c4] at H
      have c4b0 : (a0_1 == a1_1) = false := beq_eq_false_iff_ne.mpr c4
      have c4b1 : (a0_1 != a1_1) = true := bne_iff_ne.mpr c4
      exact absurd (Option.some.inj H) (by rw [hrt]; decide)
  · rw [if_neg c3] at H
    have c3b0 : (a0_0 == a1_0) = false := beq_eq_false_iff_ne.mpr c3
    have c3b1 : (a0_0 != a1_0) = true := bne_iff_ne.mpr c3
    exact absurd (Option.some.inj H) (by rw [hrt]; decide)

end Go.Proofs.Ytjmlbkhcjgehdaa.PFnExactTracksOk
