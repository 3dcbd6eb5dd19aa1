-- Written by hv.py, a program of this session's own, over the kit's print: FnExactDeedsOk
import Derived.Test.YtjmlbkhcjgehdaaPFnExactDeedsOkx0
import Derived.Test.YtjmlbkhcjgehdaaPFnExactDeedsOkx1
import Derived.Test.YtjmlbkhcjgehdaaPFnExactDeedsOkx4
import Derived.Test.YtjmlbkhcjgehdaaPFnExactDeedsOkx5
import Derived.Test.YtjmlbkhcjgehdaaPFnExactDeedsOkx8
namespace Go.Proofs.Ytjmlbkhcjgehdaa.PFnExactDeedsOk
open Go.RowKit Go.Proofs.YtjmlbkhcjgehdaaW.PrintWords Go.Proofs.YtjmlbkhcjgehdaaW.PrintLast Go.Proofs.YtjmlbkhcjgehdaaW.PrintMore Go.Proofs.Ytjmlbkhcjgehdaa.HFl Go.Proofs.Ytjmlbkhcjgehdaa.HMap Go.Proofs.Ytjmlbkhcjgehdaa.HMore Go.Proofs.Ytjmlbkhcjgehdaa
attribute [local go_sem] max2_int min2_int max_two min_two max_three min_three max_four min_four   -- for this text's walks alone
set_option linter.unusedVariables false
set_option linter.unusedSimpArgs false

/-! ### laws_eqItemS: function 90 -/
def laws_eqItemS.l0 : Nat → List (S27) → List (S27) → Int → Option (Bool)
  | 0, _, _, _ => none
  | k + 1, x0, x1, x5 => if x5 < (x0.length : Int) then (if 0 ≤ x5 then (if x5 < (x1.length : Int) then ((laws_eqItem.f k ((rd_T27 x0 x5).f0) ((rd_T27 x0 x5).f1) ((rd_T27 x0 x5).f2) ((rd_T27 x0 x5).f3) ((rd_T27 x1 x5).f0) ((rd_T27 x1 x5).f1) ((rd_T27 x1 x5).f2) ((rd_T27 x1 x5).f3)).bind fun t285 => (if t285 = true then (laws_eqItemS.l0 k x0 x1 (wrap64 (x5 + 1))) else (some false))) else (none)) else (none)) else (some true)
def laws_eqItemS.f (k : Nat) (l0 : List (S27)) (l1 : List (S27)) : Option (Bool) := if (l0.length : Int) = (l1.length : Int) then (laws_eqItemS.l0 k l0 l1 0) else (some false)
theorem laws_eqItemS.mono_l : ∀ k, (∀ y0 y1 y2, LeO (laws_eqItemS.l0 k y0 y1 y2) (laws_eqItemS.l0 (k + 1) y0 y1 y2))
  | 0 => fun _ _ _ r h => by simp [laws_eqItemS.l0] at h
  | k + 1 => by
    have ih0 := laws_eqItemS.mono_l k
    · intro y0 y1 y2
      unfold laws_eqItemS.l0
      repeat' first
      | (with_reducible exact ih0 _ _ _)
      | (with_reducible exact laws_eqItem.mono _ _ _ _ _ _ _ _ _)
      | (with_reducible exact LeO.refl _)
      | (with_reducible exact LeO.none _)
      | (with_reducible refine LeO.ite ?_ ?_)
      | (with_reducible refine LeO.bind ?_ (fun _ => ?_))
      | exact ih0 _ _ _
      | exact laws_eqItem.mono _ _ _ _ _ _ _ _ _
      | exact LeO.none _
      | refine LeO.ite ?_ ?_
      | refine LeO.bind ?_ (fun _ => ?_)
theorem laws_eqItemS.mono : ∀ a0 a1 k, LeO (laws_eqItemS.f k a0 a1) (laws_eqItemS.f (k + 1) a0 a1) := by
  intro a0 a1 k
  have ih0 := laws_eqItemS.mono_l k
  unfold laws_eqItemS.f
  repeat' first
      | (with_reducible exact ih0 _ _ _)
      | (with_reducible exact laws_eqItem.mono _ _ _ _ _ _ _ _ _)
      | (with_reducible exact LeO.refl _)
      | (with_reducible exact LeO.none _)
      | (with_reducible refine LeO.ite ?_ ?_)
      | (with_reducible refine LeO.bind ?_ (fun _ => ?_))
      | exact ih0 _ _ _
      | exact laws_eqItem.mono _ _ _ _ _ _ _ _ _
      | exact LeO.none _
      | refine LeO.ite ?_ ?_
      | refine LeO.bind ?_ (fun _ => ?_)
def laws_eqItemS.T6 : Bool × List (List Nat × List Nat) := (true, [([], []), ([], []), ([0, 1], [0, 1]), ([2], [2]), ([], []), ([], []), ([4, 5], [4, 5]), ([6], [6]), ([3, 7], [3, 7]), ([8], [8])])
def laws_eqItemS.B6 : List Nat := [0, 0, 3, 7, 0, 0, 48, 112, 255, 511]
theorem laws_eqItemS.tab6 : rtab .any (opsOf Try.f90 6) = laws_eqItemS.T6 := by kernel_rfl
theorem laws_eqItemS.bits6 : waitsOk laws_eqItemS.T6.2 laws_eqItemS.B6 = true := by kernel_rfl
set_option maxHeartbeats 8000000 in
set_option maxRecDepth 100000 in
theorem laws_eqItemS.calls (k : Nat) (A0 : Option Addr) (c0 : Nat) (l0 : List (S27)) (A1 : Option Addr) (c1 : Nat) (l1 : List (S27)) (r : Bool) (w : World) (hr0 : Kd.C k27 w A0 l0.length l0) (hc0 : l0.length ≤ c0) (hr1 : Kd.C k27 w A1 l1.length l1) (hc1 : l1.length ≤ c1) (h : laws_eqItemS.f k l0 l1 = some r) (hrt : r = true) :
    Calls Try.prog 90 #[.slice A0 l0.length c0, .slice A1 l1.length c1] w fun e w' => e = .returned (.bool r) ∧ Below w.heap.size w w' := by
  have hu27 := Try.underlying27
  have HR0 := Aside0.mk hr0
  have HC0 := Aside0.mk hc0
  clear hr0 hc0
  have HR1 := Aside0.mk hr1
  have HC1 := Aside0.mk hc1
  clear hr1 hc1
  have HB := Aside0.mk (Below.refl w.heap.size w)
  have H : (if (l0.length : Int) = (l1.length : Int) then (laws_eqItemS.l0 k l0 l1 0) else (some false)) = some r := h
  clear h
  by_cases c3 : (l0.length : Int) = (l1.length : Int)
  · rw [if_pos c3] at H
    have c3b0 : ((l0.length : Int) == (l1.length : Int)) = true := beq_iff_eq.mpr c3
    have c3b1 : ((l0.length : Int) != (l1.length : Int)) = false := bne_eq_false_iff_eq.mpr c3
    have c3b2 : (l0.length == l1.length) = true := by first | simpa using c3 | (simp at c3 ⊢; omega)
    clear c3
    have H' := Aside0.mk H
    clear H
    go_enter Try.func90, Try.ntmps90
    go_wp2
    go_loopg [5] k (fun kq v5 w' => ∃ (x5_1 : Int), v5 = .int .i64 x5_1 ∧ Aside0 (laws_eqItemS.l0 kq l0 l1 x5_1 = some r) ∧ Aside0 (kq ≤ k) ∧ Aside0 (Below w.heap.size w w'))
    case atStart => exact ⟨(0), (by first | rfl | (simp; done) | (simp [*]; done)), H', ⟨Nat.le_refl _⟩, ⟨by repeat (first | (with_reducible first | exact HB.out | apply below_alloc | apply pw_below_drewN | apply below_drew1) | exact HB.out)⟩⟩
    case round =>
      clear H'
      try clear c1
      try clear p2
      try clear c3
      try clear c3b0
      try clear c3b1
      try clear c3b2
      obtain ⟨x5_1, rfl, HA, HK1, HB⟩ := hrel
      cases gk with
      | zero => exact absurd HA.out (by simp [laws_eqItemS.l0])
      | succ k1 =>
        have H := HA.out
        clear HA
        simp only [laws_eqItemS.l0] at H
        by_cases c4 : x5_1 < (l0.length : Int)
        · rw [if_pos c4] at H
          have c4b0 : decide (x5_1 < (l0.length : Int)) = true := decide_eq_true c4
          clear c4
          by_cases c5 : 0 ≤ x5_1
          · rw [if_pos c5] at H
            have c5b0 : decide (0 ≤ x5_1) = true := decide_eq_true c5
            clear c5
            by_cases c6 : x5_1 < (l1.length : Int)
            · rw [if_pos c6] at H
              have c6b0 : decide (x5_1 < (l1.length : Int)) = true := decide_eq_true c6
              clear c6
              replace H := Option.bind_eq_some_iff.mp H
              obtain ⟨t285, A70, H⟩ := H
              replace H : (if t285 = true then (laws_eqItemS.l0 k1 l0 l1 (wrap64 (x5_1 + 1))) else (some false)) = some r := H
              have A7 := Aside0.mk A70
              clear A70
              by_cases c8 : t285 = true
              · subst c8
                have H1 : (laws_eqItemS.l0 k1 l0 l1 (wrap64 (x5_1 + 1))) = some r := by rw [if_pos rfl] at H; exact H
                clear H
                have H := H1
                clear H1
                have H' := Aside0.mk H
                clear H
                try go_wp2
                have n0_ := Aside0.mk (below_drew1 HB.out)
                clear HB
                have HB := n0_
                clear n0_
                have p283 : 0 ≤ (x5_1 : Int) := of_decide_eq_true (by first | (with_reducible assumption) | assumption)
                have q283 : x5_1 < (l0.length : Int) := of_decide_eq_true (by first | (with_reducible assumption) | assumption)
                obtain ⟨ad283, A283_3, c283_3, e283, hx283_0, hx283_1, hx283_2, hx283_3, hl283_3, hi283_3⟩ := at_T27 HR0.out x5_1 p283 q283
                have hw283_3 := hx283_3
                have hw283_2 := hx283_2
                have hw283_1 := hx283_1
                have hw283_0 := hx283_0
                cases e283
                replace hx283_0 := (HB.out.cell (World.block_lt_of_cell? w _ hx283_0)).trans hx283_0
                replace hx283_1 := (HB.out.cell (World.block_lt_of_cell? w _ hx283_1)).trans hx283_1
                replace hx283_2 := (HB.out.cell (World.block_lt_of_cell? w _ hx283_2)).trans hx283_2
                replace hx283_3 := (HB.out.cell (World.block_lt_of_cell? w _ hx283_3)).trans hx283_3
                have HR283_3 := Aside0.mk hi283_3
                have HC283_3 := Aside0.mk hl283_3
                clear hi283_3 hl283_3
                replace p283 := eq_true p283
                replace q283 := eq_true q283
                have p284 : 0 ≤ (x5_1 : Int) := of_decide_eq_true (by first | (with_reducible assumption) | assumption)
                have q284 : x5_1 < (l1.length : Int) := of_decide_eq_true (by first | (with_reducible assumption) | assumption)
                obtain ⟨ad284, A284_3, c284_3, e284, hx284_0, hx284_1, hx284_2, hx284_3, hl284_3, hi284_3⟩ := at_T27 HR1.out x5_1 p284 q284
                have hw284_3 := hx284_3
                have hw284_2 := hx284_2
                have hw284_1 := hx284_1
                have hw284_0 := hx284_0
                cases e284
                replace hx284_0 := (HB.out.cell (World.block_lt_of_cell? w _ hx284_0)).trans hx284_0
                replace hx284_1 := (HB.out.cell (World.block_lt_of_cell? w _ hx284_1)).trans hx284_1
                replace hx284_2 := (HB.out.cell (World.block_lt_of_cell? w _ hx284_2)).trans hx284_2
                replace hx284_3 := (HB.out.cell (World.block_lt_of_cell? w _ hx284_3)).trans hx284_3
                have HR284_3 := Aside0.mk hi284_3
                have HC284_3 := Aside0.mk hl284_3
                clear hi284_3 hl284_3
                replace p284 := eq_true p284
                replace q284 := eq_true q284
                refine start_ (n := 10) (S := fun w' => w'.cell? (ad283.add ((x5_1).toNat * 4)) = some (.int .i64 ((rd_T27 l0 x5_1).f0)) ∧ w'.cell? ⟨(ad283.add ((x5_1).toNat * 4)).block, (ad283.add ((x5_1).toNat * 4)).off + 1, none⟩ = some (.int .i64 ((rd_T27 l0 x5_1).f1)) ∧ w'.cell? ⟨(ad283.add ((x5_1).toNat * 4)).block, (ad283.add ((x5_1).toNat * 4)).off + 2, none⟩ = some (.float .f64 ((rd_T27 l0 x5_1).f2)) ∧ w'.cell? ⟨(ad283.add ((x5_1).toNat * 4)).block, (ad283.add ((x5_1).toNat * 4)).off + 3, none⟩ = some (.slice A283_3 ((rd_T27 l0 x5_1).f3).length c283_3) ∧ w'.cell? (ad284.add ((x5_1).toNat * 4)) = some (.int .i64 ((rd_T27 l1 x5_1).f0)) ∧ w'.cell? ⟨(ad284.add ((x5_1).toNat * 4)).block, (ad284.add ((x5_1).toNat * 4)).off + 1, none⟩ = some (.int .i64 ((rd_T27 l1 x5_1).f1)) ∧ w'.cell? ⟨(ad284.add ((x5_1).toNat * 4)).block, (ad284.add ((x5_1).toNat * 4)).off + 2, none⟩ = some (.float .f64 ((rd_T27 l1 x5_1).f2)) ∧ w'.cell? ⟨(ad284.add ((x5_1).toNat * 4)).block, (ad284.add ((x5_1).toNat * 4)).off + 3, none⟩ = some (.slice A284_3 ((rd_T27 l1 x5_1).f3).length c284_3)) (ds := []) #[false, false, false, false, false, false, false, false, false, false] (by kernel_rfl) rfl rfl ⟨((HB.out.cell (World.block_lt_of_cell? w _ hw283_0)).trans hw283_0), ((HB.out.cell (World.block_lt_of_cell? w _ hw283_1)).trans hw283_1), ((HB.out.cell (World.block_lt_of_cell? w _ hw283_2)).trans hw283_2), ((HB.out.cell (World.block_lt_of_cell? w _ hw283_3)).trans hw283_3), ((HB.out.cell (World.block_lt_of_cell? w _ hw284_0)).trans hw284_0), ((HB.out.cell (World.block_lt_of_cell? w _ hw284_1)).trans hw284_1), ((HB.out.cell (World.block_lt_of_cell? w _ hw284_2)).trans hw284_2), ((HB.out.cell (World.block_lt_of_cell? w _ hw284_3)).trans hw284_3)⟩ (fun hHeld => ?_); refine with_tabW laws_eqItemS.tab6 laws_eqItemS.bits6 (fun HT_ HW_ => ?_)
                generalize wr.drew = w9 at HB HR283_3 HR284_3 hx283_0 hx283_1 hx283_2 hx283_3 hx284_0 hx284_1 hx284_2 hx284_3 hHeld ⊢
                refine pure_ (i := 0) (N := some 17) (v := ?_) (a' := ?_) #[true, false, false, false, false, false, false, false, false, false] rfl rfl (any_of HT_.out (by kernel_rfl)) (fun _ _ _ h => h) (Or.inl ⟨by rfl, ?_⟩) ?_ ?_
                rotate_left
                · intro w'
                  go_simp
                  with_reducible rfl
                rotate_left
                · simp only [Act.put, List.setIfInBounds_toArray, List.set_cons_zero, List.set_cons_succ, i64_w, i32_w]
                  rfl
                refine pure_ (i := 1) (N := some 18) (v := ?_) (a' := ?_) #[true, true, false, false, false, false, false, false, false, false] rfl rfl (any_of HT_.out (by kernel_rfl)) (fun _ _ _ h => h) (Or.inl ⟨by rfl, ?_⟩) ?_ ?_
                rotate_left
                · intro w'
                  go_simp
                  with_reducible rfl
                rotate_left
                · simp only [Act.put, List.setIfInBounds_toArray, List.set_cons_zero, List.set_cons_succ, i64_w, i32_w]
                  rfl
                refine pure_ (i := 2) (N := some 19) (v := ?_) (a' := ?_) #[true, true, true, false, false, false, false, false, false, false] rfl rfl (any_of HT_.out (by kernel_rfl)) (fun _ _ _ h => h) (Or.inl ⟨by rfl, ?_⟩) ?_ ?_
                rotate_left
                · intro w'
                  go_simp
                  with_reducible rfl
                rotate_left
                · simp only [Act.put, List.setIfInBounds_toArray, List.set_cons_zero, List.set_cons_succ, i64_w, i32_w]
                  rfl
                refine pure_ (i := 4) (N := some 21) (v := ?_) (a' := ?_) #[true, true, true, false, true, false, false, false, false, false] rfl rfl (any_of HT_.out (by kernel_rfl)) (fun _ _ _ h => h) (Or.inl ⟨by rfl, ?_⟩) ?_ ?_
                rotate_left
                · intro w'
                  go_simp
                  with_reducible rfl
                rotate_left
                · simp only [Act.put, List.setIfInBounds_toArray, List.set_cons_zero, List.set_cons_succ, i64_w, i32_w]
                  rfl
                refine pure_ (i := 5) (N := some 22) (v := ?_) (a' := ?_) #[true, true, true, false, true, true, false, false, false, false] rfl rfl (any_of HT_.out (by kernel_rfl)) (fun _ _ _ h => h) (Or.inl ⟨by rfl, ?_⟩) ?_ ?_
                rotate_left
                · intro w'
                  go_simp
                  with_reducible rfl
                rotate_left
                · simp only [Act.put, List.setIfInBounds_toArray, List.set_cons_zero, List.set_cons_succ, i64_w, i32_w]
                  rfl
                refine pure_ (i := 6) (N := some 23) (v := ?_) (a' := ?_) #[true, true, true, false, true, true, true, false, false, false] rfl rfl (any_of HT_.out (by kernel_rfl)) (fun _ _ _ h => h) (Or.inl ⟨by rfl, ?_⟩) ?_ ?_
                rotate_left
                · intro w'
                  go_simp
                  with_reducible rfl
                rotate_left
                · simp only [Act.put, List.setIfInBounds_toArray, List.set_cons_zero, List.set_cons_succ, i64_w, i32_w]
                  rfl
                refine take_ (i := 3) (N := some 20) (v := ?_) (a' := ?_) #[true, true, true, true, true, true, true, false, false, false] rfl rfl (take_ofW HT_.out HW_.out (by kernel_rfl)) (fun _ _ _ h => h) (Or.inl ⟨by rfl, ?_⟩) hHeld ?_ ?_
                rotate_left
                · rintro w' ⟨s0, s1, s2, s3, s4, s5, s6, s7⟩
                  go_simp
                  with_reducible rfl
                rotate_left
                · simp only [Act.put, List.setIfInBounds_toArray, List.set_cons_zero, List.set_cons_succ, i64_w, i32_w]
                  rfl
                refine take_ (i := 7) (N := some 24) (v := ?_) (a' := ?_) #[true, true, true, true, true, true, true, true, false, false] rfl rfl (take_ofW HT_.out HW_.out (by kernel_rfl)) (fun _ _ _ h => h) (Or.inl ⟨by rfl, ?_⟩) hHeld ?_ ?_
                rotate_left
                · rintro w' ⟨s0, s1, s2, s3, s4, s5, s6, s7⟩
                  go_simp
                  with_reducible rfl
                rotate_left
                · simp only [Act.put, List.setIfInBounds_toArray, List.set_cons_zero, List.set_cons_succ, i64_w, i32_w]
                  rfl
                refine one_ (i := 8) (N := some 25) #[true, true, true, true, true, true, true, true, true, false] rfl rfl (one_of HT_.out (by kernel_rfl)) (by decide) (fun K hK => ?_)
                refine goes_ Try.func17 (by kernel_rfl) rfl #[.agg #[.int .i64 ((rd_T27 l0 x5_1).f0), .int .i64 ((rd_T27 l0 x5_1).f1), .float .f64 ((rd_T27 l0 x5_1).f2), .slice A283_3 ((rd_T27 l0 x5_1).f3).length c283_3], .agg #[.int .i64 ((rd_T27 l1 x5_1).f0), .int .i64 ((rd_T27 l1 x5_1).f1), .float .f64 ((rd_T27 l1 x5_1).f2), .slice A284_3 ((rd_T27 l1 x5_1).f3).length c284_3]] (by rfl) rfl rfl (by (try simp only [List.map_toArray, List.map_cons, List.map_nil]); first | done | rfl | (simp only [List.length_drop, List.length_take]; rfl)) ?_
                with_reducible refine (laws_eqItem.calls k1 ((rd_T27 l0 x5_1).f0) ((rd_T27 l0 x5_1).f1) ((rd_T27 l0 x5_1).f2) _ _ ((rd_T27 l0 x5_1).f3) ((rd_T27 l1 x5_1).f0) ((rd_T27 l1 x5_1).f1) ((rd_T27 l1 x5_1).f2) _ _ ((rd_T27 l1 x5_1).f3) true _ ?side1 ?side2 ?side3 ?side4 A7.out rfl).mono ?_
                (case side1 => repeat (first | exact (Kd.C_below HR283_3.out HB.out) | (with_reducible refine Kd.C_alloc ?_ _) | (with_reducible refine Kd.C_drewN ?_ _) | (with_reducible refine Kd.C_drew ?_)))
                (case side2 => exact HC283_3.out)
                (case side3 => repeat (first | exact (Kd.C_below HR284_3.out HB.out) | (with_reducible refine Kd.C_alloc ?_ _) | (with_reducible refine Kd.C_drewN ?_ _) | (with_reducible refine Kd.C_drew ?_)))
                (case side4 => exact HC284_3.out)
                rintro e w10 ⟨rfl, hb⟩
                refine ⟨_, rfl, ?_⟩
                have n0_ := Aside0.mk (below_step (by repeat (first | (with_reducible first | exact HB.out | apply below_alloc | apply pw_below_drewN | apply below_drew1) | exact HB.out)) hb)
                clear HB
                have HB := n0_
                clear n0_
                (try clear hb)
                (try clear hb2)
                (try clear hk)
                (try clear hi)
                refine hK.out _ _ ⟨((HB.out.cell (World.block_lt_of_cell? w _ hw283_0)).trans hw283_0), ((HB.out.cell (World.block_lt_of_cell? w _ hw283_1)).trans hw283_1), ((HB.out.cell (World.block_lt_of_cell? w _ hw283_2)).trans hw283_2), ((HB.out.cell (World.block_lt_of_cell? w _ hw283_3)).trans hw283_3), ((HB.out.cell (World.block_lt_of_cell? w _ hw284_0)).trans hw284_0), ((HB.out.cell (World.block_lt_of_cell? w _ hw284_1)).trans hw284_1), ((HB.out.cell (World.block_lt_of_cell? w _ hw284_2)).trans hw284_2), ((HB.out.cell (World.block_lt_of_cell? w _ hw284_3)).trans hw284_3)⟩ (fun hHeld => ?_)
                clear hK K
                refine norm_ (a' := ?_) ?_ ?_
                rotate_left
                · show Act.put _ (some 25) _ = _
                  simp only [Act.put, List.setIfInBounds_toArray, List.set_cons_zero, List.set_cons_succ, i64_w, i32_w]
                  rfl
                refine pure_ (i := 9) (N := some 26) (v := ?_) (a' := ?_) #[true, true, true, true, true, true, true, true, true, true] rfl rfl (any_of HT_.out (by kernel_rfl)) (fun _ _ _ h => h) (Or.inl ⟨by rfl, ?_⟩) ?_ ?_
                rotate_left
                · intro w'
                  go_simp
                  with_reducible rfl
                rotate_left
                · simp only [Act.put, List.setIfInBounds_toArray, List.set_cons_zero, List.set_cons_succ, i64_w, i32_w]
                  rfl
                refine done_ (done_of HT_.out (by kernel_rfl)) ?_
                try go_wp2
                go_roundg k1
                case measure => have := HK1.out; omega
                case rel => exact ⟨(wrap64 (x5_1 + 1)), (by first | rfl | (simp; done) | (simp [*]; done)), H', ⟨by have := HK1.out; omega⟩, ⟨by repeat (first | (with_reducible first | exact HB.out | apply below_alloc | apply pw_below_drewN | apply below_drew1) | exact HB.out)⟩⟩
              · replace c8 := Bool.eq_false_iff.mpr c8
                subst c8
                have H1 : (some false) = some r := by rw [if_neg (show ¬ (false = true) by decide)] at H; exact H
                clear H
                have H := H1
                clear H1
                exact absurd (Option.some.inj H) (by rw [hrt]; decide)
            · rw [if_neg c6] at H
              exact absurd H (by simp)
          · rw [if_neg c5] at H
            exact absurd H (by simp)
        · rw [if_neg c4] at H
          have c4b0 : decide (x5_1 < (l0.length : Int)) = false := decide_eq_false c4
          clear c4
          obtain rfl := Option.some.inj H
          go_wp2
          go_ret
          exact ⟨by first | rfl | (simp [errW_none, errW_some] <;> rfl) | (simp [*, errW_none, errW_some] <;> rfl), by repeat (first | (with_reducible first | exact HB.out | apply below_alloc | apply pw_below_drewN | apply below_drew1) | exact HB.out)⟩
  · rw [if_neg c3] at H
    have c3b0 : ((l0.length : Int) == (l1.length : Int)) = false := beq_eq_false_iff_ne.mpr c3
    have c3b1 : ((l0.length : Int) != (l1.length : Int)) = true := bne_iff_ne.mpr c3
    have c3b2 : (l0.length == l1.length) = false := by first | simpa using c3 | (simp at c3 ⊢; omega)
    exact absurd (Option.some.inj H) (by rw [hrt]; decide)

/-! ### laws_eqDeed: function 97 -/
def laws_eqDeed.f (k : Nat) (a0_0 : Int) (a0_1 : Int) (a0_2 : Int) (l0_3 : List (S38)) (l0_4 : List (S27)) (a1_0 : Int) (a1_1 : Int) (a1_2 : Int) (l1_3 : List (S38)) (l1_4 : List (S27)) : Option (Bool) := if a0_0 = a1_0 then (if a0_1 = a1_1 then (if a0_2 = a1_2 then ((laws_eqSpanS.f k l0_3 l1_3).bind fun t288 => (if t288 = true then ((laws_eqItemS.f k l0_4 l1_4).bind fun t289 => (if t289 = true then (some true) else (some false))) else (some false))) else (some false)) else (some false)) else (some false)
theorem laws_eqDeed.mono : ∀ a0 a1 a2 a3 a4 a5 a6 a7 a8 a9 k, LeO (laws_eqDeed.f k a0 a1 a2 a3 a4 a5 a6 a7 a8 a9) (laws_eqDeed.f (k + 1) a0 a1 a2 a3 a4 a5 a6 a7 a8 a9) := by
  intro a0 a1 a2 a3 a4 a5 a6 a7 a8 a9 k
  unfold laws_eqDeed.f
  repeat' first
      | (with_reducible exact laws_eqItemS.mono _ _ _)
      | (with_reducible exact laws_eqSpanS.mono _ _ _)
      | (with_reducible exact LeO.refl _)
      | (with_reducible exact LeO.none _)
      | (with_reducible refine LeO.ite ?_ ?_)
      | (with_reducible refine LeO.bind ?_ (fun _ => ?_))
      | exact laws_eqItemS.mono _ _ _
      | exact laws_eqSpanS.mono _ _ _
      | exact LeO.none _
      | refine LeO.ite ?_ ?_
      | refine LeO.bind ?_ (fun _ => ?_)
set_option maxHeartbeats 8000000 in
set_option maxRecDepth 100000 in
theorem laws_eqDeed.calls (k : Nat) (a0_0 : Int) (a0_1 : Int) (a0_2 : Int) (A0_3 : Option Addr) (c0_3 : Nat) (l0_3 : List (S38)) (A0_4 : Option Addr) (c0_4 : Nat) (l0_4 : List (S27)) (a1_0 : Int) (a1_1 : Int) (a1_2 : Int) (A1_3 : Option Addr) (c1_3 : Nat) (l1_3 : List (S38)) (A1_4 : Option Addr) (c1_4 : Nat) (l1_4 : List (S27)) (r : Bool) (w : World) (hr0_3 : Kd.C k38 w A0_3 l0_3.length l0_3) (hc0_3 : l0_3.length ≤ c0_3) (hr0_4 : Kd.C k27 w A0_4 l0_4.length l0_4) (hc0_4 : l0_4.length ≤ c0_4) (hr1_3 : Kd.C k38 w A1_3 l1_3.length l1_3) (hc1_3 : l1_3.length ≤ c1_3) (hr1_4 : Kd.C k27 w A1_4 l1_4.length l1_4) (hc1_4 : l1_4.length ≤ c1_4) (h : laws_eqDeed.f k a0_0 a0_1 a0_2 l0_3 l0_4 a1_0 a1_1 a1_2 l1_3 l1_4 = some r) (hrt : r = true) :
    Calls Try.prog 97 #[.agg #[.int .i64 a0_0, .int .i64 a0_1, .int .i64 a0_2, .slice A0_3 l0_3.length c0_3, .slice A0_4 l0_4.length c0_4], .agg #[.int .i64 a1_0, .int .i64 a1_1, .int .i64 a1_2, .slice A1_3 l1_3.length c1_3, .slice A1_4 l1_4.length c1_4]] w fun e w' => e = .returned (.bool r) ∧ Below w.heap.size w w' := by
  have hu119 := Try.underlying119
  have HR0_3 := Aside0.mk hr0_3
  have HC0_3 := Aside0.mk hc0_3
  clear hr0_3 hc0_3
  have HR0_4 := Aside0.mk hr0_4
  have HC0_4 := Aside0.mk hc0_4
  clear hr0_4 hc0_4
  have HR1_3 := Aside0.mk hr1_3
  have HC1_3 := Aside0.mk hc1_3
  clear hr1_3 hc1_3
  have HR1_4 := Aside0.mk hr1_4
  have HC1_4 := Aside0.mk hc1_4
  clear hr1_4 hc1_4
  have HB := Aside0.mk (Below.refl w.heap.size w)
  have H : (if a0_0 = a1_0 then (if a0_1 = a1_1 then (if a0_2 = a1_2 then ((laws_eqSpanS.f k l0_3 l1_3).bind fun t288 => (if t288 = true then ((laws_eqItemS.f k l0_4 l1_4).bind fun t289 => (if t289 = true then (some true) else (some false))) else (some false))) else (some false)) else (some false)) else (some false)) = some r := h
  clear h
  by_cases c3 : a0_0 = a1_0
  · rw [if_pos c3] at H
    have c3b0 : (a0_0 == a1_0) = true := beq_iff_eq.mpr c3
    have c3b1 : (a0_0 != a1_0) = false := bne_eq_false_iff_eq.mpr c3
    clear c3
    by_cases c4 : a0_1 = a1_1
    · rw [if_pos c4] at H
      have c4b0 : (a0_1 == a1_1) = true := beq_iff_eq.mpr c4
      have c4b1 : (a0_1 != a1_1) = false := bne_eq_false_iff_eq.mpr c4
      clear c4
      by_cases c5 : a0_2 = a1_2
      · rw [if_pos c5] at H
        have c5b0 : (a0_2 == a1_2) = true := beq_iff_eq.mpr c5
        have c5b1 : (a0_2 != a1_2) = false := bne_eq_false_iff_eq.mpr c5
        clear c5
        replace H := Option.bind_eq_some_iff.mp H
        obtain ⟨t288, A60, H⟩ := H
        replace H : (if t288 = true then ((laws_eqItemS.f k l0_4 l1_4).bind fun t289 => (if t289 = true then (some true) else (some false))) else (some false)) = some r := H
        have A6 := Aside0.mk A60
        clear A60
        by_cases c7 : t288 = true
        · subst c7
          have H1 : ((laws_eqItemS.f k l0_4 l1_4).bind fun t289 => (if t289 = true then (some true) else (some false))) = some r := by rw [if_pos rfl] at H; exact H
          clear H
          have H := H1
          clear H1
          replace H := Option.bind_eq_some_iff.mp H
          obtain ⟨t289, A80, H⟩ := H
          replace H : (if t289 = true then (some true) else (some false)) = some r := H
          have A8 := Aside0.mk A80
          clear A80
          by_cases c9 : t289 = true
          · subst c9
            have H1 : (some true) = some r := by rw [if_pos rfl] at H; exact H
            clear H
            have H := H1
            clear H1
            obtain rfl := Option.some.inj H
            go_enter Try.func97, Try.ntmps97
            go_wp2_with (first | ((with_reducible refine gate_dst (N := 2) rfl ?_); refine box_event ?hg (N := 2) ?hd (cs := #[.int .i64 a0_0, .int .i64 a0_1, .int .i64 a0_2, .slice A0_3 l0_3.length c0_3, .slice A0_4 l0_4.length c0_4]) (t := 119) ?hr ?_; (case hd => rfl); (case hg => rfl); (case hr => first | (go_simp; done) | (go_simp; rfl)); intro gb286 hg w10 hbox hb; have n0_ := Aside0.mk (below_step (by repeat (first | (with_reducible first | exact HB.out | apply below_alloc | apply pw_below_drewN | apply below_drew1) | exact HB.out)) hb); have n1_ := Aside0.mk (hbox); have n2_ := Aside0.mk ((by rw [hg]; exact (below_size (by repeat (first | (with_reducible first | exact HB.out | apply below_alloc | apply pw_below_drewN | apply below_drew1) | exact HB.out))) : w.heap.size ≤ gb286)); have n3_ := Aside0.mk ((by rw [hg]; exact (below_size (by repeat (first | (with_reducible first | exact HB.out | apply below_alloc | apply pw_below_drewN | apply below_drew1) | exact HB.out))) : w.heap.size ≤ gb286)); clear HB; have HB := n0_; have BK286 := n1_; have GW286 := n2_; have GE286 := n3_; clear n0_ n1_ n2_ n3_; clear hb hbox hg) | ((with_reducible refine gate_dst (N := 3) rfl ?_); refine box_event ?hg (N := 3) ?hd (cs := #[.int .i64 a1_0, .int .i64 a1_1, .int .i64 a1_2, .slice A1_3 l1_3.length c1_3, .slice A1_4 l1_4.length c1_4]) (t := 119) ?hr ?_; (case hd => rfl); (case hg => rfl); (case hr => first | (go_simp; done) | (go_simp; rfl)); intro gb287 hg w11 hbox hb; have n0_ := Aside0.mk (blk_below (g := gb286) (o := .cells #[.int .i64 a0_0, .int .i64 a0_1, .int .i64 a0_2, .slice A0_3 l0_3.length c0_3, .slice A0_4 l0_4.length c0_4] 119 (0, 0)) (by (with_reducible repeat (first | refine blk_drewN ?_ _ | refine blk_drew ?_ | refine blk_alloc ?_ _)); exact BK286.out) hb); have n1_ := Aside0.mk (below_step (by repeat (first | (with_reducible first | exact HB.out | apply below_alloc | apply pw_below_drewN | apply below_drew1 | refine below_set ?_ GE286.out) | exact HB.out)) hb); have n2_ := Aside0.mk (hbox); have n3_ := Aside0.mk ((by rw [hg]; exact (below_size (by repeat (first | (with_reducible first | exact HB.out | apply below_alloc | apply pw_below_drewN | apply below_drew1 | refine below_set ?_ GE286.out) | exact HB.out))) : w.heap.size ≤ gb287)); have n4_ := Aside0.mk ((by rw [hg]; exact (below_size (by repeat (first | (with_reducible first | exact HB.out | apply below_alloc | apply pw_below_drewN | apply below_drew1 | refine below_set ?_ GE286.out) | exact HB.out))) : w.heap.size ≤ gb287)); have n5_ := Aside0.mk ((by rw [hg]; exact Nat.ne_of_lt (blk_lt (g := gb286) (o := .cells #[.int .i64 a0_0, .int .i64 a0_1, .int .i64 a0_2, .slice A0_3 l0_3.length c0_3, .slice A0_4 l0_4.length c0_4] 119 (0, 0)) (by (with_reducible repeat (first | refine blk_drewN ?_ _ | refine blk_drew ?_ | refine blk_alloc ?_ _)); exact BK286.out)) : gb286 ≠ gb287)); have n6_ := Aside0.mk ((by rw [hg]; exact Nat.ne_of_gt (blk_lt (g := gb286) (o := .cells #[.int .i64 a0_0, .int .i64 a0_1, .int .i64 a0_2, .slice A0_3 l0_3.length c0_3, .slice A0_4 l0_4.length c0_4] 119 (0, 0)) (by (with_reducible repeat (first | refine blk_drewN ?_ _ | refine blk_drew ?_ | refine blk_alloc ?_ _)); exact BK286.out)) : gb287 ≠ gb286)); clear BK286; clear HB; have BK286 := n0_; have HB := n1_; have BK287 := n2_; have GW287 := n3_; have GE287 := n4_; have NB286_287 := n5_; have NB287_286 := n6_; clear n0_ n1_ n2_ n3_ n4_ n5_ n6_; clear hb hbox hg; have hnb12 := NB286_287.out; have hnc12 := NB287_286.out; have hcz13_0 : w11.cell? ⟨gb286, 0, none⟩ = some (.int .i64 a0_0) := (blk_cell BK286.out 0).trans rfl; have hcz13_1 : w11.cell? ⟨gb286, 1, none⟩ = some (.int .i64 a0_1) := (blk_cell BK286.out 1).trans rfl; have hcz13_2 : w11.cell? ⟨gb286, 2, none⟩ = some (.int .i64 a0_2) := (blk_cell BK286.out 2).trans rfl; have hcz13_3 : w11.cell? ⟨gb286, 3, none⟩ = some (.slice A0_3 l0_3.length c0_3) := (blk_cell BK286.out 3).trans rfl; have hcz13_4 : w11.cell? ⟨gb286, 4, none⟩ = some (.slice A0_4 l0_4.length c0_4) := (blk_cell BK286.out 4).trans rfl; have hfz13_0 := blk_frozen BK286.out 0; have hfz13_1 := blk_frozen BK286.out 1; have hfz13_2 := blk_frozen BK286.out 2; have hfz13_3 := blk_frozen BK286.out 3; have hfz13_4 := blk_frozen BK286.out 4; have hcz14_0 : w11.cell? ⟨gb287, 0, none⟩ = some (.int .i64 a1_0) := (blk_cell BK287.out 0).trans rfl; have hcz14_1 : w11.cell? ⟨gb287, 1, none⟩ = some (.int .i64 a1_1) := (blk_cell BK287.out 1).trans rfl; have hcz14_2 : w11.cell? ⟨gb287, 2, none⟩ = some (.int .i64 a1_2) := (blk_cell BK287.out 2).trans rfl; have hcz14_3 : w11.cell? ⟨gb287, 3, none⟩ = some (.slice A1_3 l1_3.length c1_3) := (blk_cell BK287.out 3).trans rfl; have hcz14_4 : w11.cell? ⟨gb287, 4, none⟩ = some (.slice A1_4 l1_4.length c1_4) := (blk_cell BK287.out 4).trans rfl; have hfz14_0 := blk_frozen BK287.out 0; have hfz14_1 := blk_frozen BK287.out 1; have hfz14_2 := blk_frozen BK287.out 2; have hfz14_3 := blk_frozen BK287.out 3; have hfz14_4 := blk_frozen BK287.out 4) | ((with_reducible refine gate_callee (f := 89) rfl ?_); refine goesL_ (some 24) rfl rfl Try.func89 (by kernel_rfl) rfl #[.slice A0_3 l0_3.length c0_3, .slice A1_3 l1_3.length c1_3] rfl (by (try simp only [List.map_toArray, List.map_cons, List.map_nil]); first | done | rfl | (simp only [List.length_drop, List.length_take]; rfl)) ?_; (with_reducible refine (laws_eqSpanS.calls k _ _ l0_3 _ _ l1_3 true _ ?side1 ?side2 ?side3 ?side4 A6.out rfl).mono ?_); (case side1 => repeat (first | exact (Kd.C_below HR0_3.out HB.out) | (with_reducible refine Kd.C_alloc ?_ _) | (with_reducible refine Kd.C_drewN ?_ _) | (with_reducible refine Kd.C_drew ?_))); (case side2 => exact HC0_3.out); (case side3 => repeat (first | exact (Kd.C_below HR1_3.out HB.out) | (with_reducible refine Kd.C_alloc ?_ _) | (with_reducible refine Kd.C_drewN ?_ _) | (with_reducible refine Kd.C_drew ?_))); (case side4 => exact HC1_3.out); rintro e w15 ⟨rfl, hb⟩; refine ⟨_, rfl, ?_⟩; have n0_ := Aside0.mk (blk_below (g := gb286) (o := .cells #[.int .i64 a0_0, .int .i64 a0_1, .int .i64 a0_2, .slice A0_3 l0_3.length c0_3, .slice A0_4 l0_4.length c0_4] 119 (0, 0)) (by (with_reducible repeat (first | refine blk_drewN ?_ _ | refine blk_drew ?_ | refine blk_alloc ?_ _)); exact BK286.out) hb); have n1_ := Aside0.mk (blk_below (g := gb287) (o := .cells #[.int .i64 a1_0, .int .i64 a1_1, .int .i64 a1_2, .slice A1_3 l1_3.length c1_3, .slice A1_4 l1_4.length c1_4] 119 (0, 0)) (by (with_reducible repeat (first | refine blk_drewN ?_ _ | refine blk_drew ?_ | refine blk_alloc ?_ _)); exact BK287.out) hb); have n2_ := Aside0.mk (below_step (by repeat (first | (with_reducible first | exact HB.out | apply below_alloc | apply pw_below_drewN | apply below_drew1 | refine below_set ?_ GE286.out | refine below_set ?_ GE287.out) | exact HB.out)) hb); clear BK286; clear BK287; clear HB; have BK286 := n0_; have BK287 := n1_; have HB := n2_; clear n0_ n1_ n2_; (try clear hb); (try clear hb2); (try clear hk); (try clear hi); have hcz16_0 : w15.cell? ⟨gb286, 0, none⟩ = some (.int .i64 a0_0) := (blk_cell BK286.out 0).trans rfl; have hcz16_1 : w15.cell? ⟨gb286, 1, none⟩ = some (.int .i64 a0_1) := (blk_cell BK286.out 1).trans rfl; have hcz16_2 : w15.cell? ⟨gb286, 2, none⟩ = some (.int .i64 a0_2) := (blk_cell BK286.out 2).trans rfl; have hcz16_3 : w15.cell? ⟨gb286, 3, none⟩ = some (.slice A0_3 l0_3.length c0_3) := (blk_cell BK286.out 3).trans rfl; have hcz16_4 : w15.cell? ⟨gb286, 4, none⟩ = some (.slice A0_4 l0_4.length c0_4) := (blk_cell BK286.out 4).trans rfl; have hfz16_0 := blk_frozen BK286.out 0; have hfz16_1 := blk_frozen BK286.out 1; have hfz16_2 := blk_frozen BK286.out 2; have hfz16_3 := blk_frozen BK286.out 3; have hfz16_4 := blk_frozen BK286.out 4; have hcz17_0 : w15.cell? ⟨gb287, 0, none⟩ = some (.int .i64 a1_0) := (blk_cell BK287.out 0).trans rfl; have hcz17_1 : w15.cell? ⟨gb287, 1, none⟩ = some (.int .i64 a1_1) := (blk_cell BK287.out 1).trans rfl; have hcz17_2 : w15.cell? ⟨gb287, 2, none⟩ = some (.int .i64 a1_2) := (blk_cell BK287.out 2).trans rfl; have hcz17_3 : w15.cell? ⟨gb287, 3, none⟩ = some (.slice A1_3 l1_3.length c1_3) := (blk_cell BK287.out 3).trans rfl; have hcz17_4 : w15.cell? ⟨gb287, 4, none⟩ = some (.slice A1_4 l1_4.length c1_4) := (blk_cell BK287.out 4).trans rfl; have hfz17_0 := blk_frozen BK287.out 0; have hfz17_1 := blk_frozen BK287.out 1; have hfz17_2 := blk_frozen BK287.out 2; have hfz17_3 := blk_frozen BK287.out 3; have hfz17_4 := blk_frozen BK287.out 4) | ((with_reducible refine gate_callee (f := 90) rfl ?_); refine goesL_ (some 30) rfl rfl Try.func90 (by kernel_rfl) rfl #[.slice A0_4 l0_4.length c0_4, .slice A1_4 l1_4.length c1_4] rfl (by (try simp only [List.map_toArray, List.map_cons, List.map_nil]); first | done | rfl | (simp only [List.length_drop, List.length_take]; rfl)) ?_; (with_reducible refine (laws_eqItemS.calls k _ _ l0_4 _ _ l1_4 true _ ?side1 ?side2 ?side3 ?side4 A8.out rfl).mono ?_); (case side1 => repeat (first | exact (Kd.C_below HR0_4.out HB.out) | (with_reducible refine Kd.C_alloc ?_ _) | (with_reducible refine Kd.C_drewN ?_ _) | (with_reducible refine Kd.C_drew ?_))); (case side2 => exact HC0_4.out); (case side3 => repeat (first | exact (Kd.C_below HR1_4.out HB.out) | (with_reducible refine Kd.C_alloc ?_ _) | (with_reducible refine Kd.C_drewN ?_ _) | (with_reducible refine Kd.C_drew ?_))); (case side4 => exact HC1_4.out); rintro e w18 ⟨rfl, hb⟩; refine ⟨_, rfl, ?_⟩; have n0_ := Aside0.mk (blk_below (g := gb286) (o := .cells #[.int .i64 a0_0, .int .i64 a0_1, .int .i64 a0_2, .slice A0_3 l0_3.length c0_3, .slice A0_4 l0_4.length c0_4] 119 (0, 0)) (by (with_reducible repeat (first | refine blk_drewN ?_ _ | refine blk_drew ?_ | refine blk_alloc ?_ _)); exact BK286.out) hb); have n1_ := Aside0.mk (blk_below (g := gb287) (o := .cells #[.int .i64 a1_0, .int .i64 a1_1, .int .i64 a1_2, .slice A1_3 l1_3.length c1_3, .slice A1_4 l1_4.length c1_4] 119 (0, 0)) (by (with_reducible repeat (first | refine blk_drewN ?_ _ | refine blk_drew ?_ | refine blk_alloc ?_ _)); exact BK287.out) hb); have n2_ := Aside0.mk (below_step (by repeat (first | (with_reducible first | exact HB.out | apply below_alloc | apply pw_below_drewN | apply below_drew1 | refine below_set ?_ GE286.out | refine below_set ?_ GE287.out) | exact HB.out)) hb); clear BK286; clear BK287; clear HB; have BK286 := n0_; have BK287 := n1_; have HB := n2_; clear n0_ n1_ n2_; (try clear hb); (try clear hb2); (try clear hk); (try clear hi)))
            go_ret
            exact ⟨by first | rfl | (simp [errW_none, errW_some] <;> rfl) | (simp [*, errW_none, errW_some] <;> rfl), by repeat (first | (with_reducible first | exact HB.out | apply below_alloc | apply pw_below_drewN | apply below_drew1 | refine below_set ?_ GE286.out | refine below_set ?_ GE287.out) | exact HB.out)⟩
          · replace c9 := Bool.eq_false_iff.mpr c9
            subst c9
            have H1 : (some false) = some r := by rw [if_neg (show ¬ (false = true) by decide)] at H; exact H
            clear H
            have H := H1
            clear H1
            exact absurd (Option.some.inj H) (by rw [hrt]; decide)
        · replace c7 := Bool.eq_false_iff.mpr c7
          subst c7
          have H1 : (some false) = some r := by rw [if_neg (show ¬ (false = true) by decide)] at H; exact H
          clear H
          have H := H1
          clear H1
          exact absurd (Option.some.inj H) (by rw [hrt]; decide)
      · rw [if_neg c5] at H
        have c5b0 : (a0_2 == a1_2) = false := beq_eq_false_iff_ne.mpr c5
        have c5b1 : (a0_2 != a1_2) = true := bne_iff_ne.mpr c5
        exact absurd (Option.some.inj H) (by rw [hrt]; decide)
    · rw [if_neg c4] at H
      have c4b0 : (a0_1 == a1_1) = false := beq_eq_false_iff_ne.mpr c4
      have c4b1 : (a0_1 != a1_1) = true := bne_iff_ne.mpr c4
      exact absurd (Option.some.inj H) (by rw [hrt]; decide)
  · rw [if_neg c3] at H
    have c3b0 : (a0_0 == a1_0) = false := beq_eq_false_iff_ne.mpr c3
    have c3b1 : (a0_0 != a1_0) = true := bne_iff_ne.mpr c3
    exact absurd (Option.some.inj H) (by rw [hrt]; decide)

/-! ### laws_eqDeedS: function 39 -/
def laws_eqDeedS.l0 : Nat → List (S119) → List (S119) → Int → Option (Bool)
  | 0, _, _, _ => none
  | k + 1, x0, x1, x5 => if x5 < (x0.length : Int) then (if 0 ≤ x5 then (if x5 < (x1.length : Int) then ((laws_eqDeed.f k ((rd_T119 x0 x5).f0) ((rd_T119 x0 x5).f1) ((rd_T119 x0 x5).f2) ((rd_T119 x0 x5).f3) ((rd_T119 x0 x5).f4) ((rd_T119 x1 x5).f0) ((rd_T119 x1 x5).f1) ((rd_T119 x1 x5).f2) ((rd_T119 x1 x5).f3) ((rd_T119 x1 x5).f4)).bind fun t292 => (if t292 = true then (laws_eqDeedS.l0 k x0 x1 (wrap64 (x5 + 1))) else (some false))) else (none)) else (none)) else (some true)
def laws_eqDeedS.f (k : Nat) (l0 : List (S119)) (l1 : List (S119)) : Option (Bool) := if (l0.length : Int) = (l1.length : Int) then (laws_eqDeedS.l0 k l0 l1 0) else (some false)
theorem laws_eqDeedS.mono_l : ∀ k, (∀ y0 y1 y2, LeO (laws_eqDeedS.l0 k y0 y1 y2) (laws_eqDeedS.l0 (k + 1) y0 y1 y2))
  | 0 => fun _ _ _ r h => by simp [laws_eqDeedS.l0] at h
  | k + 1 => by
    have ih0 := laws_eqDeedS.mono_l k
    · intro y0 y1 y2
      unfold laws_eqDeedS.l0
      repeat' first
      | (with_reducible exact ih0 _ _ _)
      | (with_reducible exact laws_eqDeed.mono _ _ _ _ _ _ _ _ _ _ _)
      | (with_reducible exact LeO.refl _)
      | (with_reducible exact LeO.none _)
      | (with_reducible refine LeO.ite ?_ ?_)
      | (with_reducible refine LeO.bind ?_ (fun _ => ?_))
      | exact ih0 _ _ _
      | exact laws_eqDeed.mono _ _ _ _ _ _ _ _ _ _ _
      | exact LeO.none _
      | refine LeO.ite ?_ ?_
      | refine LeO.bind ?_ (fun _ => ?_)
theorem laws_eqDeedS.mono : ∀ a0 a1 k, LeO (laws_eqDeedS.f k a0 a1) (laws_eqDeedS.f (k + 1) a0 a1) := by
  intro a0 a1 k
  have ih0 := laws_eqDeedS.mono_l k
  unfold laws_eqDeedS.f
  repeat' first
      | (with_reducible exact ih0 _ _ _)
      | (with_reducible exact laws_eqDeed.mono _ _ _ _ _ _ _ _ _ _ _)
      | (with_reducible exact LeO.refl _)
      | (with_reducible exact LeO.none _)
      | (with_reducible refine LeO.ite ?_ ?_)
      | (with_reducible refine LeO.bind ?_ (fun _ => ?_))
      | exact ih0 _ _ _
      | exact laws_eqDeed.mono _ _ _ _ _ _ _ _ _ _ _
      | exact LeO.none _
      | refine LeO.ite ?_ ?_
      | refine LeO.bind ?_ (fun _ => ?_)
def laws_eqDeedS.T6 : Bool × List (List Nat × List Nat) := (true, [([], []), ([], []), ([0, 1], [0, 1]), ([2], [2]), ([], []), ([], []), ([4, 5], [4, 5]), ([6], [6]), ([3, 7], [3, 7]), ([8], [8])])
def laws_eqDeedS.B6 : List Nat := [0, 0, 3, 7, 0, 0, 48, 112, 255, 511]
theorem laws_eqDeedS.tab6 : rtab .any (opsOf Try.f39 6) = laws_eqDeedS.T6 := by kernel_rfl
theorem laws_eqDeedS.bits6 : waitsOk laws_eqDeedS.T6.2 laws_eqDeedS.B6 = true := by kernel_rfl
set_option maxHeartbeats 8000000 in
set_option maxRecDepth 100000 in
theorem laws_eqDeedS.calls (k : Nat) (A0 : Option Addr) (c0 : Nat) (l0 : List (S119)) (A1 : Option Addr) (c1 : Nat) (l1 : List (S119)) (r : Bool) (w : World) (hr0 : Kd.C k119 w A0 l0.length l0) (hc0 : l0.length ≤ c0) (hr1 : Kd.C k119 w A1 l1.length l1) (hc1 : l1.length ≤ c1) (h : laws_eqDeedS.f k l0 l1 = some r) (hrt : r = true) :
    Calls Try.prog 39 #[.slice A0 l0.length c0, .slice A1 l1.length c1] w fun e w' => e = .returned (.bool r) ∧ Below w.heap.size w w' := by
  have hu119 := Try.underlying119
  have HR0 := Aside0.mk hr0
  have HC0 := Aside0.mk hc0
  clear hr0 hc0
  have HR1 := Aside0.mk hr1
  have HC1 := Aside0.mk hc1
  clear hr1 hc1
  have HB := Aside0.mk (Below.refl w.heap.size w)
  have H : (if (l0.length : Int) = (l1.length : Int) then (laws_eqDeedS.l0 k l0 l1 0) else (some false)) = some r := h
  clear h
  by_cases c3 : (l0.length : Int) = (l1.length : Int)
  · rw [if_pos c3] at H
    have c3b0 : ((l0.length : Int) == (l1.length : Int)) = true := beq_iff_eq.mpr c3
    have c3b1 : ((l0.length : Int) != (l1.length : Int)) = false := bne_eq_false_iff_eq.mpr c3
    have c3b2 : (l0.length == l1.length) = true := by first | simpa using c3 | (simp at c3 ⊢; omega)
    clear c3
    have H' := Aside0.mk H
    clear H
    go_enter Try.func39, Try.ntmps39
    go_wp2
    go_loopg [5] k (fun kq v5 w' => ∃ (x5_1 : Int), v5 = .int .i64 x5_1 ∧ Aside0 (laws_eqDeedS.l0 kq l0 l1 x5_1 = some r) ∧ Aside0 (kq ≤ k) ∧ Aside0 (Below w.heap.size w w'))
    case atStart => exact ⟨(0), (by first | rfl | (simp; done) | (simp [*]; done)), H', ⟨Nat.le_refl _⟩, ⟨by repeat (first | (with_reducible first | exact HB.out | apply below_alloc | apply pw_below_drewN | apply below_drew1) | exact HB.out)⟩⟩
    case round =>
      clear H'
      try clear c1
      try clear p2
      try clear c3
      try clear c3b0
      try clear c3b1
      try clear c3b2
      obtain ⟨x5_1, rfl, HA, HK1, HB⟩ := hrel
      cases gk with
      | zero => exact absurd HA.out (by simp [laws_eqDeedS.l0])
      | succ k1 =>
        have H := HA.out
        clear HA
        simp only [laws_eqDeedS.l0] at H
        by_cases c4 : x5_1 < (l0.length : Int)
        · rw [if_pos c4] at H
          have c4b0 : decide (x5_1 < (l0.length : Int)) = true := decide_eq_true c4
          clear c4
          by_cases c5 : 0 ≤ x5_1
          · rw [if_pos c5] at H
            have c5b0 : decide (0 ≤ x5_1) = true := decide_eq_true c5
            clear c5
            by_cases c6 : x5_1 < (l1.length : Int)
            · rw [if_pos c6] at H
              have c6b0 : decide (x5_1 < (l1.length : Int)) = true := decide_eq_true c6
              clear c6
              replace H := Option.bind_eq_some_iff.mp H
              obtain ⟨t292, A70, H⟩ := H
              replace H : (if t292 = true then (laws_eqDeedS.l0 k1 l0 l1 (wrap64 (x5_1 + 1))) else (some false)) = some r := H
              have A7 := Aside0.mk A70
              clear A70
              by_cases c8 : t292 = true
              · subst c8
                have H1 : (laws_eqDeedS.l0 k1 l0 l1 (wrap64 (x5_1 + 1))) = some r := by rw [if_pos rfl] at H; exact H
                clear H
                have H := H1
                clear H1
                have H' := Aside0.mk H
                clear H
                try go_wp2
                have n0_ := Aside0.mk (below_drew1 HB.out)
                clear HB
                have HB := n0_
                clear n0_
                have p290 : 0 ≤ (x5_1 : Int) := of_decide_eq_true (by first | (with_reducible assumption) | assumption)
                have q290 : x5_1 < (l0.length : Int) := of_decide_eq_true (by first | (with_reducible assumption) | assumption)
                obtain ⟨ad290, A290_3, c290_3, A290_4, c290_4, e290, hx290_0, hx290_1, hx290_2, hx290_3, hx290_4, hl290_3, hi290_3, hl290_4, hi290_4⟩ := at_T119 HR0.out x5_1 p290 q290
                have hw290_4 := hx290_4
                have hw290_3 := hx290_3
                have hw290_2 := hx290_2
                have hw290_1 := hx290_1
                have hw290_0 := hx290_0
                cases e290
                replace hx290_0 := (HB.out.cell (World.block_lt_of_cell? w _ hx290_0)).trans hx290_0
                replace hx290_1 := (HB.out.cell (World.block_lt_of_cell? w _ hx290_1)).trans hx290_1
                replace hx290_2 := (HB.out.cell (World.block_lt_of_cell? w _ hx290_2)).trans hx290_2
                replace hx290_3 := (HB.out.cell (World.block_lt_of_cell? w _ hx290_3)).trans hx290_3
                replace hx290_4 := (HB.out.cell (World.block_lt_of_cell? w _ hx290_4)).trans hx290_4
                have HR290_3 := Aside0.mk hi290_3
                have HC290_3 := Aside0.mk hl290_3
                clear hi290_3 hl290_3
                have HR290_4 := Aside0.mk hi290_4
                have HC290_4 := Aside0.mk hl290_4
                clear hi290_4 hl290_4
                replace p290 := eq_true p290
                replace q290 := eq_true q290
                have p291 : 0 ≤ (x5_1 : Int) := of_decide_eq_true (by first | (with_reducible assumption) | assumption)
                have q291 : x5_1 < (l1.length : Int) := of_decide_eq_true (by first | (with_reducible assumption) | assumption)
                obtain ⟨ad291, A291_3, c291_3, A291_4, c291_4, e291, hx291_0, hx291_1, hx291_2, hx291_3, hx291_4, hl291_3, hi291_3, hl291_4, hi291_4⟩ := at_T119 HR1.out x5_1 p291 q291
                have hw291_4 := hx291_4
                have hw291_3 := hx291_3
                have hw291_2 := hx291_2
                have hw291_1 := hx291_1
                have hw291_0 := hx291_0
                cases e291
                replace hx291_0 := (HB.out.cell (World.block_lt_of_cell? w _ hx291_0)).trans hx291_0
                replace hx291_1 := (HB.out.cell (World.block_lt_of_cell? w _ hx291_1)).trans hx291_1
                replace hx291_2 := (HB.out.cell (World.block_lt_of_cell? w _ hx291_2)).trans hx291_2
                replace hx291_3 := (HB.out.cell (World.block_lt_of_cell? w _ hx291_3)).trans hx291_3
                replace hx291_4 := (HB.out.cell (World.block_lt_of_cell? w _ hx291_4)).trans hx291_4
                have HR291_3 := Aside0.mk hi291_3
                have HC291_3 := Aside0.mk hl291_3
                clear hi291_3 hl291_3
                have HR291_4 := Aside0.mk hi291_4
                have HC291_4 := Aside0.mk hl291_4
                clear hi291_4 hl291_4
                replace p291 := eq_true p291
                replace q291 := eq_true q291
                refine start_ (n := 10) (S := fun w' => w'.cell? (ad290.add ((x5_1).toNat * 5)) = some (.int .i64 ((rd_T119 l0 x5_1).f0)) ∧ w'.cell? ⟨(ad290.add ((x5_1).toNat * 5)).block, (ad290.add ((x5_1).toNat * 5)).off + 1, none⟩ = some (.int .i64 ((rd_T119 l0 x5_1).f1)) ∧ w'.cell? ⟨(ad290.add ((x5_1).toNat * 5)).block, (ad290.add ((x5_1).toNat * 5)).off + 2, none⟩ = some (.int .i64 ((rd_T119 l0 x5_1).f2)) ∧ w'.cell? ⟨(ad290.add ((x5_1).toNat * 5)).block, (ad290.add ((x5_1).toNat * 5)).off + 3, none⟩ = some (.slice A290_3 ((rd_T119 l0 x5_1).f3).length c290_3) ∧ w'.cell? ⟨(ad290.add ((x5_1).toNat * 5)).block, (ad290.add ((x5_1).toNat * 5)).off + 4, none⟩ = some (.slice A290_4 ((rd_T119 l0 x5_1).f4).length c290_4) ∧ w'.cell? (ad291.add ((x5_1).toNat * 5)) = some (.int .i64 ((rd_T119 l1 x5_1).f0)) ∧ w'.cell? ⟨(ad291.add ((x5_1).toNat * 5)).block, (ad291.add ((x5_1).toNat * 5)).off + 1, none⟩ = some (.int .i64 ((rd_T119 l1 x5_1).f1)) ∧ w'.cell? ⟨(ad291.add ((x5_1).toNat * 5)).block, (ad291.add ((x5_1).toNat * 5)).off + 2, none⟩ = some (.int .i64 ((rd_T119 l1 x5_1).f2)) ∧ w'.cell? ⟨(ad291.add ((x5_1).toNat * 5)).block, (ad291.add ((x5_1).toNat * 5)).off + 3, none⟩ = some (.slice A291_3 ((rd_T119 l1 x5_1).f3).length c291_3) ∧ w'.cell? ⟨(ad291.add ((x5_1).toNat * 5)).block, (ad291.add ((x5_1).toNat * 5)).off + 4, none⟩ = some (.slice A291_4 ((rd_T119 l1 x5_1).f4).length c291_4)) (ds := []) #[false, false, false, false, false, false, false, false, false, false] (by kernel_rfl) rfl rfl ⟨((HB.out.cell (World.block_lt_of_cell? w _ hw290_0)).trans hw290_0), ((HB.out.cell (World.block_lt_of_cell? w _ hw290_1)).trans hw290_1), ((HB.out.cell (World.block_lt_of_cell? w _ hw290_2)).trans hw290_2), ((HB.out.cell (World.block_lt_of_cell? w _ hw290_3)).trans hw290_3), ((HB.out.cell (World.block_lt_of_cell? w _ hw290_4)).trans hw290_4), ((HB.out.cell (World.block_lt_of_cell? w _ hw291_0)).trans hw291_0), ((HB.out.cell (World.block_lt_of_cell? w _ hw291_1)).trans hw291_1), ((HB.out.cell (World.block_lt_of_cell? w _ hw291_2)).trans hw291_2), ((HB.out.cell (World.block_lt_of_cell? w _ hw291_3)).trans hw291_3), ((HB.out.cell (World.block_lt_of_cell? w _ hw291_4)).trans hw291_4)⟩ (fun hHeld => ?_); refine with_tabW laws_eqDeedS.tab6 laws_eqDeedS.bits6 (fun HT_ HW_ => ?_)
                generalize wr.drew = w9 at HB HR290_3 HR290_4 HR291_3 HR291_4 hx290_0 hx290_1 hx290_2 hx290_3 hx290_4 hx291_0 hx291_1 hx291_2 hx291_3 hx291_4 hHeld ⊢
                refine pure_ (i := 0) (N := some 17) (v := ?_) (a' := ?_) #[true, false, false, false, false, false, false, false, false, false] rfl rfl (any_of HT_.out (by kernel_rfl)) (fun _ _ _ h => h) (Or.inl ⟨by rfl, ?_⟩) ?_ ?_
                rotate_left
                · intro w'
                  go_simp
                  with_reducible rfl
                rotate_left
                · simp only [Act.put, List.setIfInBounds_toArray, List.set_cons_zero, List.set_cons_succ, i64_w, i32_w]
                  rfl
                refine pure_ (i := 1) (N := some 18) (v := ?_) (a' := ?_) #[true, true, false, false, false, false, false, false, false, false] rfl rfl (any_of HT_.out (by kernel_rfl)) (fun _ _ _ h => h) (Or.inl ⟨by rfl, ?_⟩) ?_ ?_
                rotate_left
                · intro w'
                  go_simp
                  with_reducible rfl
                rotate_left
                · simp only [Act.put, List.setIfInBounds_toArray, List.set_cons_zero, List.set_cons_succ, i64_w, i32_w]
                  rfl
                refine pure_ (i := 2) (N := some 19) (v := ?_) (a' := ?_) #[true, true, true, false, false, false, false, false, false, false] rfl rfl (any_of HT_.out (by kernel_rfl)) (fun _ _ _ h => h) (Or.inl ⟨by rfl, ?_⟩) ?_ ?_
                rotate_left
                · intro w'
                  go_simp
                  with_reducible rfl
                rotate_left
                · simp only [Act.put, List.setIfInBounds_toArray, List.set_cons_zero, List.set_cons_succ, i64_w, i32_w]
                  rfl
                refine pure_ (i := 4) (N := some 21) (v := ?_) (a' := ?_) #[true, true, true, false, true, false, false, false, false, false] rfl rfl (any_of HT_.out (by kernel_rfl)) (fun _ _ _ h => h) (Or.inl ⟨by rfl, ?_⟩) ?_ ?_
                rotate_left
                · intro w'
                  go_simp
                  with_reducible rfl
                rotate_left
                · simp only [Act.put, List.setIfInBounds_toArray, List.set_cons_zero, List.set_cons_succ, i64_w, i32_w]
                  rfl
                refine pure_ (i := 5) (N := some 22) (v := ?_) (a' := ?_) #[true, true, true, false, true, true, false, false, false, false] rfl rfl (any_of HT_.out (by kernel_rfl)) (fun _ _ _ h => h) (Or.inl ⟨by rfl, ?_⟩) ?_ ?_
                rotate_left
                · intro w'
                  go_simp
                  with_reducible rfl
                rotate_left
                · simp only [Act.put, List.setIfInBounds_toArray, List.set_cons_zero, List.set_cons_succ, i64_w, i32_w]
                  rfl
                refine pure_ (i := 6) (N := some 23) (v := ?_) (a' := ?_) #[true, true, true, false, true, true, true, false, false, false] rfl rfl (any_of HT_.out (by kernel_rfl)) (fun _ _ _ h => h) (Or.inl ⟨by rfl, ?_⟩) ?_ ?_
                rotate_left
                · intro w'
                  go_simp
                  with_reducible rfl
                rotate_left
                · simp only [Act.put, List.setIfInBounds_toArray, List.set_cons_zero, List.set_cons_succ, i64_w, i32_w]
                  rfl
                refine take_ (i := 3) (N := some 20) (v := ?_) (a' := ?_) #[true, true, true, true, true, true, true, false, false, false] rfl rfl (take_ofW HT_.out HW_.out (by kernel_rfl)) (fun _ _ _ h => h) (Or.inl ⟨by rfl, ?_⟩) hHeld ?_ ?_
                rotate_left
                · rintro w' ⟨s0, s1, s2, s3, s4, s5, s6, s7, s8, s9⟩
                  go_simp
                  with_reducible rfl
                rotate_left
                · simp only [Act.put, List.setIfInBounds_toArray, List.set_cons_zero, List.set_cons_succ, i64_w, i32_w]
                  rfl
                refine take_ (i := 7) (N := some 24) (v := ?_) (a' := ?_) #[true, true, true, true, true, true, true, true, false, false] rfl rfl (take_ofW HT_.out HW_.out (by kernel_rfl)) (fun _ _ _ h => h) (Or.inl ⟨by rfl, ?_⟩) hHeld ?_ ?_
                rotate_left
                · rintro w' ⟨s0, s1, s2, s3, s4, s5, s6, s7, s8, s9⟩
                  go_simp
                  with_reducible rfl
                rotate_left
                · simp only [Act.put, List.setIfInBounds_toArray, List.set_cons_zero, List.set_cons_succ, i64_w, i32_w]
                  rfl
                refine one_ (i := 8) (N := some 25) #[true, true, true, true, true, true, true, true, true, false] rfl rfl (one_of HT_.out (by kernel_rfl)) (by decide) (fun K hK => ?_)
                refine goes_ Try.func97 (by kernel_rfl) rfl #[.agg #[.int .i64 ((rd_T119 l0 x5_1).f0), .int .i64 ((rd_T119 l0 x5_1).f1), .int .i64 ((rd_T119 l0 x5_1).f2), .slice A290_3 ((rd_T119 l0 x5_1).f3).length c290_3, .slice A290_4 ((rd_T119 l0 x5_1).f4).length c290_4], .agg #[.int .i64 ((rd_T119 l1 x5_1).f0), .int .i64 ((rd_T119 l1 x5_1).f1), .int .i64 ((rd_T119 l1 x5_1).f2), .slice A291_3 ((rd_T119 l1 x5_1).f3).length c291_3, .slice A291_4 ((rd_T119 l1 x5_1).f4).length c291_4]] (by rfl) rfl rfl (by (try simp only [List.map_toArray, List.map_cons, List.map_nil]); first | done | rfl | (simp only [List.length_drop, List.length_take]; rfl)) ?_
                with_reducible refine (laws_eqDeed.calls k1 ((rd_T119 l0 x5_1).f0) ((rd_T119 l0 x5_1).f1) ((rd_T119 l0 x5_1).f2) _ _ ((rd_T119 l0 x5_1).f3) _ _ ((rd_T119 l0 x5_1).f4) ((rd_T119 l1 x5_1).f0) ((rd_T119 l1 x5_1).f1) ((rd_T119 l1 x5_1).f2) _ _ ((rd_T119 l1 x5_1).f3) _ _ ((rd_T119 l1 x5_1).f4) true _ ?side1 ?side2 ?side3 ?side4 ?side5 ?side6 ?side7 ?side8 A7.out rfl).mono ?_
                (case side1 => repeat (first | exact (Kd.C_below HR290_3.out HB.out) | (with_reducible refine Kd.C_alloc ?_ _) | (with_reducible refine Kd.C_drewN ?_ _) | (with_reducible refine Kd.C_drew ?_)))
                (case side2 => exact HC290_3.out)
                (case side3 => repeat (first | exact (Kd.C_below HR290_4.out HB.out) | (with_reducible refine Kd.C_alloc ?_ _) | (with_reducible refine Kd.C_drewN ?_ _) | (with_reducible refine Kd.C_drew ?_)))
                (case side4 => exact HC290_4.out)
                (case side5 => repeat (first | exact (Kd.C_below HR291_3.out HB.out) | (with_reducible refine Kd.C_alloc ?_ _) | (with_reducible refine Kd.C_drewN ?_ _) | (with_reducible refine Kd.C_drew ?_)))
                (case side6 => exact HC291_3.out)
                (case side7 => repeat (first | exact (Kd.C_below HR291_4.out HB.out) | (with_reducible refine Kd.C_alloc ?_ _) | (with_reducible refine Kd.C_drewN ?_ _) | (with_reducible refine Kd.C_drew ?_)))
                (case side8 => exact HC291_4.out)
                rintro e w10 ⟨rfl, hb⟩
                refine ⟨_, rfl, ?_⟩
                have n0_ := Aside0.mk (below_step (by repeat (first | (with_reducible first | exact HB.out | apply below_alloc | apply pw_below_drewN | apply below_drew1) | exact HB.out)) hb)
                clear HB
                have HB := n0_
                clear n0_
                (try clear hb)
                (try clear hb2)
                (try clear hk)
                (try clear hi)
                refine hK.out _ _ ⟨((HB.out.cell (World.block_lt_of_cell? w _ hw290_0)).trans hw290_0), ((HB.out.cell (World.block_lt_of_cell? w _ hw290_1)).trans hw290_1), ((HB.out.cell (World.block_lt_of_cell? w _ hw290_2)).trans hw290_2), ((HB.out.cell (World.block_lt_of_cell? w _ hw290_3)).trans hw290_3), ((HB.out.cell (World.block_lt_of_cell? w _ hw290_4)).trans hw290_4), ((HB.out.cell (World.block_lt_of_cell? w _ hw291_0)).trans hw291_0), ((HB.out.cell (World.block_lt_of_cell? w _ hw291_1)).trans hw291_1), ((HB.out.cell (World.block_lt_of_cell? w _ hw291_2)).trans hw291_2), ((HB.out.cell (World.block_lt_of_cell? w _ hw291_3)).trans hw291_3), ((HB.out.cell (World.block_lt_of_cell? w _ hw291_4)).trans hw291_4)⟩ (fun hHeld => ?_)
                clear hK K
                refine norm_ (a' := ?_) ?_ ?_
                rotate_left
                · show Act.put _ (some 25) _ = _
                  simp only [Act.put, List.setIfInBounds_toArray, List.set_cons_zero, List.set_cons_succ, i64_w, i32_w]
                  rfl
                refine pure_ (i := 9) (N := some 26) (v := ?_) (a' := ?_) #[true, true, true, true, true, true, true, true, true, true] rfl rfl (any_of HT_.out (by kernel_rfl)) (fun _ _ _ h => h) (Or.inl ⟨by rfl, ?_⟩) ?_ ?_
                rotate_left
                · intro w'
                  go_simp
                  with_reducible rfl
                rotate_left
                · simp only [Act.put, List.setIfInBounds_toArray, List.set_cons_zero, List.set_cons_succ, i64_w, i32_w]
                  rfl
                refine done_ (done_of HT_.out (by kernel_rfl)) ?_
                try go_wp2
                go_roundg k1
                case measure => have := HK1.out; omega
                case rel => exact ⟨(wrap64 (x5_1 + 1)), (by first | rfl | (simp; done) | (simp [*]; done)), H', ⟨by have := HK1.out; omega⟩, ⟨by repeat (first | (with_reducible first | exact HB.out | apply below_alloc | apply pw_below_drewN | apply below_drew1) | exact HB.out)⟩⟩
              · replace c8 := Bool.eq_false_iff.mpr c8
                subst c8
                have H1 : (some false) = some r := by rw [if_neg (show ¬ (false = true) by decide)] at H; exact H
                clear H
                have H := H1
                clear H1
                exact absurd (Option.some.inj H) (by rw [hrt]; decide)
            · rw [if_neg c6] at H
              exact absurd H (by simp)
          · rw [if_neg c5] at H
            exact absurd H (by simp)
        · rw [if_neg c4] at H
          have c4b0 : decide (x5_1 < (l0.length : Int)) = false := decide_eq_false c4
          clear c4
          obtain rfl := Option.some.inj H
          go_wp2
          go_ret
          exact ⟨by first | rfl | (simp [errW_none, errW_some] <;> rfl) | (simp [*, errW_none, errW_some] <;> rfl), by repeat (first | (with_reducible first | exact HB.out | apply below_alloc | apply pw_below_drewN | apply below_drew1) | exact HB.out)⟩
  · rw [if_neg c3] at H
    have c3b0 : ((l0.length : Int) == (l1.length : Int)) = false := beq_eq_false_iff_ne.mpr c3
    have c3b1 : ((l0.length : Int) != (l1.length : Int)) = true := bne_iff_ne.mpr c3
    have c3b2 : (l0.length == l1.length) = false := by first | simpa using c3 | (simp at c3 ⊢; omega)
    exact absurd (Option.some.inj H) (by rw [hrt]; decide)

/-! ### laws_FnExactDeedsOk: function 7 -/
def laws_FnExactDeedsOk.f (k : Nat) (l0 : List (S117)) : Option (Bool) := (laws_szDeedS.f k l0 1048576).bind fun t293 => (if t293 < 0 then (some true) else ((laws_toDeedS.f k l0).bind fun t294 => ((spec_DeedsOk.f k t294).bind fun t297 => ((laws_toDeedS.f k l0).bind fun t298 => ((impl_DeedsOk.f k t298).bind fun t301 => (if (t301 != t297) = true then (some false) else ((laws_toDeedS.f k l0).bind fun t302 => ((laws_eqDeedS.f k t298 t302).bind fun t305 => (if t305 = true then (some true) else (some false))))))))))
theorem laws_FnExactDeedsOk.mono : ∀ a0 k, LeO (laws_FnExactDeedsOk.f k a0) (laws_FnExactDeedsOk.f (k + 1) a0) := by
  intro a0 k
  unfold laws_FnExactDeedsOk.f
  repeat' first
      | (with_reducible exact impl_DeedsOk.mono _ _)
      | (with_reducible exact laws_eqDeedS.mono _ _ _)
      | (with_reducible exact laws_szDeedS.mono _ _ _)
      | (with_reducible exact laws_toDeedS.mono _ _)
      | (with_reducible exact spec_DeedsOk.mono _ _)
      | (with_reducible exact LeO.refl _)
      | (with_reducible exact LeO.none _)
      | (with_reducible refine LeO.ite ?_ ?_)
      | (with_reducible refine LeO.bind ?_ (fun _ => ?_))
      | exact impl_DeedsOk.mono _ _
      | exact laws_eqDeedS.mono _ _ _
      | exact laws_szDeedS.mono _ _ _
      | exact laws_toDeedS.mono _ _
      | exact spec_DeedsOk.mono _ _
      | exact LeO.none _
      | refine LeO.ite ?_ ?_
      | refine LeO.bind ?_ (fun _ => ?_)
set_option maxHeartbeats 8000000 in
set_option maxRecDepth 100000 in
theorem laws_FnExactDeedsOk.calls (k : Nat) (A0 : Option Addr) (c0 : Nat) (l0 : List (S117)) (r : Bool) (w : World) (hr0 : Kd.C k117 w A0 l0.length l0) (hc0 : l0.length ≤ c0) (h : laws_FnExactDeedsOk.f k l0 = some r) (hrt : r = true) :
    Calls Try.prog 7 #[.slice A0 l0.length c0] w fun e w' => e = .returned (.bool r) ∧ Below w.heap.size w w' := by
  have HR0 := Aside0.mk hr0
  have HC0 := Aside0.mk hc0
  clear hr0 hc0
  have HB := Aside0.mk (Below.refl w.heap.size w)
  have H : ((laws_szDeedS.f k l0 1048576).bind fun t293 => (if t293 < 0 then (some true) else ((laws_toDeedS.f k l0).bind fun t294 => ((spec_DeedsOk.f k t294).bind fun t297 => ((laws_toDeedS.f k l0).bind fun t298 => ((impl_DeedsOk.f k t298).bind fun t301 => (if (t301 != t297) = true then (some false) else ((laws_toDeedS.f k l0).bind fun t302 => ((laws_eqDeedS.f k t298 t302).bind fun t305 => (if t305 = true then (some true) else (some false))))))))))) = some r := h
  clear h
  replace H := Option.bind_eq_some_iff.mp H
  obtain ⟨t293, A20, H⟩ := H
  replace H : (if t293 < 0 then (some true) else ((laws_toDeedS.f k l0).bind fun t294 => ((spec_DeedsOk.f k t294).bind fun t297 => ((laws_toDeedS.f k l0).bind fun t298 => ((impl_DeedsOk.f k t298).bind fun t301 => (if (t301 != t297) = true then (some false) else ((laws_toDeedS.f k l0).bind fun t302 => ((laws_eqDeedS.f k t298 t302).bind fun t305 => (if t305 = true then (some true) else (some false)))))))))) = some r := H
  have A2 := Aside0.mk A20
  clear A20
  by_cases c3 : t293 < 0
  · rw [if_pos c3] at H
    have c3b0 : decide (t293 < 0) = true := decide_eq_true c3
    clear c3
    obtain rfl := Option.some.inj H
    go_enter Try.func7, Try.ntmps7
    go_wp2_with (first | ((with_reducible refine gate_callee (f := 35) rfl ?_); refine goesL_ (some 9) rfl rfl Try.func35 (by kernel_rfl) rfl #[.slice A0 l0.length c0, .int .i64 1048576] rfl (by (try simp only [List.map_toArray, List.map_cons, List.map_nil]); first | done | rfl | (simp only [List.length_drop, List.length_take]; rfl)) ?_; (with_reducible refine (laws_szDeedS.calls k _ _ l0 1048576 t293 _ ?side1 ?side2 A2.out).mono ?_); (case side1 => repeat (first | exact HR0.out | (with_reducible refine Kd.C_alloc ?_ _) | (with_reducible refine Kd.C_drewN ?_ _) | (with_reducible refine Kd.C_drew ?_))); (case side2 => exact HC0.out); rintro e w4 ⟨rfl, hb⟩; refine ⟨_, rfl, ?_⟩; have n0_ := Aside0.mk (below_step (by repeat (first | (with_reducible first | exact HB.out | apply below_alloc | apply pw_below_drewN | apply below_drew1) | exact HB.out)) hb); clear HB; have HB := n0_; clear n0_; (try clear hb); (try clear hb2); (try clear hk); (try clear hi)))
    go_ret
    exact ⟨by first | rfl | (simp [errW_none, errW_some] <;> rfl) | (simp [*, errW_none, errW_some] <;> rfl), by repeat (first | (with_reducible first | exact HB.out | apply below_alloc | apply pw_below_drewN | apply below_drew1) | exact HB.out)⟩
  · rw [if_neg c3] at H
    have c3b0 : decide (t293 < 0) = false := decide_eq_false c3
    clear c3
    replace H := Option.bind_eq_some_iff.mp H
    obtain ⟨t294, A50, H⟩ := H
    replace H : ((spec_DeedsOk.f k t294).bind fun t297 => ((laws_toDeedS.f k l0).bind fun t298 => ((impl_DeedsOk.f k t298).bind fun t301 => (if (t301 != t297) = true then (some false) else ((laws_toDeedS.f k l0).bind fun t302 => ((laws_eqDeedS.f k t298 t302).bind fun t305 => (if t305 = true then (some true) else (some false)))))))) = some r := H
    have A5 := Aside0.mk A50
    clear A50
    replace H := Option.bind_eq_some_iff.mp H
    obtain ⟨t297, A60, H⟩ := H
    replace H : ((laws_toDeedS.f k l0).bind fun t298 => ((impl_DeedsOk.f k t298).bind fun t301 => (if (t301 != t297) = true then (some false) else ((laws_toDeedS.f k l0).bind fun t302 => ((laws_eqDeedS.f k t298 t302).bind fun t305 => (if t305 = true then (some true) else (some false))))))) = some r := H
    have A6 := Aside0.mk A60
    clear A60
    replace H := Option.bind_eq_some_iff.mp H
    obtain ⟨t298, A70, H⟩ := H
    replace H : ((impl_DeedsOk.f k t298).bind fun t301 => (if (t301 != t297) = true then (some false) else ((laws_toDeedS.f k l0).bind fun t302 => ((laws_eqDeedS.f k t298 t302).bind fun t305 => (if t305 = true then (some true) else (some false)))))) = some r := H
    have A7 := Aside0.mk A70
    clear A70
    replace H := Option.bind_eq_some_iff.mp H
    obtain ⟨t301, A80, H⟩ := H
    replace H : (if (t301 != t297) = true then (some false) else ((laws_toDeedS.f k l0).bind fun t302 => ((laws_eqDeedS.f k t298 t302).bind fun t305 => (if t305 = true then (some true) else (some false))))) = some r := H
    have A8 := Aside0.mk A80
    clear A80
    by_cases c9 : (t301 != t297) = true
    · rw [if_pos c9] at H
      have c9b0 : (t301 != t297) = true := c9
      (try (have c9b1 : decide (t301 = t297) = false := by simpa using c9))
      (try (have c9b2 : (t301 == t297) = false := by simpa using c9))
      (try (have c9b3 : ¬ (t301 = t297) := by simpa using c9))
      (try (have c9b4 : (!t301 == t297) = true := by have h_ := c9; cases t301 <;> simp at h_ ⊢ <;> first | done | omega | exact List.length_pos_iff.2 h_ | simp_all))
      clear c9
      exact absurd (Option.some.inj H) (by rw [hrt]; decide)
    · rw [if_neg c9] at H
      have c9b0 : (t301 != t297) = false := by simpa using c9
      (try (have c9b1 : decide (t301 = t297) = true := by simpa using c9))
      (try (have c9b2 : (t301 == t297) = true := by simpa using c9))
      (try (have c9b3 : (!t301 == t297) = false := by have h_ := c9; cases t301 <;> simp at h_ ⊢ <;> first | done | omega | exact List.length_pos_iff.2 h_ | simp_all))
      clear c9
      replace H := Option.bind_eq_some_iff.mp H
      obtain ⟨t302, A100, H⟩ := H
      replace H : ((laws_eqDeedS.f k t298 t302).bind fun t305 => (if t305 = true then (some true) else (some false))) = some r := H
      have A10 := Aside0.mk A100
      clear A100
      replace H := Option.bind_eq_some_iff.mp H
      obtain ⟨t305, A110, H⟩ := H
      replace H : (if t305 = true then (some true) else (some false)) = some r := H
      have A11 := Aside0.mk A110
      clear A110
      by_cases c12 : t305 = true
      · subst c12
        have H1 : (some true) = some r := by rw [if_pos rfl] at H; exact H
        clear H
        have H := H1
        clear H1
        obtain rfl := Option.some.inj H
        go_enter Try.func7, Try.ntmps7
        go_wp2_with (first | ((with_reducible refine gate_callee (f := 35) rfl ?_); refine goesL_ (some 9) rfl rfl Try.func35 (by kernel_rfl) rfl #[.slice A0 l0.length c0, .int .i64 1048576] rfl (by (try simp only [List.map_toArray, List.map_cons, List.map_nil]); first | done | rfl | (simp only [List.length_drop, List.length_take]; rfl)) ?_; (with_reducible refine (laws_szDeedS.calls k _ _ l0 1048576 t293 _ ?side1 ?side2 A2.out).mono ?_); (case side1 => repeat (first | exact HR0.out | (with_reducible refine Kd.C_alloc ?_ _) | (with_reducible refine Kd.C_drewN ?_ _) | (with_reducible refine Kd.C_drew ?_))); (case side2 => exact HC0.out); rintro e w13 ⟨rfl, hb⟩; refine ⟨_, rfl, ?_⟩; have n0_ := Aside0.mk (below_step (by repeat (first | (with_reducible first | exact HB.out | apply below_alloc | apply pw_below_drewN | apply below_drew1) | exact HB.out)) hb); clear HB; have HB := n0_; clear n0_; (try clear hb); (try clear hb2); (try clear hk); (try clear hi)) | ((with_reducible refine gate_callee (f := 37) rfl ?_); refine goesL_ (some 13) rfl rfl Try.func37 (by kernel_rfl) rfl #[.slice A0 l0.length c0] rfl (by (try simp only [List.map_toArray, List.map_cons, List.map_nil]); first | done | rfl | (simp only [List.length_drop, List.length_take]; rfl)) ?_; (with_reducible refine (laws_toDeedS.calls k _ _ l0 t294 _ ?side1 ?side2 A5.out).mono ?_); (case side1 => repeat (first | exact (Kd.C_below HR0.out HB.out) | (with_reducible refine Kd.C_alloc ?_ _) | (with_reducible refine Kd.C_drewN ?_ _) | (with_reducible refine Kd.C_drew ?_))); (case side2 => exact HC0.out); rintro e w14 ⟨v295, rfl, ho0, hb⟩; refine ⟨_, rfl, ?_⟩; have n0_ := Aside0.mk (Kd.R_lower ho0 (below_size (by repeat (first | (with_reducible first | exact HB.out | apply below_alloc | apply pw_below_drewN | apply below_drew1) | exact HB.out)))); have n1_ := Aside0.mk (below_step (by repeat (first | (with_reducible first | exact HB.out | apply below_alloc | apply pw_below_drewN | apply below_drew1) | exact HB.out)) hb); clear HB; have HO296 := n0_; have HB := n1_; clear n0_ n1_; (try clear hb); (try clear hb2); (try clear hk); (try clear hi); (try clear ho0); obtain ⟨Ao15, co15, eo15⟩ := Kd.R_slice HO296.out; subst eo15) | ((with_reducible refine gate_callee (f := 36) rfl ?_); refine goesL_ (some 14) rfl rfl Try.func36 (by kernel_rfl) rfl #[.slice Ao15 t294.length co15] rfl (by (try simp only [List.map_toArray, List.map_cons, List.map_nil]); first | done | rfl | (simp only [List.length_drop, List.length_take]; rfl)) ?_; (with_reducible refine (spec_DeedsOk.calls k _ _ t294 t297 _ ?side1 ?side2 A6.out).mono ?_); (case side1 => repeat (first | exact (Kd.R_reads' HO296.out).2.2 | (with_reducible refine Kd.C_alloc ?_ _) | (with_reducible refine Kd.C_drewN ?_ _) | (with_reducible refine Kd.C_drew ?_))); (case side2 => exact (Kd.R_reads' HO296.out).2.1); rintro e w16 ⟨rfl, hb⟩; refine ⟨_, rfl, ?_⟩; have n0_ := Aside0.mk (Kd.R_below (by (with_reducible repeat (first | apply Kd.R_alloc | apply Kd.R_drewN | apply Kd.R_drew)); exact HO296.out) hb); have n1_ := Aside0.mk (below_step (by repeat (first | (with_reducible first | exact HB.out | apply below_alloc | apply pw_below_drewN | apply below_drew1) | exact HB.out)) hb); clear HO296; clear HB; have HO296 := n0_; have HB := n1_; clear n0_ n1_; (try clear hb); (try clear hb2); (try clear hk); (try clear hi)) | ((with_reducible refine gate_callee (f := 37) rfl ?_); refine goesL_ (some 16) rfl rfl Try.func37 (by kernel_rfl) rfl #[.slice A0 l0.length c0] rfl (by (try simp only [List.map_toArray, List.map_cons, List.map_nil]); first | done | rfl | (simp only [List.length_drop, List.length_take]; rfl)) ?_; (with_reducible refine (laws_toDeedS.calls k _ _ l0 t298 _ ?side1 ?side2 A7.out).mono ?_); (case side1 => repeat (first | exact (Kd.C_below HR0.out HB.out) | (with_reducible refine Kd.C_alloc ?_ _) | (with_reducible refine Kd.C_drewN ?_ _) | (with_reducible refine Kd.C_drew ?_))); (case side2 => exact HC0.out); rintro e w17 ⟨v299, rfl, ho0, hb⟩; refine ⟨_, rfl, ?_⟩; have n0_ := Aside0.mk (Kd.R_elder' (by (with_reducible repeat (first | apply Kd.R_alloc | apply Kd.R_drewN | apply Kd.R_drew)); exact HO296.out) (Kd.R_base ho0) hb); have n1_ := Aside0.mk (Kd.R_lower (Kd.R_new' ho0 (Kd.R_lt (by (with_reducible repeat (first | apply Kd.R_alloc | apply Kd.R_drewN | apply Kd.R_drew)); exact HO296.out))) (below_size (by repeat (first | (with_reducible first | exact HB.out | apply below_alloc | apply pw_below_drewN | apply below_drew1) | exact HB.out)))); have n2_ := Aside0.mk (below_step (by repeat (first | (with_reducible first | exact HB.out | apply below_alloc | apply pw_below_drewN | apply below_drew1) | exact HB.out)) hb); clear HO296; clear HB; have HO296 := n0_; have HO300 := n1_; have HB := n2_; clear n0_ n1_ n2_; (try clear hb); (try clear hb2); (try clear hk); (try clear hi); (try clear ho0); obtain ⟨Ao18, co18, eo18⟩ := Kd.R_slice HO300.out; subst eo18) | ((with_reducible refine gate_callee (f := 38) rfl ?_); refine goesL_ (some 18) rfl rfl Try.func38 (by kernel_rfl) rfl #[.slice Ao18 t298.length co18] rfl (by (try simp only [List.map_toArray, List.map_cons, List.map_nil]); first | done | rfl | (simp only [List.length_drop, List.length_take]; rfl)) ?_; (with_reducible refine (impl_DeedsOk.calls k _ _ t298 t301 _ ?side1 ?side2 A8.out).mono ?_); (case side1 => repeat (first | exact (Kd.R_reads' HO300.out).2.2 | (with_reducible refine Kd.C_alloc ?_ _) | (with_reducible refine Kd.C_drewN ?_ _) | (with_reducible refine Kd.C_drew ?_))); (case side2 => exact (Kd.R_reads' HO300.out).2.1); rintro e w19 ⟨rfl, hb⟩; refine ⟨_, rfl, ?_⟩; have n0_ := Aside0.mk (Kd.R_below (by (with_reducible repeat (first | apply Kd.R_alloc | apply Kd.R_drewN | apply Kd.R_drew)); exact HO296.out) hb); have n1_ := Aside0.mk (Kd.R_below (by (with_reducible repeat (first | apply Kd.R_alloc | apply Kd.R_drewN | apply Kd.R_drew)); exact HO300.out) hb); have n2_ := Aside0.mk (below_step (by repeat (first | (with_reducible first | exact HB.out | apply below_alloc | apply pw_below_drewN | apply below_drew1) | exact HB.out)) hb); clear HO296; clear HO300; clear HB; have HO296 := n0_; have HO300 := n1_; have HB := n2_; clear n0_ n1_ n2_; (try clear hb); (try clear hb2); (try clear hk); (try clear hi)) | ((with_reducible refine gate_callee (f := 37) rfl ?_); refine goesL_ (some 24) rfl rfl Try.func37 (by kernel_rfl) rfl #[.slice A0 l0.length c0] rfl (by (try simp only [List.map_toArray, List.map_cons, List.map_nil]); first | done | rfl | (simp only [List.length_drop, List.length_take]; rfl)) ?_; (with_reducible refine (laws_toDeedS.calls k _ _ l0 t302 _ ?side1 ?side2 A10.out).mono ?_); (case side1 => repeat (first | exact (Kd.C_below HR0.out HB.out) | (with_reducible refine Kd.C_alloc ?_ _) | (with_reducible refine Kd.C_drewN ?_ _) | (with_reducible refine Kd.C_drew ?_))); (case side2 => exact HC0.out); rintro e w20 ⟨v303, rfl, ho0, hb⟩; refine ⟨_, rfl, ?_⟩; have n0_ := Aside0.mk (Kd.R_elder' (by (with_reducible repeat (first | apply Kd.R_alloc | apply Kd.R_drewN | apply Kd.R_drew)); exact HO296.out) (Kd.R_base ho0) hb); have n1_ := Aside0.mk (Kd.R_elder' (by (with_reducible repeat (first | apply Kd.R_alloc | apply Kd.R_drewN | apply Kd.R_drew)); exact HO300.out) (Kd.R_base ho0) hb); have n2_ := Aside0.mk (Kd.R_lower (Kd.R_new' (Kd.R_new' ho0 (Kd.R_lt (by (with_reducible repeat (first | apply Kd.R_alloc | apply Kd.R_drewN | apply Kd.R_drew)); exact HO296.out))) (Kd.R_lt (by (with_reducible repeat (first | apply Kd.R_alloc | apply Kd.R_drewN | apply Kd.R_drew)); exact HO300.out))) (below_size (by repeat (first | (with_reducible first | exact HB.out | apply below_alloc | apply pw_below_drewN | apply below_drew1) | exact HB.out)))); have n3_ := Aside0.mk (below_step (by repeat (first | (with_reducible first | exact HB.out | apply below_alloc | apply pw_below_drewN | apply below_drew1) | exact HB.out)) hb); clear HO296; clear HO300; clear HB; have HO296 := n0_; have HO300 := n1_; have HO304 := n2_; have HB := n3_; clear n0_ n1_ n2_ n3_; (try clear hb); (try clear hb2); (try clear hk); (try clear hi); (try clear ho0); obtain ⟨Ao21, co21, eo21⟩ := Kd.R_slice HO304.out; subst eo21) | ((with_reducible refine gate_callee (f := 39) rfl ?_); refine goesL_ (some 25) rfl rfl Try.func39 (by kernel_rfl) rfl #[.slice Ao18 t298.length co18, .slice Ao21 t302.length co21] rfl (by (try simp only [List.map_toArray, List.map_cons, List.map_nil]); first | done | rfl | (simp only [List.length_drop, List.length_take]; rfl)) ?_; (with_reducible refine (laws_eqDeedS.calls k _ _ t298 _ _ t302 true _ ?side1 ?side2 ?side3 ?side4 A11.out rfl).mono ?_); (case side1 => repeat (first | exact (Kd.R_reads' HO300.out).2.2 | (with_reducible refine Kd.C_alloc ?_ _) | (with_reducible refine Kd.C_drewN ?_ _) | (with_reducible refine Kd.C_drew ?_))); (case side2 => exact (Kd.R_reads' HO300.out).2.1); (case side3 => repeat (first | exact (Kd.R_reads' HO304.out).2.2 | (with_reducible refine Kd.C_alloc ?_ _) | (with_reducible refine Kd.C_drewN ?_ _) | (with_reducible refine Kd.C_drew ?_))); (case side4 => exact (Kd.R_reads' HO304.out).2.1); rintro e w22 ⟨rfl, hb⟩; refine ⟨_, rfl, ?_⟩; have n0_ := Aside0.mk (Kd.R_below (by (with_reducible repeat (first | apply Kd.R_alloc | apply Kd.R_drewN | apply Kd.R_drew)); exact HO296.out) hb); have n1_ := Aside0.mk (Kd.R_below (by (with_reducible repeat (first | apply Kd.R_alloc | apply Kd.R_drewN | apply Kd.R_drew)); exact HO300.out) hb); have n2_ := Aside0.mk (Kd.R_below (by (with_reducible repeat (first | apply Kd.R_alloc | apply Kd.R_drewN | apply Kd.R_drew)); exact HO304.out) hb); have n3_ := Aside0.mk (below_step (by repeat (first | (with_reducible first | exact HB.out | apply below_alloc | apply pw_below_drewN | apply below_drew1) | exact HB.out)) hb); clear HO296; clear HO300; clear HO304; clear HB; have HO296 := n0_; have HO300 := n1_; have HO304 := n2_; have HB := n3_; clear n0_ n1_ n2_ n3_; (try clear hb); (try clear hb2); (try clear hk); (try clear hi)))
        go_ret
        exact ⟨by first | rfl | (simp [errW_none, errW_some] <;> rfl) | (simp [*, errW_none, errW_some] <;> rfl), by repeat (first | (with_reducible first | exact HB.out | apply below_alloc | apply pw_below_drewN | apply below_drew1) | exact HB.out)⟩
      · replace c12 := Bool.eq_false_iff.mpr c12
        subst c12
        have H1 : (some false) = some r := by rw [if_neg (show ¬ (false = true) by decide)] at H; exact H
        clear H
        have H := H1
        clear H1
        exact absurd (Option.some.inj H) (by rw [hrt]; decide)

end Go.Proofs.Ytjmlbkhcjgehdaa.PFnExactDeedsOk
