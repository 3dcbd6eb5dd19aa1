-- Written by hv.py, a program of this session's own, over the kit's print: FnExactWaitCloses
import Derived.Test.YtadbcjeelbkfcaaPFnExactWaitClosesx0
namespace Go.Proofs.Ytadbcjeelbkfcaa.PFnExactWaitCloses
open Go.RowKit Go.Proofs.YtadbcjeelbkfcaaW.PrintWords Go.Proofs.YtadbcjeelbkfcaaW.PrintLast Go.Proofs.YtadbcjeelbkfcaaW.PrintMore Go.Proofs.Ytadbcjeelbkfcaa.HFl Go.Proofs.Ytadbcjeelbkfcaa.HMap Go.Proofs.Ytadbcjeelbkfcaa.HMore
attribute [local go_sem] max2_int min2_int max_two min_two max_three min_three max_four min_four   -- for this text's walks alone
set_option linter.unusedVariables false
set_option linter.unusedSimpArgs false

/-! ### laws_szWaitS: function 37 -/
def laws_szWaitS.f (l0 : List (S115)) (a1 : Int) : Option (Int) := if (wrap64 (a1 - (l0.length : Int))) < 0 then (some (-1)) else (some (wrap64 (a1 - (l0.length : Int))))
set_option maxHeartbeats 8000000 in
set_option maxRecDepth 100000 in
theorem laws_szWaitS.calls (A0 : Option Addr) (c0 : Nat) (l0 : List (S115)) (a1 : Int) (r : Int) (w : World) (hr0 : Kd.C k115 w A0 l0.length l0) (hc0 : l0.length ≤ c0) (h : laws_szWaitS.f l0 a1 = some r) :
    Calls Try.prog 37 #[.slice A0 l0.length c0, .int .i64 a1] w fun e w' => e = .returned (.int .i64 r) ∧ Drawn0 w w' := by
  have HR0 := Aside0.mk hr0
  have HC0 := Aside0.mk hc0
  clear hr0 hc0
  have H : (if (wrap64 (a1 - (l0.length : Int))) < 0 then (some (-1)) else (some (wrap64 (a1 - (l0.length : Int))))) = some r := h
  clear h
  by_cases c3 : (wrap64 (a1 - (l0.length : Int))) < 0
  · rw [if_pos c3] at H
    have c3b0 : decide ((wrap64 (a1 - (l0.length : Int))) < 0) = true := decide_eq_true c3
    clear c3
    obtain rfl := Option.some.inj H
    go_enter Try.func37, Try.ntmps37
    go_wp2
    go_ret
    exact ⟨by first | rfl | (simp; done) | (simp [*]; done), by repeat (first | exact Drawn0.refl _ | apply Drawn0.step)⟩
  · rw [if_neg c3] at H
    have c3b0 : decide ((wrap64 (a1 - (l0.length : Int))) < 0) = false := decide_eq_false c3
    clear c3
    obtain rfl := Option.some.inj H
    go_enter Try.func37, Try.ntmps37
    go_wp2
    go_ret
    exact ⟨by first | rfl | (simp; done) | (simp [*]; done), by repeat (first | exact Drawn0.refl _ | apply Drawn0.step)⟩

/-! ### spec_WaitsOk: function 86 -/
mutual
def spec_WaitsOk.l0 : Nat → List (S113) → Int → Option (Bool)
  | 0, _, _ => none
  | k + 1, x0, x3 => if x3 < (x0.length : Int) then (spec_WaitsOk.l1 k x0 x3 0) else (some true)
def spec_WaitsOk.l1 : Nat → List (S113) → Int → Int → Option (Bool)
  | 0, _, _, _ => none
  | k + 1, x0, x3, x4 => if x4 < x3 then (if 0 ≤ x4 then (if x4 < (x0.length : Int) then (if 0 ≤ x3 then (if x3 < (x0.length : Int) then (if ((rd_T113 x0 x4).f0) = ((rd_T113 x0 x3).f0) then (some false) else (spec_WaitsOk.l1 k x0 x3 (wrap64 (x4 + 1)))) else (none)) else (none)) else (none)) else (none)) else (spec_WaitsOk.l0 k x0 (wrap64 (x3 + 1)))
end
def spec_WaitsOk.f (k : Nat) (l0 : List (S113)) : Option (Bool) := if (l0.length : Int) > 64 then (some false) else (spec_WaitsOk.l0 k l0 0)
theorem spec_WaitsOk.mono_l : ∀ k, (∀ y0 y1, LeO (spec_WaitsOk.l0 k y0 y1) (spec_WaitsOk.l0 (k + 1) y0 y1)) ∧ (∀ y0 y1 y2, LeO (spec_WaitsOk.l1 k y0 y1 y2) (spec_WaitsOk.l1 (k + 1) y0 y1 y2))
  | 0 => ⟨fun _ _ r h => by simp [spec_WaitsOk.l0] at h, fun _ _ _ r h => by simp [spec_WaitsOk.l1] at h⟩
  | k + 1 => by
    obtain ⟨ih0, ih1⟩ := spec_WaitsOk.mono_l k
    refine ⟨?_, ?_⟩
    · intro y0 y1
      unfold spec_WaitsOk.l0
      repeat' first
      | (with_reducible exact ih0 _ _)
      | (with_reducible exact ih1 _ _ _)
      | (with_reducible exact LeO.refl _)
      | (with_reducible exact LeO.none _)
      | (with_reducible refine LeO.ite ?_ ?_)
      | (with_reducible refine LeO.bind ?_ (fun _ => ?_))
      | exact ih0 _ _
      | exact ih1 _ _ _
      | exact LeO.none _
      | refine LeO.ite ?_ ?_
      | refine LeO.bind ?_ (fun _ => ?_)
    · intro y0 y1 y2
      unfold spec_WaitsOk.l1
      repeat' first
      | (with_reducible exact ih0 _ _)
      | (with_reducible exact ih1 _ _ _)
      | (with_reducible exact LeO.refl _)
      | (with_reducible exact LeO.none _)
      | (with_reducible refine LeO.ite ?_ ?_)
      | (with_reducible refine LeO.bind ?_ (fun _ => ?_))
      | exact ih0 _ _
      | exact ih1 _ _ _
      | exact LeO.none _
      | refine LeO.ite ?_ ?_
      | refine LeO.bind ?_ (fun _ => ?_)
theorem spec_WaitsOk.mono : ∀ a0 k, LeO (spec_WaitsOk.f k a0) (spec_WaitsOk.f (k + 1) a0) := by
  intro a0 k
  obtain ⟨ih0, ih1⟩ := spec_WaitsOk.mono_l k
  unfold spec_WaitsOk.f
  repeat' first
      | (with_reducible exact ih0 _ _)
      | (with_reducible exact ih1 _ _ _)
      | (with_reducible exact LeO.refl _)
      | (with_reducible exact LeO.none _)
      | (with_reducible refine LeO.ite ?_ ?_)
      | (with_reducible refine LeO.bind ?_ (fun _ => ?_))
      | exact ih0 _ _
      | exact ih1 _ _ _
      | exact LeO.none _
      | refine LeO.ite ?_ ?_
      | refine LeO.bind ?_ (fun _ => ?_)
set_option maxHeartbeats 8000000 in
set_option maxRecDepth 100000 in
theorem spec_WaitsOk.calls (k : Nat) (A0 : Option Addr) (c0 : Nat) (l0 : List (S113)) (r : Bool) (w : World) (hr0 : Kd.C k113 w A0 l0.length l0) (hc0 : l0.length ≤ c0) (h : spec_WaitsOk.f k l0 = some r) :
    Calls Try.prog 86 #[.slice A0 l0.length c0] w fun e w' => e = .returned (.bool r) ∧ Drawn0 w w' := by
  have HR0 := Aside0.mk hr0
  have HC0 := Aside0.mk hc0
  clear hr0 hc0
  have H : (if (l0.length : Int) > 64 then (some false) else (spec_WaitsOk.l0 k l0 0)) = some r := h
  clear h
  by_cases c2 : (l0.length : Int) > 64
  · rw [if_pos c2] at H
    have c2b0 : decide (64 < (l0.length : Int)) = true := decide_eq_true c2
    have c2b1 : decide (64 < l0.length) = true := decide_eq_true (by omega)
    clear c2
    obtain rfl := Option.some.inj H
    go_enter Try.func86, Try.ntmps86
    go_wp2
    repeat (go_quiet (fail); try go_wp2)
    go_ret
    exact ⟨by first | rfl | (simp; done) | (simp [*]; done), by repeat (first | exact Drawn0.refl _ | apply Drawn0.step)⟩
  · rw [if_neg c2] at H
    have c2b0 : decide (64 < (l0.length : Int)) = false := decide_eq_false c2
    have c2b1 : decide (64 < l0.length) = false := decide_eq_false (by omega)
    clear c2
    have H' := Aside0.mk H
    clear H
    go_enter Try.func86, Try.ntmps86
    go_wp2
    repeat (go_quiet (fail); try go_wp2)
    go_loopg [3] k (fun kq v3 w' => ∃ (x3_1 : Int), v3 = .int .i64 x3_1 ∧ Aside0 (spec_WaitsOk.l0 kq l0 x3_1 = some r) ∧ Aside0 (kq ≤ k) ∧ Drawn0 w w')
    case atStart => exact ⟨(0), (by first | rfl | (simp; done) | (simp [*]; done)), H', ⟨Nat.le_refl _⟩, by repeat (first | exact Drawn0.refl _ | apply Drawn0.step)⟩
    case round =>
      clear H'
      try clear c2
      try clear c2b0
      try clear c2b1
      try clear p2
      obtain ⟨x3_1, rfl, HA, HK1, ⟨m1, rfl⟩⟩ := hrel
      cases gk with
      | zero => exact absurd HA.out (by simp [spec_WaitsOk.l0])
      | succ k1 =>
        have H := HA.out
        clear HA
        simp only [spec_WaitsOk.l0] at H
        by_cases c3 : x3_1 < (l0.length : Int)
        · rw [if_pos c3] at H
          have c3b0 : decide (x3_1 < (l0.length : Int)) = true := decide_eq_true c3
          clear c3
          have H' := Aside0.mk H
          clear H
          go_wp2
          repeat (go_quiet (fail); try go_wp2)
          go_loopg [4] k1 (fun kq v4 w' => ∃ (x4_2 : Int), v4 = .int .i64 x4_2 ∧ Aside0 (spec_WaitsOk.l1 kq l0 x3_1 x4_2 = some r) ∧ Aside0 (kq ≤ k1) ∧ Drawn0 w w')
          case atStart => exact ⟨(0), (by first | rfl | (simp; done) | (simp [*]; done)), H', ⟨Nat.le_refl _⟩, by repeat (first | exact Drawn0.refl _ | apply Drawn0.step)⟩
          case round =>
            clear H'
            try clear c2
            try clear c2b0
            try clear c2b1
            try clear p2
            try clear c3
            try clear c3b0
            try clear p2
            obtain ⟨x4_2, rfl, HA, HK2, ⟨m2, rfl⟩⟩ := hrel
            cases gk with
            | zero => exact absurd HA.out (by simp [spec_WaitsOk.l1])
            | succ k2 =>
              have H := HA.out
              clear HA
              simp only [spec_WaitsOk.l1] at H
              by_cases c4 : x4_2 < x3_1
              · rw [if_pos c4] at H
                have c4b0 : decide (x4_2 < x3_1) = true := decide_eq_true c4
                clear c4
                by_cases c5 : 0 ≤ x4_2
                · rw [if_pos c5] at H
                  have c5b0 : decide (0 ≤ x4_2) = true := decide_eq_true c5
                  clear c5
                  by_cases c6 : x4_2 < (l0.length : Int)
                  · rw [if_pos c6] at H
                    have c6b0 : decide (x4_2 < (l0.length : Int)) = true := decide_eq_true c6
                    clear c6
                    by_cases c7 : 0 ≤ x3_1
                    · rw [if_pos c7] at H
                      have c7b0 : decide (0 ≤ x3_1) = true := decide_eq_true c7
                      clear c7
                      by_cases c8 : x3_1 < (l0.length : Int)
                      · rw [if_pos c8] at H
                        have c8b0 : decide (x3_1 < (l0.length : Int)) = true := decide_eq_true c8
                        clear c8
                        by_cases c9 : ((rd_T113 l0 x4_2).f0) = ((rd_T113 l0 x3_1).f0)
                        · rw [if_pos c9] at H
                          have c9b0 : (((rd_T113 l0 x4_2).f0) == ((rd_T113 l0 x3_1).f0)) = true := beq_iff_eq.mpr c9
                          have c9b1 : (((rd_T113 l0 x4_2).f0) != ((rd_T113 l0 x3_1).f0)) = false := bne_eq_false_iff_eq.mpr c9
                          clear c9
                          obtain rfl := Option.some.inj H
                          have p101 : 0 ≤ (x4_2 : Int) := of_decide_eq_true (by first | (with_reducible assumption) | assumption)
                          have q101 : x4_2 < (l0.length : Int) := of_decide_eq_true (by first | (with_reducible assumption) | assumption)
                          obtain ⟨ad101, e101, hx101_0, hx101_1⟩ := at_T113 HR0.out x4_2 p101 q101
                          cases e101
                          replace p101 := eq_true p101
                          replace q101 := eq_true q101
                          have p102 : 0 ≤ (x3_1 : Int) := of_decide_eq_true (by first | (with_reducible assumption) | assumption)
                          have q102 : x3_1 < (l0.length : Int) := of_decide_eq_true (by first | (with_reducible assumption) | assumption)
                          obtain ⟨ad102, e102, hx102_0, hx102_1⟩ := at_T113 HR0.out x3_1 p102 q102
                          obtain rfl : ad101 = ad102 := (by injection e102)
                          replace p102 := eq_true p102
                          replace q102 := eq_true q102
                          go_wp2
                          repeat (go_quiet (fail); try go_wp2)
                          go_ret
                          exact ⟨by first | rfl | (simp; done) | (simp [*]; done), by repeat (first | exact Drawn0.refl _ | apply Drawn0.step)⟩
                        · rw [if_neg c9] at H
                          have c9b0 : (((rd_T113 l0 x4_2).f0) == ((rd_T113 l0 x3_1).f0)) = false := beq_eq_false_iff_ne.mpr c9
                          have c9b1 : (((rd_T113 l0 x4_2).f0) != ((rd_T113 l0 x3_1).f0)) = true := bne_iff_ne.mpr c9
                          have H' := Aside0.mk H
                          clear H
                          have p101 : 0 ≤ (x4_2 : Int) := of_decide_eq_true (by first | (with_reducible assumption) | assumption)
                          have q101 : x4_2 < (l0.length : Int) := of_decide_eq_true (by first | (with_reducible assumption) | assumption)
                          obtain ⟨ad101, e101, hx101_0, hx101_1⟩ := at_T113 HR0.out x4_2 p101 q101
                          cases e101
                          replace p101 := eq_true p101
                          replace q101 := eq_true q101
                          have p102 : 0 ≤ (x3_1 : Int) := of_decide_eq_true (by first | (with_reducible assumption) | assumption)
                          have q102 : x3_1 < (l0.length : Int) := of_decide_eq_true (by first | (with_reducible assumption) | assumption)
                          obtain ⟨ad102, e102, hx102_0, hx102_1⟩ := at_T113 HR0.out x3_1 p102 q102
                          obtain rfl : ad101 = ad102 := (by injection e102)
                          replace p102 := eq_true p102
                          replace q102 := eq_true q102
                          go_wp2
                          repeat (go_quiet (fail); try go_wp2)
                          go_roundg k2
                          case measure => have := HK1.out; have := HK2.out; omega
                          case rel => exact ⟨(wrap64 (x4_2 + 1)), (by first | rfl | (simp; done) | (simp [*]; done)), H', ⟨by have := HK1.out; have := HK2.out; omega⟩, by repeat (first | exact Drawn0.refl _ | apply Drawn0.step)⟩
                      · rw [if_neg c8] at H
                        exact absurd H (by simp)
                    · rw [if_neg c7] at H
                      exact absurd H (by simp)
                  · rw [if_neg c6] at H
                    exact absurd H (by simp)
                · rw [if_neg c5] at H
                  exact absurd H (by simp)
              · rw [if_neg c4] at H
                have c4b0 : decide (x4_2 < x3_1) = false := decide_eq_false c4
                clear c4
                have H' := Aside0.mk H
                clear H
                go_wp2
                repeat (go_quiet (fail); try go_wp2)
                go_roundg k2
                case measure => have := HK1.out; have := HK2.out; omega
                case rel => exact ⟨(wrap64 (x3_1 + 1)), (by first | rfl | (simp; done) | (simp [*]; done)), H', ⟨by have := HK1.out; have := HK2.out; omega⟩, by repeat (first | exact Drawn0.refl _ | apply Drawn0.step)⟩
        · rw [if_neg c3] at H
          have c3b0 : decide (x3_1 < (l0.length : Int)) = false := decide_eq_false c3
          clear c3
          obtain rfl := Option.some.inj H
          go_wp2
          repeat (go_quiet (fail); try go_wp2)
          go_ret
          exact ⟨by first | rfl | (simp; done) | (simp [*]; done), by repeat (first | exact Drawn0.refl _ | apply Drawn0.step)⟩

/-! ### spec_WaitNext: function 85 -/
def spec_WaitNext.l0 : Nat → List (S113) → Int → Int → Option (Int × Bool)
  | 0, _, _, _ => none
  | k + 1, x0, x1, x6 => if x6 < (x0.length : Int) then (if 0 ≤ x6 then (if ((rd_T113 x0 x6).f0) = x1 then (some ((rd_T113 x0 x6).f1, true)) else (spec_WaitNext.l0 k x0 x1 (wrap64 (x6 + 1)))) else (none)) else (some (0, false))
def spec_WaitNext.f (k : Nat) (l0 : List (S113)) (a1 : Int) : Option (Int × Bool) := (spec_WaitsOk.f k l0).bind fun t103 => (if t103 = true then (spec_WaitNext.l0 k l0 a1 0) else (some (0, false)))
theorem spec_WaitNext.mono_l : ∀ k, (∀ y0 y1 y2, LeO (spec_WaitNext.l0 k y0 y1 y2) (spec_WaitNext.l0 (k + 1) y0 y1 y2))
  | 0 => fun _ _ _ r h => by simp [spec_WaitNext.l0] at h
  | k + 1 => by
    have ih0 := spec_WaitNext.mono_l k
    · intro y0 y1 y2
      unfold spec_WaitNext.l0
      repeat' first
      | (with_reducible exact ih0 _ _ _)
      | (with_reducible exact spec_WaitsOk.mono _ _)
      | (with_reducible exact LeO.refl _)
      | (with_reducible exact LeO.none _)
      | (with_reducible refine LeO.ite ?_ ?_)
      | (with_reducible refine LeO.bind ?_ (fun _ => ?_))
      | exact ih0 _ _ _
      | exact spec_WaitsOk.mono _ _
      | exact LeO.none _
      | refine LeO.ite ?_ ?_
      | refine LeO.bind ?_ (fun _ => ?_)
theorem spec_WaitNext.mono : ∀ a0 a1 k, LeO (spec_WaitNext.f k a0 a1) (spec_WaitNext.f (k + 1) a0 a1) := by
  intro a0 a1 k
  have ih0 := spec_WaitNext.mono_l k
  unfold spec_WaitNext.f
  repeat' first
      | (with_reducible exact ih0 _ _ _)
      | (with_reducible exact spec_WaitsOk.mono _ _)
      | (with_reducible exact LeO.refl _)
      | (with_reducible exact LeO.none _)
      | (with_reducible refine LeO.ite ?_ ?_)
      | (with_reducible refine LeO.bind ?_ (fun _ => ?_))
      | exact ih0 _ _ _
      | exact spec_WaitsOk.mono _ _
      | exact LeO.none _
      | refine LeO.ite ?_ ?_
      | refine LeO.bind ?_ (fun _ => ?_)
set_option maxHeartbeats 8000000 in
set_option maxRecDepth 100000 in
theorem spec_WaitNext.calls (k : Nat) (A0 : Option Addr) (c0 : Nat) (l0 : List (S113)) (a1 : Int) (r1 : Int) (r2 : Bool) (w : World) (hr0 : Kd.C k113 w A0 l0.length l0) (hc0 : l0.length ≤ c0) (h : spec_WaitNext.f k l0 a1 = some (r1, r2)) :
    Calls Try.prog 85 #[.slice A0 l0.length c0, .int .i64 a1] w fun e w' => e = .returned (.tuple #[.int .i64 r1, .bool r2]) ∧ Drawn0 w w' := by
  have HR0 := Aside0.mk hr0
  have HC0 := Aside0.mk hc0
  clear hr0 hc0
  have H : ((spec_WaitsOk.f k l0).bind fun t103 => (if t103 = true then (spec_WaitNext.l0 k l0 a1 0) else (some (0, false)))) = some (r1, r2) := h
  clear h
  replace H := Option.bind_eq_some_iff.mp H
  obtain ⟨t103, A30, H⟩ := H
  replace H : (if t103 = true then (spec_WaitNext.l0 k l0 a1 0) else (some (0, false))) = some (r1, r2) := H
  have A3 := Aside0.mk A30
  clear A30
  by_cases c4 : t103 = true
  · subst c4
    have H1 : (spec_WaitNext.l0 k l0 a1 0) = some (r1, r2) := by rw [if_pos rfl] at H; exact H
    clear H
    have H := H1
    clear H1
    have H' := Aside0.mk H
    clear H
    go_enter Try.func85, Try.ntmps85
    go_wp2_with (first | ((with_reducible refine gate_callee (f := 86) rfl ?_); refine goesL_ (some 8) rfl rfl Try.func86 (by kernel_rfl) rfl #[.slice A0 l0.length c0] rfl (by (try simp only [List.map_toArray, List.map_cons, List.map_nil]); first | done | rfl | (simp only [List.length_drop, List.length_take]; rfl)) ?_; (with_reducible refine (spec_WaitsOk.calls k _ _ l0 true _ ?side1 ?side2 A3.out).mono ?_); (case side1 => repeat (first | exact HR0.out | (with_reducible refine Kd.C_alloc ?_ _) | (with_reducible refine Kd.C_drewN ?_ _) | (with_reducible refine Kd.C_drew ?_))); (case side2 => exact HC0.out); rintro e w' ⟨rfl, ⟨nd, rfl⟩⟩; refine ⟨_, rfl, ?_⟩))
    go_loopg [6] k (fun kq v6 w' => ∃ (x6_1 : Int), v6 = .int .i64 x6_1 ∧ Aside0 (spec_WaitNext.l0 kq l0 a1 x6_1 = some (r1, r2)) ∧ Aside0 (kq ≤ k) ∧ Drawn0 w w')
    case atStart => exact ⟨(0), (by first | rfl | (simp; done) | (simp [*]; done)), H', ⟨Nat.le_refl _⟩, by repeat (first | exact Drawn0.refl _ | apply Drawn0.step)⟩
    case round =>
      clear H'
      try clear p2
      try clear c4
      obtain ⟨x6_1, rfl, HA, HK1, ⟨m1, rfl⟩⟩ := hrel
      cases gk with
      | zero => exact absurd HA.out (by simp [spec_WaitNext.l0])
      | succ k1 =>
        have H := HA.out
        clear HA
        simp only [spec_WaitNext.l0] at H
        by_cases c5 : x6_1 < (l0.length : Int)
        · rw [if_pos c5] at H
          have c5b0 : decide (x6_1 < (l0.length : Int)) = true := decide_eq_true c5
          clear c5
          by_cases c6 : 0 ≤ x6_1
          · rw [if_pos c6] at H
            have c6b0 : decide (0 ≤ x6_1) = true := decide_eq_true c6
            clear c6
            by_cases c7 : ((rd_T113 l0 x6_1).f0) = a1
            · rw [if_pos c7] at H
              have c7b0 : (((rd_T113 l0 x6_1).f0) == a1) = true := beq_iff_eq.mpr c7
              have c7b1 : (((rd_T113 l0 x6_1).f0) != a1) = false := bne_eq_false_iff_eq.mpr c7
              clear c7
              simp only [Option.some.injEq, Prod.mk.injEq] at H
              obtain ⟨rfl, rfl⟩ := H
              have p104 : 0 ≤ (x6_1 : Int) := of_decide_eq_true (by first | (with_reducible assumption) | assumption)
              have q104 : x6_1 < (l0.length : Int) := of_decide_eq_true (by first | (with_reducible assumption) | assumption)
              obtain ⟨ad104, e104, hx104_0, hx104_1⟩ := at_T113 HR0.out x6_1 p104 q104
              cases e104
              replace p104 := eq_true p104
              replace q104 := eq_true q104
              have p105 : 0 ≤ (x6_1 : Int) := of_decide_eq_true (by first | (with_reducible assumption) | assumption)
              have q105 : x6_1 < (l0.length : Int) := of_decide_eq_true (by first | (with_reducible assumption) | assumption)
              obtain ⟨ad105, e105, hx105_0, hx105_1⟩ := at_T113 HR0.out x6_1 p105 q105
              obtain rfl : ad104 = ad105 := (by injection e105)
              replace p105 := eq_true p105
              replace q105 := eq_true q105
              go_wp2
              go_ret2
              exact ⟨by first | rfl | (simp; done) | (simp [*]; done), by repeat (first | exact Drawn0.refl _ | apply Drawn0.step)⟩
            · rw [if_neg c7] at H
              have c7b0 : (((rd_T113 l0 x6_1).f0) == a1) = false := beq_eq_false_iff_ne.mpr c7
              have c7b1 : (((rd_T113 l0 x6_1).f0) != a1) = true := bne_iff_ne.mpr c7
              have H' := Aside0.mk H
              clear H
              have p104 : 0 ≤ (x6_1 : Int) := of_decide_eq_true (by first | (with_reducible assumption) | assumption)
              have q104 : x6_1 < (l0.length : Int) := of_decide_eq_true (by first | (with_reducible assumption) | assumption)
              obtain ⟨ad104, e104, hx104_0, hx104_1⟩ := at_T113 HR0.out x6_1 p104 q104
              cases e104
              replace p104 := eq_true p104
              replace q104 := eq_true q104
              go_wp2
              go_roundg k1
              case measure => have := HK1.out; omega
              case rel => exact ⟨(wrap64 (x6_1 + 1)), (by first | rfl | (simp; done) | (simp [*]; done)), H', ⟨by have := HK1.out; omega⟩, by repeat (first | exact Drawn0.refl _ | apply Drawn0.step)⟩
          · rw [if_neg c6] at H
            exact absurd H (by simp)
        · rw [if_neg c5] at H
          have c5b0 : decide (x6_1 < (l0.length : Int)) = false := decide_eq_false c5
          clear c5
          simp only [Option.some.injEq, Prod.mk.injEq] at H
          obtain ⟨rfl, rfl⟩ := H
          go_wp2
          go_ret2
          exact ⟨by first | rfl | (simp; done) | (simp [*]; done), by repeat (first | exact Drawn0.refl _ | apply Drawn0.step)⟩
  · replace c4 := Bool.eq_false_iff.mpr c4
    subst c4
    have H1 : (some (0, false)) = some (r1, r2) := by rw [if_neg (show ¬ (false = true) by decide)] at H; exact H
    clear H
    have H := H1
    clear H1
    simp only [Option.some.injEq, Prod.mk.injEq] at H
    obtain ⟨rfl, rfl⟩ := H
    go_enter Try.func85, Try.ntmps85
    go_wp2_with (first | ((with_reducible refine gate_callee (f := 86) rfl ?_); refine goesL_ (some 8) rfl rfl Try.func86 (by kernel_rfl) rfl #[.slice A0 l0.length c0] rfl (by (try simp only [List.map_toArray, List.map_cons, List.map_nil]); first | done | rfl | (simp only [List.length_drop, List.length_take]; rfl)) ?_; (with_reducible refine (spec_WaitsOk.calls k _ _ l0 false _ ?side1 ?side2 A3.out).mono ?_); (case side1 => repeat (first | exact HR0.out | (with_reducible refine Kd.C_alloc ?_ _) | (with_reducible refine Kd.C_drewN ?_ _) | (with_reducible refine Kd.C_drew ?_))); (case side2 => exact HC0.out); rintro e w' ⟨rfl, ⟨nd, rfl⟩⟩; refine ⟨_, rfl, ?_⟩))
    go_ret2
    exact ⟨by first | rfl | (simp; done) | (simp [*]; done), by repeat (first | exact Drawn0.refl _ | apply Drawn0.step)⟩

/-! ### spec_WaitCloses: function 38 -/
mutual
def spec_WaitCloses.j0 : Nat → List (S113) → Int → Int → Bool → Option (Bool)
  | 0, _, _, _, _ => none
  | k + 1, x0, x1, x2, x24 => if x24 = true then (some false) else (spec_WaitCloses.l0 k x0 x1 x2 0)
def spec_WaitCloses.l0 : Nat → List (S113) → Int → Int → Int → Option (Bool)
  | 0, _, _, _, _ => none
  | k + 1, x0, x1, x9, x10 => if x10 ≤ (x0.length : Int) then (if x9 = x1 then (some true) else ((spec_WaitNext.f k x0 x9).bind fun bt109 => (if bt109.2 = true then (spec_WaitCloses.l0 k x0 x1 bt109.1 (wrap64 (x10 + 1))) else (some false)))) else (some false)
end
def spec_WaitCloses.f (k : Nat) (l0 : List (S113)) (a1 : Int) (a2 : Int) : Option (Bool) := (spec_WaitNext.f k l0 a1).bind fun bt106 => ((spec_WaitsOk.f k l0).bind fun t108 => (if t108 = true then (spec_WaitCloses.j0 k l0 a1 a2 bt106.2) else (spec_WaitCloses.j0 k l0 a1 a2 true)))
theorem spec_WaitCloses.mono_l : ∀ k, (∀ y0 y1 y2 y3, LeO (spec_WaitCloses.j0 k y0 y1 y2 y3) (spec_WaitCloses.j0 (k + 1) y0 y1 y2 y3)) ∧ (∀ y0 y1 y2 y3, LeO (spec_WaitCloses.l0 k y0 y1 y2 y3) (spec_WaitCloses.l0 (k + 1) y0 y1 y2 y3))
  | 0 => ⟨fun _ _ _ _ r h => by simp [spec_WaitCloses.j0] at h, fun _ _ _ _ r h => by simp [spec_WaitCloses.l0] at h⟩
  | k + 1 => by
    obtain ⟨ih0, ih1⟩ := spec_WaitCloses.mono_l k
    refine ⟨?_, ?_⟩
    · intro y0 y1 y2 y3
      unfold spec_WaitCloses.j0
      repeat' first
      | (with_reducible exact ih0 _ _ _ _)
      | (with_reducible exact ih1 _ _ _ _)
      | (with_reducible exact spec_WaitNext.mono _ _ _)
      | (with_reducible exact spec_WaitsOk.mono _ _)
      | (with_reducible exact LeO.refl _)
      | (with_reducible exact LeO.none _)
      | (with_reducible refine LeO.ite ?_ ?_)
      | (with_reducible refine LeO.bind ?_ (fun _ => ?_))
      | exact ih0 _ _ _ _
      | exact ih1 _ _ _ _
      | exact spec_WaitNext.mono _ _ _
      | exact spec_WaitsOk.mono _ _
      | exact LeO.none _
      | refine LeO.ite ?_ ?_
      | refine LeO.bind ?_ (fun _ => ?_)
    · intro y0 y1 y2 y3
      unfold spec_WaitCloses.l0
      repeat' first
      | (with_reducible exact ih0 _ _ _ _)
      | (with_reducible exact ih1 _ _ _ _)
      | (with_reducible exact spec_WaitNext.mono _ _ _)
      | (with_reducible exact spec_WaitsOk.mono _ _)
      | (with_reducible exact LeO.refl _)
      | (with_reducible exact LeO.none _)
      | (with_reducible refine LeO.ite ?_ ?_)
      | (with_reducible refine LeO.bind ?_ (fun _ => ?_))
      | exact ih0 _ _ _ _
      | exact ih1 _ _ _ _
      | exact spec_WaitNext.mono _ _ _
      | exact spec_WaitsOk.mono _ _
      | exact LeO.none _
      | refine LeO.ite ?_ ?_
      | refine LeO.bind ?_ (fun _ => ?_)
theorem spec_WaitCloses.mono : ∀ a0 a1 a2 k, LeO (spec_WaitCloses.f k a0 a1 a2) (spec_WaitCloses.f (k + 1) a0 a1 a2) := by
  intro a0 a1 a2 k
  obtain ⟨ih0, ih1⟩ := spec_WaitCloses.mono_l k
  unfold spec_WaitCloses.f
  repeat' first
      | (with_reducible exact ih0 _ _ _ _)
      | (with_reducible exact ih1 _ _ _ _)
      | (with_reducible exact spec_WaitNext.mono _ _ _)
      | (with_reducible exact spec_WaitsOk.mono _ _)
      | (with_reducible exact LeO.refl _)
      | (with_reducible exact LeO.none _)
      | (with_reducible refine LeO.ite ?_ ?_)
      | (with_reducible refine LeO.bind ?_ (fun _ => ?_))
      | exact ih0 _ _ _ _
      | exact ih1 _ _ _ _
      | exact spec_WaitNext.mono _ _ _
      | exact spec_WaitsOk.mono _ _
      | exact LeO.none _
      | refine LeO.ite ?_ ?_
      | refine LeO.bind ?_ (fun _ => ?_)
set_option maxHeartbeats 8000000 in
set_option maxRecDepth 100000 in
theorem spec_WaitCloses.calls (k : Nat) (A0 : Option Addr) (c0 : Nat) (l0 : List (S113)) (a1 : Int) (a2 : Int) (r : Bool) (w : World) (hr0 : Kd.C k113 w A0 l0.length l0) (hc0 : l0.length ≤ c0) (h : spec_WaitCloses.f k l0 a1 a2 = some r) :
    Calls Try.prog 38 #[.slice A0 l0.length c0, .int .i64 a1, .int .i64 a2] w fun e w' => e = .returned (.bool r) ∧ Drawn0 w w' := by
  have HR0 := Aside0.mk hr0
  have HC0 := Aside0.mk hc0
  clear hr0 hc0
  have H : ((spec_WaitNext.f k l0 a1).bind fun bt106 => ((spec_WaitsOk.f k l0).bind fun t108 => (if t108 = true then (spec_WaitCloses.j0 k l0 a1 a2 bt106.2) else (spec_WaitCloses.j0 k l0 a1 a2 true)))) = some r := h
  clear h
  replace H := Option.bind_eq_some_iff.mp H
  obtain ⟨⟨t106, t107⟩, A40, H⟩ := H
  replace H : ((spec_WaitsOk.f k l0).bind fun t108 => (if t108 = true then (spec_WaitCloses.j0 k l0 a1 a2 t107) else (spec_WaitCloses.j0 k l0 a1 a2 true))) = some r := H
  have A4 := Aside0.mk A40
  clear A40
  have HC5 := Aside0.mk H
  clear H
  go_enter Try.func38, Try.ntmps38
  go_upto_region 2 with (first | ((with_reducible refine gate_callee (f := 85) rfl ?_); refine goesL_ (some 16) rfl rfl Try.func85 (by kernel_rfl) rfl #[.slice A0 l0.length c0, .int .i64 a1] rfl (by (try simp only [List.map_toArray, List.map_cons, List.map_nil]); first | done | rfl | (simp only [List.length_drop, List.length_take]; rfl)) ?_; (with_reducible refine (spec_WaitNext.calls k _ _ l0 a1 t106 t107 _ ?side1 ?side2 A4.out).mono ?_); (case side1 => repeat (first | exact HR0.out | (with_reducible refine Kd.C_alloc ?_ _) | (with_reducible refine Kd.C_drewN ?_ _) | (with_reducible refine Kd.C_drew ?_))); (case side2 => exact HC0.out); rintro e w' ⟨rfl, ⟨nd, rfl⟩⟩; refine ⟨_, rfl, ?_⟩))
  (try simp only [Act.put, List.setIfInBounds_toArray, List.set_cons_zero, List.set_cons_succ])
  go_cut [24] (fun v24 wc => ∃ (kq : Nat) (x24_4 : Bool), v24 = .bool x24_4 ∧ Aside0 (spec_WaitCloses.j0 kq l0 a1 a2 x24_4 = some r) ∧ Aside0 (kq ≤ k) ∧ Drawn0 w wc)
  case first =>
    have H := HC5.out
    clear HC5
    replace H := Option.bind_eq_some_iff.mp H
    obtain ⟨t108, A60, H⟩ := H
    replace H : (if t108 = true then (spec_WaitCloses.j0 k l0 a1 a2 t107) else (spec_WaitCloses.j0 k l0 a1 a2 true)) = some r := H
    have A6 := Aside0.mk A60
    clear A60
    by_cases c7 : t108 = true
    · subst c7
      have H1 : (spec_WaitCloses.j0 k l0 a1 a2 t107) = some r := by rw [if_pos rfl] at H; exact H
      clear H
      have H := H1
      clear H1
      have H' := Aside0.mk H
      clear H
      go_wp2_with (first | ((with_reducible refine gate_callee (f := 86) rfl ?_); refine goesL_ (some 20) rfl rfl Try.func86 (by kernel_rfl) rfl #[.slice A0 l0.length c0] rfl (by (try simp only [List.map_toArray, List.map_cons, List.map_nil]); first | done | rfl | (simp only [List.length_drop, List.length_take]; rfl)) ?_; (with_reducible refine (spec_WaitsOk.calls k _ _ l0 true _ ?side1 ?side2 A6.out).mono ?_); (case side1 => repeat (first | exact HR0.out | (with_reducible refine Kd.C_alloc ?_ _) | (with_reducible refine Kd.C_drewN ?_ _) | (with_reducible refine Kd.C_drew ?_))); (case side2 => exact HC0.out); rintro e w' ⟨rfl, ⟨nd, rfl⟩⟩; refine ⟨_, rfl, ?_⟩))
      go_meet
      case rel => exact ⟨_, (t107), (by first | rfl | (simp; done) | (simp [*]; done)), H', ⟨by first | omega | exact Nat.le_refl _⟩, by repeat (first | exact Drawn0.refl _ | apply Drawn0.step)⟩
    · replace c7 := Bool.eq_false_iff.mpr c7
      subst c7
      have H1 : (spec_WaitCloses.j0 k l0 a1 a2 true) = some r := by rw [if_neg (show ¬ (false = true) by decide)] at H; exact H
      clear H
      have H := H1
      clear H1
      have H' := Aside0.mk H
      clear H
      go_wp2_with (first | ((with_reducible refine gate_callee (f := 86) rfl ?_); refine goesL_ (some 20) rfl rfl Try.func86 (by kernel_rfl) rfl #[.slice A0 l0.length c0] rfl (by (try simp only [List.map_toArray, List.map_cons, List.map_nil]); first | done | rfl | (simp only [List.length_drop, List.length_take]; rfl)) ?_; (with_reducible refine (spec_WaitsOk.calls k _ _ l0 false _ ?side1 ?side2 A6.out).mono ?_); (case side1 => repeat (first | exact HR0.out | (with_reducible refine Kd.C_alloc ?_ _) | (with_reducible refine Kd.C_drewN ?_ _) | (with_reducible refine Kd.C_drew ?_))); (case side2 => exact HC0.out); rintro e w' ⟨rfl, ⟨nd, rfl⟩⟩; refine ⟨_, rfl, ?_⟩))
      go_meet
      case rel => exact ⟨_, (true), (by first | rfl | (simp; done) | (simp [*]; done)), H', ⟨by first | omega | exact Nat.le_refl _⟩, by repeat (first | exact Drawn0.refl _ | apply Drawn0.step)⟩
  case rest =>
    clear HC5
    try clear p2
    try clear c3
    try clear c7
    obtain ⟨kq, x24_4, rfl, HA, HJ4, ⟨mc4, rfl⟩⟩ := hcut
    cases kq with
    | zero => exact absurd HA.out (by simp [spec_WaitCloses.j0])
    | succ kj4 =>
      have H := HA.out
      clear HA
      simp only [spec_WaitCloses.j0] at H
      by_cases c8 : x24_4 = true
      · subst c8
        have H1 : (some false) = some r := by rw [if_pos rfl] at H; exact H
        clear H
        have H := H1
        clear H1
        obtain rfl := Option.some.inj H
        go_wp2
        go_ret
        exact ⟨by first | rfl | (simp; done) | (simp [*]; done), by repeat (first | exact Drawn0.refl _ | apply Drawn0.step)⟩
      · replace c8 := Bool.eq_false_iff.mpr c8
        subst c8
        have H1 : (spec_WaitCloses.l0 kj4 l0 a1 a2 0) = some r := by rw [if_neg (show ¬ (false = true) by decide)] at H; exact H
        clear H
        have H := H1
        clear H1
        have H' := Aside0.mk H
        clear H
        go_wp2
        go_loopg [9, 10] kj4 (fun kq v9 v10 w' => ∃ (x9_2 : Int) (x10_2 : Int), v9 = .int .i64 x9_2 ∧ v10 = .int .i64 x10_2 ∧ Aside0 (spec_WaitCloses.l0 kq l0 a1 x9_2 x10_2 = some r) ∧ Aside0 (kq ≤ kj4) ∧ Drawn0 w w')
        case atStart => exact ⟨(a2), (0), (by first | rfl | (simp; done) | (simp [*]; done)), (by first | rfl | (simp; done) | (simp [*]; done)), H', ⟨Nat.le_refl _⟩, by repeat (first | exact Drawn0.refl _ | apply Drawn0.step)⟩
        case round =>
          clear H'
          try clear p2
          try clear c3
          try clear c4
          try clear c7
          try clear c8
          try clear p2
          obtain ⟨x9_2, x10_2, rfl, rfl, HA, HK2, ⟨m2, rfl⟩⟩ := hrel
          cases gk with
          | zero => exact absurd HA.out (by simp [spec_WaitCloses.l0])
          | succ k2 =>
            have H := HA.out
            clear HA
            simp only [spec_WaitCloses.l0] at H
            by_cases c9 : x10_2 ≤ (l0.length : Int)
            · rw [if_pos c9] at H
              have c9b0 : decide (x10_2 ≤ (l0.length : Int)) = true := decide_eq_true c9
              clear c9
              by_cases c10 : x9_2 = a1
              · rw [if_pos c10] at H
                have c10b0 : (x9_2 == a1) = true := beq_iff_eq.mpr c10
                have c10b1 : (x9_2 != a1) = false := bne_eq_false_iff_eq.mpr c10
                clear c10
                obtain rfl := Option.some.inj H
                go_wp2
                go_ret
                exact ⟨by first | rfl | (simp; done) | (simp [*]; done), by repeat (first | exact Drawn0.refl _ | apply Drawn0.step)⟩
              · rw [if_neg c10] at H
                have c10b0 : (x9_2 == a1) = false := beq_eq_false_iff_ne.mpr c10
                have c10b1 : (x9_2 != a1) = true := bne_iff_ne.mpr c10
                replace H := Option.bind_eq_some_iff.mp H
                obtain ⟨⟨t109, t110⟩, A110, H⟩ := H
                replace H : (if t110 = true then (spec_WaitCloses.l0 k2 l0 a1 t109 (wrap64 (x10_2 + 1))) else (some false)) = some r := H
                have A11 := Aside0.mk A110
                clear A110
                by_cases c12 : t110 = true
                · subst c12
                  have H1 : (spec_WaitCloses.l0 k2 l0 a1 t109 (wrap64 (x10_2 + 1))) = some r := by rw [if_pos rfl] at H; exact H
                  clear H
                  have H := H1
                  clear H1
                  have H' := Aside0.mk H
                  clear H
                  go_wp2_with (first | ((with_reducible refine gate_callee (f := 85) rfl ?_); refine goesL_ (some 38) rfl rfl Try.func85 (by kernel_rfl) rfl #[.slice A0 l0.length c0, .int .i64 x9_2] rfl (by (try simp only [List.map_toArray, List.map_cons, List.map_nil]); first | done | rfl | (simp only [List.length_drop, List.length_take]; rfl)) ?_; (with_reducible refine (spec_WaitNext.calls k2 _ _ l0 x9_2 t109 true _ ?side1 ?side2 A11.out).mono ?_); (case side1 => repeat (first | exact HR0.out | (with_reducible refine Kd.C_alloc ?_ _) | (with_reducible refine Kd.C_drewN ?_ _) | (with_reducible refine Kd.C_drew ?_))); (case side2 => exact HC0.out); rintro e w' ⟨rfl, ⟨nd, rfl⟩⟩; refine ⟨_, rfl, ?_⟩))
                  go_roundg k2
                  case measure => have := HJ4.out; have := HK2.out; omega
                  case rel => exact ⟨(t109), (wrap64 (x10_2 + 1)), (by first | rfl | (simp; done) | (simp [*]; done)), (by first | rfl | (simp; done) | (simp [*]; done)), H', ⟨by have := HJ4.out; have := HK2.out; omega⟩, by repeat (first | exact Drawn0.refl _ | apply Drawn0.step)⟩
                · replace c12 := Bool.eq_false_iff.mpr c12
                  subst c12
                  have H1 : (some false) = some r := by rw [if_neg (show ¬ (false = true) by decide)] at H; exact H
                  clear H
                  have H := H1
                  clear H1
                  obtain rfl := Option.some.inj H
                  go_wp2_with (first | ((with_reducible refine gate_callee (f := 85) rfl ?_); refine goesL_ (some 38) rfl rfl Try.func85 (by kernel_rfl) rfl #[.slice A0 l0.length c0, .int .i64 x9_2] rfl (by (try simp only [List.map_toArray, List.map_cons, List.map_nil]); first | done | rfl | (simp only [List.length_drop, List.length_take]; rfl)) ?_; (with_reducible refine (spec_WaitNext.calls k2 _ _ l0 x9_2 t109 false _ ?side1 ?side2 A11.out).mono ?_); (case side1 => repeat (first | exact HR0.out | (with_reducible refine Kd.C_alloc ?_ _) | (with_reducible refine Kd.C_drewN ?_ _) | (with_reducible refine Kd.C_drew ?_))); (case side2 => exact HC0.out); rintro e w' ⟨rfl, ⟨nd, rfl⟩⟩; refine ⟨_, rfl, ?_⟩))
                  go_ret
                  exact ⟨by first | rfl | (simp; done) | (simp [*]; done), by repeat (first | exact Drawn0.refl _ | apply Drawn0.step)⟩
            · rw [if_neg c9] at H
              have c9b0 : decide (x10_2 ≤ (l0.length : Int)) = false := decide_eq_false c9
              clear c9
              obtain rfl := Option.some.inj H
              go_wp2
              go_ret
              exact ⟨by first | rfl | (simp; done) | (simp [*]; done), by repeat (first | exact Drawn0.refl _ | apply Drawn0.step)⟩

/-! ### laws_toWait: function 87 -/
def laws_toWait.f (a0_0 : Int) (a0_1 : Int) : Option (Int × Int) := some (a0_0, a0_1)
set_option maxHeartbeats 8000000 in
set_option maxRecDepth 100000 in
theorem laws_toWait.calls (a0_0 : Int) (a0_1 : Int) (r1 : Int) (r2 : Int) (w : World) (h : laws_toWait.f a0_0 a0_1 = some (r1, r2)) :
    Calls Try.prog 87 #[.agg #[.int .i64 a0_0, .int .i64 a0_1]] w fun e w' => e = .returned (.agg #[.int .i64 r1, .int .i64 r2]) ∧ Below w.heap.size w w' := by
  have hu115 := Try.underlying115
  have hu113 := Try.underlying113
  have HB := Aside0.mk (Below.refl w.heap.size w)
  have H : (some (a0_0, a0_1)) = some (r1, r2) := h
  clear h
  simp only [Option.some.injEq, Prod.mk.injEq] at H
  obtain ⟨rfl, rfl⟩ := H
  go_enter Try.func87, Try.ntmps87
  go_wp2_with (first | ((with_reducible refine gate_dst (N := 1) rfl ?_); refine box_event ?hg (N := 1) ?hd (cs := #[.int .i64 a0_0, .int .i64 a0_1]) (t := 115) ?hr ?_; (case hd => rfl); (case hg => rfl); (case hr => first | (go_simp; done) | (go_simp; rfl)); intro gb111 hg w2 hbox hb; have n0_ := Aside0.mk (below_step (by repeat (first | (with_reducible first | exact HB.out | apply below_alloc | apply pw_below_drewN | apply below_drew1) | exact HB.out)) hb); have n1_ := Aside0.mk (hbox); have n2_ := Aside0.mk ((by rw [hg]; exact (below_size (by repeat (first | (with_reducible first | exact HB.out | apply below_alloc | apply pw_below_drewN | apply below_drew1) | exact HB.out))) : w.heap.size ≤ gb111)); have n3_ := Aside0.mk ((by rw [hg]; exact (below_size (by repeat (first | (with_reducible first | exact HB.out | apply below_alloc | apply pw_below_drewN | apply below_drew1) | exact HB.out))) : w.heap.size ≤ gb111)); clear HB; have HB := n0_; have BK111 := n1_; have GW111 := n2_; have GE111 := n3_; clear n0_ n1_ n2_ n3_; clear hb hbox hg) | ((with_reducible refine gate_dst (N := 2) rfl ?_); refine box_event ?hg (N := 2) ?hd (cs := #[.int .i64 0, .int .i64 0]) (t := 113) ?hr ?_; (case hd => rfl); (case hg => rfl); (case hr => first | (go_simp; done) | (go_simp; rfl)); intro gb112 hg w3 hbox hb; have n0_ := Aside0.mk (blk_below (g := gb111) (o := .cells #[.int .i64 a0_0, .int .i64 a0_1] 115 (0, 0)) (by (with_reducible repeat (first | refine blk_drewN ?_ _ | refine blk_drew ?_ | refine blk_alloc ?_ _)); exact BK111.out) hb); have n1_ := Aside0.mk (below_step (by repeat (first | (with_reducible first | exact HB.out | apply below_alloc | apply pw_below_drewN | apply below_drew1 | refine below_set ?_ GE111.out) | exact HB.out)) hb); have n2_ := Aside0.mk (hbox); have n3_ := Aside0.mk ((by rw [hg]; exact (below_size (by repeat (first | (with_reducible first | exact HB.out | apply below_alloc | apply pw_below_drewN | apply below_drew1 | refine below_set ?_ GE111.out) | exact HB.out))) : w.heap.size ≤ gb112)); have n4_ := Aside0.mk ((by rw [hg]; exact (below_size (by repeat (first | (with_reducible first | exact HB.out | apply below_alloc | apply pw_below_drewN | apply below_drew1 | refine below_set ?_ GE111.out) | exact HB.out))) : w.heap.size ≤ gb112)); have n5_ := Aside0.mk ((by rw [hg]; exact Nat.ne_of_lt (blk_lt (g := gb111) (o := .cells #[.int .i64 a0_0, .int .i64 a0_1] 115 (0, 0)) (by (with_reducible repeat (first | refine blk_drewN ?_ _ | refine blk_drew ?_ | refine blk_alloc ?_ _)); exact BK111.out)) : gb111 ≠ gb112)); have n6_ := Aside0.mk ((by rw [hg]; exact Nat.ne_of_gt (blk_lt (g := gb111) (o := .cells #[.int .i64 a0_0, .int .i64 a0_1] 115 (0, 0)) (by (with_reducible repeat (first | refine blk_drewN ?_ _ | refine blk_drew ?_ | refine blk_alloc ?_ _)); exact BK111.out)) : gb112 ≠ gb111)); clear BK111; clear HB; have BK111 := n0_; have HB := n1_; have BK112 := n2_; have GW112 := n3_; have GE112 := n4_; have NB111_112 := n5_; have NB112_111 := n6_; clear n0_ n1_ n2_ n3_ n4_ n5_ n6_; clear hb hbox hg) | ((with_reducible refine gate_dst (N := 3) rfl ?_); refine box_event ?hg (N := 3) ?hd (cs := #[.int .i64 0, .int .i64 0]) (t := 113) ?hr ?_; (case hd => rfl); (case hg => rfl); (case hr => first | (go_simp; done) | (go_simp; rfl)); intro gb113 hg w4 hbox hb; have n0_ := Aside0.mk (blk_below (g := gb111) (o := .cells #[.int .i64 a0_0, .int .i64 a0_1] 115 (0, 0)) (by (with_reducible repeat (first | refine blk_drewN ?_ _ | refine blk_drew ?_ | refine blk_alloc ?_ _)); exact BK111.out) hb); have n1_ := Aside0.mk (blk_below (g := gb112) (o := .cells #[.int .i64 0, .int .i64 0] 113 (0, 0)) (by (with_reducible repeat (first | refine blk_drewN ?_ _ | refine blk_drew ?_ | refine blk_alloc ?_ _)); exact BK112.out) hb); have n2_ := Aside0.mk (below_step (by repeat (first | (with_reducible first | exact HB.out | apply below_alloc | apply pw_below_drewN | apply below_drew1 | refine below_set ?_ GE111.out | refine below_set ?_ GE112.out) | exact HB.out)) hb); have n3_ := Aside0.mk (hbox); have n4_ := Aside0.mk ((by rw [hg]; exact (below_size (by repeat (first | (with_reducible first | exact HB.out | apply below_alloc | apply pw_below_drewN | apply below_drew1 | refine below_set ?_ GE111.out | refine below_set ?_ GE112.out) | exact HB.out))) : w.heap.size ≤ gb113)); have n5_ := Aside0.mk ((by rw [hg]; exact (below_size (by repeat (first | (with_reducible first | exact HB.out | apply below_alloc | apply pw_below_drewN | apply below_drew1 | refine below_set ?_ GE111.out | refine below_set ?_ GE112.out) | exact HB.out))) : w.heap.size ≤ gb113)); have n6_ := Aside0.mk ((by rw [hg]; exact Nat.ne_of_lt (blk_lt (g := gb111) (o := .cells #[.int .i64 a0_0, .int .i64 a0_1] 115 (0, 0)) (by (with_reducible repeat (first | refine blk_drewN ?_ _ | refine blk_drew ?_ | refine blk_alloc ?_ _)); exact BK111.out)) : gb111 ≠ gb113)); have n7_ := Aside0.mk ((by rw [hg]; exact Nat.ne_of_gt (blk_lt (g := gb111) (o := .cells #[.int .i64 a0_0, .int .i64 a0_1] 115 (0, 0)) (by (with_reducible repeat (first | refine blk_drewN ?_ _ | refine blk_drew ?_ | refine blk_alloc ?_ _)); exact BK111.out)) : gb113 ≠ gb111)); have n8_ := Aside0.mk ((by rw [hg]; exact Nat.ne_of_lt (blk_lt (g := gb112) (o := .cells #[.int .i64 0, .int .i64 0] 113 (0, 0)) (by (with_reducible repeat (first | refine blk_drewN ?_ _ | refine blk_drew ?_ | refine blk_alloc ?_ _)); exact BK112.out)) : gb112 ≠ gb113)); have n9_ := Aside0.mk ((by rw [hg]; exact Nat.ne_of_gt (blk_lt (g := gb112) (o := .cells #[.int .i64 0, .int .i64 0] 113 (0, 0)) (by (with_reducible repeat (first | refine blk_drewN ?_ _ | refine blk_drew ?_ | refine blk_alloc ?_ _)); exact BK112.out)) : gb113 ≠ gb112)); clear BK111; clear BK112; clear HB; have BK111 := n0_; have BK112 := n1_; have HB := n2_; have BK113 := n3_; have GW113 := n4_; have GE113 := n5_; have NB111_113 := n6_; have NB113_111 := n7_; have NB112_113 := n8_; have NB113_112 := n9_; clear n0_ n1_ n2_ n3_ n4_ n5_ n6_ n7_ n8_ n9_; clear hb hbox hg; have hnb5 := NB111_112.out; have hnc5 := NB112_111.out; have hnb6 := NB111_113.out; have hnc6 := NB113_111.out; have hcz7_0 : w4.cell? ⟨gb111, 0, none⟩ = some (.int .i64 a0_0) := (blk_cell BK111.out 0).trans rfl; have hcz7_1 : w4.cell? ⟨gb111, 1, none⟩ = some (.int .i64 a0_1) := (blk_cell BK111.out 1).trans rfl; have hfz7_0 := blk_frozen BK111.out 0; have hfz7_1 := blk_frozen BK111.out 1; have hnb8 := NB113_112.out; have hnc8 := NB112_113.out; have hcz9_0 : w4.cell? ⟨gb113, 0, none⟩ = some (.int .i64 0) := (blk_cell BK113.out 0).trans rfl; have hcz9_1 : w4.cell? ⟨gb113, 1, none⟩ = some (.int .i64 0) := (blk_cell BK113.out 1).trans rfl; have hfz9_0 := blk_frozen BK113.out 0; have hfz9_1 := blk_frozen BK113.out 1; have hcz10_0 : w4.cell? ⟨gb112, 0, none⟩ = some (.int .i64 0) := (blk_cell BK112.out 0).trans rfl; have hcz10_1 : w4.cell? ⟨gb112, 1, none⟩ = some (.int .i64 0) := (blk_cell BK112.out 1).trans rfl; have hfz10_0 := blk_frozen BK112.out 0; have hfz10_1 := blk_frozen BK112.out 1))
  refine bodyPost_ret (results_cell_row rfl _ _ gb112 113 #[.int .i64 a0_0, .int .i64 a0_1] (0, 0) _ rfl (by (with_reducible repeat (first | refine blk_drewN ?_ _ | refine blk_drew ?_ | refine blk_alloc ?_ _)); refine blk_put (cs := #[.int .i64 a0_0, .int .i64 0]) ?_ 1 _ rfl; (with_reducible repeat (first | refine blk_drewN ?_ _ | refine blk_drew ?_ | refine blk_alloc ?_ _)); refine blk_put (cs := #[.int .i64 0, .int .i64 0]) ?_ 0 _ rfl; (with_reducible repeat (first | refine blk_drewN ?_ _ | refine blk_drew ?_ | refine blk_alloc ?_ _)); refine blk_far ?_ NB112_113.out _; (with_reducible repeat (first | refine blk_drewN ?_ _ | refine blk_drew ?_ | refine blk_alloc ?_ _)); refine blk_far ?_ NB112_113.out _; (with_reducible repeat (first | refine blk_drewN ?_ _ | refine blk_drew ?_ | refine blk_alloc ?_ _)); exact BK112.out) Try.underlying113 rfl (by kernel_rfl)) rfl ?_
  exact ⟨by first | rfl | (simp [errW_none, errW_some] <;> rfl) | (simp [*, errW_none, errW_some] <;> rfl), by repeat (first | (with_reducible first | exact HB.out | apply below_alloc | apply pw_below_drewN | apply below_drew1 | refine below_set ?_ GE111.out | refine below_set ?_ GE112.out | refine below_set ?_ GE113.out) | exact HB.out)⟩

/-! ### laws_toWaitS: function 39 -/
def laws_toWaitS.l0 : Nat → List (S115) → List (S113) → Int → Option ((List (S113)))
  | 0, _, _, _ => none
  | k + 1, x0, x3, x4 => if x4 < (x0.length : Int) then (if 0 ≤ x4 then ((laws_toWait.f ((rd_T115 x0 x4).f0) ((rd_T115 x0 x4).f1)).bind fun bt118 => (if x4 < (x3.length : Int) then (laws_toWaitS.l0 k x0 (x3.set (x4 : Int).toNat (⟨bt118.1, bt118.2⟩ : S113)) (wrap64 (x4 + 1))) else (none))) else (none)) else (some x3)
def laws_toWaitS.f (k : Nat) (l0 : List (S115)) : Option ((List (S113))) := if 0 ≤ (l0.length : Int) then (if ((l0.length : Int) : Int).toNat ≤ 17592186044416 then (laws_toWaitS.l0 k l0 (List.replicate ((l0.length : Int) : Int).toNat z113) 0) else (none)) else (none)
theorem laws_toWaitS.mono_l : ∀ k, (∀ y0 y1 y2, LeO (laws_toWaitS.l0 k y0 y1 y2) (laws_toWaitS.l0 (k + 1) y0 y1 y2))
  | 0 => fun _ _ _ r h => by simp [laws_toWaitS.l0] at h
  | k + 1 => by
    have ih0 := laws_toWaitS.mono_l k
    · intro y0 y1 y2
      unfold laws_toWaitS.l0
      repeat' first
      | (with_reducible exact ih0 _ _ _)
      | (with_reducible exact LeO.refl _)
      | (with_reducible exact LeO.none _)
      | (with_reducible refine LeO.ite ?_ ?_)
      | (with_reducible refine LeO.bind ?_ (fun _ => ?_))
      | exact ih0 _ _ _
      | exact LeO.none _
      | refine LeO.ite ?_ ?_
      | refine LeO.bind ?_ (fun _ => ?_)
theorem laws_toWaitS.mono : ∀ a0 k, LeO (laws_toWaitS.f k a0) (laws_toWaitS.f (k + 1) a0) := by
  intro a0 k
  have ih0 := laws_toWaitS.mono_l k
  unfold laws_toWaitS.f
  repeat' first
      | (with_reducible exact ih0 _ _ _)
      | (with_reducible exact LeO.refl _)
      | (with_reducible exact LeO.none _)
      | (with_reducible refine LeO.ite ?_ ?_)
      | (with_reducible refine LeO.bind ?_ (fun _ => ?_))
      | exact ih0 _ _ _
      | exact LeO.none _
      | refine LeO.ite ?_ ?_
      | refine LeO.bind ?_ (fun _ => ?_)
set_option maxHeartbeats 8000000 in
set_option maxRecDepth 100000 in
theorem laws_toWaitS.calls (k : Nat) (A0 : Option Addr) (c0 : Nat) (l0 : List (S115)) (r : List (S113)) (w : World) (hr0 : Kd.C k115 w A0 l0.length l0) (hc0 : l0.length ≤ c0) (h : laws_toWaitS.f k l0 = some r) :
    Calls Try.prog 39 #[.slice A0 l0.length c0] w fun e w' => ∃ v0_ : Value, e = .returned (v0_) ∧ Kd.R k113 113 w' w.heap.size (fun _ => True) v0_ r ∧ Below w.heap.size w w' := by
  have hu115 := Try.underlying115
  have hu113 := Try.underlying113
  have HR0 := Aside0.mk hr0
  have HC0 := Aside0.mk hc0
  clear hr0 hc0
  have HB := Aside0.mk (Below.refl w.heap.size w)
  have H : (if 0 ≤ (l0.length : Int) then (if ((l0.length : Int) : Int).toNat ≤ 17592186044416 then (laws_toWaitS.l0 k l0 (List.replicate ((l0.length : Int) : Int).toNat z113) 0) else (none)) else (none)) = some r := h
  clear h
  by_cases c2 : 0 ≤ (l0.length : Int)
  · rw [if_pos c2] at H
    have c2b0 := eq_true c2
    have c2b1 : decide (0 ≤ (l0.length : Int)) = true := decide_eq_true c2
    clear c2
    by_cases c3 : ((l0.length : Int) : Int).toNat ≤ 17592186044416
    · rw [if_pos c3] at H
      have c3b0 := eq_true c3
      have c3b1 : decide (((l0.length : Int) : Int).toNat ≤ 17592186044416) = true := decide_eq_true c3
      clear c3
      obtain ⟨y114, hy114⟩ : ∃ y_ : List (S113), y_ = (List.replicate ((l0.length : Int) : Int).toNat z113) := ⟨_, rfl⟩
      replace H : (laws_toWaitS.l0 k l0 y114 0) = some r := by first | (rw [hy114]; with_reducible exact H) | (have H2_ := (Option.bind_some _ _).symm.trans H; rw [hy114]; with_reducible exact H2_) | (have H2_ := (Option.bind_some _ _).symm.trans H; with_reducible exact H2_) | with_reducible exact H | (rw [hy114]; exact H) | exact H
      have Ny114 := Aside0.mk hy114
      clear hy114
      have H' := Aside0.mk H
      clear H
      go_enter Try.func39, Try.ntmps39
      go_wp2_with (first | ((with_reducible refine gate_dst (N := 7) rfl ?_); refine Kd.R_make k113 _ 113 rfl (N := 7) rfl 52 _ _ rfl (l0.length : Int) rfl rfl Try.underlying52 (.agg #[(.int .i64 0), (.int .i64 0)]) 16 info113 rfl (by decide) (by omega) z113 (ok := fun _ => True) (okp := fun _ => True) (k113_mkM _ _ _ z113 ) (fun _ hk => hk) trivial (of_decide_eq_true (by first | (with_reducible assumption) | assumption)) (Nat.le_trans (Nat.mul_le_mul_right _ (of_decide_eq_true (by first | (with_reducible assumption) | assumption) : (l0.length : Int).toNat ≤ 17592186044416)) (by omega)) (Below.refl _ _) (Nat.le_refl _) ?_; intro v115 w4 ho5 hb hg_ hnew_; clear hg_ hnew_; (first | rw [← Ny114.out] at ho5 | (simp only [Int.reduceToNat] at ho5; rw [← Ny114.out] at ho5)); have n0_ := Aside0.mk (Kd.R_lower ho5 (below_size (by repeat (first | (with_reducible first | exact HB.out | apply below_alloc | apply pw_below_drewN | apply below_drew1) | exact HB.out)))); have n1_ := Aside0.mk (below_step (by repeat (first | (with_reducible first | exact HB.out | apply below_alloc | apply pw_below_drewN | apply below_drew1) | exact HB.out)) hb); clear HB; have HO116 := n0_; have HB := n1_; clear n0_ n1_; clear hb ho5))
      go_loopg [4] k (fun kq v4 w' => ∃ (x3_1 : List (S113)) (x4_1 : Int), v4 = .int .i64 x4_1 ∧ Aside0 (laws_toWaitS.l0 kq l0 x3_1 x4_1 = some r) ∧ Aside0 (kq ≤ k) ∧ Aside0 (Kd.R k113 113 w' w.heap.size (fun _ => True) v115 x3_1) ∧ Aside0 (Below w.heap.size w w'))
      case atStart => exact ⟨(y114), (0), (by first | rfl | (simp; done) | (simp [*]; done)), H', ⟨Nat.le_refl _⟩, ⟨by (with_reducible repeat (first | apply Kd.R_alloc | apply Kd.R_drewN | apply Kd.R_drew)); exact HO116.out⟩, ⟨by repeat (first | (with_reducible first | exact HB.out | apply below_alloc | apply pw_below_drewN | apply below_drew1) | exact HB.out)⟩⟩
      case round =>
        clear H'
        try clear c2
        try clear c2b0
        try clear c2b1
        try clear p2
        try clear c3
        try clear c3b0
        try clear c3b1
        obtain ⟨x3_1, x4_1, rfl, HA, HK1, HO_3, HB⟩ := hrel
        cases gk with
        | zero => exact absurd HA.out (by simp [laws_toWaitS.l0])
        | succ k1 =>
          have H := HA.out
          clear HA
          simp only [laws_toWaitS.l0] at H
          by_cases c6 : x4_1 < (l0.length : Int)
          · rw [if_pos c6] at H
            have c6b0 : decide (x4_1 < (l0.length : Int)) = true := decide_eq_true c6
            clear c6
            by_cases c7 : 0 ≤ x4_1
            · rw [if_pos c7] at H
              have c7b0 : decide (0 ≤ x4_1) = true := decide_eq_true c7
              clear c7
              replace H := Option.bind_eq_some_iff.mp H
              obtain ⟨⟨t118, t119⟩, A80, H⟩ := H
              replace H : (if x4_1 < (x3_1.length : Int) then (laws_toWaitS.l0 k1 l0 (x3_1.set (x4_1 : Int).toNat (⟨t118, t119⟩ : S113)) (wrap64 (x4_1 + 1))) else (none)) = some r := H
              have A8 := Aside0.mk A80
              clear A80
              by_cases c9 : x4_1 < (x3_1.length : Int)
              · rw [if_pos c9] at H
                have c9b0 : decide (x4_1 < (x3_1.length : Int)) = true := decide_eq_true c9
                clear c9
                obtain ⟨y120, hy120⟩ : ∃ y_ : List (S113), y_ = (x3_1.set (x4_1 : Int).toNat (⟨t118, t119⟩ : S113)) := ⟨_, rfl⟩
                replace H : (laws_toWaitS.l0 k1 l0 y120 (wrap64 (x4_1 + 1))) = some r := by first | (rw [hy120]; with_reducible exact H) | (have H2_ := (Option.bind_some _ _).symm.trans H; rw [hy120]; with_reducible exact H2_) | (have H2_ := (Option.bind_some _ _).symm.trans H; with_reducible exact H2_) | with_reducible exact H | (rw [hy120]; exact H) | exact H
                have Ny120 := Aside0.mk hy120
                clear hy120
                have H' := Aside0.mk H
                clear H
                have p117 : 0 ≤ (x4_1 : Int) := of_decide_eq_true (by first | (with_reducible assumption) | assumption)
                have q117 : x4_1 < (l0.length : Int) := of_decide_eq_true (by first | (with_reducible assumption) | assumption)
                obtain ⟨ad117, e117, hx117_0, hx117_1⟩ := at_T115 HR0.out x4_1 p117 q117
                cases e117
                replace hx117_0 := (HB.out.cell (World.block_lt_of_cell? w _ hx117_0)).trans hx117_0
                replace hx117_1 := (HB.out.cell (World.block_lt_of_cell? w _ hx117_1)).trans hx117_1
                replace p117 := eq_true p117
                replace q117 := eq_true q117
                go_wp2_with (first | ((with_reducible refine gate_callee (f := 87) rfl ?_); refine goesL_ (some 20) rfl rfl Try.func87 (by kernel_rfl) rfl #[.agg #[.int .i64 ((rd_T115 l0 x4_1).f0), .int .i64 ((rd_T115 l0 x4_1).f1)]] rfl (by (try simp only [List.map_toArray, List.map_cons, List.map_nil]); first | done | rfl | (simp only [List.length_drop, List.length_take]; rfl)) ?_; (with_reducible refine (laws_toWait.calls ((rd_T115 l0 x4_1).f0) ((rd_T115 l0 x4_1).f1) t118 t119 _ A8.out).mono ?_); rintro e w11 ⟨rfl, hb⟩; refine ⟨_, rfl, ?_⟩; have n0_ := Aside0.mk (Kd.R_below (by (with_reducible repeat (first | apply Kd.R_alloc | apply Kd.R_drewN | apply Kd.R_drew)); exact HO_3.out) hb); have n1_ := Aside0.mk (below_step (by repeat (first | (with_reducible first | exact HB.out | apply below_alloc | apply pw_below_drewN | apply below_drew1) | exact HB.out)) hb); clear HO_3; clear HB; have HO_3 := n0_; have HB := n1_; clear n0_ n1_; (try clear hb); (try clear hb2); (try clear hk); (try clear hi); have p10 : 0 ≤ (x4_1 : Int) := of_decide_eq_true (by first | (with_reducible assumption) | assumption); have q10 : (x4_1 : Int) < ((x3_1.length : Int) : Int) := of_decide_eq_true (by first | (with_reducible assumption) | assumption); obtain ⟨go10, co10, eo10, gb10, gl10, cl10, HG10⟩ := Kd.R_form HO_3.out (by omega); (first | cases eo10 | (injection eo10 with ea_ en_ ec_; (first | subst ea_ | (injection ea_ with ea_; subst ea_)); subst ec_; clear en_)); have GB10 := Aside0.mk gb10; have GG10 := Aside0.mk HG10; clear gb10 gl10 HG10; obtain ⟨ce10, hcl10, hM10, hcc10, hfr10⟩ := Kd.R_elem HO_3.out z113 (x4_1 : Int) p10 q10; obtain rfl := k113_openM hM10; have hx10_0 : w11.cell? ⟨go10, (x4_1 : Int).toNat * 2, none⟩ = some (.int .i64 ((rd_T113 x3_1 x4_1).f0)) := hcc10 0 _ rfl; have hx10_1 : w11.cell? ⟨go10, (x4_1 : Int).toNat * 2 + 1, none⟩ = some (.int .i64 ((rd_T113 x3_1 x4_1).f1)) := hcc10 1 _ rfl; have hf10_0 : w11.frozen? ⟨go10, (x4_1 : Int).toNat * 2, none⟩ = false := hfr10 0; have hf10_1 : w11.frozen? ⟨go10, (x4_1 : Int).toNat * 2 + 1, none⟩ = false := hfr10 1; clear hcl10 hcc10 hfr10 hM10; replace p10 := eq_true p10; replace q10 := eq_true q10; have HX12 := Aside0.mk (show Kd.R k113 113 w11 w.heap.size (fun _ => True) (.slice (some ⟨go10, 0, none⟩) x3_1.length co10) x3_1 from (by (with_reducible repeat (first | apply Kd.R_alloc | apply Kd.R_drewN | apply Kd.R_drew)); exact HO_3.out)); obtain ⟨ce12, hcl12, hM12, hcc12, hfr12⟩ := Kd.R_elem HX12.out z113 (x4_1 : Int) (of_decide_eq_true (by first | (with_reducible assumption) | assumption)) (by have h_ : (x4_1 : Int) < ((x3_1.length : Int) : Int) := of_decide_eq_true (by first | (with_reducible assumption) | assumption); first | exact h_ | (have e_ := (Kd.R_reads' HO_3.out).1; omega) | simpa using h_); obtain rfl := k113_openM hM12; have HP12 := Kd.R_seg HX12.out (x4_1 : Int) (of_decide_eq_true (by first | (with_reducible assumption) | assumption)) (by have h_ : (x4_1 : Int) < ((x3_1.length : Int) : Int) := of_decide_eq_true (by first | (with_reducible assumption) | assumption); first | exact h_ | (have e_ := (Kd.R_reads' HO_3.out).1; omega) | simpa using h_) (seg := [.int .i64 t118, .int .i64 t119]) (j := 0) hcl12 hcc12 (show 2 ≤ 2 from by decide) (x' := (⟨t118, t119⟩ : S113)) (k113_mkM _ _ _ (⟨t118, t119⟩ : S113) ) (fun _ hk => hk); have hx12_0 := hcc12 0 _ rfl; (try simp only [show (k113).sz = 2 from rfl, Nat.mul_one, Nat.add_zero] at hx12_0); have hf12_0 := hfr12 0; (try simp only [show (k113).sz = 2 from rfl, Nat.mul_one, Nat.add_zero] at hf12_0); have hx12_1 := hcc12 1 _ rfl; (try simp only [show (k113).sz = 2 from rfl, Nat.mul_one, Nat.add_zero] at hx12_1); have hf12_1 := hfr12 1; (try simp only [show (k113).sz = 2 from rfl, Nat.mul_one, Nat.add_zero] at hf12_1); clear hcl12 hcc12 hfr12 hM12) | ((with_reducible refine gate_store (t := 113) (p := 21) rfl ?_); refine store_event (t := 113) (p := 21) (v := ?vo_w13) (w1 := ((w11.setCell ⟨go10, (x4_1 : Int).toNat * 2, none⟩ (.int .i64 t118)).setCell ⟨go10, (x4_1 : Int).toNat * 2 + 1, none⟩ (.int .i64 t119))) ?hg ?ho ?hn ?hr ?_; (case ho => rfl); (case hg => rfl); (case hn => rfl); (case hr => first | (go_simp; done) | (go_simp; rfl)); intro w13 hw; have hg : w11.grownBy w13 (some go10) := (by rw [hw]; exact HP12.2); have hp_ : Kd.R k113 113 w13 w.heap.size (fun _ => True) (.slice (some ⟨go10, 0, none⟩) x3_1.length co10) y120 := (by rw [hw, Ny120.out]; exact HP12.1); clear HP12; have n0_ := Aside0.mk (hp_); have n1_ := Aside0.mk ((by rw [hw]; exact below_set (below_set (HB.out) GB10.out) GB10.out : Below w.heap.size w w13)); clear HO_3; clear HB; have HO_3 := n0_; have HB := n1_; clear n0_ n1_; clear hg hw hp_))
                go_roundg k1
                case measure => have := HK1.out; omega
                case rel => exact ⟨(y120), (wrap64 (x4_1 + 1)), (by first | rfl | (simp; done) | (simp [*]; done)), H', ⟨by have := HK1.out; omega⟩, ⟨by (with_reducible repeat (first | apply Kd.R_alloc | apply Kd.R_drewN | apply Kd.R_drew)); exact HO_3.out⟩, ⟨by repeat (first | (with_reducible first | exact HB.out | apply below_alloc | apply pw_below_drewN | apply below_drew1) | exact HB.out)⟩⟩
              · rw [if_neg c9] at H
                exact absurd H (by simp)
            · rw [if_neg c7] at H
              exact absurd H (by simp)
          · rw [if_neg c6] at H
            have c6b0 : decide (x4_1 < (l0.length : Int)) = false := decide_eq_false c6
            clear c6
            obtain rfl := Option.some.inj H
            go_wp2
            go_ret
            exact ⟨_, by first | rfl | (simp [errW_none, errW_some] <;> rfl) | (simp [*, errW_none, errW_some] <;> rfl), by (with_reducible repeat (first | apply Kd.R_alloc | apply Kd.R_drewN | apply Kd.R_drew)); exact HO_3.out, by repeat (first | (with_reducible first | exact HB.out | apply below_alloc | apply pw_below_drewN | apply below_drew1) | exact HB.out)⟩
    · rw [if_neg c3] at H
      exact absurd H (by simp)
  · rw [if_neg c2] at H
    exact absurd H (by simp)

/-! ### impl_Wait_118: function 118, by hand -/
-- INFO 113
theorem impl_WaitsOk_1.calls (a b : Int) (w : World) : Calls Try.prog 119 #[.agg #[.int .i64 a, .int .i64 b]] w fun e w' => e = .returned (.int .i64 a) ∧ w.alloc (.cells #[.int .i64 a, .int .i64 b] 113) = w' := by
  go_enter Try.func119, Try.ntmps119
  go_wp2
  go_ret
  exact ⟨rfl, rfl⟩
theorem zeroB (w : World) : (zeroValue 4).run Try.prog w = .ok (.bool false) w := by kernel_rfl
def allDiff (l : List Int) : Bool := decide l.Nodup
theorem allDiff_seen {l : List S113} {k : Nat} (hk : k < l.length) (h : (rd_T113 l k).f0 ∈ (l.take k).map (·.f0)) : allDiff (l.map (·.f0)) = false := by
  unfold allDiff
  rw [decide_eq_false_iff_not]
  intro hn
  have h2 : (l.map (·.f0)) = (l.take k).map (·.f0) ++ ((rd_T113 l k).f0 :: (l.drop (k + 1)).map (·.f0)) := by
    rw [← List.map_cons, ← List.map_append]
    congr 1
    rw [show rd_T113 l k = l[k] by simp [rd_T113, hk], ← List.drop_eq_getElem_cons hk, List.take_append_drop]
  rw [h2, List.nodup_append] at hn
  exact hn.2.2 _ h _ (by simp) rfl
theorem allDiff_step {l : List S113} {k : Nat} (hk : k < l.length) (h : ¬ (rd_T113 l k).f0 ∈ (l.take k).map (·.f0)) (hn : ((l.take k).map (·.f0)).Nodup) : ((l.take (k + 1)).map (·.f0)).Nodup := by
  rw [List.take_succ_eq_append_getElem hk, List.map_append, List.nodup_append]
  refine ⟨hn, by simp, ?_⟩
  intro a ha b hb
  have : (rd_T113 l k) = l[k] := by simp [rd_T113, hk]
  rw [this] at h
  simp at hb
  subst hb
  intro e
  exact h (e ▸ ha)
theorem seen_step {l : List S113} {k : Nat} (hk : k < l.length) : (fun z => if z = (rd_T113 l k).f0 then true else decide (z ∈ (l.take k).map (·.f0))) = fun z => decide (z ∈ (l.take (k + 1)).map (·.f0)) := by
  funext z
  have : (rd_T113 l k) = l[k] := by simp [rd_T113, hk]
  rw [this, List.take_succ_eq_append_getElem hk, List.map_append]
  by_cases e : z = l[k].f0 <;> simp [e]

set_option maxHeartbeats 400000 in
theorem areDiff_Wait (A : Option Addr) (c : Nat) (l : List S113) (w : World) (hr : Kd.C k113 w A l.length l) (hc : l.length ≤ c) (hw : ∀ x ∈ l, (Lit.int .i64 x.f0).wf = true) :
    Calls Try.prog 118 #[.slice A l.length c, .func (.func 119) #[] #[]] w fun e w' => e = .returned (.bool (allDiff (l.map (·.f0)))) ∧ Below w.heap.size w w' := by
  have HR := Aside0.mk hr
  have HW := Aside0.mk hw
  have hl : l.length ≤ 9223372036854775807 := hr.2.1
  clear hr hw
  have hmm := @run_makeMap Try.prog
  go_enter Try.func118, Try.ntmps118
  go_wp2
  go_loopw [11] (fun i wr => ∃ k : Nat, k ≤ l.length ∧ i = .int .i64 k ∧ Aside0 (BMap wr Try.prog 3 4 w.heap.size k (fun y => decide (y ∈ (l.take k).map (·.f0)))) ∧ Aside0 (Below w.heap.size w wr) ∧ Aside0 ((l.take k).map (·.f0)).Nodup) (fun i _ => l.length - (intOf i).toNat)
  case atStart => exact ⟨0, Nat.zero_le _, rfl, ⟨by simpa using BMap.made w⟩, ⟨below_alloc (Below.refl _ _) _⟩, ⟨by simp⟩⟩
  case round =>
    obtain ⟨k, hk, rfl, HM, HB, HN⟩ := hrel
    by_cases hlt : k < l.length
    · obtain ⟨ad, e0, hx0, hx1⟩ := at_T113 (Kd.C_below HR.out HB.out) (k : Int) (by omega) (by omega)
      cases e0
      simp only [Int.toNat_natCast] at hx0 hx1
      have hwf : (Lit.int .i64 (rd_T113 l k).f0).wf = true := HW.out _ (by simp [rd_T113, hlt])
      have hm2 := Aside0.mk hwf
      clear hwf
      go_wp2_with (first | (go_at_call 119; refine (impl_WaitsOk_1.calls _ _ _).mono ?_; rintro e w' ⟨rfl, rfl⟩) | (at_lookup; refine wp_look (b := w.heap.size) (n := k) (f := fun y => decide (y ∈ (l.take k).map (·.f0))) rfl _ _ 165 rfl (Go.Maps.int_keyed Try.underlying3) Try.underlying165 Try.underlying3 Try.underlying4 (zeroB _) rfl ?hm (rd_T113 l k).f0 rfl hm2.out ?_; (case hm => repeat (first | exact HM.out | apply BMap.alloc))) | (at_mapUpdate; refine wp_put (b := w.heap.size) (n := k) (f := fun y => decide (y ∈ (l.take k).map (·.f0))) rfl _ _ _ 165 rfl (Go.Maps.int_keyed Try.underlying3) Try.underlying165 Try.underlying3 Try.underlying4 rfl ?hm2 ?hn (rd_T113 l k).f0 rfl rfl hm2.out ?_; (case hm2 => repeat (first | exact HM.out | apply BMap.alloc)); (case hn => unfold maxLen; omega); intro w2 hw2 hg2; have HM2 := Aside0.mk hw2; have HG2 := Aside0.mk hg2; clear hw2 hg2))
      · have hin : (rd_T113 l k).f0 ∈ (l.take k).map (·.f0) := by assumption
        go_ret
        exact ⟨by rw [allDiff_seen hlt hin]; rfl, by repeat (first | exact HB.out | apply below_alloc)⟩
      · have hin : ¬ (rd_T113 l k).f0 ∈ (l.take k).map (·.f0) := by assumption
        go_roundw
        case rel => exact ⟨k + 1, by omega, by go_num, ⟨by rw [← seen_step hlt]; exact HM2.out⟩, ⟨pw_below_grown (by repeat (first | exact HB.out | apply below_alloc)) _ (by have := HB.out.size; simp; omega) HG2.out (by simp)⟩, ⟨allDiff_step hlt hin HN.out⟩⟩
        case measure => simp [intOf]; omega
    · go_wp2
      go_ret
      exact ⟨by unfold allDiff; rw [decide_eq_true (by have := HN.out; rwa [List.take_of_length_le (by omega)] at this)]; rfl, HB.out⟩

/-! ### impl_WaitsOk: function 89, by hand -/
def waitsOkB (l : List S113) : Bool := decide (l.length ≤ 64) && allDiff (l.map (·.f0))
def impl_WaitsOk.f (l0 : List S113) : Option Bool := if ∀ x ∈ l0, (Lit.int .i64 x.f0).wf = true then some (waitsOkB l0) else none
theorem impl_WaitsOk.calls (A0 : Option Addr) (c0 : Nat) (l0 : List S113) (r : Bool) (w : World) (hr0 : Kd.C k113 w A0 l0.length l0) (hc0 : l0.length ≤ c0) (h : impl_WaitsOk.f l0 = some r) :
    Calls Try.prog 89 #[.slice A0 l0.length c0] w fun e w' => e = .returned (.bool r) ∧ Below w.heap.size w w' := by
  have HR := Aside0.mk hr0
  have HC := Aside0.mk hc0
  clear hr0 hc0
  unfold impl_WaitsOk.f at h
  split at h
  case isFalse => cases h
  case isTrue hw =>
    obtain rfl := Option.some.inj h
    have HW := Aside0.mk hw
    clear h hw
    by_cases hlt : l0.length ≤ 64
    · have H1 := Aside0.mk (show waitsOkB l0 = allDiff (l0.map (·.f0)) by simp [waitsOkB, hlt])
      have h1 : decide ((l0.length : Int) ≤ 64) = true := decide_eq_true (by omega)
      go_enter Try.func89, Try.ntmps89
      go_wp2_with (go_at_call 118; refine (areDiff_Wait A0 c0 l0 _ HR.out HC.out HW.out).mono ?_; rintro e w' ⟨rfl, hb⟩)
      go_ret
      exact ⟨by rw [H1.out]; rfl, hb⟩
    · have H1 := Aside0.mk (show waitsOkB l0 = false by simp [waitsOkB, hlt])
      have h1 : decide ((l0.length : Int) ≤ 64) = false := decide_eq_false (by omega)
      go_enter Try.func89, Try.ntmps89
      go_wp2
      go_ret
      exact ⟨by rw [H1.out]; rfl, Below.refl _ _⟩

/-! ### impl_Wait_116: function 116, by hand -/
set_option maxHeartbeats 1000000 in
theorem indexFunc_Wait (p : S113 → Bool) (A : Option Addr) (c : Nat) (l : List S113) (w : World) (hr : Kd.C k113 w A l.length l) (hc : l.length ≤ c) (FN : Nat) (cap : Array Value) (hF : ∀ args w, (callFunc FN args).run Try.prog w = .ok (.enter FN args) w)
    (hf : ∀ (j : Nat) (w1 : World), j < l.length → Below w.heap.size w w1 → Calls Try.prog FN (#[.agg #[.int .i64 (rd_T113 l (j : Int)).f0, .int .i64 (rd_T113 l (j : Int)).f1]] ++ cap) w1 fun e w2 => e = .returned (.bool (p (rd_T113 l (j : Int)))) ∧ Below w1.heap.size w1 w2) :
    Calls Try.prog 116 #[.slice A l.length c, .func (.func FN) #[] cap] w fun e w' => e = .returned (.int .i64 (idxOf p l)) ∧ Below w.heap.size w w' := by
  have HR := Aside0.mk hr
  have HF := Aside0.mk hf
  have hl : l.length ≤ 9223372036854775807 := hr.2.1
  clear hr hf
  go_enter Try.func116, Try.ntmps116
  go_wp2
  go_loopw [8] (fun i wr => ∃ k : Nat, k ≤ l.length ∧ i = .int .i64 k ∧ Aside0 (Below w.heap.size w wr) ∧ Aside0 (∀ j, j < k → ∀ h : j < l.length, p l[j] = false)) (fun i _ => l.length - (intOf i).toNat)
  case atStart => exact ⟨0, Nat.zero_le _, rfl, ⟨Below.refl _ _⟩, ⟨fun j hj => by omega⟩⟩
  case round =>
    obtain ⟨k, hk, rfl, HB, HN⟩ := hrel
    by_cases hlt : k < l.length
    · obtain ⟨ad, e0, hx0, hx1⟩ := at_T113 (Kd.C_below HR.out HB.out) (k : Int) (by omega) (by omega)
      cases e0
      simp only [Int.toNat_natCast] at hx0 hx1
      have HX := Aside0.mk (show (rd_T113 l (k : Int)) = l[k] by simp [rd_T113, hlt])
      cases hp : p (rd_T113 l (k : Int))
      · have HP := Aside0.mk hp
        clear hp
        go_wp2_with (refine ((HF.out k _ hlt HB.out)).mono ?_; rintro e w' ⟨rfl, hb⟩; rw [HP.out]; have HB2 := Aside0.mk (HB.out.trans (hb.mono HB.out.size)); clear hb)
        go_roundw
        case rel => exact ⟨k + 1, by omega, by go_num, HB2, ⟨fun j hj h => by
          rcases Nat.lt_succ_iff_lt_or_eq.1 hj with h1 | rfl
          · exact HN.out j h1 h
          · rw [← HX.out]; exact HP.out⟩⟩
        case measure => simp [intOf]; omega
      · have HP := Aside0.mk hp
        clear hp
        go_wp2_with (refine ((HF.out k _ hlt HB.out)).mono ?_; rintro e w' ⟨rfl, hb⟩; rw [HP.out]; have HB2 := Aside0.mk (HB.out.trans (hb.mono HB.out.size)); clear hb)
        go_ret
        exact ⟨by rw [idxOf_hit hlt (by rw [← HX.out]; exact HP.out) HN.out]; rfl, HB2.out⟩
    · go_wp2
      go_ret
      exact ⟨by rw [idxOf_miss (fun j h => HN.out j (by omega) h)]; rfl, HB.out⟩

end Go.Proofs.Ytadbcjeelbkfcaa.PFnExactWaitCloses
