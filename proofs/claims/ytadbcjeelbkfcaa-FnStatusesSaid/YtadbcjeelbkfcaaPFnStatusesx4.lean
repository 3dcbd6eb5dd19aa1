-- Written by hv.py, a program of this session's own, over the kit's print: FnStatuses
import Derived.Test.YtadbcjeelbkfcaaPFnStatusesx0
import Derived.Test.YtadbcjeelbkfcaaPFnStatusesx1
import Derived.Test.YtadbcjeelbkfcaaPFnStatusesx2
import Derived.Test.YtadbcjeelbkfcaaPFnStatusesx3
namespace Go.Proofs.Ytadbcjeelbkfcaa.PFnStatuses
open Go.RowKit Go.Proofs.YtadbcjeelbkfcaaW.PrintWords Go.Proofs.YtadbcjeelbkfcaaW.PrintLast Go.Proofs.YtadbcjeelbkfcaaW.PrintMore Go.Proofs.Ytadbcjeelbkfcaa.HFl Go.Proofs.Ytadbcjeelbkfcaa.HMap Go.Proofs.Ytadbcjeelbkfcaa.HMore
attribute [local go_sem] max2_int min2_int max_two min_two max_three min_three max_four min_four   -- for this text's walks alone
set_option linter.unusedVariables false
set_option linter.unusedSimpArgs false

/-! ### laws_FnStatuses: function 11 -/
mutual
def laws_FnStatuses.j0 : Nat → List Int → Int → Int → List Int → List Int → List Int → Bool → Option (Bool)
  | 0, _, _, _, _, _, _, _ => none
  | k + 1, x3, x4, x5, x6, x11, x13, x90 => if x90 = true then (some false) else (laws_FnStatuses.l0 k x3 x4 x5 x6 x11 x13 0)
def laws_FnStatuses.l0 : Nat → List Int → Int → Int → List Int → List Int → List Int → Int → Option (Bool)
  | 0, _, _, _, _, _, _, _ => none
  | k + 1, x3, x4, x5, x6, x11, x13, x14 => if x14 < (x6.length : Int) then ((spec_StatusOf.f x3 x14).bind fun t264 => (if x14 = x4 then ((impl_StatusOf.f x11 x14).bind fun t265 => (if t265 = x5 then (if x14 > 0 then (if 0 ≤ x14 then (if x14 < (x13.length : Int) then (if (rd x13 x14) = 0 then (some false) else (if (((rd x13 x14) == 1) != (x5 == 1)) = true then (some false) else (laws_FnStatuses.l0 k x3 x4 x5 x6 x11 x13 (wrap64 (x14 + 1))))) else (none)) else (none)) else (laws_FnStatuses.l0 k x3 x4 x5 x6 x11 x13 (wrap64 (x14 + 1)))) else (some false))) else ((impl_StatusOf.f x11 x14).bind fun t268 => (if t268 = t264 then (if x14 > 0 then (if 0 ≤ x14 then (if x14 < (x13.length : Int) then (if (rd x13 x14) = 0 then (some false) else (if (((rd x13 x14) == 1) != (t264 == 1)) = true then (some false) else (laws_FnStatuses.l0 k x3 x4 x5 x6 x11 x13 (wrap64 (x14 + 1))))) else (none)) else (none)) else (laws_FnStatuses.l0 k x3 x4 x5 x6 x11 x13 (wrap64 (x14 + 1)))) else (some false))))) else (some true)
end
def laws_FnStatuses.f (k : Nat) (l0 : List Int) : Option (Bool) := (laws_big.f l0).bind fun t239 => (if t239 = true then (some true) else ((spec_DrawStatusSet.f k l0).bind fun bt240 => ((impl_StatusSet.f k bt240.1 bt240.2.1 bt240.2.2).bind fun bt245 => ((spec_StatusSet.f k bt240.1 bt240.2.1 bt240.2.2).bind fun bt249 => (if (bt245.2 != bt249.2) = true then (some false) else (if bt245.2 = true then ((impl_StatusBytes.f k bt245.1).bind fun t253 => ((impl_StatusRead.f k t253 (bt245.1.length : Int)).bind fun bt256 => ((impl_StatusSettle.f k bt245.1 (bt245.1.length : Int)).bind fun t260 => (if bt256.2 = true then (if (bt256.1.length : Int) = (bt245.1.length : Int) then (if (t260.length : Int) = (bt245.1.length : Int) then (if (t253.length : Int) = (wrap64 (Int.tdiv (wrap64 ((bt245.1.length : Int) + 3)) 4)) then ((impl_StatusOf.f bt245.1 bt240.2.1).bind fun t263 => (laws_FnStatuses.j0 k bt240.1 bt240.2.1 bt240.2.2 bt245.1 bt256.1 t260 (t263 != bt240.2.2))) else (laws_FnStatuses.j0 k bt240.1 bt240.2.1 bt240.2.2 bt245.1 bt256.1 t260 true)) else (laws_FnStatuses.j0 k bt240.1 bt240.2.1 bt240.2.2 bt245.1 bt256.1 t260 true)) else (laws_FnStatuses.j0 k bt240.1 bt240.2.1 bt240.2.2 bt245.1 bt256.1 t260 true)) else (laws_FnStatuses.j0 k bt240.1 bt240.2.1 bt240.2.2 bt245.1 bt256.1 t260 true))))) else (some ((bt245.1.length : Int) == 0))))))))
theorem laws_FnStatuses.mono_l : ∀ k, (∀ y0 y1 y2 y3 y4 y5 y6, LeO (laws_FnStatuses.j0 k y0 y1 y2 y3 y4 y5 y6) (laws_FnStatuses.j0 (k + 1) y0 y1 y2 y3 y4 y5 y6)) ∧ (∀ y0 y1 y2 y3 y4 y5 y6, LeO (laws_FnStatuses.l0 k y0 y1 y2 y3 y4 y5 y6) (laws_FnStatuses.l0 (k + 1) y0 y1 y2 y3 y4 y5 y6))
  | 0 => ⟨fun _ _ _ _ _ _ _ r h => by simp [laws_FnStatuses.j0] at h, fun _ _ _ _ _ _ _ r h => by simp [laws_FnStatuses.l0] at h⟩
  | k + 1 => by
    obtain ⟨ih0, ih1⟩ := laws_FnStatuses.mono_l k
    refine ⟨?_, ?_⟩
    · intro y0 y1 y2 y3 y4 y5 y6
      unfold laws_FnStatuses.j0
      repeat' first
      | (with_reducible exact ih0 _ _ _ _ _ _ _)
      | (with_reducible exact ih1 _ _ _ _ _ _ _)
      | (with_reducible exact impl_StatusBytes.mono _ _)
      | (with_reducible exact impl_StatusRead.mono _ _ _)
      | (with_reducible exact impl_StatusSet.mono _ _ _ _)
      | (with_reducible exact impl_StatusSettle.mono _ _ _)
      | (with_reducible exact spec_DrawStatusSet.mono _ _)
      | (with_reducible exact spec_StatusSet.mono _ _ _ _)
      | (with_reducible exact LeO.refl _)
      | (with_reducible exact LeO.none _)
      | (with_reducible refine LeO.ite ?_ ?_)
      | (with_reducible refine LeO.bind ?_ (fun _ => ?_))
      | exact ih0 _ _ _ _ _ _ _
      | exact ih1 _ _ _ _ _ _ _
      | exact impl_StatusBytes.mono _ _
      | exact impl_StatusRead.mono _ _ _
      | exact impl_StatusSet.mono _ _ _ _
      | exact impl_StatusSettle.mono _ _ _
      | exact spec_DrawStatusSet.mono _ _
      | exact spec_StatusSet.mono _ _ _ _
      | exact LeO.none _
      | refine LeO.ite ?_ ?_
      | refine LeO.bind ?_ (fun _ => ?_)
    · intro y0 y1 y2 y3 y4 y5 y6
      unfold laws_FnStatuses.l0
      repeat' first
      | (with_reducible exact ih0 _ _ _ _ _ _ _)
      | (with_reducible exact ih1 _ _ _ _ _ _ _)
      | (with_reducible exact impl_StatusBytes.mono _ _)
      | (with_reducible exact impl_StatusRead.mono _ _ _)
      | (with_reducible exact impl_StatusSet.mono _ _ _ _)
      | (with_reducible exact impl_StatusSettle.mono _ _ _)
      | (with_reducible exact spec_DrawStatusSet.mono _ _)
      | (with_reducible exact spec_StatusSet.mono _ _ _ _)
      | (with_reducible exact LeO.refl _)
      | (with_reducible exact LeO.none _)
      | (with_reducible refine LeO.ite ?_ ?_)
      | (with_reducible refine LeO.bind ?_ (fun _ => ?_))
      | exact ih0 _ _ _ _ _ _ _
      | exact ih1 _ _ _ _ _ _ _
      | exact impl_StatusBytes.mono _ _
      | exact impl_StatusRead.mono _ _ _
      | exact impl_StatusSet.mono _ _ _ _
      | exact impl_StatusSettle.mono _ _ _
      | exact spec_DrawStatusSet.mono _ _
      | exact spec_StatusSet.mono _ _ _ _
      | exact LeO.none _
      | refine LeO.ite ?_ ?_
      | refine LeO.bind ?_ (fun _ => ?_)
theorem laws_FnStatuses.mono : ∀ a0 k, LeO (laws_FnStatuses.f k a0) (laws_FnStatuses.f (k + 1) a0) := by
  intro a0 k
  obtain ⟨ih0, ih1⟩ := laws_FnStatuses.mono_l k
  unfold laws_FnStatuses.f
  repeat' first
      | (with_reducible exact ih0 _ _ _ _ _ _ _)
      | (with_reducible exact ih1 _ _ _ _ _ _ _)
      | (with_reducible exact impl_StatusBytes.mono _ _)
      | (with_reducible exact impl_StatusRead.mono _ _ _)
      | (with_reducible exact impl_StatusSet.mono _ _ _ _)
      | (with_reducible exact impl_StatusSettle.mono _ _ _)
      | (with_reducible exact spec_DrawStatusSet.mono _ _)
      | (with_reducible exact spec_StatusSet.mono _ _ _ _)
      | (with_reducible exact LeO.refl _)
      | (with_reducible exact LeO.none _)
      | (with_reducible refine LeO.ite ?_ ?_)
      | (with_reducible refine LeO.bind ?_ (fun _ => ?_))
      | exact ih0 _ _ _ _ _ _ _
      | exact ih1 _ _ _ _ _ _ _
      | exact impl_StatusBytes.mono _ _
      | exact impl_StatusRead.mono _ _ _
      | exact impl_StatusSet.mono _ _ _ _
      | exact impl_StatusSettle.mono _ _ _
      | exact spec_DrawStatusSet.mono _ _
      | exact spec_StatusSet.mono _ _ _ _
      | exact LeO.none _
      | refine LeO.ite ?_ ?_
      | refine LeO.bind ?_ (fun _ => ?_)
set_option maxHeartbeats 8000000 in
set_option maxRecDepth 100000 in
theorem laws_FnStatuses.calls (k : Nat) (A0 : Option Addr) (c0 : Nat) (l0 : List Int) (r : Bool) (w : World) (hr0 : Kd.C (Kd.int .u8) w A0 l0.length l0) (hc0 : l0.length ≤ c0) (h : laws_FnStatuses.f k l0 = some r) :
    Calls Try.prog 11 #[.slice A0 l0.length c0] w fun e w' => e = .returned (.bool r) ∧ Below w.heap.size w w' := by
  have HR0 := Aside0.mk hr0
  have HC0 := Aside0.mk hc0
  clear hr0 hc0
  have HB := Aside0.mk (Below.refl w.heap.size w)
  have H : ((laws_big.f l0).bind fun t239 => (if t239 = true then (some true) else ((spec_DrawStatusSet.f k l0).bind fun bt240 => ((impl_StatusSet.f k bt240.1 bt240.2.1 bt240.2.2).bind fun bt245 => ((spec_StatusSet.f k bt240.1 bt240.2.1 bt240.2.2).bind fun bt249 => (if (bt245.2 != bt249.2) = true then (some false) else (if bt245.2 = true then ((impl_StatusBytes.f k bt245.1).bind fun t253 => ((impl_StatusRead.f k t253 (bt245.1.length : Int)).bind fun bt256 => ((impl_StatusSettle.f k bt245.1 (bt245.1.length : Int)).bind fun t260 => (if bt256.2 = true then (if (bt256.1.length : Int) = (bt245.1.length : Int) then (if (t260.length : Int) = (bt245.1.length : Int) then (if (t253.length : Int) = (wrap64 (Int.tdiv (wrap64 ((bt245.1.length : Int) + 3)) 4)) then ((impl_StatusOf.f bt245.1 bt240.2.1).bind fun t263 => (laws_FnStatuses.j0 k bt240.1 bt240.2.1 bt240.2.2 bt245.1 bt256.1 t260 (t263 != bt240.2.2))) else (laws_FnStatuses.j0 k bt240.1 bt240.2.1 bt240.2.2 bt245.1 bt256.1 t260 true)) else (laws_FnStatuses.j0 k bt240.1 bt240.2.1 bt240.2.2 bt245.1 bt256.1 t260 true)) else (laws_FnStatuses.j0 k bt240.1 bt240.2.1 bt240.2.2 bt245.1 bt256.1 t260 true)) else (laws_FnStatuses.j0 k bt240.1 bt240.2.1 bt240.2.2 bt245.1 bt256.1 t260 true))))) else (some ((bt245.1.length : Int) == 0))))))))) = some r := h
  clear h
  replace H := Option.bind_eq_some_iff.mp H
  obtain ⟨t239, A20, H⟩ := H
  replace H : (if t239 = true then (some true) else ((spec_DrawStatusSet.f k l0).bind fun bt240 => ((impl_StatusSet.f k bt240.1 bt240.2.1 bt240.2.2).bind fun bt245 => ((spec_StatusSet.f k bt240.1 bt240.2.1 bt240.2.2).bind fun bt249 => (if (bt245.2 != bt249.2) = true then (some false) else (if bt245.2 = true then ((impl_StatusBytes.f k bt245.1).bind fun t253 => ((impl_StatusRead.f k t253 (bt245.1.length : Int)).bind fun bt256 => ((impl_StatusSettle.f k bt245.1 (bt245.1.length : Int)).bind fun t260 => (if bt256.2 = true then (if (bt256.1.length : Int) = (bt245.1.length : Int) then (if (t260.length : Int) = (bt245.1.length : Int) then (if (t253.length : Int) = (wrap64 (Int.tdiv (wrap64 ((bt245.1.length : Int) + 3)) 4)) then ((impl_StatusOf.f bt245.1 bt240.2.1).bind fun t263 => (laws_FnStatuses.j0 k bt240.1 bt240.2.1 bt240.2.2 bt245.1 bt256.1 t260 (t263 != bt240.2.2))) else (laws_FnStatuses.j0 k bt240.1 bt240.2.1 bt240.2.2 bt245.1 bt256.1 t260 true)) else (laws_FnStatuses.j0 k bt240.1 bt240.2.1 bt240.2.2 bt245.1 bt256.1 t260 true)) else (laws_FnStatuses.j0 k bt240.1 bt240.2.1 bt240.2.2 bt245.1 bt256.1 t260 true)) else (laws_FnStatuses.j0 k bt240.1 bt240.2.1 bt240.2.2 bt245.1 bt256.1 t260 true))))) else (some ((bt245.1.length : Int) == 0)))))))) = some r := H
  have A2 := Aside0.mk A20
  clear A20
  by_cases c3 : t239 = true
  · subst c3
    have H1 : (some true) = some r := by rw [if_pos rfl] at H; exact H
    clear H
    have H := H1
    clear H1
    obtain rfl := Option.some.inj H
    go_enter Try.func11, Try.ntmps11
    go_wp2_with (first | ((with_reducible refine gate_callee (f := 15) rfl ?_); refine goesL_ (some 17) rfl rfl Try.func15 (by kernel_rfl) rfl #[.slice A0 l0.length c0] rfl (by (try simp only [List.map_toArray, List.map_cons, List.map_nil]); first | done | rfl | (simp only [List.length_drop, List.length_take]; rfl)) ?_; (with_reducible refine (laws_big.calls _ _ l0 true _ ?side1 ?side2 A2.out).mono ?_); (case side1 => repeat (first | exact HR0.out | (with_reducible refine Kd.C_alloc ?_ _) | (with_reducible refine Kd.C_drewN ?_ _) | (with_reducible refine Kd.C_drew ?_))); (case side2 => exact HC0.out); rintro e w' ⟨rfl, ⟨nd, rfl⟩⟩; refine ⟨_, rfl, ?_⟩))
    go_ret
    exact ⟨by first | rfl | (simp [errW_none, errW_some] <;> rfl) | (simp [*, errW_none, errW_some] <;> rfl), by repeat (first | (with_reducible first | exact HB.out | apply below_alloc | apply pw_below_drewN | apply below_drew1) | exact HB.out)⟩
  · replace c3 := Bool.eq_false_iff.mpr c3
    subst c3
    have H1 : ((spec_DrawStatusSet.f k l0).bind fun bt240 => ((impl_StatusSet.f k bt240.1 bt240.2.1 bt240.2.2).bind fun bt245 => ((spec_StatusSet.f k bt240.1 bt240.2.1 bt240.2.2).bind fun bt249 => (if (bt245.2 != bt249.2) = true then (some false) else (if bt245.2 = true then ((impl_StatusBytes.f k bt245.1).bind fun t253 => ((impl_StatusRead.f k t253 (bt245.1.length : Int)).bind fun bt256 => ((impl_StatusSettle.f k bt245.1 (bt245.1.length : Int)).bind fun t260 => (if bt256.2 = true then (if (bt256.1.length : Int) = (bt245.1.length : Int) then (if (t260.length : Int) = (bt245.1.length : Int) then (if (t253.length : Int) = (wrap64 (Int.tdiv (wrap64 ((bt245.1.length : Int) + 3)) 4)) then ((impl_StatusOf.f bt245.1 bt240.2.1).bind fun t263 => (laws_FnStatuses.j0 k bt240.1 bt240.2.1 bt240.2.2 bt245.1 bt256.1 t260 (t263 != bt240.2.2))) else (laws_FnStatuses.j0 k bt240.1 bt240.2.1 bt240.2.2 bt245.1 bt256.1 t260 true)) else (laws_FnStatuses.j0 k bt240.1 bt240.2.1 bt240.2.2 bt245.1 bt256.1 t260 true)) else (laws_FnStatuses.j0 k bt240.1 bt240.2.1 bt240.2.2 bt245.1 bt256.1 t260 true)) else (laws_FnStatuses.j0 k bt240.1 bt240.2.1 bt240.2.2 bt245.1 bt256.1 t260 true))))) else (some ((bt245.1.length : Int) == 0))))))) = some r := by rw [if_neg (show ¬ (false = true) by decide)] at H; exact H
    clear H
    have H := H1
    clear H1
    replace H := Option.bind_eq_some_iff.mp H
    obtain ⟨⟨t240, t241, t242⟩, A40, H⟩ := H
    replace H : ((impl_StatusSet.f k t240 t241 t242).bind fun bt245 => ((spec_StatusSet.f k t240 t241 t242).bind fun bt249 => (if (bt245.2 != bt249.2) = true then (some false) else (if bt245.2 = true then ((impl_StatusBytes.f k bt245.1).bind fun t253 => ((impl_StatusRead.f k t253 (bt245.1.length : Int)).bind fun bt256 => ((impl_StatusSettle.f k bt245.1 (bt245.1.length : Int)).bind fun t260 => (if bt256.2 = true then (if (bt256.1.length : Int) = (bt245.1.length : Int) then (if (t260.length : Int) = (bt245.1.length : Int) then (if (t253.length : Int) = (wrap64 (Int.tdiv (wrap64 ((bt245.1.length : Int) + 3)) 4)) then ((impl_StatusOf.f bt245.1 t241).bind fun t263 => (laws_FnStatuses.j0 k t240 t241 t242 bt245.1 bt256.1 t260 (t263 != t242))) else (laws_FnStatuses.j0 k t240 t241 t242 bt245.1 bt256.1 t260 true)) else (laws_FnStatuses.j0 k t240 t241 t242 bt245.1 bt256.1 t260 true)) else (laws_FnStatuses.j0 k t240 t241 t242 bt245.1 bt256.1 t260 true)) else (laws_FnStatuses.j0 k t240 t241 t242 bt245.1 bt256.1 t260 true))))) else (some ((bt245.1.length : Int) == 0)))))) = some r := H
    have A4 := Aside0.mk A40
    clear A40
    replace H := Option.bind_eq_some_iff.mp H
    obtain ⟨⟨t245, t246⟩, A50, H⟩ := H
    replace H : ((spec_StatusSet.f k t240 t241 t242).bind fun bt249 => (if (t246 != bt249.2) = true then (some false) else (if t246 = true then ((impl_StatusBytes.f k t245).bind fun t253 => ((impl_StatusRead.f k t253 (t245.length : Int)).bind fun bt256 => ((impl_StatusSettle.f k t245 (t245.length : Int)).bind fun t260 => (if bt256.2 = true then (if (bt256.1.length : Int) = (t245.length : Int) then (if (t260.length : Int) = (t245.length : Int) then (if (t253.length : Int) = (wrap64 (Int.tdiv (wrap64 ((t245.length : Int) + 3)) 4)) then ((impl_StatusOf.f t245 t241).bind fun t263 => (laws_FnStatuses.j0 k t240 t241 t242 t245 bt256.1 t260 (t263 != t242))) else (laws_FnStatuses.j0 k t240 t241 t242 t245 bt256.1 t260 true)) else (laws_FnStatuses.j0 k t240 t241 t242 t245 bt256.1 t260 true)) else (laws_FnStatuses.j0 k t240 t241 t242 t245 bt256.1 t260 true)) else (laws_FnStatuses.j0 k t240 t241 t242 t245 bt256.1 t260 true))))) else (some ((t245.length : Int) == 0))))) = some r := H
    have A5 := Aside0.mk A50
    clear A50
    replace H := Option.bind_eq_some_iff.mp H
    obtain ⟨⟨t249, t250⟩, A60, H⟩ := H
    replace H : (if (t246 != t250) = true then (some false) else (if t246 = true then ((impl_StatusBytes.f k t245).bind fun t253 => ((impl_StatusRead.f k t253 (t245.length : Int)).bind fun bt256 => ((impl_StatusSettle.f k t245 (t245.length : Int)).bind fun t260 => (if bt256.2 = true then (if (bt256.1.length : Int) = (t245.length : Int) then (if (t260.length : Int) = (t245.length : Int) then (if (t253.length : Int) = (wrap64 (Int.tdiv (wrap64 ((t245.length : Int) + 3)) 4)) then ((impl_StatusOf.f t245 t241).bind fun t263 => (laws_FnStatuses.j0 k t240 t241 t242 t245 bt256.1 t260 (t263 != t242))) else (laws_FnStatuses.j0 k t240 t241 t242 t245 bt256.1 t260 true)) else (laws_FnStatuses.j0 k t240 t241 t242 t245 bt256.1 t260 true)) else (laws_FnStatuses.j0 k t240 t241 t242 t245 bt256.1 t260 true)) else (laws_FnStatuses.j0 k t240 t241 t242 t245 bt256.1 t260 true))))) else (some ((t245.length : Int) == 0)))) = some r := H
    have A6 := Aside0.mk A60
    clear A60
    by_cases c7 : (t246 != t250) = true
    · rw [if_pos c7] at H
      have c7b0 : (t246 != t250) = true := c7
      (try (have c7b1 : decide (t246 = t250) = false := by simpa using c7))
      (try (have c7b2 : (t246 == t250) = false := by simpa using c7))
      (try (have c7b3 : ¬ (t246 = t250) := by simpa using c7))
      (try (have c7b4 : (!t246 == t250) = true := by have h_ := c7; cases t246 <;> simp at h_ ⊢ <;> first | done | omega | exact List.length_pos_iff.2 h_ | simp_all))
      clear c7
      obtain rfl := Option.some.inj H
      go_enter Try.func11, Try.ntmps11
      go_wp2_with (first | ((with_reducible refine gate_callee (f := 15) rfl ?_); refine goesL_ (some 17) rfl rfl Try.func15 (by kernel_rfl) rfl #[.slice A0 l0.length c0] rfl (by (try simp only [List.map_toArray, List.map_cons, List.map_nil]); first | done | rfl | (simp only [List.length_drop, List.length_take]; rfl)) ?_; (with_reducible refine (laws_big.calls _ _ l0 false _ ?side1 ?side2 A2.out).mono ?_); (case side1 => repeat (first | exact HR0.out | (with_reducible refine Kd.C_alloc ?_ _) | (with_reducible refine Kd.C_drewN ?_ _) | (with_reducible refine Kd.C_drew ?_))); (case side2 => exact HC0.out); rintro e w' ⟨rfl, ⟨nd, rfl⟩⟩; refine ⟨_, rfl, ?_⟩) | ((with_reducible refine gate_callee (f := 56) rfl ?_); refine goesL_ (some 20) rfl rfl Try.func56 (by kernel_rfl) rfl #[.slice A0 l0.length c0] rfl (by (try simp only [List.map_toArray, List.map_cons, List.map_nil]); first | done | rfl | (simp only [List.length_drop, List.length_take]; rfl)) ?_; (with_reducible refine (spec_DrawStatusSet.calls k _ _ l0 t240 t241 t242 _ ?side1 ?side2 A4.out).mono ?_); (case side1 => repeat (first | exact HR0.out | (with_reducible refine Kd.C_alloc ?_ _) | (with_reducible refine Kd.C_drewN ?_ _) | (with_reducible refine Kd.C_drew ?_))); (case side2 => exact HC0.out); rintro e w8 ⟨v243, rfl, ho0, hb⟩; refine ⟨_, rfl, ?_⟩; have n0_ := Aside0.mk (Kd.R_lower ho0 (below_size (by repeat (first | (with_reducible first | exact HB.out | apply below_alloc | apply pw_below_drewN | apply below_drew1) | exact HB.out)))); have n1_ := Aside0.mk (below_step (by repeat (first | (with_reducible first | exact HB.out | apply below_alloc | apply pw_below_drewN | apply below_drew1) | exact HB.out)) hb); clear HB; have HO244 := n0_; have HB := n1_; clear n0_ n1_; (try clear hb); (try clear hb2); (try clear hk); (try clear hi); (try clear ho0); obtain ⟨Ao9, co9, eo9⟩ := Kd.R_slice HO244.out; subst eo9) | ((with_reducible refine gate_callee (f := 57) rfl ?_); refine goesL_ (some 28) rfl rfl Try.func57 (by kernel_rfl) rfl #[.slice Ao9 t240.length co9, .int .i64 t241, .int .i64 t242] rfl (by (try simp only [List.map_toArray, List.map_cons, List.map_nil]); first | done | rfl | (simp only [List.length_drop, List.length_take]; rfl)) ?_; (with_reducible refine (impl_StatusSet.calls k _ _ t240 t241 t242 t245 t246 _ ?side1 ?side2 A5.out).mono ?_); (case side1 => repeat (first | exact (Kd.R_reads' HO244.out).2.2 | (with_reducible refine Kd.C_alloc ?_ _) | (with_reducible refine Kd.C_drewN ?_ _) | (with_reducible refine Kd.C_drew ?_))); (case side2 => exact (Kd.R_reads' HO244.out).2.1); rintro e w10 ⟨v247, rfl, ho0, hb⟩; refine ⟨_, rfl, ?_⟩; have n0_ := Aside0.mk (Kd.R_elder' (by (with_reducible repeat (first | apply Kd.R_alloc | apply Kd.R_drewN | apply Kd.R_drew)); exact HO244.out) (Kd.R_base ho0) hb); have n1_ := Aside0.mk (Kd.R_lower (Kd.R_new' ho0 (Kd.R_lt (by (with_reducible repeat (first | apply Kd.R_alloc | apply Kd.R_drewN | apply Kd.R_drew)); exact HO244.out))) (below_size (by repeat (first | (with_reducible first | exact HB.out | apply below_alloc | apply pw_below_drewN | apply below_drew1) | exact HB.out)))); have n2_ := Aside0.mk (below_step (by repeat (first | (with_reducible first | exact HB.out | apply below_alloc | apply pw_below_drewN | apply below_drew1) | exact HB.out)) hb); clear HO244; clear HB; have HO244 := n0_; have HO248 := n1_; have HB := n2_; clear n0_ n1_ n2_; (try clear hb); (try clear hb2); (try clear hk); (try clear hi); (try clear ho0)) | ((with_reducible refine gate_callee (f := 58) rfl ?_); refine goesL_ (some 35) rfl rfl Try.func58 (by kernel_rfl) rfl #[.slice Ao9 t240.length co9, .int .i64 t241, .int .i64 t242] rfl (by (try simp only [List.map_toArray, List.map_cons, List.map_nil]); first | done | rfl | (simp only [List.length_drop, List.length_take]; rfl)) ?_; (with_reducible refine (spec_StatusSet.calls k _ _ t240 t241 t242 t249 t250 _ ?side1 ?side2 A6.out).mono ?_); (case side1 => repeat (first | exact (Kd.R_reads' HO244.out).2.2 | (with_reducible refine Kd.C_alloc ?_ _) | (with_reducible refine Kd.C_drewN ?_ _) | (with_reducible refine Kd.C_drew ?_))); (case side2 => exact (Kd.R_reads' HO244.out).2.1); rintro e w11 ⟨v251, rfl, ho0, hb⟩; refine ⟨_, rfl, ?_⟩; have n0_ := Aside0.mk (Kd.R_elder' (by (with_reducible repeat (first | apply Kd.R_alloc | apply Kd.R_drewN | apply Kd.R_drew)); exact HO244.out) (Kd.R_base ho0) hb); have n1_ := Aside0.mk (Kd.R_elder' (by (with_reducible repeat (first | apply Kd.R_alloc | apply Kd.R_drewN | apply Kd.R_drew)); exact HO248.out) (Kd.R_base ho0) hb); have n2_ := Aside0.mk (Kd.R_lower (Kd.R_new' (Kd.R_new' ho0 (Kd.R_lt (by (with_reducible repeat (first | apply Kd.R_alloc | apply Kd.R_drewN | apply Kd.R_drew)); exact HO244.out))) (Kd.R_lt (by (with_reducible repeat (first | apply Kd.R_alloc | apply Kd.R_drewN | apply Kd.R_drew)); exact HO248.out))) (below_size (by repeat (first | (with_reducible first | exact HB.out | apply below_alloc | apply pw_below_drewN | apply below_drew1) | exact HB.out)))); have n3_ := Aside0.mk (below_step (by repeat (first | (with_reducible first | exact HB.out | apply below_alloc | apply pw_below_drewN | apply below_drew1) | exact HB.out)) hb); clear HO244; clear HO248; clear HB; have HO244 := n0_; have HO248 := n1_; have HO252 := n2_; have HB := n3_; clear n0_ n1_ n2_ n3_; (try clear hb); (try clear hb2); (try clear hk); (try clear hi); (try clear ho0)))
      go_ret
      exact ⟨by first | rfl | (simp [errW_none, errW_some] <;> rfl) | (simp [*, errW_none, errW_some] <;> rfl), by repeat (first | (with_reducible first | exact HB.out | apply below_alloc | apply pw_below_drewN | apply below_drew1) | exact HB.out)⟩
    · rw [if_neg c7] at H
      have c7b0 : (t246 != t250) = false := by simpa using c7
      (try (have c7b1 : decide (t246 = t250) = true := by simpa using c7))
      (try (have c7b2 : (t246 == t250) = true := by simpa using c7))
      (try (have c7b3 : (!t246 == t250) = false := by have h_ := c7; cases t246 <;> simp at h_ ⊢ <;> first | done | omega | exact List.length_pos_iff.2 h_ | simp_all))
      clear c7
      by_cases c12 : t246 = true
      · subst c12
        have H1 : ((impl_StatusBytes.f k t245).bind fun t253 => ((impl_StatusRead.f k t253 (t245.length : Int)).bind fun bt256 => ((impl_StatusSettle.f k t245 (t245.length : Int)).bind fun t260 => (if bt256.2 = true then (if (bt256.1.length : Int) = (t245.length : Int) then (if (t260.length : Int) = (t245.length : Int) then (if (t253.length : Int) = (wrap64 (Int.tdiv (wrap64 ((t245.length : Int) + 3)) 4)) then ((impl_StatusOf.f t245 t241).bind fun t263 => (laws_FnStatuses.j0 k t240 t241 t242 t245 bt256.1 t260 (t263 != t242))) else (laws_FnStatuses.j0 k t240 t241 t242 t245 bt256.1 t260 true)) else (laws_FnStatuses.j0 k t240 t241 t242 t245 bt256.1 t260 true)) else (laws_FnStatuses.j0 k t240 t241 t242 t245 bt256.1 t260 true)) else (laws_FnStatuses.j0 k t240 t241 t242 t245 bt256.1 t260 true))))) = some r := by rw [if_pos rfl] at H; exact H
        clear H
        have H := H1
        clear H1
        replace H := Option.bind_eq_some_iff.mp H
        obtain ⟨t253, A130, H⟩ := H
        replace H : ((impl_StatusRead.f k t253 (t245.length : Int)).bind fun bt256 => ((impl_StatusSettle.f k t245 (t245.length : Int)).bind fun t260 => (if bt256.2 = true then (if (bt256.1.length : Int) = (t245.length : Int) then (if (t260.length : Int) = (t245.length : Int) then (if (t253.length : Int) = (wrap64 (Int.tdiv (wrap64 ((t245.length : Int) + 3)) 4)) then ((impl_StatusOf.f t245 t241).bind fun t263 => (laws_FnStatuses.j0 k t240 t241 t242 t245 bt256.1 t260 (t263 != t242))) else (laws_FnStatuses.j0 k t240 t241 t242 t245 bt256.1 t260 true)) else (laws_FnStatuses.j0 k t240 t241 t242 t245 bt256.1 t260 true)) else (laws_FnStatuses.j0 k t240 t241 t242 t245 bt256.1 t260 true)) else (laws_FnStatuses.j0 k t240 t241 t242 t245 bt256.1 t260 true)))) = some r := H
        have A13 := Aside0.mk A130
        clear A130
        replace H := Option.bind_eq_some_iff.mp H
        obtain ⟨⟨t256, t257⟩, A140, H⟩ := H
        replace H : ((impl_StatusSettle.f k t245 (t245.length : Int)).bind fun t260 => (if t257 = true then (if (t256.length : Int) = (t245.length : Int) then (if (t260.length : Int) = (t245.length : Int) then (if (t253.length : Int) = (wrap64 (Int.tdiv (wrap64 ((t245.length : Int) + 3)) 4)) then ((impl_StatusOf.f t245 t241).bind fun t263 => (laws_FnStatuses.j0 k t240 t241 t242 t245 t256 t260 (t263 != t242))) else (laws_FnStatuses.j0 k t240 t241 t242 t245 t256 t260 true)) else (laws_FnStatuses.j0 k t240 t241 t242 t245 t256 t260 true)) else (laws_FnStatuses.j0 k t240 t241 t242 t245 t256 t260 true)) else (laws_FnStatuses.j0 k t240 t241 t242 t245 t256 t260 true))) = some r := H
        have A14 := Aside0.mk A140
        clear A140
        replace H := Option.bind_eq_some_iff.mp H
        obtain ⟨t260, A150, H⟩ := H
        replace H : (if t257 = true then (if (t256.length : Int) = (t245.length : Int) then (if (t260.length : Int) = (t245.length : Int) then (if (t253.length : Int) = (wrap64 (Int.tdiv (wrap64 ((t245.length : Int) + 3)) 4)) then ((impl_StatusOf.f t245 t241).bind fun t263 => (laws_FnStatuses.j0 k t240 t241 t242 t245 t256 t260 (t263 != t242))) else (laws_FnStatuses.j0 k t240 t241 t242 t245 t256 t260 true)) else (laws_FnStatuses.j0 k t240 t241 t242 t245 t256 t260 true)) else (laws_FnStatuses.j0 k t240 t241 t242 t245 t256 t260 true)) else (laws_FnStatuses.j0 k t240 t241 t242 t245 t256 t260 true)) = some r := H
        have A15 := Aside0.mk A150
        clear A150
        have HC16 := Aside0.mk H
        clear H
        go_enter Try.func11, Try.ntmps11
        go_upto_region 13 with (first | ((with_reducible refine gate_callee (f := 15) rfl ?_); refine goesL_ (some 17) rfl rfl Try.func15 (by kernel_rfl) rfl #[.slice A0 l0.length c0] rfl (by (try simp only [List.map_toArray, List.map_cons, List.map_nil]); first | done | rfl | (simp only [List.length_drop, List.length_take]; rfl)) ?_; (with_reducible refine (laws_big.calls _ _ l0 false _ ?side1 ?side2 A2.out).mono ?_); (case side1 => repeat (first | exact HR0.out | (with_reducible refine Kd.C_alloc ?_ _) | (with_reducible refine Kd.C_drewN ?_ _) | (with_reducible refine Kd.C_drew ?_))); (case side2 => exact HC0.out); rintro e w' ⟨rfl, ⟨nd, rfl⟩⟩; refine ⟨_, rfl, ?_⟩) | ((with_reducible refine gate_callee (f := 56) rfl ?_); refine goesL_ (some 20) rfl rfl Try.func56 (by kernel_rfl) rfl #[.slice A0 l0.length c0] rfl (by (try simp only [List.map_toArray, List.map_cons, List.map_nil]); first | done | rfl | (simp only [List.length_drop, List.length_take]; rfl)) ?_; (with_reducible refine (spec_DrawStatusSet.calls k _ _ l0 t240 t241 t242 _ ?side1 ?side2 A4.out).mono ?_); (case side1 => repeat (first | exact HR0.out | (with_reducible refine Kd.C_alloc ?_ _) | (with_reducible refine Kd.C_drewN ?_ _) | (with_reducible refine Kd.C_drew ?_))); (case side2 => exact HC0.out); rintro e w17 ⟨v243, rfl, ho0, hb⟩; refine ⟨_, rfl, ?_⟩; have n0_ := Aside0.mk (Kd.R_lower ho0 (below_size (by repeat (first | (with_reducible first | exact HB.out | apply below_alloc | apply pw_below_drewN | apply below_drew1) | exact HB.out)))); have n1_ := Aside0.mk (below_step (by repeat (first | (with_reducible first | exact HB.out | apply below_alloc | apply pw_below_drewN | apply below_drew1) | exact HB.out)) hb); clear HB; have HO244 := n0_; have HB := n1_; clear n0_ n1_; (try clear hb); (try clear hb2); (try clear hk); (try clear hi); (try clear ho0); obtain ⟨Ao18, co18, eo18⟩ := Kd.R_slice HO244.out; subst eo18) | ((with_reducible refine gate_callee (f := 57) rfl ?_); refine goesL_ (some 28) rfl rfl Try.func57 (by kernel_rfl) rfl #[.slice Ao18 t240.length co18, .int .i64 t241, .int .i64 t242] rfl (by (try simp only [List.map_toArray, List.map_cons, List.map_nil]); first | done | rfl | (simp only [List.length_drop, List.length_take]; rfl)) ?_; (with_reducible refine (impl_StatusSet.calls k _ _ t240 t241 t242 t245 true _ ?side1 ?side2 A5.out).mono ?_); (case side1 => repeat (first | exact (Kd.R_reads' HO244.out).2.2 | (with_reducible refine Kd.C_alloc ?_ _) | (with_reducible refine Kd.C_drewN ?_ _) | (with_reducible refine Kd.C_drew ?_))); (case side2 => exact (Kd.R_reads' HO244.out).2.1); rintro e w19 ⟨v247, rfl, ho0, hb⟩; refine ⟨_, rfl, ?_⟩; have n0_ := Aside0.mk (Kd.R_elder' (by (with_reducible repeat (first | apply Kd.R_alloc | apply Kd.R_drewN | apply Kd.R_drew)); exact HO244.out) (Kd.R_base ho0) hb); have n1_ := Aside0.mk (Kd.R_lower (Kd.R_new' ho0 (Kd.R_lt (by (with_reducible repeat (first | apply Kd.R_alloc | apply Kd.R_drewN | apply Kd.R_drew)); exact HO244.out))) (below_size (by repeat (first | (with_reducible first | exact HB.out | apply below_alloc | apply pw_below_drewN | apply below_drew1) | exact HB.out)))); have n2_ := Aside0.mk (below_step (by repeat (first | (with_reducible first | exact HB.out | apply below_alloc | apply pw_below_drewN | apply below_drew1) | exact HB.out)) hb); clear HO244; clear HB; have HO244 := n0_; have HO248 := n1_; have HB := n2_; clear n0_ n1_ n2_; (try clear hb); (try clear hb2); (try clear hk); (try clear hi); (try clear ho0)) | ((with_reducible refine gate_callee (f := 58) rfl ?_); refine goesL_ (some 35) rfl rfl Try.func58 (by kernel_rfl) rfl #[.slice Ao18 t240.length co18, .int .i64 t241, .int .i64 t242] rfl (by (try simp only [List.map_toArray, List.map_cons, List.map_nil]); first | done | rfl | (simp only [List.length_drop, List.length_take]; rfl)) ?_; (with_reducible refine (spec_StatusSet.calls k _ _ t240 t241 t242 t249 t250 _ ?side1 ?side2 A6.out).mono ?_); (case side1 => repeat (first | exact (Kd.R_reads' HO244.out).2.2 | (with_reducible refine Kd.C_alloc ?_ _) | (with_reducible refine Kd.C_drewN ?_ _) | (with_reducible refine Kd.C_drew ?_))); (case side2 => exact (Kd.R_reads' HO244.out).2.1); rintro e w20 ⟨v251, rfl, ho0, hb⟩; refine ⟨_, rfl, ?_⟩; have n0_ := Aside0.mk (Kd.R_elder' (by (with_reducible repeat (first | apply Kd.R_alloc | apply Kd.R_drewN | apply Kd.R_drew)); exact HO244.out) (Kd.R_base ho0) hb); have n1_ := Aside0.mk (Kd.R_elder' (by (with_reducible repeat (first | apply Kd.R_alloc | apply Kd.R_drewN | apply Kd.R_drew)); exact HO248.out) (Kd.R_base ho0) hb); have n2_ := Aside0.mk (Kd.R_lower (Kd.R_new' (Kd.R_new' ho0 (Kd.R_lt (by (with_reducible repeat (first | apply Kd.R_alloc | apply Kd.R_drewN | apply Kd.R_drew)); exact HO244.out))) (Kd.R_lt (by (with_reducible repeat (first | apply Kd.R_alloc | apply Kd.R_drewN | apply Kd.R_drew)); exact HO248.out))) (below_size (by repeat (first | (with_reducible first | exact HB.out | apply below_alloc | apply pw_below_drewN | apply below_drew1) | exact HB.out)))); have n3_ := Aside0.mk (below_step (by repeat (first | (with_reducible first | exact HB.out | apply below_alloc | apply pw_below_drewN | apply below_drew1) | exact HB.out)) hb); clear HO244; clear HO248; clear HB; have HO244 := n0_; have HO248 := n1_; have HO252 := n2_; have HB := n3_; clear n0_ n1_ n2_ n3_; (try clear hb); (try clear hb2); (try clear hk); (try clear hi); (try clear ho0); obtain ⟨Ao21, co21, eo21⟩ := Kd.R_slice HO248.out; subst eo21) | ((with_reducible refine gate_callee (f := 59) rfl ?_); refine goesL_ (some 47) rfl rfl Try.func59 (by kernel_rfl) rfl #[.slice Ao21 t245.length co21] rfl (by (try simp only [List.map_toArray, List.map_cons, List.map_nil]); first | done | rfl | (simp only [List.length_drop, List.length_take]; rfl)) ?_; (with_reducible refine (impl_StatusBytes.calls k _ _ t245 t253 _ ?side1 ?side2 A13.out).mono ?_); (case side1 => repeat (first | exact (Kd.R_reads' HO248.out).2.2 | (with_reducible refine Kd.C_alloc ?_ _) | (with_reducible refine Kd.C_drewN ?_ _) | (with_reducible refine Kd.C_drew ?_))); (case side2 => exact (Kd.R_reads' HO248.out).2.1); rintro e w22 ⟨v254, rfl, ho0, hb⟩; refine ⟨_, rfl, ?_⟩; have n0_ := Aside0.mk (Kd.R_below (by (with_reducible repeat (first | apply Kd.R_alloc | apply Kd.R_drewN | apply Kd.R_drew)); exact HO244.out) hb); have n1_ := Aside0.mk (Kd.R_below (by (with_reducible repeat (first | apply Kd.R_alloc | apply Kd.R_drewN | apply Kd.R_drew)); exact HO248.out) hb); have n2_ := Aside0.mk (Kd.R_below (by (with_reducible repeat (first | apply Kd.R_alloc | apply Kd.R_drewN | apply Kd.R_drew)); exact HO252.out) hb); have n3_ := Aside0.mk (Kd.R_lower ho0 (below_size (by repeat (first | (with_reducible first | exact HB.out | apply below_alloc | apply pw_below_drewN | apply below_drew1) | exact HB.out)))); have n4_ := Aside0.mk (below_step (by repeat (first | (with_reducible first | exact HB.out | apply below_alloc | apply pw_below_drewN | apply below_drew1) | exact HB.out)) hb); clear HO244; clear HO248; clear HO252; clear HB; have HO244 := n0_; have HO248 := n1_; have HO252 := n2_; have HO255 := n3_; have HB := n4_; clear n0_ n1_ n2_ n3_ n4_; (try clear hb); (try clear hb2); (try clear hk); (try clear hi); (try clear ho0); obtain ⟨Ao23, co23, eo23⟩ := Kd.R_slice HO255.out; subst eo23) | ((with_reducible refine gate_callee (f := 23) rfl ?_); refine goesL_ (some 52) rfl rfl Try.func23 (by kernel_rfl) rfl #[.slice Ao23 t253.length co23, .int .i64 (t245.length : Int)] rfl (by (try simp only [List.map_toArray, List.map_cons, List.map_nil]); first | done | rfl | (simp only [List.length_drop, List.length_take]; rfl)) ?_; (with_reducible refine (impl_StatusRead.calls k _ _ t253 (t245.length : Int) t256 t257 _ ?side1 ?side2 A14.out).mono ?_); (case side1 => repeat (first | exact (Kd.R_reads' HO255.out).2.2 | (with_reducible refine Kd.C_alloc ?_ _) | (with_reducible refine Kd.C_drewN ?_ _) | (with_reducible refine Kd.C_drew ?_))); (case side2 => exact (Kd.R_reads' HO255.out).2.1); rintro e w24 ⟨v258, rfl, ho0, hb⟩; refine ⟨_, rfl, ?_⟩; have n0_ := Aside0.mk (Kd.R_elder' (by (with_reducible repeat (first | apply Kd.R_alloc | apply Kd.R_drewN | apply Kd.R_drew)); exact HO244.out) (Kd.R_base ho0) hb); have n1_ := Aside0.mk (Kd.R_elder' (by (with_reducible repeat (first | apply Kd.R_alloc | apply Kd.R_drewN | apply Kd.R_drew)); exact HO248.out) (Kd.R_base ho0) hb); have n2_ := Aside0.mk (Kd.R_elder' (by (with_reducible repeat (first | apply Kd.R_alloc | apply Kd.R_drewN | apply Kd.R_drew)); exact HO252.out) (Kd.R_base ho0) hb); have n3_ := Aside0.mk (Kd.R_below (by (with_reducible repeat (first | apply Kd.R_alloc | apply Kd.R_drewN | apply Kd.R_drew)); exact HO255.out) hb); have n4_ := Aside0.mk (Kd.R_lower (Kd.R_new' (Kd.R_new' (Kd.R_new' ho0 (Kd.R_lt (by (with_reducible repeat (first | apply Kd.R_alloc | apply Kd.R_drewN | apply Kd.R_drew)); exact HO244.out))) (Kd.R_lt (by (with_reducible repeat (first | apply Kd.R_alloc | apply Kd.R_drewN | apply Kd.R_drew)); exact HO248.out))) (Kd.R_lt (by (with_reducible repeat (first | apply Kd.R_alloc | apply Kd.R_drewN | apply Kd.R_drew)); exact HO252.out))) (below_size (by repeat (first | (with_reducible first | exact HB.out | apply below_alloc | apply pw_below_drewN | apply below_drew1) | exact HB.out)))); have n5_ := Aside0.mk (below_step (by repeat (first | (with_reducible first | exact HB.out | apply below_alloc | apply pw_below_drewN | apply below_drew1) | exact HB.out)) hb); clear HO244; clear HO248; clear HO252; clear HO255; clear HB; have HO244 := n0_; have HO248 := n1_; have HO252 := n2_; have HO255 := n3_; have HO259 := n4_; have HB := n5_; clear n0_ n1_ n2_ n3_ n4_ n5_; (try clear hb); (try clear hb2); (try clear hk); (try clear hi); (try clear ho0)) | ((with_reducible refine gate_callee (f := 60) rfl ?_); refine goesL_ (some 58) rfl rfl Try.func60 (by kernel_rfl) rfl #[.slice Ao21 t245.length co21, .int .i64 (t245.length : Int)] rfl (by (try simp only [List.map_toArray, List.map_cons, List.map_nil]); first | done | rfl | (simp only [List.length_drop, List.length_take]; rfl)) ?_; (with_reducible refine (impl_StatusSettle.calls k _ _ t245 (t245.length : Int) t260 _ ?side1 ?side2 A15.out).mono ?_); (case side1 => repeat (first | exact (Kd.R_reads' HO248.out).2.2 | (with_reducible refine Kd.C_alloc ?_ _) | (with_reducible refine Kd.C_drewN ?_ _) | (with_reducible refine Kd.C_drew ?_))); (case side2 => exact (Kd.R_reads' HO248.out).2.1); rintro e w25 ⟨v261, rfl, ho0, hb⟩; refine ⟨_, rfl, ?_⟩; have n0_ := Aside0.mk (Kd.R_elder' (by (with_reducible repeat (first | apply Kd.R_alloc | apply Kd.R_drewN | apply Kd.R_drew)); exact HO244.out) (Kd.R_base ho0) hb); have n1_ := Aside0.mk (Kd.R_elder' (by (with_reducible repeat (first | apply Kd.R_alloc | apply Kd.R_drewN | apply Kd.R_drew)); exact HO248.out) (Kd.R_base ho0) hb); have n2_ := Aside0.mk (Kd.R_elder' (by (with_reducible repeat (first | apply Kd.R_alloc | apply Kd.R_drewN | apply Kd.R_drew)); exact HO252.out) (Kd.R_base ho0) hb); have n3_ := Aside0.mk (Kd.R_below (by (with_reducible repeat (first | apply Kd.R_alloc | apply Kd.R_drewN | apply Kd.R_drew)); exact HO255.out) hb); have n4_ := Aside0.mk (Kd.R_elder' (by (with_reducible repeat (first | apply Kd.R_alloc | apply Kd.R_drewN | apply Kd.R_drew)); exact HO259.out) (Kd.R_base ho0) hb); have n5_ := Aside0.mk (Kd.R_lower (Kd.R_new' (Kd.R_new' (Kd.R_new' (Kd.R_new' ho0 (Kd.R_lt (by (with_reducible repeat (first | apply Kd.R_alloc | apply Kd.R_drewN | apply Kd.R_drew)); exact HO244.out))) (Kd.R_lt (by (with_reducible repeat (first | apply Kd.R_alloc | apply Kd.R_drewN | apply Kd.R_drew)); exact HO248.out))) (Kd.R_lt (by (with_reducible repeat (first | apply Kd.R_alloc | apply Kd.R_drewN | apply Kd.R_drew)); exact HO252.out))) (Kd.R_lt (by (with_reducible repeat (first | apply Kd.R_alloc | apply Kd.R_drewN | apply Kd.R_drew)); exact HO259.out))) (below_size (by repeat (first | (with_reducible first | exact HB.out | apply below_alloc | apply pw_below_drewN | apply below_drew1) | exact HB.out)))); have n6_ := Aside0.mk (below_step (by repeat (first | (with_reducible first | exact HB.out | apply below_alloc | apply pw_below_drewN | apply below_drew1) | exact HB.out)) hb); clear HO244; clear HO248; clear HO252; clear HO255; clear HO259; clear HB; have HO244 := n0_; have HO248 := n1_; have HO252 := n2_; have HO255 := n3_; have HO259 := n4_; have HO262 := n5_; have HB := n6_; clear n0_ n1_ n2_ n3_ n4_ n5_ n6_; (try clear hb); (try clear hb2); (try clear hk); (try clear hi); (try clear ho0)))
        (try simp only [Act.put, List.setIfInBounds_toArray, List.set_cons_zero, List.set_cons_succ])
        go_cut [90] (fun v90 wc => ∃ (kq : Nat) (x90_15 : Bool), v90 = .bool x90_15 ∧ Aside0 (laws_FnStatuses.j0 kq t240 t241 t242 t245 t256 t260 x90_15 = some r) ∧ Aside0 (kq ≤ k) ∧ Aside0 (Kd.R (Kd.int .i64) 3 wc w.heap.size (fun k_ => some k_ ≠ ((.slice Ao21 t245.length co21) : Value).ownBlock ∧ some k_ ≠ (v258 : Value).ownBlock ∧ some k_ ≠ (v261 : Value).ownBlock) (.slice Ao18 t240.length co18) t240) ∧ Aside0 (Kd.R (Kd.int .i64) 3 wc w.heap.size (fun k_ => some k_ ≠ ((.slice Ao18 t240.length co18) : Value).ownBlock ∧ some k_ ≠ (v258 : Value).ownBlock ∧ some k_ ≠ (v261 : Value).ownBlock) (.slice Ao21 t245.length co21) t245) ∧ Aside0 (Kd.R (Kd.int .i64) 3 wc w.heap.size (fun k_ => some k_ ≠ ((.slice Ao18 t240.length co18) : Value).ownBlock ∧ some k_ ≠ ((.slice Ao21 t245.length co21) : Value).ownBlock ∧ some k_ ≠ (v261 : Value).ownBlock) v258 t256) ∧ Aside0 (Kd.R (Kd.int .i64) 3 wc w.heap.size (fun k_ => some k_ ≠ ((.slice Ao18 t240.length co18) : Value).ownBlock ∧ some k_ ≠ ((.slice Ao21 t245.length co21) : Value).ownBlock ∧ some k_ ≠ (v258 : Value).ownBlock) v261 t260) ∧ Aside0 (Below w.heap.size w wc))
        case first =>
          have H := HC16.out
          clear HC16
          by_cases c26 : t257 = true
          · subst c26
            have H1 : (if (t256.length : Int) = (t245.length : Int) then (if (t260.length : Int) = (t245.length : Int) then (if (t253.length : Int) = (wrap64 (Int.tdiv (wrap64 ((t245.length : Int) + 3)) 4)) then ((impl_StatusOf.f t245 t241).bind fun t263 => (laws_FnStatuses.j0 k t240 t241 t242 t245 t256 t260 (t263 != t242))) else (laws_FnStatuses.j0 k t240 t241 t242 t245 t256 t260 true)) else (laws_FnStatuses.j0 k t240 t241 t242 t245 t256 t260 true)) else (laws_FnStatuses.j0 k t240 t241 t242 t245 t256 t260 true)) = some r := by rw [if_pos rfl] at H; exact H
            clear H
            have H := H1
            clear H1
            by_cases c27 : (t256.length : Int) = (t245.length : Int)
            · rw [if_pos c27] at H
              have c27b0 : ((t256.length : Int) == (t245.length : Int)) = true := beq_iff_eq.mpr c27
              have c27b1 : ((t256.length : Int) != (t245.length : Int)) = false := bne_eq_false_iff_eq.mpr c27
              have c27b2 : (t256.length == t245.length) = true := by first | simpa using c27 | (simp at c27 ⊢; omega)
              clear c27
              (first | rw [c27b0] | (simp only [i64_w, i32_w]; rw [c27b0]) | skip)
              by_cases c28 : (t260.length : Int) = (t245.length : Int)
              · rw [if_pos c28] at H
                have c28b0 : ((t260.length : Int) == (t245.length : Int)) = true := beq_iff_eq.mpr c28
                have c28b1 : ((t260.length : Int) != (t245.length : Int)) = false := bne_eq_false_iff_eq.mpr c28
                have c28b2 : (t260.length == t245.length) = true := by first | simpa using c28 | (simp at c28 ⊢; omega)
                clear c28
                by_cases c29 : (t253.length : Int) = (wrap64 (Int.tdiv (wrap64 ((t245.length : Int) + 3)) 4))
                · rw [if_pos c29] at H
                  have c29b0 : ((t253.length : Int) == (wrap64 (Int.tdiv (wrap64 ((t245.length : Int) + 3)) 4))) = true := beq_iff_eq.mpr c29
                  have c29b1 : ((t253.length : Int) != (wrap64 (Int.tdiv (wrap64 ((t245.length : Int) + 3)) 4))) = false := bne_eq_false_iff_eq.mpr c29
                  clear c29
                  replace H := Option.bind_eq_some_iff.mp H
                  obtain ⟨t263, A300, H⟩ := H
                  replace H : (laws_FnStatuses.j0 k t240 t241 t242 t245 t256 t260 (t263 != t242)) = some r := H
                  have A30 := Aside0.mk A300
                  clear A300
                  have H' := Aside0.mk H
                  clear H
                  obtain ⟨Ao31, co31, eo31⟩ := Kd.R_slice HO259.out
                  subst eo31
                  obtain ⟨Ao32, co32, eo32⟩ := Kd.R_slice HO262.out
                  subst eo32
                  go_wp2_with (first | (go_at_call 61; (with_reducible refine (impl_StatusOf.calls _ _ t245 t241 t263 _ ?side1 ?side2 A30.out).mono ?_); (case side1 => repeat (first | exact (Kd.R_reads' HO248.out).2.2 | (with_reducible refine Kd.C_alloc ?_ _) | (with_reducible refine Kd.C_drewN ?_ _) | (with_reducible refine Kd.C_drew ?_))); (case side2 => exact (Kd.R_reads' HO248.out).2.1); rintro e w' ⟨rfl, ⟨nd, rfl⟩⟩))
                  go_meet
                  case rel => exact ⟨_, ((t263 != t242)), (by first | rfl | (simp; done) | (simp [*]; done)), H', ⟨by first | omega | exact Nat.le_refl _⟩, ⟨by (with_reducible repeat (first | apply Kd.R_alloc | apply Kd.R_drewN | apply Kd.R_drew)); exact Kd.R_mono HO244.out (fun _ hk => ⟨hk.1.1.1.2, ⟨hk.1.2, hk.2⟩⟩)⟩, ⟨by (with_reducible repeat (first | apply Kd.R_alloc | apply Kd.R_drewN | apply Kd.R_drew)); exact Kd.R_mono HO248.out (fun _ hk => ⟨hk.1.1.1.2, ⟨hk.1.2, hk.2⟩⟩)⟩, ⟨by (with_reducible repeat (first | apply Kd.R_alloc | apply Kd.R_drewN | apply Kd.R_drew)); exact Kd.R_mono HO259.out (fun _ hk => ⟨hk.1.1.1.2, ⟨hk.1.1.2, hk.2⟩⟩)⟩, ⟨by (with_reducible repeat (first | apply Kd.R_alloc | apply Kd.R_drewN | apply Kd.R_drew)); exact Kd.R_mono HO262.out (fun _ hk => ⟨hk.1.1.1.2, ⟨hk.1.1.2, hk.2⟩⟩)⟩, ⟨by repeat (first | (with_reducible first | exact HB.out | apply below_alloc | apply pw_below_drewN | apply below_drew1) | exact HB.out)⟩⟩
                · rw [if_neg c29] at H
                  have c29b0 : ((t253.length : Int) == (wrap64 (Int.tdiv (wrap64 ((t245.length : Int) + 3)) 4))) = false := beq_eq_false_iff_ne.mpr c29
                  have c29b1 : ((t253.length : Int) != (wrap64 (Int.tdiv (wrap64 ((t245.length : Int) + 3)) 4))) = true := bne_iff_ne.mpr c29
                  have H' := Aside0.mk H
                  clear H
                  obtain ⟨Ao33, co33, eo33⟩ := Kd.R_slice HO259.out
                  subst eo33
                  obtain ⟨Ao34, co34, eo34⟩ := Kd.R_slice HO262.out
                  subst eo34
                  go_wp2
                  go_meet
                  case rel => exact ⟨_, (true), (by first | rfl | (simp; done) | (simp [*]; done)), H', ⟨by first | omega | exact Nat.le_refl _⟩, ⟨by (with_reducible repeat (first | apply Kd.R_alloc | apply Kd.R_drewN | apply Kd.R_drew)); exact Kd.R_mono HO244.out (fun _ hk => ⟨hk.1.1.1.2, ⟨hk.1.2, hk.2⟩⟩)⟩, ⟨by (with_reducible repeat (first | apply Kd.R_alloc | apply Kd.R_drewN | apply Kd.R_drew)); exact Kd.R_mono HO248.out (fun _ hk => ⟨hk.1.1.1.2, ⟨hk.1.2, hk.2⟩⟩)⟩, ⟨by (with_reducible repeat (first | apply Kd.R_alloc | apply Kd.R_drewN | apply Kd.R_drew)); exact Kd.R_mono HO259.out (fun _ hk => ⟨hk.1.1.1.2, ⟨hk.1.1.2, hk.2⟩⟩)⟩, ⟨by (with_reducible repeat (first | apply Kd.R_alloc | apply Kd.R_drewN | apply Kd.R_drew)); exact Kd.R_mono HO262.out (fun _ hk => ⟨hk.1.1.1.2, ⟨hk.1.1.2, hk.2⟩⟩)⟩, ⟨by repeat (first | (with_reducible first | exact HB.out | apply below_alloc | apply pw_below_drewN | apply below_drew1) | exact HB.out)⟩⟩
              · rw [if_neg c28] at H
                have c28b0 : ((t260.length : Int) == (t245.length : Int)) = false := beq_eq_false_iff_ne.mpr c28
                have c28b1 : ((t260.length : Int) != (t245.length : Int)) = true := bne_iff_ne.mpr c28
                have c28b2 : (t260.length == t245.length) = false := by first | simpa using c28 | (simp at c28 ⊢; omega)
                have H' := Aside0.mk H
                clear H
                obtain ⟨Ao35, co35, eo35⟩ := Kd.R_slice HO259.out
                subst eo35
                obtain ⟨Ao36, co36, eo36⟩ := Kd.R_slice HO262.out
                subst eo36
                go_wp2
                go_meet
                case rel => exact ⟨_, (true), (by first | rfl | (simp; done) | (simp [*]; done)), H', ⟨by first | omega | exact Nat.le_refl _⟩, ⟨by (with_reducible repeat (first | apply Kd.R_alloc | apply Kd.R_drewN | apply Kd.R_drew)); exact Kd.R_mono HO244.out (fun _ hk => ⟨hk.1.1.1.2, ⟨hk.1.2, hk.2⟩⟩)⟩, ⟨by (with_reducible repeat (first | apply Kd.R_alloc | apply Kd.R_drewN | apply Kd.R_drew)); exact Kd.R_mono HO248.out (fun _ hk => ⟨hk.1.1.1.2, ⟨hk.1.2, hk.2⟩⟩)⟩, ⟨by (with_reducible repeat (first | apply Kd.R_alloc | apply Kd.R_drewN | apply Kd.R_drew)); exact Kd.R_mono HO259.out (fun _ hk => ⟨hk.1.1.1.2, ⟨hk.1.1.2, hk.2⟩⟩)⟩, ⟨by (with_reducible repeat (first | apply Kd.R_alloc | apply Kd.R_drewN | apply Kd.R_drew)); exact Kd.R_mono HO262.out (fun _ hk => ⟨hk.1.1.1.2, ⟨hk.1.1.2, hk.2⟩⟩)⟩, ⟨by repeat (first | (with_reducible first | exact HB.out | apply below_alloc | apply pw_below_drewN | apply below_drew1) | exact HB.out)⟩⟩
            · rw [if_neg c27] at H
              have c27b0 : ((t256.length : Int) == (t245.length : Int)) = false := beq_eq_false_iff_ne.mpr c27
              have c27b1 : ((t256.length : Int) != (t245.length : Int)) = true := bne_iff_ne.mpr c27
              have c27b2 : (t256.length == t245.length) = false := by first | simpa using c27 | (simp at c27 ⊢; omega)
              (first | rw [c27b0] | (simp only [i64_w, i32_w]; rw [c27b0]) | skip)
              have H' := Aside0.mk H
              clear H
              obtain ⟨Ao37, co37, eo37⟩ := Kd.R_slice HO259.out
              subst eo37
              go_wp2
              go_meet
              case rel => exact ⟨_, (true), (by first | rfl | (simp; done) | (simp [*]; done)), H', ⟨by first | omega | exact Nat.le_refl _⟩, ⟨by (with_reducible repeat (first | apply Kd.R_alloc | apply Kd.R_drewN | apply Kd.R_drew)); exact Kd.R_mono HO244.out (fun _ hk => ⟨hk.1.1.1.2, ⟨hk.1.2, hk.2⟩⟩)⟩, ⟨by (with_reducible repeat (first | apply Kd.R_alloc | apply Kd.R_drewN | apply Kd.R_drew)); exact Kd.R_mono HO248.out (fun _ hk => ⟨hk.1.1.1.2, ⟨hk.1.2, hk.2⟩⟩)⟩, ⟨by (with_reducible repeat (first | apply Kd.R_alloc | apply Kd.R_drewN | apply Kd.R_drew)); exact Kd.R_mono HO259.out (fun _ hk => ⟨hk.1.1.1.2, ⟨hk.1.1.2, hk.2⟩⟩)⟩, ⟨by (with_reducible repeat (first | apply Kd.R_alloc | apply Kd.R_drewN | apply Kd.R_drew)); exact Kd.R_mono HO262.out (fun _ hk => ⟨hk.1.1.1.2, ⟨hk.1.1.2, hk.2⟩⟩)⟩, ⟨by repeat (first | (with_reducible first | exact HB.out | apply below_alloc | apply pw_below_drewN | apply below_drew1) | exact HB.out)⟩⟩
          · replace c26 := Bool.eq_false_iff.mpr c26
            subst c26
            have H1 : (laws_FnStatuses.j0 k t240 t241 t242 t245 t256 t260 true) = some r := by rw [if_neg (show ¬ (false = true) by decide)] at H; exact H
            clear H
            have H := H1
            clear H1
            have H' := Aside0.mk H
            clear H
            go_wp2
            go_meet
            case rel => exact ⟨_, (true), (by first | rfl | (simp; done) | (simp [*]; done)), H', ⟨by first | omega | exact Nat.le_refl _⟩, ⟨by (with_reducible repeat (first | apply Kd.R_alloc | apply Kd.R_drewN | apply Kd.R_drew)); exact Kd.R_mono HO244.out (fun _ hk => ⟨hk.1.1.1.2, ⟨hk.1.2, hk.2⟩⟩)⟩, ⟨by (with_reducible repeat (first | apply Kd.R_alloc | apply Kd.R_drewN | apply Kd.R_drew)); exact Kd.R_mono HO248.out (fun _ hk => ⟨hk.1.1.1.2, ⟨hk.1.2, hk.2⟩⟩)⟩, ⟨by (with_reducible repeat (first | apply Kd.R_alloc | apply Kd.R_drewN | apply Kd.R_drew)); exact Kd.R_mono HO259.out (fun _ hk => ⟨hk.1.1.1.2, ⟨hk.1.1.2, hk.2⟩⟩)⟩, ⟨by (with_reducible repeat (first | apply Kd.R_alloc | apply Kd.R_drewN | apply Kd.R_drew)); exact Kd.R_mono HO262.out (fun _ hk => ⟨hk.1.1.1.2, ⟨hk.1.1.2, hk.2⟩⟩)⟩, ⟨by repeat (first | (with_reducible first | exact HB.out | apply below_alloc | apply pw_below_drewN | apply below_drew1) | exact HB.out)⟩⟩
        case rest =>
          clear HC16
          try clear c1
          try clear c2
          try clear p2
          try clear c3
          try clear c5
          try clear c6
          try clear p6
          try clear c7
          try clear c7b0
          try clear c7b1
          try clear c7b2
          try clear c11
          try clear c12
          try clear c15
          try clear c23
          try clear c26
          try clear c27
          try clear c27b0
          try clear c27b1
          try clear c27b2
          try clear c28
          try clear c28b0
          try clear c28b1
          try clear c28b2
          try clear c29
          try clear c29b0
          try clear c29b1
          obtain ⟨kq, x90_15, rfl, HA, HJ15, HO_3, HO_6, HO_11, HO_13, HB⟩ := hcut
          cases kq with
          | zero => exact absurd HA.out (by simp [laws_FnStatuses.j0])
          | succ kj15 =>
            have H := HA.out
            clear HA
            simp only [laws_FnStatuses.j0] at H
            by_cases c38 : x90_15 = true
            · subst c38
              have H1 : (some false) = some r := by rw [if_pos rfl] at H; exact H
              clear H
              have H := H1
              clear H1
              obtain rfl := Option.some.inj H
              go_wp2
              go_ret
              exact ⟨by first | rfl | (simp [errW_none, errW_some] <;> rfl) | (simp [*, errW_none, errW_some] <;> rfl), by repeat (first | (with_reducible first | exact HB.out | apply below_alloc | apply pw_below_drewN | apply below_drew1) | exact HB.out)⟩
            · replace c38 := Bool.eq_false_iff.mpr c38
              subst c38
              have H1 : (laws_FnStatuses.l0 kj15 t240 t241 t242 t245 t256 t260 0) = some r := by rw [if_neg (show ¬ (false = true) by decide)] at H; exact H
              clear H
              have H := H1
              clear H1
              have H' := Aside0.mk H
              clear H
              go_wp2
              go_loopg [14] kj15 (fun kq v14 w' => ∃ (x14_2 : Int), v14 = .int .i64 x14_2 ∧ Aside0 (laws_FnStatuses.l0 kq t240 t241 t242 t245 t256 t260 x14_2 = some r) ∧ Aside0 (kq ≤ kj15) ∧ Aside0 (Kd.R (Kd.int .i64) 3 w' w.heap.size (fun k_ => some k_ ≠ ((.slice Ao21 t245.length co21) : Value).ownBlock ∧ some k_ ≠ (v258 : Value).ownBlock ∧ some k_ ≠ (v261 : Value).ownBlock) (.slice Ao18 t240.length co18) t240) ∧ Aside0 (Kd.R (Kd.int .i64) 3 w' w.heap.size (fun k_ => some k_ ≠ ((.slice Ao18 t240.length co18) : Value).ownBlock ∧ some k_ ≠ (v258 : Value).ownBlock ∧ some k_ ≠ (v261 : Value).ownBlock) (.slice Ao21 t245.length co21) t245) ∧ Aside0 (Kd.R (Kd.int .i64) 3 w' w.heap.size (fun k_ => some k_ ≠ ((.slice Ao18 t240.length co18) : Value).ownBlock ∧ some k_ ≠ ((.slice Ao21 t245.length co21) : Value).ownBlock ∧ some k_ ≠ (v261 : Value).ownBlock) v258 t256) ∧ Aside0 (Kd.R (Kd.int .i64) 3 w' w.heap.size (fun k_ => some k_ ≠ ((.slice Ao18 t240.length co18) : Value).ownBlock ∧ some k_ ≠ ((.slice Ao21 t245.length co21) : Value).ownBlock ∧ some k_ ≠ (v258 : Value).ownBlock) v261 t260) ∧ Aside0 (Below w.heap.size w w'))
              case atStart => exact ⟨(0), (by first | rfl | (simp; done) | (simp [*]; done)), H', ⟨Nat.le_refl _⟩, ⟨by (with_reducible repeat (first | apply Kd.R_alloc | apply Kd.R_drewN | apply Kd.R_drew)); exact HO_3.out⟩, ⟨by (with_reducible repeat (first | apply Kd.R_alloc | apply Kd.R_drewN | apply Kd.R_drew)); exact HO_6.out⟩, ⟨by (with_reducible repeat (first | apply Kd.R_alloc | apply Kd.R_drewN | apply Kd.R_drew)); exact HO_11.out⟩, ⟨by (with_reducible repeat (first | apply Kd.R_alloc | apply Kd.R_drewN | apply Kd.R_drew)); exact HO_13.out⟩, ⟨by repeat (first | (with_reducible first | exact HB.out | apply below_alloc | apply pw_below_drewN | apply below_drew1) | exact HB.out)⟩⟩
              case round =>
                clear H'
                try clear c1
                try clear c2
                try clear p2
                try clear c3
                try clear c5
                try clear c6
                try clear p6
                try clear c7
                try clear c7b0
                try clear c7b1
                try clear c7b2
                try clear c11
                try clear c12
                try clear c15
                try clear c23
                try clear c26
                try clear c27
                try clear c27b0
                try clear c27b1
                try clear c27b2
                try clear c28
                try clear c28b0
                try clear c28b1
                try clear c28b2
                try clear c29
                try clear c29b0
                try clear c29b1
                try clear c38
                try clear p2
                try clear p6
                obtain ⟨x14_2, rfl, HA, HK2, HO_3, HO_6, HO_11, HO_13, HB⟩ := hrel
                cases gk with
                | zero => exact absurd HA.out (by simp [laws_FnStatuses.l0])
                | succ k2 =>
                  have H := HA.out
                  clear HA
                  simp only [laws_FnStatuses.l0] at H
                  by_cases c39 : x14_2 < (t245.length : Int)
                  · rw [if_pos c39] at H
                    have c39b0 : decide (x14_2 < (t245.length : Int)) = true := decide_eq_true c39
                    clear c39
                    replace H := Option.bind_eq_some_iff.mp H
                    obtain ⟨t264, A400, H⟩ := H
                    replace H : (if x14_2 = t241 then ((impl_StatusOf.f t256 x14_2).bind fun t265 => (if t265 = t242 then (if x14_2 > 0 then (if 0 ≤ x14_2 then (if x14_2 < (t260.length : Int) then (if (rd t260 x14_2) = 0 then (some false) else (if (((rd t260 x14_2) == 1) != (t242 == 1)) = true then (some false) else (laws_FnStatuses.l0 k2 t240 t241 t242 t245 t256 t260 (wrap64 (x14_2 + 1))))) else (none)) else (none)) else (laws_FnStatuses.l0 k2 t240 t241 t242 t245 t256 t260 (wrap64 (x14_2 + 1)))) else (some false))) else ((impl_StatusOf.f t256 x14_2).bind fun t268 => (if t268 = t264 then (if x14_2 > 0 then (if 0 ≤ x14_2 then (if x14_2 < (t260.length : Int) then (if (rd t260 x14_2) = 0 then (some false) else (if (((rd t260 x14_2) == 1) != (t264 == 1)) = true then (some false) else (laws_FnStatuses.l0 k2 t240 t241 t242 t245 t256 t260 (wrap64 (x14_2 + 1))))) else (none)) else (none)) else (laws_FnStatuses.l0 k2 t240 t241 t242 t245 t256 t260 (wrap64 (x14_2 + 1)))) else (some false)))) = some r := H
                    have A40 := Aside0.mk A400
                    clear A400
                    by_cases c41 : x14_2 = t241
                    · rw [if_pos c41] at H
                      have c41b0 : (x14_2 == t241) = true := beq_iff_eq.mpr c41
                      have c41b1 : (x14_2 != t241) = false := bne_eq_false_iff_eq.mpr c41
                      clear c41
                      replace H := Option.bind_eq_some_iff.mp H
                      obtain ⟨t265, A420, H⟩ := H
                      replace H : (if t265 = t242 then (if x14_2 > 0 then (if 0 ≤ x14_2 then (if x14_2 < (t260.length : Int) then (if (rd t260 x14_2) = 0 then (some false) else (if (((rd t260 x14_2) == 1) != (t242 == 1)) = true then (some false) else (laws_FnStatuses.l0 k2 t240 t241 t242 t245 t256 t260 (wrap64 (x14_2 + 1))))) else (none)) else (none)) else (laws_FnStatuses.l0 k2 t240 t241 t242 t245 t256 t260 (wrap64 (x14_2 + 1)))) else (some false)) = some r := H
                      have A42 := Aside0.mk A420
                      clear A420
                      by_cases c43 : t265 = t242
                      · rw [if_pos c43] at H
                        have c43b0 : (t265 == t242) = true := beq_iff_eq.mpr c43
                        have c43b1 : (t265 != t242) = false := bne_eq_false_iff_eq.mpr c43
                        clear c43
                        by_cases c44 : x14_2 > 0
                        · rw [if_pos c44] at H
                          have c44b0 : decide (0 < x14_2) = true := decide_eq_true c44
                          clear c44
                          by_cases c45 : 0 ≤ x14_2
                          · rw [if_pos c45] at H
                            have c45b0 : decide (0 ≤ x14_2) = true := decide_eq_true c45
                            clear c45
                            by_cases c46 : x14_2 < (t260.length : Int)
                            · rw [if_pos c46] at H
                              have c46b0 : decide (x14_2 < (t260.length : Int)) = true := decide_eq_true c46
                              clear c46
                              by_cases c47 : (rd t260 x14_2) = 0
                              · rw [if_pos c47] at H
                                have c47b0 : ((rd t260 x14_2) == 0) = true := beq_iff_eq.mpr c47
                                have c47b1 : ((rd t260 x14_2) != 0) = false := bne_eq_false_iff_eq.mpr c47
                                clear c47
                                obtain rfl := Option.some.inj H
                                go_wp2_with (first | ((with_reducible refine gate_callee (f := 62) rfl ?_); refine goesL_ (some 99) rfl rfl Try.func62 (by kernel_rfl) rfl #[.slice Ao18 t240.length co18, .int .i64 x14_2] rfl (by (try simp only [List.map_toArray, List.map_cons, List.map_nil]); first | done | rfl | (simp only [List.length_drop, List.length_take]; rfl)) ?_; (with_reducible refine (spec_StatusOf.calls _ _ t240 x14_2 t264 _ ?side1 ?side2 A40.out).mono ?_); (case side1 => repeat (first | exact (Kd.R_reads' HO_3.out).2.2 | (with_reducible refine Kd.C_alloc ?_ _) | (with_reducible refine Kd.C_drewN ?_ _) | (with_reducible refine Kd.C_drew ?_))); (case side2 => exact (Kd.R_reads' HO_3.out).2.1); rintro e w' ⟨rfl, ⟨nd, rfl⟩⟩; refine ⟨_, rfl, ?_⟩; obtain ⟨Ao48, co48, eo48⟩ := Kd.R_slice HO_11.out; subst eo48) | ((with_reducible refine gate_callee (f := 61) rfl ?_); refine goesL_ (some 106) rfl rfl Try.func61 (by kernel_rfl) rfl #[.slice Ao48 t256.length co48, .int .i64 x14_2] rfl (by (try simp only [List.map_toArray, List.map_cons, List.map_nil]); first | done | rfl | (simp only [List.length_drop, List.length_take]; rfl)) ?_; (with_reducible refine (impl_StatusOf.calls _ _ t256 x14_2 t265 _ ?side1 ?side2 A42.out).mono ?_); (case side1 => repeat (first | exact (Kd.R_reads' HO_11.out).2.2 | (with_reducible refine Kd.C_alloc ?_ _) | (with_reducible refine Kd.C_drewN ?_ _) | (with_reducible refine Kd.C_drew ?_))); (case side2 => exact (Kd.R_reads' HO_11.out).2.1); rintro e w' ⟨rfl, ⟨nd, rfl⟩⟩; refine ⟨_, rfl, ?_⟩; obtain ⟨Ao49, co49, eo49⟩ := Kd.R_slice HO_13.out; subst eo49; have p266 : 0 ≤ (x14_2 : Int) := of_decide_eq_true (by first | (with_reducible assumption) | assumption); have q266 : x14_2 < (t260.length : Int) := of_decide_eq_true (by first | (with_reducible assumption) | assumption); obtain ⟨ad266, e266, hx266_0⟩ := Kd.at_int (Kd.R_reads' HO_13.out).2.2 x14_2 p266 q266; cases e266; replace p266 := eq_true p266; replace q266 := eq_true q266))
                                go_ret
                                exact ⟨by first | rfl | (simp [errW_none, errW_some] <;> rfl) | (simp [*, errW_none, errW_some] <;> rfl), by repeat (first | (with_reducible first | exact HB.out | apply below_alloc | apply pw_below_drewN | apply below_drew1) | exact HB.out)⟩
                              · rw [if_neg c47] at H
                                have c47b0 : ((rd t260 x14_2) == 0) = false := beq_eq_false_iff_ne.mpr c47
                                have c47b1 : ((rd t260 x14_2) != 0) = true := bne_iff_ne.mpr c47
                                by_cases c50 : (((rd t260 x14_2) == 1) != (t242 == 1)) = true
                                · rw [if_pos c50] at H
                                  have c50b0 : (((rd t260 x14_2) == 1) != (t242 == 1)) = true := c50
                                  (try (have c50b1 : decide (((rd t260 x14_2) == 1) = (t242 == 1)) = false := by simpa using c50))
                                  (try (have c50b2 : (((rd t260 x14_2) == 1) == (t242 == 1)) = false := by simpa using c50))
                                  (try (have c50b3 : ¬ (((rd t260 x14_2) == 1) = (t242 == 1)) := by simpa using c50))
                                  (try (have c50b4 : (!((rd t260 x14_2) == 1) == (t242 == 1)) = true := by have h_ := c50; cases ((rd t260 x14_2) == 1) <;> simp at h_ ⊢ <;> first | done | omega | exact List.length_pos_iff.2 h_ | simp_all))
                                  clear c50
                                  obtain rfl := Option.some.inj H
                                  go_wp2_with (first | ((with_reducible refine gate_callee (f := 62) rfl ?_); refine goesL_ (some 99) rfl rfl Try.func62 (by kernel_rfl) rfl #[.slice Ao18 t240.length co18, .int .i64 x14_2] rfl (by (try simp only [List.map_toArray, List.map_cons, List.map_nil]); first | done | rfl | (simp only [List.length_drop, List.length_take]; rfl)) ?_; (with_reducible refine (spec_StatusOf.calls _ _ t240 x14_2 t264 _ ?side1 ?side2 A40.out).mono ?_); (case side1 => repeat (first | exact (Kd.R_reads' HO_3.out).2.2 | (with_reducible refine Kd.C_alloc ?_ _) | (with_reducible refine Kd.C_drewN ?_ _) | (with_reducible refine Kd.C_drew ?_))); (case side2 => exact (Kd.R_reads' HO_3.out).2.1); rintro e w' ⟨rfl, ⟨nd, rfl⟩⟩; refine ⟨_, rfl, ?_⟩; obtain ⟨Ao51, co51, eo51⟩ := Kd.R_slice HO_11.out; subst eo51) | ((with_reducible refine gate_callee (f := 61) rfl ?_); refine goesL_ (some 106) rfl rfl Try.func61 (by kernel_rfl) rfl #[.slice Ao51 t256.length co51, .int .i64 x14_2] rfl (by (try simp only [List.map_toArray, List.map_cons, List.map_nil]); first | done | rfl | (simp only [List.length_drop, List.length_take]; rfl)) ?_; (with_reducible refine (impl_StatusOf.calls _ _ t256 x14_2 t265 _ ?side1 ?side2 A42.out).mono ?_); (case side1 => repeat (first | exact (Kd.R_reads' HO_11.out).2.2 | (with_reducible refine Kd.C_alloc ?_ _) | (with_reducible refine Kd.C_drewN ?_ _) | (with_reducible refine Kd.C_drew ?_))); (case side2 => exact (Kd.R_reads' HO_11.out).2.1); rintro e w' ⟨rfl, ⟨nd, rfl⟩⟩; refine ⟨_, rfl, ?_⟩; obtain ⟨Ao52, co52, eo52⟩ := Kd.R_slice HO_13.out; subst eo52; have p266 : 0 ≤ (x14_2 : Int) := of_decide_eq_true (by first | (with_reducible assumption) | assumption); have q266 : x14_2 < (t260.length : Int) := of_decide_eq_true (by first | (with_reducible assumption) | assumption); obtain ⟨ad266, e266, hx266_0⟩ := Kd.at_int (Kd.R_reads' HO_13.out).2.2 x14_2 p266 q266; cases e266; replace p266 := eq_true p266; replace q266 := eq_true q266; have p267 : 0 ≤ (x14_2 : Int) := of_decide_eq_true (by first | (with_reducible assumption) | assumption); have q267 : x14_2 < (t260.length : Int) := of_decide_eq_true (by first | (with_reducible assumption) | assumption); obtain ⟨ad267, e267, hx267_0⟩ := Kd.at_int (Kd.R_reads' HO_13.out).2.2 x14_2 p267 q267; obtain rfl : ad266 = ad267 := (by injection e267); replace p267 := eq_true p267; replace q267 := eq_true q267))
                                  go_ret
                                  exact ⟨by first | rfl | (simp [errW_none, errW_some] <;> rfl) | (simp [*, errW_none, errW_some] <;> rfl), by repeat (first | (with_reducible first | exact HB.out | apply below_alloc | apply pw_below_drewN | apply below_drew1) | exact HB.out)⟩
                                · rw [if_neg c50] at H
                                  have c50b0 : (((rd t260 x14_2) == 1) != (t242 == 1)) = false := by simpa using c50
                                  (try (have c50b1 : decide (((rd t260 x14_2) == 1) = (t242 == 1)) = true := by simpa using c50))
                                  (try (have c50b2 : (((rd t260 x14_2) == 1) == (t242 == 1)) = true := by simpa using c50))
                                  (try (have c50b3 : (!((rd t260 x14_2) == 1) == (t242 == 1)) = false := by have h_ := c50; cases ((rd t260 x14_2) == 1) <;> simp at h_ ⊢ <;> first | done | omega | exact List.length_pos_iff.2 h_ | simp_all))
                                  clear c50
                                  have H' := Aside0.mk H
                                  clear H
                                  go_wp2_with (first | ((with_reducible refine gate_callee (f := 62) rfl ?_); refine goesL_ (some 99) rfl rfl Try.func62 (by kernel_rfl) rfl #[.slice Ao18 t240.length co18, .int .i64 x14_2] rfl (by (try simp only [List.map_toArray, List.map_cons, List.map_nil]); first | done | rfl | (simp only [List.length_drop, List.length_take]; rfl)) ?_; (with_reducible refine (spec_StatusOf.calls _ _ t240 x14_2 t264 _ ?side1 ?side2 A40.out).mono ?_); (case side1 => repeat (first | exact (Kd.R_reads' HO_3.out).2.2 | (with_reducible refine Kd.C_alloc ?_ _) | (with_reducible refine Kd.C_drewN ?_ _) | (with_reducible refine Kd.C_drew ?_))); (case side2 => exact (Kd.R_reads' HO_3.out).2.1); rintro e w' ⟨rfl, ⟨nd, rfl⟩⟩; refine ⟨_, rfl, ?_⟩; obtain ⟨Ao53, co53, eo53⟩ := Kd.R_slice HO_11.out; subst eo53) | ((with_reducible refine gate_callee (f := 61) rfl ?_); refine goesL_ (some 106) rfl rfl Try.func61 (by kernel_rfl) rfl #[.slice Ao53 t256.length co53, .int .i64 x14_2] rfl (by (try simp only [List.map_toArray, List.map_cons, List.map_nil]); first | done | rfl | (simp only [List.length_drop, List.length_take]; rfl)) ?_; (with_reducible refine (impl_StatusOf.calls _ _ t256 x14_2 t265 _ ?side1 ?side2 A42.out).mono ?_); (case side1 => repeat (first | exact (Kd.R_reads' HO_11.out).2.2 | (with_reducible refine Kd.C_alloc ?_ _) | (with_reducible refine Kd.C_drewN ?_ _) | (with_reducible refine Kd.C_drew ?_))); (case side2 => exact (Kd.R_reads' HO_11.out).2.1); rintro e w' ⟨rfl, ⟨nd, rfl⟩⟩; refine ⟨_, rfl, ?_⟩; obtain ⟨Ao54, co54, eo54⟩ := Kd.R_slice HO_13.out; subst eo54; have p266 : 0 ≤ (x14_2 : Int) := of_decide_eq_true (by first | (with_reducible assumption) | assumption); have q266 : x14_2 < (t260.length : Int) := of_decide_eq_true (by first | (with_reducible assumption) | assumption); obtain ⟨ad266, e266, hx266_0⟩ := Kd.at_int (Kd.R_reads' HO_13.out).2.2 x14_2 p266 q266; cases e266; replace p266 := eq_true p266; replace q266 := eq_true q266; have p267 : 0 ≤ (x14_2 : Int) := of_decide_eq_true (by first | (with_reducible assumption) | assumption); have q267 : x14_2 < (t260.length : Int) := of_decide_eq_true (by first | (with_reducible assumption) | assumption); obtain ⟨ad267, e267, hx267_0⟩ := Kd.at_int (Kd.R_reads' HO_13.out).2.2 x14_2 p267 q267; obtain rfl : ad266 = ad267 := (by injection e267); replace p267 := eq_true p267; replace q267 := eq_true q267))
                                  go_roundg k2
                                  case measure => have := HJ15.out; have := HK2.out; omega
                                  case rel => exact ⟨(wrap64 (x14_2 + 1)), (by first | rfl | (simp; done) | (simp [*]; done)), H', ⟨by have := HJ15.out; have := HK2.out; omega⟩, ⟨by (with_reducible repeat (first | apply Kd.R_alloc | apply Kd.R_drewN | apply Kd.R_drew)); exact HO_3.out⟩, ⟨by (with_reducible repeat (first | apply Kd.R_alloc | apply Kd.R_drewN | apply Kd.R_drew)); exact HO_6.out⟩, ⟨by (with_reducible repeat (first | apply Kd.R_alloc | apply Kd.R_drewN | apply Kd.R_drew)); exact HO_11.out⟩, ⟨by (with_reducible repeat (first | apply Kd.R_alloc | apply Kd.R_drewN | apply Kd.R_drew)); exact HO_13.out⟩, ⟨by repeat (first | (with_reducible first | exact HB.out | apply below_alloc | apply pw_below_drewN | apply below_drew1) | exact HB.out)⟩⟩
                            · rw [if_neg c46] at H
                              exact absurd H (by simp)
                          · rw [if_neg c45] at H
                            exact absurd H (by simp)
                        · rw [if_neg c44] at H
                          have c44b0 : decide (0 < x14_2) = false := decide_eq_false c44
                          clear c44
                          have H' := Aside0.mk H
                          clear H
                          go_wp2_with (first | ((with_reducible refine gate_callee (f := 62) rfl ?_); refine goesL_ (some 99) rfl rfl Try.func62 (by kernel_rfl) rfl #[.slice Ao18 t240.length co18, .int .i64 x14_2] rfl (by (try simp only [List.map_toArray, List.map_cons, List.map_nil]); first | done | rfl | (simp only [List.length_drop, List.length_take]; rfl)) ?_; (with_reducible refine (spec_StatusOf.calls _ _ t240 x14_2 t264 _ ?side1 ?side2 A40.out).mono ?_); (case side1 => repeat (first | exact (Kd.R_reads' HO_3.out).2.2 | (with_reducible refine Kd.C_alloc ?_ _) | (with_reducible refine Kd.C_drewN ?_ _) | (with_reducible refine Kd.C_drew ?_))); (case side2 => exact (Kd.R_reads' HO_3.out).2.1); rintro e w' ⟨rfl, ⟨nd, rfl⟩⟩; refine ⟨_, rfl, ?_⟩; obtain ⟨Ao55, co55, eo55⟩ := Kd.R_slice HO_11.out; subst eo55) | ((with_reducible refine gate_callee (f := 61) rfl ?_); refine goesL_ (some 106) rfl rfl Try.func61 (by kernel_rfl) rfl #[.slice Ao55 t256.length co55, .int .i64 x14_2] rfl (by (try simp only [List.map_toArray, List.map_cons, List.map_nil]); first | done | rfl | (simp only [List.length_drop, List.length_take]; rfl)) ?_; (with_reducible refine (impl_StatusOf.calls _ _ t256 x14_2 t265 _ ?side1 ?side2 A42.out).mono ?_); (case side1 => repeat (first | exact (Kd.R_reads' HO_11.out).2.2 | (with_reducible refine Kd.C_alloc ?_ _) | (with_reducible refine Kd.C_drewN ?_ _) | (with_reducible refine Kd.C_drew ?_))); (case side2 => exact (Kd.R_reads' HO_11.out).2.1); rintro e w' ⟨rfl, ⟨nd, rfl⟩⟩; refine ⟨_, rfl, ?_⟩))
                          go_roundg k2
                          case measure => have := HJ15.out; have := HK2.out; omega
                          case rel => exact ⟨(wrap64 (x14_2 + 1)), (by first | rfl | (simp; done) | (simp [*]; done)), H', ⟨by have := HJ15.out; have := HK2.out; omega⟩, ⟨by (with_reducible repeat (first | apply Kd.R_alloc | apply Kd.R_drewN | apply Kd.R_drew)); exact HO_3.out⟩, ⟨by (with_reducible repeat (first | apply Kd.R_alloc | apply Kd.R_drewN | apply Kd.R_drew)); exact HO_6.out⟩, ⟨by (with_reducible repeat (first | apply Kd.R_alloc | apply Kd.R_drewN | apply Kd.R_drew)); exact HO_11.out⟩, ⟨by (with_reducible repeat (first | apply Kd.R_alloc | apply Kd.R_drewN | apply Kd.R_drew)); exact HO_13.out⟩, ⟨by repeat (first | (with_reducible first | exact HB.out | apply below_alloc | apply pw_below_drewN | apply below_drew1) | exact HB.out)⟩⟩
                      · rw [if_neg c43] at H
                        have c43b0 : (t265 == t242) = false := beq_eq_false_iff_ne.mpr c43
                        have c43b1 : (t265 != t242) = true := bne_iff_ne.mpr c43
                        obtain rfl := Option.some.inj H
                        go_wp2_with (first | ((with_reducible refine gate_callee (f := 62) rfl ?_); refine goesL_ (some 99) rfl rfl Try.func62 (by kernel_rfl) rfl #[.slice Ao18 t240.length co18, .int .i64 x14_2] rfl (by (try simp only [List.map_toArray, List.map_cons, List.map_nil]); first | done | rfl | (simp only [List.length_drop, List.length_take]; rfl)) ?_; (with_reducible refine (spec_StatusOf.calls _ _ t240 x14_2 t264 _ ?side1 ?side2 A40.out).mono ?_); (case side1 => repeat (first | exact (Kd.R_reads' HO_3.out).2.2 | (with_reducible refine Kd.C_alloc ?_ _) | (with_reducible refine Kd.C_drewN ?_ _) | (with_reducible refine Kd.C_drew ?_))); (case side2 => exact (Kd.R_reads' HO_3.out).2.1); rintro e w' ⟨rfl, ⟨nd, rfl⟩⟩; refine ⟨_, rfl, ?_⟩; obtain ⟨Ao56, co56, eo56⟩ := Kd.R_slice HO_11.out; subst eo56) | ((with_reducible refine gate_callee (f := 61) rfl ?_); refine goesL_ (some 106) rfl rfl Try.func61 (by kernel_rfl) rfl #[.slice Ao56 t256.length co56, .int .i64 x14_2] rfl (by (try simp only [List.map_toArray, List.map_cons, List.map_nil]); first | done | rfl | (simp only [List.length_drop, List.length_take]; rfl)) ?_; (with_reducible refine (impl_StatusOf.calls _ _ t256 x14_2 t265 _ ?side1 ?side2 A42.out).mono ?_); (case side1 => repeat (first | exact (Kd.R_reads' HO_11.out).2.2 | (with_reducible refine Kd.C_alloc ?_ _) | (with_reducible refine Kd.C_drewN ?_ _) | (with_reducible refine Kd.C_drew ?_))); (case side2 => exact (Kd.R_reads' HO_11.out).2.1); rintro e w' ⟨rfl, ⟨nd, rfl⟩⟩; refine ⟨_, rfl, ?_⟩))
                        go_ret
                        exact ⟨by first | rfl | (simp [errW_none, errW_some] <;> rfl) | (simp [*, errW_none, errW_some] <;> rfl), by repeat (first | (with_reducible first | exact HB.out | apply below_alloc | apply pw_below_drewN | apply below_drew1) | exact HB.out)⟩
                    · rw [if_neg c41] at H
                      have c41b0 : (x14_2 == t241) = false := beq_eq_false_iff_ne.mpr c41
                      have c41b1 : (x14_2 != t241) = true := bne_iff_ne.mpr c41
                      replace H := Option.bind_eq_some_iff.mp H
                      obtain ⟨t268, A570, H⟩ := H
                      replace H : (if t268 = t264 then (if x14_2 > 0 then (if 0 ≤ x14_2 then (if x14_2 < (t260.length : Int) then (if (rd t260 x14_2) = 0 then (some false) else (if (((rd t260 x14_2) == 1) != (t264 == 1)) = true then (some false) else (laws_FnStatuses.l0 k2 t240 t241 t242 t245 t256 t260 (wrap64 (x14_2 + 1))))) else (none)) else (none)) else (laws_FnStatuses.l0 k2 t240 t241 t242 t245 t256 t260 (wrap64 (x14_2 + 1)))) else (some false)) = some r := H
                      have A57 := Aside0.mk A570
                      clear A570
                      by_cases c58 : t268 = t264
                      · rw [if_pos c58] at H
                        have c58b0 : (t268 == t264) = true := beq_iff_eq.mpr c58
                        have c58b1 : (t268 != t264) = false := bne_eq_false_iff_eq.mpr c58
                        clear c58
                        by_cases c59 : x14_2 > 0
                        · rw [if_pos c59] at H
                          have c59b0 : decide (0 < x14_2) = true := decide_eq_true c59
                          clear c59
                          by_cases c60 : 0 ≤ x14_2
                          · rw [if_pos c60] at H
                            have c60b0 : decide (0 ≤ x14_2) = true := decide_eq_true c60
                            clear c60
                            by_cases c61 : x14_2 < (t260.length : Int)
                            · rw [if_pos c61] at H
                              have c61b0 : decide (x14_2 < (t260.length : Int)) = true := decide_eq_true c61
                              clear c61
                              by_cases c62 : (rd t260 x14_2) = 0
                              · rw [if_pos c62] at H
                                have c62b0 : ((rd t260 x14_2) == 0) = true := beq_iff_eq.mpr c62
                                have c62b1 : ((rd t260 x14_2) != 0) = false := bne_eq_false_iff_eq.mpr c62
                                clear c62
                                obtain rfl := Option.some.inj H
                                go_wp2_with (first | ((with_reducible refine gate_callee (f := 62) rfl ?_); refine goesL_ (some 99) rfl rfl Try.func62 (by kernel_rfl) rfl #[.slice Ao18 t240.length co18, .int .i64 x14_2] rfl (by (try simp only [List.map_toArray, List.map_cons, List.map_nil]); first | done | rfl | (simp only [List.length_drop, List.length_take]; rfl)) ?_; (with_reducible refine (spec_StatusOf.calls _ _ t240 x14_2 t264 _ ?side1 ?side2 A40.out).mono ?_); (case side1 => repeat (first | exact (Kd.R_reads' HO_3.out).2.2 | (with_reducible refine Kd.C_alloc ?_ _) | (with_reducible refine Kd.C_drewN ?_ _) | (with_reducible refine Kd.C_drew ?_))); (case side2 => exact (Kd.R_reads' HO_3.out).2.1); rintro e w' ⟨rfl, ⟨nd, rfl⟩⟩; refine ⟨_, rfl, ?_⟩; obtain ⟨Ao63, co63, eo63⟩ := Kd.R_slice HO_11.out; subst eo63) | ((with_reducible refine gate_callee (f := 61) rfl ?_); refine goesL_ (some 106) rfl rfl Try.func61 (by kernel_rfl) rfl #[.slice Ao63 t256.length co63, .int .i64 x14_2] rfl (by (try simp only [List.map_toArray, List.map_cons, List.map_nil]); first | done | rfl | (simp only [List.length_drop, List.length_take]; rfl)) ?_; (with_reducible refine (impl_StatusOf.calls _ _ t256 x14_2 t268 _ ?side1 ?side2 A57.out).mono ?_); (case side1 => repeat (first | exact (Kd.R_reads' HO_11.out).2.2 | (with_reducible refine Kd.C_alloc ?_ _) | (with_reducible refine Kd.C_drewN ?_ _) | (with_reducible refine Kd.C_drew ?_))); (case side2 => exact (Kd.R_reads' HO_11.out).2.1); rintro e w' ⟨rfl, ⟨nd, rfl⟩⟩; refine ⟨_, rfl, ?_⟩; obtain ⟨Ao64, co64, eo64⟩ := Kd.R_slice HO_13.out; subst eo64; have p269 : 0 ≤ (x14_2 : Int) := of_decide_eq_true (by first | (with_reducible assumption) | assumption); have q269 : x14_2 < (t260.length : Int) := of_decide_eq_true (by first | (with_reducible assumption) | assumption); obtain ⟨ad269, e269, hx269_0⟩ := Kd.at_int (Kd.R_reads' HO_13.out).2.2 x14_2 p269 q269; cases e269; replace p269 := eq_true p269; replace q269 := eq_true q269))
                                go_ret
                                exact ⟨by first | rfl | (simp [errW_none, errW_some] <;> rfl) | (simp [*, errW_none, errW_some] <;> rfl), by repeat (first | (with_reducible first | exact HB.out | apply below_alloc | apply pw_below_drewN | apply below_drew1) | exact HB.out)⟩
                              · rw [if_neg c62] at H
                                have c62b0 : ((rd t260 x14_2) == 0) = false := beq_eq_false_iff_ne.mpr c62
                                have c62b1 : ((rd t260 x14_2) != 0) = true := bne_iff_ne.mpr c62
                                by_cases c65 : (((rd t260 x14_2) == 1) != (t264 == 1)) = true
                                · rw [if_pos c65] at H
                                  have c65b0 : (((rd t260 x14_2) == 1) != (t264 == 1)) = true := c65
                                  (try (have c65b1 : decide (((rd t260 x14_2) == 1) = (t264 == 1)) = false := by simpa using c65))
                                  (try (have c65b2 : (((rd t260 x14_2) == 1) == (t264 == 1)) = false := by simpa using c65))
                                  (try (have c65b3 : ¬ (((rd t260 x14_2) == 1) = (t264 == 1)) := by simpa using c65))
                                  (try (have c65b4 : (!((rd t260 x14_2) == 1) == (t264 == 1)) = true := by have h_ := c65; cases ((rd t260 x14_2) == 1) <;> simp at h_ ⊢ <;> first | done | omega | exact List.length_pos_iff.2 h_ | simp_all))
                                  clear c65
                                  obtain rfl := Option.some.inj H
                                  go_wp2_with (first | ((with_reducible refine gate_callee (f := 62) rfl ?_); refine goesL_ (some 99) rfl rfl Try.func62 (by kernel_rfl) rfl #[.slice Ao18 t240.length co18, .int .i64 x14_2] rfl (by (try simp only [List.map_toArray, List.map_cons, List.map_nil]); first | done | rfl | (simp only [List.length_drop, List.length_take]; rfl)) ?_; (with_reducible refine (spec_StatusOf.calls _ _ t240 x14_2 t264 _ ?side1 ?side2 A40.out).mono ?_); (case side1 => repeat (first | exact (Kd.R_reads' HO_3.out).2.2 | (with_reducible refine Kd.C_alloc ?_ _) | (with_reducible refine Kd.C_drewN ?_ _) | (with_reducible refine Kd.C_drew ?_))); (case side2 => exact (Kd.R_reads' HO_3.out).2.1); rintro e w' ⟨rfl, ⟨nd, rfl⟩⟩; refine ⟨_, rfl, ?_⟩; obtain ⟨Ao66, co66, eo66⟩ := Kd.R_slice HO_11.out; subst eo66) | ((with_reducible refine gate_callee (f := 61) rfl ?_); refine goesL_ (some 106) rfl rfl Try.func61 (by kernel_rfl) rfl #[.slice Ao66 t256.length co66, .int .i64 x14_2] rfl (by (try simp only [List.map_toArray, List.map_cons, List.map_nil]); first | done | rfl | (simp only [List.length_drop, List.length_take]; rfl)) ?_; (with_reducible refine (impl_StatusOf.calls _ _ t256 x14_2 t268 _ ?side1 ?side2 A57.out).mono ?_); (case side1 => repeat (first | exact (Kd.R_reads' HO_11.out).2.2 | (with_reducible refine Kd.C_alloc ?_ _) | (with_reducible refine Kd.C_drewN ?_ _) | (with_reducible refine Kd.C_drew ?_))); (case side2 => exact (Kd.R_reads' HO_11.out).2.1); rintro e w' ⟨rfl, ⟨nd, rfl⟩⟩; refine ⟨_, rfl, ?_⟩; obtain ⟨Ao67, co67, eo67⟩ := Kd.R_slice HO_13.out; subst eo67; have p269 : 0 ≤ (x14_2 : Int) := of_decide_eq_true (by first | (with_reducible assumption) | assumption); have q269 : x14_2 < (t260.length : Int) := of_decide_eq_true (by first | (with_reducible assumption) | assumption); obtain ⟨ad269, e269, hx269_0⟩ := Kd.at_int (Kd.R_reads' HO_13.out).2.2 x14_2 p269 q269; cases e269; replace p269 := eq_true p269; replace q269 := eq_true q269; have p270 : 0 ≤ (x14_2 : Int) := of_decide_eq_true (by first | (with_reducible assumption) | assumption); have q270 : x14_2 < (t260.length : Int) := of_decide_eq_true (by first | (with_reducible assumption) | assumption); obtain ⟨ad270, e270, hx270_0⟩ := Kd.at_int (Kd.R_reads' HO_13.out).2.2 x14_2 p270 q270; obtain rfl : ad269 = ad270 := (by injection e270); replace p270 := eq_true p270; replace q270 := eq_true q270))
                                  go_ret
                                  exact ⟨by first | rfl | (simp [errW_none, errW_some] <;> rfl) | (simp [*, errW_none, errW_some] <;> rfl), by repeat (first | (with_reducible first | exact HB.out | apply below_alloc | apply pw_below_drewN | apply below_drew1) | exact HB.out)⟩
                                · rw [if_neg c65] at H
                                  have c65b0 : (((rd t260 x14_2) == 1) != (t264 == 1)) = false := by simpa using c65
                                  (try (have c65b1 : decide (((rd t260 x14_2) == 1) = (t264 == 1)) = true := by simpa using c65))
                                  (try (have c65b2 : (((rd t260 x14_2) == 1) == (t264 == 1)) = true := by simpa using c65))
                                  (try (have c65b3 : (!((rd t260 x14_2) == 1) == (t264 == 1)) = false := by have h_ := c65; cases ((rd t260 x14_2) == 1) <;> simp at h_ ⊢ <;> first | done | omega | exact List.length_pos_iff.2 h_ | simp_all))
                                  clear c65
                                  have H' := Aside0.mk H
                                  clear H
                                  go_wp2_with (first | ((with_reducible refine gate_callee (f := 62) rfl ?_); refine goesL_ (some 99) rfl rfl Try.func62 (by kernel_rfl) rfl #[.slice Ao18 t240.length co18, .int .i64 x14_2] rfl (by (try simp only [List.map_toArray, List.map_cons, List.map_nil]); first | done | rfl | (simp only [List.length_drop, List.length_take]; rfl)) ?_; (with_reducible refine (spec_StatusOf.calls _ _ t240 x14_2 t264 _ ?side1 ?side2 A40.out).mono ?_); (case side1 => repeat (first | exact (Kd.R_reads' HO_3.out).2.2 | (with_reducible refine Kd.C_alloc ?_ _) | (with_reducible refine Kd.C_drewN ?_ _) | (with_reducible refine Kd.C_drew ?_))); (case side2 => exact (Kd.R_reads' HO_3.out).2.1); rintro e w' ⟨rfl, ⟨nd, rfl⟩⟩; refine ⟨_, rfl, ?_⟩; obtain ⟨Ao68, co68, eo68⟩ := Kd.R_slice HO_11.out; subst eo68) | ((with_reducible refine gate_callee (f := 61) rfl ?_); refine goesL_ (some 106) rfl rfl Try.func61 (by kernel_rfl) rfl #[.slice Ao68 t256.length co68, .int .i64 x14_2] rfl (by (try simp only [List.map_toArray, List.map_cons, List.map_nil]); first | done | rfl | (simp only [List.length_drop, List.length_take]; rfl)) ?_; (with_reducible refine (impl_StatusOf.calls _ _ t256 x14_2 t268 _ ?side1 ?side2 A57.out).mono ?_); (case side1 => repeat (first | exact (Kd.R_reads' HO_11.out).2.2 | (with_reducible refine Kd.C_alloc ?_ _) | (with_reducible refine Kd.C_drewN ?_ _) | (with_reducible refine Kd.C_drew ?_))); (case side2 => exact (Kd.R_reads' HO_11.out).2.1); rintro e w' ⟨rfl, ⟨nd, rfl⟩⟩; refine ⟨_, rfl, ?_⟩; obtain ⟨Ao69, co69, eo69⟩ := Kd.R_slice HO_13.out; subst eo69; have p269 : 0 ≤ (x14_2 : Int) := of_decide_eq_true (by first | (with_reducible assumption) | assumption); have q269 : x14_2 < (t260.length : Int) := of_decide_eq_true (by first | (with_reducible assumption) | assumption); obtain ⟨ad269, e269, hx269_0⟩ := Kd.at_int (Kd.R_reads' HO_13.out).2.2 x14_2 p269 q269; cases e269; replace p269 := eq_true p269; replace q269 := eq_true q269; have p270 : 0 ≤ (x14_2 : Int) := of_decide_eq_true (by first | (with_reducible assumption) | assumption); have q270 : x14_2 < (t260.length : Int) := of_decide_eq_true (by first | (with_reducible assumption) | assumption); obtain ⟨ad270, e270, hx270_0⟩ := Kd.at_int (Kd.R_reads' HO_13.out).2.2 x14_2 p270 q270; obtain rfl : ad269 = ad270 := (by injection e270); replace p270 := eq_true p270; replace q270 := eq_true q270))
                                  go_roundg k2
                                  case measure => have := HJ15.out; have := HK2.out; omega
                                  case rel => exact ⟨(wrap64 (x14_2 + 1)), (by first | rfl | (simp; done) | (simp [*]; done)), H', ⟨by have := HJ15.out; have := HK2.out; omega⟩, ⟨by (with_reducible repeat (first | apply Kd.R_alloc | apply Kd.R_drewN | apply Kd.R_drew)); exact HO_3.out⟩, ⟨by (with_reducible repeat (first | apply Kd.R_alloc | apply Kd.R_drewN | apply Kd.R_drew)); exact HO_6.out⟩, ⟨by (with_reducible repeat (first | apply Kd.R_alloc | apply Kd.R_drewN | apply Kd.R_drew)); exact HO_11.out⟩, ⟨by (with_reducible repeat (first | apply Kd.R_alloc | apply Kd.R_drewN | apply Kd.R_drew)); exact HO_13.out⟩, ⟨by repeat (first | (with_reducible first | exact HB.out | apply below_alloc | apply pw_below_drewN | apply below_drew1) | exact HB.out)⟩⟩
                            · rw [if_neg c61] at H
                              exact absurd H (by simp)
                          · rw [if_neg c60] at H
                            exact absurd H (by simp)
                        · rw [if_neg c59] at H
                          have c59b0 : decide (0 < x14_2) = false := decide_eq_false c59
                          clear c59
                          have H' := Aside0.mk H
                          clear H
                          go_wp2_with (first | ((with_reducible refine gate_callee (f := 62) rfl ?_); refine goesL_ (some 99) rfl rfl Try.func62 (by kernel_rfl) rfl #[.slice Ao18 t240.length co18, .int .i64 x14_2] rfl (by (try simp only [List.map_toArray, List.map_cons, List.map_nil]); first | done | rfl | (simp only [List.length_drop, List.length_take]; rfl)) ?_; (with_reducible refine (spec_StatusOf.calls _ _ t240 x14_2 t264 _ ?side1 ?side2 A40.out).mono ?_); (case side1 => repeat (first | exact (Kd.R_reads' HO_3.out).2.2 | (with_reducible refine Kd.C_alloc ?_ _) | (with_reducible refine Kd.C_drewN ?_ _) | (with_reducible refine Kd.C_drew ?_))); (case side2 => exact (Kd.R_reads' HO_3.out).2.1); rintro e w' ⟨rfl, ⟨nd, rfl⟩⟩; refine ⟨_, rfl, ?_⟩; obtain ⟨Ao70, co70, eo70⟩ := Kd.R_slice HO_11.out; subst eo70) | ((with_reducible refine gate_callee (f := 61) rfl ?_); refine goesL_ (some 106) rfl rfl Try.func61 (by kernel_rfl) rfl #[.slice Ao70 t256.length co70, .int .i64 x14_2] rfl (by (try simp only [List.map_toArray, List.map_cons, List.map_nil]); first | done | rfl | (simp only [List.length_drop, List.length_take]; rfl)) ?_; (with_reducible refine (impl_StatusOf.calls _ _ t256 x14_2 t268 _ ?side1 ?side2 A57.out).mono ?_); (case side1 => repeat (first | exact (Kd.R_reads' HO_11.out).2.2 | (with_reducible refine Kd.C_alloc ?_ _) | (with_reducible refine Kd.C_drewN ?_ _) | (with_reducible refine Kd.C_drew ?_))); (case side2 => exact (Kd.R_reads' HO_11.out).2.1); rintro e w' ⟨rfl, ⟨nd, rfl⟩⟩; refine ⟨_, rfl, ?_⟩))
                          go_roundg k2
                          case measure => have := HJ15.out; have := HK2.out; omega
                          case rel => exact ⟨(wrap64 (x14_2 + 1)), (by first | rfl | (simp; done) | (simp [*]; done)), H', ⟨by have := HJ15.out; have := HK2.out; omega⟩, ⟨by (with_reducible repeat (first | apply Kd.R_alloc | apply Kd.R_drewN | apply Kd.R_drew)); exact HO_3.out⟩, ⟨by (with_reducible repeat (first | apply Kd.R_alloc | apply Kd.R_drewN | apply Kd.R_drew)); exact HO_6.out⟩, ⟨by (with_reducible repeat (first | apply Kd.R_alloc | apply Kd.R_drewN | apply Kd.R_drew)); exact HO_11.out⟩, ⟨by (with_reducible repeat (first | apply Kd.R_alloc | apply Kd.R_drewN | apply Kd.R_drew)); exact HO_13.out⟩, ⟨by repeat (first | (with_reducible first | exact HB.out | apply below_alloc | apply pw_below_drewN | apply below_drew1) | exact HB.out)⟩⟩
                      · rw [if_neg c58] at H
                        have c58b0 : (t268 == t264) = false := beq_eq_false_iff_ne.mpr c58
                        have c58b1 : (t268 != t264) = true := bne_iff_ne.mpr c58
                        obtain rfl := Option.some.inj H
                        go_wp2_with (first | ((with_reducible refine gate_callee (f := 62) rfl ?_); refine goesL_ (some 99) rfl rfl Try.func62 (by kernel_rfl) rfl #[.slice Ao18 t240.length co18, .int .i64 x14_2] rfl (by (try simp only [List.map_toArray, List.map_cons, List.map_nil]); first | done | rfl | (simp only [List.length_drop, List.length_take]; rfl)) ?_; (with_reducible refine (spec_StatusOf.calls _ _ t240 x14_2 t264 _ ?side1 ?side2 A40.out).mono ?_); (case side1 => repeat (first | exact (Kd.R_reads' HO_3.out).2.2 | (with_reducible refine Kd.C_alloc ?_ _) | (with_reducible refine Kd.C_drewN ?_ _) | (with_reducible refine Kd.C_drew ?_))); (case side2 => exact (Kd.R_reads' HO_3.out).2.1); rintro e w' ⟨rfl, ⟨nd, rfl⟩⟩; refine ⟨_, rfl, ?_⟩; obtain ⟨Ao71, co71, eo71⟩ := Kd.R_slice HO_11.out; subst eo71) | ((with_reducible refine gate_callee (f := 61) rfl ?_); refine goesL_ (some 106) rfl rfl Try.func61 (by kernel_rfl) rfl #[.slice Ao71 t256.length co71, .int .i64 x14_2] rfl (by (try simp only [List.map_toArray, List.map_cons, List.map_nil]); first | done | rfl | (simp only [List.length_drop, List.length_take]; rfl)) ?_; (with_reducible refine (impl_StatusOf.calls _ _ t256 x14_2 t268 _ ?side1 ?side2 A57.out).mono ?_); (case side1 => repeat (first | exact (Kd.R_reads' HO_11.out).2.2 | (with_reducible refine Kd.C_alloc ?_ _) | (with_reducible refine Kd.C_drewN ?_ _) | (with_reducible refine Kd.C_drew ?_))); (case side2 => exact (Kd.R_reads' HO_11.out).2.1); rintro e w' ⟨rfl, ⟨nd, rfl⟩⟩; refine ⟨_, rfl, ?_⟩))
                        go_ret
                        exact ⟨by first | rfl | (simp [errW_none, errW_some] <;> rfl) | (simp [*, errW_none, errW_some] <;> rfl), by repeat (first | (with_reducible first | exact HB.out | apply below_alloc | apply pw_below_drewN | apply below_drew1) | exact HB.out)⟩
                  · rw [if_neg c39] at H
                    have c39b0 : decide (x14_2 < (t245.length : Int)) = false := decide_eq_false c39
                    clear c39
                    obtain rfl := Option.some.inj H
                    go_wp2
                    go_ret
                    exact ⟨by first | rfl | (simp [errW_none, errW_some] <;> rfl) | (simp [*, errW_none, errW_some] <;> rfl), by repeat (first | (with_reducible first | exact HB.out | apply below_alloc | apply pw_below_drewN | apply below_drew1) | exact HB.out)⟩
      · replace c12 := Bool.eq_false_iff.mpr c12
        subst c12
        have H1 : (some ((t245.length : Int) == 0)) = some r := by rw [if_neg (show ¬ (false = true) by decide)] at H; exact H
        clear H
        have H := H1
        clear H1
        obtain rfl := Option.some.inj H
        go_enter Try.func11, Try.ntmps11
        go_wp2_with (first | ((with_reducible refine gate_callee (f := 15) rfl ?_); refine goesL_ (some 17) rfl rfl Try.func15 (by kernel_rfl) rfl #[.slice A0 l0.length c0] rfl (by (try simp only [List.map_toArray, List.map_cons, List.map_nil]); first | done | rfl | (simp only [List.length_drop, List.length_take]; rfl)) ?_; (with_reducible refine (laws_big.calls _ _ l0 false _ ?side1 ?side2 A2.out).mono ?_); (case side1 => repeat (first | exact HR0.out | (with_reducible refine Kd.C_alloc ?_ _) | (with_reducible refine Kd.C_drewN ?_ _) | (with_reducible refine Kd.C_drew ?_))); (case side2 => exact HC0.out); rintro e w' ⟨rfl, ⟨nd, rfl⟩⟩; refine ⟨_, rfl, ?_⟩) | ((with_reducible refine gate_callee (f := 56) rfl ?_); refine goesL_ (some 20) rfl rfl Try.func56 (by kernel_rfl) rfl #[.slice A0 l0.length c0] rfl (by (try simp only [List.map_toArray, List.map_cons, List.map_nil]); first | done | rfl | (simp only [List.length_drop, List.length_take]; rfl)) ?_; (with_reducible refine (spec_DrawStatusSet.calls k _ _ l0 t240 t241 t242 _ ?side1 ?side2 A4.out).mono ?_); (case side1 => repeat (first | exact HR0.out | (with_reducible refine Kd.C_alloc ?_ _) | (with_reducible refine Kd.C_drewN ?_ _) | (with_reducible refine Kd.C_drew ?_))); (case side2 => exact HC0.out); rintro e w72 ⟨v243, rfl, ho0, hb⟩; refine ⟨_, rfl, ?_⟩; have n0_ := Aside0.mk (Kd.R_lower ho0 (below_size (by repeat (first | (with_reducible first | exact HB.out | apply below_alloc | apply pw_below_drewN | apply below_drew1) | exact HB.out)))); have n1_ := Aside0.mk (below_step (by repeat (first | (with_reducible first | exact HB.out | apply below_alloc | apply pw_below_drewN | apply below_drew1) | exact HB.out)) hb); clear HB; have HO244 := n0_; have HB := n1_; clear n0_ n1_; (try clear hb); (try clear hb2); (try clear hk); (try clear hi); (try clear ho0); obtain ⟨Ao73, co73, eo73⟩ := Kd.R_slice HO244.out; subst eo73) | ((with_reducible refine gate_callee (f := 57) rfl ?_); refine goesL_ (some 28) rfl rfl Try.func57 (by kernel_rfl) rfl #[.slice Ao73 t240.length co73, .int .i64 t241, .int .i64 t242] rfl (by (try simp only [List.map_toArray, List.map_cons, List.map_nil]); first | done | rfl | (simp only [List.length_drop, List.length_take]; rfl)) ?_; (with_reducible refine (impl_StatusSet.calls k _ _ t240 t241 t242 t245 false _ ?side1 ?side2 A5.out).mono ?_); (case side1 => repeat (first | exact (Kd.R_reads' HO244.out).2.2 | (with_reducible refine Kd.C_alloc ?_ _) | (with_reducible refine Kd.C_drewN ?_ _) | (with_reducible refine Kd.C_drew ?_))); (case side2 => exact (Kd.R_reads' HO244.out).2.1); rintro e w74 ⟨v247, rfl, ho0, hb⟩; refine ⟨_, rfl, ?_⟩; have n0_ := Aside0.mk (Kd.R_elder' (by (with_reducible repeat (first | apply Kd.R_alloc | apply Kd.R_drewN | apply Kd.R_drew)); exact HO244.out) (Kd.R_base ho0) hb); have n1_ := Aside0.mk (Kd.R_lower (Kd.R_new' ho0 (Kd.R_lt (by (with_reducible repeat (first | apply Kd.R_alloc | apply Kd.R_drewN | apply Kd.R_drew)); exact HO244.out))) (below_size (by repeat (first | (with_reducible first | exact HB.out | apply below_alloc | apply pw_below_drewN | apply below_drew1) | exact HB.out)))); have n2_ := Aside0.mk (below_step (by repeat (first | (with_reducible first | exact HB.out | apply below_alloc | apply pw_below_drewN | apply below_drew1) | exact HB.out)) hb); clear HO244; clear HB; have HO244 := n0_; have HO248 := n1_; have HB := n2_; clear n0_ n1_ n2_; (try clear hb); (try clear hb2); (try clear hk); (try clear hi); (try clear ho0)) | ((with_reducible refine gate_callee (f := 58) rfl ?_); refine goesL_ (some 35) rfl rfl Try.func58 (by kernel_rfl) rfl #[.slice Ao73 t240.length co73, .int .i64 t241, .int .i64 t242] rfl (by (try simp only [List.map_toArray, List.map_cons, List.map_nil]); first | done | rfl | (simp only [List.length_drop, List.length_take]; rfl)) ?_; (with_reducible refine (spec_StatusSet.calls k _ _ t240 t241 t242 t249 t250 _ ?side1 ?side2 A6.out).mono ?_); (case side1 => repeat (first | exact (Kd.R_reads' HO244.out).2.2 | (with_reducible refine Kd.C_alloc ?_ _) | (with_reducible refine Kd.C_drewN ?_ _) | (with_reducible refine Kd.C_drew ?_))); (case side2 => exact (Kd.R_reads' HO244.out).2.1); rintro e w75 ⟨v251, rfl, ho0, hb⟩; refine ⟨_, rfl, ?_⟩; have n0_ := Aside0.mk (Kd.R_elder' (by (with_reducible repeat (first | apply Kd.R_alloc | apply Kd.R_drewN | apply Kd.R_drew)); exact HO244.out) (Kd.R_base ho0) hb); have n1_ := Aside0.mk (Kd.R_elder' (by (with_reducible repeat (first | apply Kd.R_alloc | apply Kd.R_drewN | apply Kd.R_drew)); exact HO248.out) (Kd.R_base ho0) hb); have n2_ := Aside0.mk (Kd.R_lower (Kd.R_new' (Kd.R_new' ho0 (Kd.R_lt (by (with_reducible repeat (first | apply Kd.R_alloc | apply Kd.R_drewN | apply Kd.R_drew)); exact HO244.out))) (Kd.R_lt (by (with_reducible repeat (first | apply Kd.R_alloc | apply Kd.R_drewN | apply Kd.R_drew)); exact HO248.out))) (below_size (by repeat (first | (with_reducible first | exact HB.out | apply below_alloc | apply pw_below_drewN | apply below_drew1) | exact HB.out)))); have n3_ := Aside0.mk (below_step (by repeat (first | (with_reducible first | exact HB.out | apply below_alloc | apply pw_below_drewN | apply below_drew1) | exact HB.out)) hb); clear HO244; clear HO248; clear HB; have HO244 := n0_; have HO248 := n1_; have HO252 := n2_; have HB := n3_; clear n0_ n1_ n2_ n3_; (try clear hb); (try clear hb2); (try clear hk); (try clear hi); (try clear ho0); obtain ⟨Ao76, co76, eo76⟩ := Kd.R_slice HO248.out; subst eo76))
        go_ret
        exact ⟨by first | rfl | (simp [errW_none, errW_some] <;> rfl) | (simp [*, errW_none, errW_some] <;> rfl), by repeat (first | (with_reducible first | exact HB.out | apply below_alloc | apply pw_below_drewN | apply below_drew1) | exact HB.out)⟩

/-- THE ONE PURE STATEMENT of laws_FnStatuses: yours. -/
def laws_FnStatuses.Pure : Prop := ∀ (l0 : List Int), l0.length ≤ maxLen → l0.length * 1 ≤ 140737488351232 → (∀ x ∈ l0, (Lit.int .u8 x).wf = true) → ∃ k, laws_FnStatuses.f k l0 = some true
theorem laws_FnStatuses.walk (P : laws_FnStatuses.Pure) (a0 : Option Addr) (len0 cap0 : Nat) (z0 : List Int) (w : World) (w0 : (a0 = none ∧ len0 = 0 ∧ cap0 = 0 ∧ z0 = []) ∨ ∃ x, a0 = some x ∧ len0 ≤ cap0 ∧ cap0 ≤ maxLen ∧ z0.length = cap0 ∧ (∀ i, i < z0.length → w.cell? (x.add i) = some (.int .u8 (z0.getD i 0))) ∧ ∀ n ∈ z0, (Lit.int .u8 n).wf = true) (y0 : len0 * 1 ≤ 140737488351232) :
    Calls Try.prog 11 #[.slice a0 len0 cap0] w fun e w' => e = .returned (.bool true) ∧ Below w.heap.size w w' := by
  obtain ⟨l0, rfl, hr0, hm0, hw0, hc0⟩ := ReadsInt.ofRowC w0
  obtain ⟨k, h⟩ := P l0 hm0 y0 hw0
  refine (laws_FnStatuses.calls k _ _ l0 true w (Kd.C_of_reads (d := (0 : Int)) (h1 := fun _ => rfl) hr0) hc0 h).mono ?_
  rintro e w' ⟨rfl, hd⟩
  exact ⟨rfl, hd⟩

end Go.Proofs.Ytadbcjeelbkfcaa.PFnStatuses
