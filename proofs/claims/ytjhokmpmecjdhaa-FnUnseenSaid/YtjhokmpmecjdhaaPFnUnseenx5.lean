-- Written by hv.py, a program of this session's own, over the kit's print: FnUnseen
import Derived.Test.YtjhokmpmecjdhaaPFnUnseenx0
import Derived.Test.YtjhokmpmecjdhaaPFnUnseenx1
import Derived.Test.YtjhokmpmecjdhaaPFnUnseenx2
import Derived.Test.YtjhokmpmecjdhaaPFnUnseenx3
import Derived.Test.YtjhokmpmecjdhaaPFnUnseenx4
namespace Go.Proofs.Ytjhokmpmecjdhaa.PFnUnseen
open Go.RowKit Go.Proofs.YtjhokmpmecjdhaaW.PrintWords Go.Proofs.YtjhokmpmecjdhaaW.PrintLast Go.Proofs.YtjhokmpmecjdhaaW.PrintMore Go.Proofs.Ytjhokmpmecjdhaa.HFl Go.Proofs.Ytjhokmpmecjdhaa.HMap Go.Proofs.Ytjhokmpmecjdhaa.HMore Go.Proofs.Ytjhokmpmecjdhaa
attribute [local go_sem] max2_int min2_int max_two min_two max_three min_three max_four min_four   -- for this text's walks alone
set_option linter.unusedVariables false
set_option linter.unusedSimpArgs false

/-! ### laws_FnUnseen: function 3 -/
mutual
def laws_FnUnseen.l0 : Nat → List (S32) → List Int → Int → Int → Int → Int → Option (Bool)
  | 0, _, _, _, _, _, _ => none
  | k + 1, x3, x5, x6, x7, x9, x10 => if x10 < (x3.length : Int) then (if 0 ≤ x10 then (if x9 > ((rd_T32 x3 x10).f0) then (some false) else ((impl_Dead.f x5 x6 x7 x9).bind fun t298 => (if t298 = true then (if ((rd_T32 x3 x10).f0) = x6 then (laws_FnUnseen.j1 k x3 x5 x6 x7 x9 x10 t298 false) else ((impl_Visible.f k ((rd_T32 x3 x10).f0) ((rd_T32 x3 x10).f1) x5 x6 x7).bind fun t301 => (laws_FnUnseen.j1 k x3 x5 x6 x7 x9 x10 t298 t301))) else (laws_FnUnseen.j1 k x3 x5 x6 x7 x9 x10 t298 false)))) else (none)) else (some true)
def laws_FnUnseen.j1 : Nat → List (S32) → List Int → Int → Int → Int → Int → Bool → Bool → Option (Bool)
  | 0, _, _, _, _, _, _, _, _ => none
  | k + 1, x3, x5, x6, x7, x9, x10, x11, x73 => if x73 = true then (some false) else ((spec_Dead.f x5 x6 x7 x9).bind fun t302 => (if (t302 != x11) = true then (some false) else (if 0 ≤ x10 then (if x10 < (x3.length : Int) then ((impl_Sees.f k ((rd_T32 x3 x10).f0) ((rd_T32 x3 x10).f1) x5 ((rd_T32 x3 x10).f0)).bind fun t305 => (if t305 = true then (laws_FnUnseen.l0 k x3 x5 x6 x7 x9 (wrap64 (x10 + 1))) else (some false))) else (none)) else (none))))
end
def laws_FnUnseen.f (k : Nat) (l0 : List Int) : Option (Bool) := (laws_big.f l0).bind fun t284 => (if t284 = true then (some true) else ((spec_DrawHorizon.f k l0).bind fun bt285 => ((spec_DrawDead.f k l0).bind fun bt289 => ((impl_Horizon.f k bt285.1 bt285.2).bind fun t295 => ((spec_Horizon.f k bt285.1 bt285.2).bind fun t296 => (if t295 = t296 then (if t295 = 0 then (some true) else (laws_FnUnseen.l0 k bt285.1 bt289.1 bt289.2.1 bt289.2.2.1 t295 0)) else (some false)))))))
theorem laws_FnUnseen.mono_l : ∀ k, (∀ y0 y1 y2 y3 y4 y5, LeO (laws_FnUnseen.l0 k y0 y1 y2 y3 y4 y5) (laws_FnUnseen.l0 (k + 1) y0 y1 y2 y3 y4 y5)) ∧ (∀ y0 y1 y2 y3 y4 y5 y6 y7, LeO (laws_FnUnseen.j1 k y0 y1 y2 y3 y4 y5 y6 y7) (laws_FnUnseen.j1 (k + 1) y0 y1 y2 y3 y4 y5 y6 y7))
  | 0 => ⟨fun _ _ _ _ _ _ r h => by simp [laws_FnUnseen.l0] at h, fun _ _ _ _ _ _ _ _ r h => by simp [laws_FnUnseen.j1] at h⟩
  | k + 1 => by
    obtain ⟨ih0, ih1⟩ := laws_FnUnseen.mono_l k
    refine ⟨?_, ?_⟩
    · intro y0 y1 y2 y3 y4 y5
      unfold laws_FnUnseen.l0
      repeat' first
      | (with_reducible exact ih0 _ _ _ _ _ _)
      | (with_reducible exact ih1 _ _ _ _ _ _ _ _)
      | (with_reducible exact impl_Horizon.mono _ _ _)
      | (with_reducible exact impl_Sees.mono _ _ _ _ _)
      | (with_reducible exact impl_Visible.mono _ _ _ _ _ _)
      | (with_reducible exact spec_DrawDead.mono _ _)
      | (with_reducible exact spec_DrawHorizon.mono _ _)
      | (with_reducible exact spec_Horizon.mono _ _ _)
      | (with_reducible exact LeO.refl _)
      | (with_reducible exact LeO.none _)
      | (with_reducible refine LeO.ite ?_ ?_)
      | (with_reducible refine LeO.bind ?_ (fun _ => ?_))
      | exact ih0 _ _ _ _ _ _
      | exact ih1 _ _ _ _ _ _ _ _
      | exact impl_Horizon.mono _ _ _
      | exact impl_Sees.mono _ _ _ _ _
      | exact impl_Visible.mono _ _ _ _ _ _
      | exact spec_DrawDead.mono _ _
      | exact spec_DrawHorizon.mono _ _
      | exact spec_Horizon.mono _ _ _
      | exact LeO.none _
      | refine LeO.ite ?_ ?_
      | refine LeO.bind ?_ (fun _ => ?_)
    · intro y0 y1 y2 y3 y4 y5 y6 y7
      unfold laws_FnUnseen.j1
      repeat' first
      | (with_reducible exact ih0 _ _ _ _ _ _)
      | (with_reducible exact ih1 _ _ _ _ _ _ _ _)
      | (with_reducible exact impl_Horizon.mono _ _ _)
      | (with_reducible exact impl_Sees.mono _ _ _ _ _)
      | (with_reducible exact impl_Visible.mono _ _ _ _ _ _)
      | (with_reducible exact spec_DrawDead.mono _ _)
      | (with_reducible exact spec_DrawHorizon.mono _ _)
      | (with_reducible exact spec_Horizon.mono _ _ _)
      | (with_reducible exact LeO.refl _)
      | (with_reducible exact LeO.none _)
      | (with_reducible refine LeO.ite ?_ ?_)
      | (with_reducible refine LeO.bind ?_ (fun _ => ?_))
      | exact ih0 _ _ _ _ _ _
      | exact ih1 _ _ _ _ _ _ _ _
      | exact impl_Horizon.mono _ _ _
      | exact impl_Sees.mono _ _ _ _ _
      | exact impl_Visible.mono _ _ _ _ _ _
      | exact spec_DrawDead.mono _ _
      | exact spec_DrawHorizon.mono _ _
      | exact spec_Horizon.mono _ _ _
      | exact LeO.none _
      | refine LeO.ite ?_ ?_
      | refine LeO.bind ?_ (fun _ => ?_)
theorem laws_FnUnseen.mono : ∀ a0 k, LeO (laws_FnUnseen.f k a0) (laws_FnUnseen.f (k + 1) a0) := by
  intro a0 k
  obtain ⟨ih0, ih1⟩ := laws_FnUnseen.mono_l k
  unfold laws_FnUnseen.f
  repeat' first
      | (with_reducible exact ih0 _ _ _ _ _ _)
      | (with_reducible exact ih1 _ _ _ _ _ _ _ _)
      | (with_reducible exact impl_Horizon.mono _ _ _)
      | (with_reducible exact impl_Sees.mono _ _ _ _ _)
      | (with_reducible exact impl_Visible.mono _ _ _ _ _ _)
      | (with_reducible exact spec_DrawDead.mono _ _)
      | (with_reducible exact spec_DrawHorizon.mono _ _)
      | (with_reducible exact spec_Horizon.mono _ _ _)
      | (with_reducible exact LeO.refl _)
      | (with_reducible exact LeO.none _)
      | (with_reducible refine LeO.ite ?_ ?_)
      | (with_reducible refine LeO.bind ?_ (fun _ => ?_))
      | exact ih0 _ _ _ _ _ _
      | exact ih1 _ _ _ _ _ _ _ _
      | exact impl_Horizon.mono _ _ _
      | exact impl_Sees.mono _ _ _ _ _
      | exact impl_Visible.mono _ _ _ _ _ _
      | exact spec_DrawDead.mono _ _
      | exact spec_DrawHorizon.mono _ _
      | exact spec_Horizon.mono _ _ _
      | exact LeO.none _
      | refine LeO.ite ?_ ?_
      | refine LeO.bind ?_ (fun _ => ?_)
def laws_FnUnseen.T18 : Bool × List (List Nat × List Nat) := (true, [([], []), ([], []), ([], []), ([], []), ([0, 1, 2, 3], [0, 1, 2, 3]), ([], []), ([4, 5], [4, 5]), ([6, 4], [6]), ([7], [7]), ([7], [7]), ([8, 9, 7], [7, 8, 9]), ([10, 7], [7, 10]), ([7], [7]), ([7], [7]), ([7], [7]), ([13, 14, 7], [7, 13, 14]), ([15, 7], [7, 15]), ([16, 7], [7, 16]), ([11, 12, 17, 7, 7], [7, 11, 12, 17]), ([18, 7], [7, 18]), ([7, 19], [7, 19])])
def laws_FnUnseen.B18 : List Nat := [0, 0, 0, 0, 15, 0, 63, 127, 255, 255, 1023, 2047, 255, 255, 255, 24831, 57599, 123135, 262143, 524287, 1048575]
theorem laws_FnUnseen.tab18 : rtab .any (opsOf Try.f3 18) = laws_FnUnseen.T18 := by kernel_rfl
theorem laws_FnUnseen.bits18 : waitsOk laws_FnUnseen.T18.2 laws_FnUnseen.B18 = true := by kernel_rfl
set_option maxHeartbeats 8000000 in
set_option maxRecDepth 100000 in
theorem laws_FnUnseen.calls (k : Nat) (A0 : Option Addr) (c0 : Nat) (l0 : List Int) (r : Bool) (w : World) (hr0 : Kd.C (Kd.int .u8) w A0 l0.length l0) (hc0 : l0.length ≤ c0) (h : laws_FnUnseen.f k l0 = some r) (hrt : r = true) :
    Calls Try.prog 3 #[.slice A0 l0.length c0] w fun e w' => e = .returned (.bool r) ∧ Below w.heap.size w w' := by
  have hu32 := Try.underlying32
  have HR0 := Aside0.mk hr0
  have HC0 := Aside0.mk hc0
  clear hr0 hc0
  have HB := Aside0.mk (Below.refl w.heap.size w)
  have H : ((laws_big.f l0).bind fun t284 => (if t284 = true then (some true) else ((spec_DrawHorizon.f k l0).bind fun bt285 => ((spec_DrawDead.f k l0).bind fun bt289 => ((impl_Horizon.f k bt285.1 bt285.2).bind fun t295 => ((spec_Horizon.f k bt285.1 bt285.2).bind fun t296 => (if t295 = t296 then (if t295 = 0 then (some true) else (laws_FnUnseen.l0 k bt285.1 bt289.1 bt289.2.1 bt289.2.2.1 t295 0)) else (some false)))))))) = some r := h
  clear h
  replace H := Option.bind_eq_some_iff.mp H
  obtain ⟨t284, A20, H⟩ := H
  replace H : (if t284 = true then (some true) else ((spec_DrawHorizon.f k l0).bind fun bt285 => ((spec_DrawDead.f k l0).bind fun bt289 => ((impl_Horizon.f k bt285.1 bt285.2).bind fun t295 => ((spec_Horizon.f k bt285.1 bt285.2).bind fun t296 => (if t295 = t296 then (if t295 = 0 then (some true) else (laws_FnUnseen.l0 k bt285.1 bt289.1 bt289.2.1 bt289.2.2.1 t295 0)) else (some false))))))) = some r := H
  have A2 := Aside0.mk A20
  clear A20
  by_cases c3 : t284 = true
  · subst c3
    have H1 : (some true) = some r := by rw [if_pos rfl] at H; exact H
    clear H
    have H := H1
    clear H1
    obtain rfl := Option.some.inj H
    go_enter Try.func3, Try.ntmps3
    go_wp2_with (first | ((with_reducible refine gate_callee (f := 5) rfl ?_); refine goesL_ (some 13) rfl rfl Try.func5 (by kernel_rfl) rfl #[.slice A0 l0.length c0] rfl (by (try simp only [List.map_toArray, List.map_cons, List.map_nil]); first | done | rfl | (simp only [List.length_drop, List.length_take]; rfl)) ?_; (with_reducible refine (laws_big.calls _ _ l0 true _ ?side1 ?side2 A2.out).mono ?_); (case side1 => repeat (first | exact HR0.out | (with_reducible refine Kd.C_alloc ?_ _) | (with_reducible refine Kd.C_drewN ?_ _) | (with_reducible refine Kd.C_drew ?_))); (case side2 => exact HC0.out); rintro e w' ⟨rfl, ⟨nd, rfl⟩⟩; refine ⟨_, rfl, ?_⟩))
    go_ret
    exact ⟨by first | rfl | (simp [errW_none, errW_some] <;> rfl) | (simp [*, errW_none, errW_some] <;> rfl), by repeat (first | (with_reducible first | exact HB.out | apply below_alloc | apply pw_below_drewN | apply below_drew1) | exact HB.out)⟩
  · replace c3 := Bool.eq_false_iff.mpr c3
    subst c3
    have H1 : ((spec_DrawHorizon.f k l0).bind fun bt285 => ((spec_DrawDead.f k l0).bind fun bt289 => ((impl_Horizon.f k bt285.1 bt285.2).bind fun t295 => ((spec_Horizon.f k bt285.1 bt285.2).bind fun t296 => (if t295 = t296 then (if t295 = 0 then (some true) else (laws_FnUnseen.l0 k bt285.1 bt289.1 bt289.2.1 bt289.2.2.1 t295 0)) else (some false)))))) = some r := by rw [if_neg (show ¬ (false = true) by decide)] at H; exact H
    clear H
    have H := H1
    clear H1
    replace H := Option.bind_eq_some_iff.mp H
    obtain ⟨⟨t285, t286⟩, A40, H⟩ := H
    replace H : ((spec_DrawDead.f k l0).bind fun bt289 => ((impl_Horizon.f k t285 t286).bind fun t295 => ((spec_Horizon.f k t285 t286).bind fun t296 => (if t295 = t296 then (if t295 = 0 then (some true) else (laws_FnUnseen.l0 k t285 bt289.1 bt289.2.1 bt289.2.2.1 t295 0)) else (some false))))) = some r := H
    have A4 := Aside0.mk A40
    clear A40
    replace H := Option.bind_eq_some_iff.mp H
    obtain ⟨⟨t289, t290, t291, t292⟩, A50, H⟩ := H
    replace H : ((impl_Horizon.f k t285 t286).bind fun t295 => ((spec_Horizon.f k t285 t286).bind fun t296 => (if t295 = t296 then (if t295 = 0 then (some true) else (laws_FnUnseen.l0 k t285 t289 t290 t291 t295 0)) else (some false)))) = some r := H
    have A5 := Aside0.mk A50
    clear A50
    replace H := Option.bind_eq_some_iff.mp H
    obtain ⟨t295, A60, H⟩ := H
    replace H : ((spec_Horizon.f k t285 t286).bind fun t296 => (if t295 = t296 then (if t295 = 0 then (some true) else (laws_FnUnseen.l0 k t285 t289 t290 t291 t295 0)) else (some false))) = some r := H
    have A6 := Aside0.mk A60
    clear A60
    replace H := Option.bind_eq_some_iff.mp H
    obtain ⟨t296, A70, H⟩ := H
    replace H : (if t295 = t296 then (if t295 = 0 then (some true) else (laws_FnUnseen.l0 k t285 t289 t290 t291 t295 0)) else (some false)) = some r := H
    have A7 := Aside0.mk A70
    clear A70
    by_cases c8 : t295 = t296
    · rw [if_pos c8] at H
      have c8b0 : (t295 == t296) = true := beq_iff_eq.mpr c8
      have c8b1 : (t295 != t296) = false := bne_eq_false_iff_eq.mpr c8
      clear c8
      by_cases c9 : t295 = 0
      · rw [if_pos c9] at H
        have c9b0 : (t295 == 0) = true := beq_iff_eq.mpr c9
        have c9b1 : (t295 != 0) = false := bne_eq_false_iff_eq.mpr c9
        clear c9
        obtain rfl := Option.some.inj H
        go_enter Try.func3, Try.ntmps3
        go_wp2_with (first | ((with_reducible refine gate_callee (f := 5) rfl ?_); refine goesL_ (some 13) rfl rfl Try.func5 (by kernel_rfl) rfl #[.slice A0 l0.length c0] rfl (by (try simp only [List.map_toArray, List.map_cons, List.map_nil]); first | done | rfl | (simp only [List.length_drop, List.length_take]; rfl)) ?_; (with_reducible refine (laws_big.calls _ _ l0 false _ ?side1 ?side2 A2.out).mono ?_); (case side1 => repeat (first | exact HR0.out | (with_reducible refine Kd.C_alloc ?_ _) | (with_reducible refine Kd.C_drewN ?_ _) | (with_reducible refine Kd.C_drew ?_))); (case side2 => exact HC0.out); rintro e w' ⟨rfl, ⟨nd, rfl⟩⟩; refine ⟨_, rfl, ?_⟩) | ((with_reducible refine gate_callee (f := 6) rfl ?_); refine goesL_ (some 16) rfl rfl Try.func6 (by kernel_rfl) rfl #[.slice A0 l0.length c0] rfl (by (try simp only [List.map_toArray, List.map_cons, List.map_nil]); first | done | rfl | (simp only [List.length_drop, List.length_take]; rfl)) ?_; (with_reducible refine (spec_DrawHorizon.calls k _ _ l0 t285 t286 _ ?side1 ?side2 A4.out).mono ?_); (case side1 => repeat (first | exact HR0.out | (with_reducible refine Kd.C_alloc ?_ _) | (with_reducible refine Kd.C_drewN ?_ _) | (with_reducible refine Kd.C_drew ?_))); (case side2 => exact HC0.out); rintro e w10 ⟨v287, rfl, ho0, hb⟩; refine ⟨_, rfl, ?_⟩; have n0_ := Aside0.mk (Kd.S_lower ho0 (below_size (by repeat (first | (with_reducible first | exact HB.out | apply below_alloc | apply pw_below_drewN | apply below_drew1) | exact HB.out)))); have n1_ := Aside0.mk (below_step (by repeat (first | (with_reducible first | exact HB.out | apply below_alloc | apply pw_below_drewN | apply below_drew1) | exact HB.out)) hb); clear HB; have HO288 := n0_; have HB := n1_; clear n0_ n1_; (try clear hb); (try clear hb2); (try clear hk); (try clear hi); (try clear ho0)) | ((with_reducible refine gate_callee (f := 7) rfl ?_); refine goesL_ (some 21) rfl rfl Try.func7 (by kernel_rfl) rfl #[.slice A0 l0.length c0] rfl (by (try simp only [List.map_toArray, List.map_cons, List.map_nil]); first | done | rfl | (simp only [List.length_drop, List.length_take]; rfl)) ?_; (with_reducible refine (spec_DrawDead.calls k _ _ l0 t289 t290 t291 t292 _ ?side1 ?side2 A5.out).mono ?_); (case side1 => repeat (first | exact (Kd.C_below HR0.out HB.out) | (with_reducible refine Kd.C_alloc ?_ _) | (with_reducible refine Kd.C_drewN ?_ _) | (with_reducible refine Kd.C_drew ?_))); (case side2 => exact HC0.out); rintro e w11 ⟨v293, rfl, ho0, hb⟩; refine ⟨_, rfl, ?_⟩; have n0_ := Aside0.mk (Kd.S_elder' (by (with_reducible repeat (first | apply Kd.S_alloc | apply Kd.S_drewN | apply Kd.S_drew)); exact HO288.out) (Kd.R_base ho0) hb); have n1_ := Aside0.mk (Kd.R_lower ho0 (below_size (by repeat (first | (with_reducible first | exact HB.out | apply below_alloc | apply pw_below_drewN | apply below_drew1) | exact HB.out)))); have n2_ := Aside0.mk (below_step (by repeat (first | (with_reducible first | exact HB.out | apply below_alloc | apply pw_below_drewN | apply below_drew1) | exact HB.out)) hb); clear HO288; clear HB; have HO288 := n0_; have HO294 := n1_; have HB := n2_; clear n0_ n1_ n2_; (try clear hb); (try clear hb2); (try clear hk); (try clear hi); (try clear ho0); obtain ⟨Ao12, co12, eo12⟩ := Kd.S_slice HO288.out; subst eo12) | ((with_reducible refine gate_callee (f := 8) rfl ?_); refine goesL_ (some 28) rfl rfl Try.func8 (by kernel_rfl) rfl #[.slice Ao12 t285.length co12, .int .i64 t286] rfl (by (try simp only [List.map_toArray, List.map_cons, List.map_nil]); first | done | rfl | (simp only [List.length_drop, List.length_take]; rfl)) ?_; (with_reducible refine (impl_Horizon.calls k _ _ t285 t286 t295 _ ?side1 ?side2 A6.out).mono ?_); (case side1 => repeat (first | exact (Kd.S_reads' HO288.out).2.2 | (with_reducible refine Kd.C_alloc ?_ _) | (with_reducible refine Kd.C_drewN ?_ _) | (with_reducible refine Kd.C_drew ?_))); (case side2 => exact (Kd.S_reads' HO288.out).2.1); rintro e w13 ⟨rfl, hb⟩; refine ⟨_, rfl, ?_⟩; have n0_ := Aside0.mk (Kd.S_below (by (with_reducible repeat (first | apply Kd.S_alloc | apply Kd.S_drewN | apply Kd.S_drew)); exact HO288.out) hb); have n1_ := Aside0.mk (Kd.R_below (by (with_reducible repeat (first | apply Kd.R_alloc | apply Kd.R_drewN | apply Kd.R_drew)); exact HO294.out) hb); have n2_ := Aside0.mk (below_step (by repeat (first | (with_reducible first | exact HB.out | apply below_alloc | apply pw_below_drewN | apply below_drew1) | exact HB.out)) hb); clear HO288; clear HO294; clear HB; have HO288 := n0_; have HO294 := n1_; have HB := n2_; clear n0_ n1_ n2_; (try clear hb); (try clear hb2); (try clear hk); (try clear hi)) | ((with_reducible refine gate_callee (f := 9) rfl ?_); refine goesL_ (some 32) rfl rfl Try.func9 (by kernel_rfl) rfl #[.slice Ao12 t285.length co12, .int .i64 t286] rfl (by (try simp only [List.map_toArray, List.map_cons, List.map_nil]); first | done | rfl | (simp only [List.length_drop, List.length_take]; rfl)) ?_; (with_reducible refine (spec_Horizon.calls k _ _ t285 t286 t296 _ ?side1 ?side2 A7.out).mono ?_); (case side1 => repeat (first | exact (Kd.S_reads' HO288.out).2.2 | (with_reducible refine Kd.C_alloc ?_ _) | (with_reducible refine Kd.C_drewN ?_ _) | (with_reducible refine Kd.C_drew ?_))); (case side2 => exact (Kd.S_reads' HO288.out).2.1); rintro e w14 ⟨rfl, hb⟩; refine ⟨_, rfl, ?_⟩; have n0_ := Aside0.mk (Kd.S_below (by (with_reducible repeat (first | apply Kd.S_alloc | apply Kd.S_drewN | apply Kd.S_drew)); exact HO288.out) hb); have n1_ := Aside0.mk (Kd.R_below (by (with_reducible repeat (first | apply Kd.R_alloc | apply Kd.R_drewN | apply Kd.R_drew)); exact HO294.out) hb); have n2_ := Aside0.mk (below_step (by repeat (first | (with_reducible first | exact HB.out | apply below_alloc | apply pw_below_drewN | apply below_drew1) | exact HB.out)) hb); clear HO288; clear HO294; clear HB; have HO288 := n0_; have HO294 := n1_; have HB := n2_; clear n0_ n1_ n2_; (try clear hb); (try clear hb2); (try clear hk); (try clear hi)))
        go_ret
        exact ⟨by first | rfl | (simp [errW_none, errW_some] <;> rfl) | (simp [*, errW_none, errW_some] <;> rfl), by repeat (first | (with_reducible first | exact HB.out | apply below_alloc | apply pw_below_drewN | apply below_drew1) | exact HB.out)⟩
      · rw [if_neg c9] at H
        have c9b0 : (t295 == 0) = false := beq_eq_false_iff_ne.mpr c9
        have c9b1 : (t295 != 0) = true := bne_iff_ne.mpr c9
        have H' := Aside0.mk H
        clear H
        go_enter Try.func3, Try.ntmps3
        go_wp2_with (first | ((with_reducible refine gate_callee (f := 5) rfl ?_); refine goesL_ (some 13) rfl rfl Try.func5 (by kernel_rfl) rfl #[.slice A0 l0.length c0] rfl (by (try simp only [List.map_toArray, List.map_cons, List.map_nil]); first | done | rfl | (simp only [List.length_drop, List.length_take]; rfl)) ?_; (with_reducible refine (laws_big.calls _ _ l0 false _ ?side1 ?side2 A2.out).mono ?_); (case side1 => repeat (first | exact HR0.out | (with_reducible refine Kd.C_alloc ?_ _) | (with_reducible refine Kd.C_drewN ?_ _) | (with_reducible refine Kd.C_drew ?_))); (case side2 => exact HC0.out); rintro e w' ⟨rfl, ⟨nd, rfl⟩⟩; refine ⟨_, rfl, ?_⟩) | ((with_reducible refine gate_callee (f := 6) rfl ?_); refine goesL_ (some 16) rfl rfl Try.func6 (by kernel_rfl) rfl #[.slice A0 l0.length c0] rfl (by (try simp only [List.map_toArray, List.map_cons, List.map_nil]); first | done | rfl | (simp only [List.length_drop, List.length_take]; rfl)) ?_; (with_reducible refine (spec_DrawHorizon.calls k _ _ l0 t285 t286 _ ?side1 ?side2 A4.out).mono ?_); (case side1 => repeat (first | exact HR0.out | (with_reducible refine Kd.C_alloc ?_ _) | (with_reducible refine Kd.C_drewN ?_ _) | (with_reducible refine Kd.C_drew ?_))); (case side2 => exact HC0.out); rintro e w15 ⟨v287, rfl, ho0, hb⟩; refine ⟨_, rfl, ?_⟩; have n0_ := Aside0.mk (Kd.S_lower ho0 (below_size (by repeat (first | (with_reducible first | exact HB.out | apply below_alloc | apply pw_below_drewN | apply below_drew1) | exact HB.out)))); have n1_ := Aside0.mk (below_step (by repeat (first | (with_reducible first | exact HB.out | apply below_alloc | apply pw_below_drewN | apply below_drew1) | exact HB.out)) hb); clear HB; have HO288 := n0_; have HB := n1_; clear n0_ n1_; (try clear hb); (try clear hb2); (try clear hk); (try clear hi); (try clear ho0)) | ((with_reducible refine gate_callee (f := 7) rfl ?_); refine goesL_ (some 21) rfl rfl Try.func7 (by kernel_rfl) rfl #[.slice A0 l0.length c0] rfl (by (try simp only [List.map_toArray, List.map_cons, List.map_nil]); first | done | rfl | (simp only [List.length_drop, List.length_take]; rfl)) ?_; (with_reducible refine (spec_DrawDead.calls k _ _ l0 t289 t290 t291 t292 _ ?side1 ?side2 A5.out).mono ?_); (case side1 => repeat (first | exact (Kd.C_below HR0.out HB.out) | (with_reducible refine Kd.C_alloc ?_ _) | (with_reducible refine Kd.C_drewN ?_ _) | (with_reducible refine Kd.C_drew ?_))); (case side2 => exact HC0.out); rintro e w16 ⟨v293, rfl, ho0, hb⟩; refine ⟨_, rfl, ?_⟩; have n0_ := Aside0.mk (Kd.S_elder' (by (with_reducible repeat (first | apply Kd.S_alloc | apply Kd.S_drewN | apply Kd.S_drew)); exact HO288.out) (Kd.R_base ho0) hb); have n1_ := Aside0.mk (Kd.R_lower ho0 (below_size (by repeat (first | (with_reducible first | exact HB.out | apply below_alloc | apply pw_below_drewN | apply below_drew1) | exact HB.out)))); have n2_ := Aside0.mk (below_step (by repeat (first | (with_reducible first | exact HB.out | apply below_alloc | apply pw_below_drewN | apply below_drew1) | exact HB.out)) hb); clear HO288; clear HB; have HO288 := n0_; have HO294 := n1_; have HB := n2_; clear n0_ n1_ n2_; (try clear hb); (try clear hb2); (try clear hk); (try clear hi); (try clear ho0); obtain ⟨Ao17, co17, eo17⟩ := Kd.S_slice HO288.out; subst eo17) | ((with_reducible refine gate_callee (f := 8) rfl ?_); refine goesL_ (some 28) rfl rfl Try.func8 (by kernel_rfl) rfl #[.slice Ao17 t285.length co17, .int .i64 t286] rfl (by (try simp only [List.map_toArray, List.map_cons, List.map_nil]); first | done | rfl | (simp only [List.length_drop, List.length_take]; rfl)) ?_; (with_reducible refine (impl_Horizon.calls k _ _ t285 t286 t295 _ ?side1 ?side2 A6.out).mono ?_); (case side1 => repeat (first | exact (Kd.S_reads' HO288.out).2.2 | (with_reducible refine Kd.C_alloc ?_ _) | (with_reducible refine Kd.C_drewN ?_ _) | (with_reducible refine Kd.C_drew ?_))); (case side2 => exact (Kd.S_reads' HO288.out).2.1); rintro e w18 ⟨rfl, hb⟩; refine ⟨_, rfl, ?_⟩; have n0_ := Aside0.mk (Kd.S_below (by (with_reducible repeat (first | apply Kd.S_alloc | apply Kd.S_drewN | apply Kd.S_drew)); exact HO288.out) hb); have n1_ := Aside0.mk (Kd.R_below (by (with_reducible repeat (first | apply Kd.R_alloc | apply Kd.R_drewN | apply Kd.R_drew)); exact HO294.out) hb); have n2_ := Aside0.mk (below_step (by repeat (first | (with_reducible first | exact HB.out | apply below_alloc | apply pw_below_drewN | apply below_drew1) | exact HB.out)) hb); clear HO288; clear HO294; clear HB; have HO288 := n0_; have HO294 := n1_; have HB := n2_; clear n0_ n1_ n2_; (try clear hb); (try clear hb2); (try clear hk); (try clear hi)) | ((with_reducible refine gate_callee (f := 9) rfl ?_); refine goesL_ (some 32) rfl rfl Try.func9 (by kernel_rfl) rfl #[.slice Ao17 t285.length co17, .int .i64 t286] rfl (by (try simp only [List.map_toArray, List.map_cons, List.map_nil]); first | done | rfl | (simp only [List.length_drop, List.length_take]; rfl)) ?_; (with_reducible refine (spec_Horizon.calls k _ _ t285 t286 t296 _ ?side1 ?side2 A7.out).mono ?_); (case side1 => repeat (first | exact (Kd.S_reads' HO288.out).2.2 | (with_reducible refine Kd.C_alloc ?_ _) | (with_reducible refine Kd.C_drewN ?_ _) | (with_reducible refine Kd.C_drew ?_))); (case side2 => exact (Kd.S_reads' HO288.out).2.1); rintro e w19 ⟨rfl, hb⟩; refine ⟨_, rfl, ?_⟩; have n0_ := Aside0.mk (Kd.S_below (by (with_reducible repeat (first | apply Kd.S_alloc | apply Kd.S_drewN | apply Kd.S_drew)); exact HO288.out) hb); have n1_ := Aside0.mk (Kd.R_below (by (with_reducible repeat (first | apply Kd.R_alloc | apply Kd.R_drewN | apply Kd.R_drew)); exact HO294.out) hb); have n2_ := Aside0.mk (below_step (by repeat (first | (with_reducible first | exact HB.out | apply below_alloc | apply pw_below_drewN | apply below_drew1) | exact HB.out)) hb); clear HO288; clear HO294; clear HB; have HO288 := n0_; have HO294 := n1_; have HB := n2_; clear n0_ n1_ n2_; (try clear hb); (try clear hb2); (try clear hk); (try clear hi)))
        go_loopg [10] k (fun kq v10 w' => ∃ (x10_1 : Int), v10 = .int .i64 x10_1 ∧ Aside0 (laws_FnUnseen.l0 kq t285 t289 t290 t291 t295 x10_1 = some r) ∧ Aside0 (kq ≤ k) ∧ Aside0 (Kd.S k32 32 w' w.heap.size (fun k_ => some k_ ≠ (v293 : Value).ownBlock) (.slice Ao17 t285.length co17) t285) ∧ Aside0 (Kd.R (Kd.int .i64) 3 w' w.heap.size (fun _ => True) v293 t289) ∧ Aside0 (Below w.heap.size w w'))
        case atStart => exact ⟨(0), (by first | rfl | (simp; done) | (simp [*]; done)), H', ⟨Nat.le_refl _⟩, ⟨by (with_reducible repeat (first | apply Kd.S_alloc | apply Kd.S_drewN | apply Kd.S_drew)); exact Kd.S_mono HO288.out (fun _ hk => hk.2)⟩, ⟨by (with_reducible repeat (first | apply Kd.R_alloc | apply Kd.R_drewN | apply Kd.R_drew)); exact HO294.out⟩, ⟨by repeat (first | (with_reducible first | exact HB.out | apply below_alloc | apply pw_below_drewN | apply below_drew1) | exact HB.out)⟩⟩
        case round =>
          clear H'
          try clear p2
          try clear c3
          try clear c5
          try clear c6
          try clear c7
          try clear c8
          try clear c8b0
          try clear c8b1
          try clear c9
          try clear c9b0
          try clear c9b1
          obtain ⟨x10_1, rfl, HA, HK1, HO_3, HO_5, HB⟩ := hrel
          cases gk with
          | zero => exact absurd HA.out (by simp [laws_FnUnseen.l0])
          | succ k1 =>
            have H := HA.out
            clear HA
            simp only [laws_FnUnseen.l0] at H
            by_cases c20 : x10_1 < (t285.length : Int)
            · rw [if_pos c20] at H
              have c20b0 : decide (x10_1 < (t285.length : Int)) = true := decide_eq_true c20
              clear c20
              by_cases c21 : 0 ≤ x10_1
              · rw [if_pos c21] at H
                have c21b0 : decide (0 ≤ x10_1) = true := decide_eq_true c21
                clear c21
                by_cases c22 : t295 > ((rd_T32 t285 x10_1).f0)
                · rw [if_pos c22] at H
                  have c22b0 : decide (((rd_T32 t285 x10_1).f0) < t295) = true := decide_eq_true c22
                  clear c22
                  exact absurd (Option.some.inj H) (by rw [hrt]; decide)
                · rw [if_neg c22] at H
                  have c22b0 : decide (((rd_T32 t285 x10_1).f0) < t295) = false := decide_eq_false c22
                  clear c22
                  replace H := Option.bind_eq_some_iff.mp H
                  obtain ⟨t298, A230, H⟩ := H
                  replace H : (if t298 = true then (if ((rd_T32 t285 x10_1).f0) = t290 then (laws_FnUnseen.j1 k1 t285 t289 t290 t291 t295 x10_1 t298 false) else ((impl_Visible.f k1 ((rd_T32 t285 x10_1).f0) ((rd_T32 t285 x10_1).f1) t289 t290 t291).bind fun t301 => (laws_FnUnseen.j1 k1 t285 t289 t290 t291 t295 x10_1 t298 t301))) else (laws_FnUnseen.j1 k1 t285 t289 t290 t291 t295 x10_1 t298 false)) = some r := H
                  have A23 := Aside0.mk A230
                  clear A230
                  have HC24 := Aside0.mk H
                  clear H
                  have p297 : 0 ≤ (x10_1 : Int) := of_decide_eq_true (by first | (with_reducible assumption) | assumption)
                  have q297 : x10_1 < (t285.length : Int) := of_decide_eq_true (by first | (with_reducible assumption) | assumption)
                  obtain ⟨ad297, A297_1, c297_1, e297, hx297_0, hx297_1, hl297_1, hi297_1⟩ := at_T32 (Kd.S_reads' HO_3.out).2.2 x10_1 p297 q297
                  cases e297
                  obtain ⟨ce297, hce297, hMe297, hcc297⟩ := Kd.S_get HO_3.out z32 x10_1 p297 (by first | exact q297 | exact of_decide_eq_true (by first | (with_reducible assumption) | assumption) | (have e_ := (Kd.S_reads' HO_3.out).1; omega))
                  obtain ⟨ve297_1, rfl, ge297_1⟩ := k32_openM hMe297
                  have hv297_1 := hcc297 1 _ rfl
                  rw [add_field _ _ 1 (by omega)] at hv297_1
                  replace hv297_1 := Option.some.inj (hv297_1.symm.trans hx297_1)
                  rw [hv297_1] at ge297_1
                  have HL297_1 := Aside0.mk (show Kd.R (Kd.int .i64) 3 _ _ _ _ ((rd_T32 t285 x10_1).f1) from ge297_1)
                  clear hv297_1 ge297_1
                  clear hcc297 hce297
                  have HR297_1 := Aside0.mk hi297_1
                  have HC297_1 := Aside0.mk hl297_1
                  clear hi297_1 hl297_1
                  replace p297 := eq_true p297
                  replace q297 := eq_true q297
                  obtain ⟨Ao25, co25, eo25⟩ := Kd.R_slice HO_5.out
                  subst eo25
                  go_upto_region 16 with (first | ((with_reducible refine gate_callee (f := 10) rfl ?_); refine goesL_ (some 53) rfl rfl Try.func10 (by kernel_rfl) rfl #[.slice Ao25 t289.length co25, .int .i64 t290, .int .i64 t291, .int .i64 t295] rfl (by (try simp only [List.map_toArray, List.map_cons, List.map_nil]); first | done | rfl | (simp only [List.length_drop, List.length_take]; rfl)) ?_; (with_reducible refine (impl_Dead.calls _ _ t289 t290 t291 t295 t298 _ ?side1 ?side2 A23.out).mono ?_); (case side1 => repeat (first | exact (Kd.R_reads' HO_5.out).2.2 | (with_reducible refine Kd.C_alloc ?_ _) | (with_reducible refine Kd.C_drewN ?_ _) | (with_reducible refine Kd.C_drew ?_))); (case side2 => exact (Kd.R_reads' HO_5.out).2.1); rintro e w' ⟨rfl, ⟨nd, rfl⟩⟩; refine ⟨_, rfl, ?_⟩))
                  (try simp only [Act.put, List.setIfInBounds_toArray, List.set_cons_zero, List.set_cons_succ])
                  go_cut [73] (fun v73 wc => ∃ (kq : Nat) (x73_23 : Bool), v73 = .bool x73_23 ∧ Aside0 (laws_FnUnseen.j1 kq t285 t289 t290 t291 t295 x10_1 t298 x73_23 = some r) ∧ Aside0 (kq ≤ k1) ∧ Aside0 (Kd.S k32 32 wc w.heap.size (fun k_ => some k_ ≠ ((.slice Ao25 t289.length co25) : Value).ownBlock) (.slice (some ad297) t285.length co17) t285) ∧ Aside0 (Kd.R (Kd.int .i64) 3 wc w.heap.size (fun _ => True) (.slice Ao25 t289.length co25) t289) ∧ Aside0 (Kd.C (Kd.int .i64) wc A297_1 ((rd_T32 t285 x10_1).f1).length ((rd_T32 t285 x10_1).f1)) ∧ Aside0 (Below w.heap.size w wc))
                  case first =>
                    have H := HC24.out
                    clear HC24
                    by_cases c26 : t298 = true
                    · subst c26
                      have H1 : (if ((rd_T32 t285 x10_1).f0) = t290 then (laws_FnUnseen.j1 k1 t285 t289 t290 t291 t295 x10_1 true false) else ((impl_Visible.f k1 ((rd_T32 t285 x10_1).f0) ((rd_T32 t285 x10_1).f1) t289 t290 t291).bind fun t301 => (laws_FnUnseen.j1 k1 t285 t289 t290 t291 t295 x10_1 true t301))) = some r := by rw [if_pos rfl] at H; exact H
                      clear H
                      have H := H1
                      clear H1
                      by_cases c27 : ((rd_T32 t285 x10_1).f0) = t290
                      · rw [if_pos c27] at H
                        have c27b0 : (((rd_T32 t285 x10_1).f0) == t290) = true := beq_iff_eq.mpr c27
                        have c27b1 : (((rd_T32 t285 x10_1).f0) != t290) = false := bne_eq_false_iff_eq.mpr c27
                        clear c27
                        (first | rw [c27b0] | (simp only [i64_w, i32_w]; rw [c27b0]) | skip)
                        have H' := Aside0.mk H
                        clear H
                        have p299 : 0 ≤ (x10_1 : Int) := of_decide_eq_true (by first | (with_reducible assumption) | assumption)
                        have q299 : x10_1 < (t285.length : Int) := of_decide_eq_true (by first | (with_reducible assumption) | assumption)
                        obtain ⟨ad299, A299_1, c299_1, e299, hx299_0, hx299_1, hl299_1, hi299_1⟩ := at_T32 (Kd.S_reads' HO_3.out).2.2 x10_1 p299 q299
                        obtain rfl : ad297 = ad299 := (by injection e299)
                        obtain ⟨ce299, hce299, hMe299, hcc299⟩ := Kd.S_get HO_3.out z32 x10_1 p299 (by first | exact q299 | exact of_decide_eq_true (by first | (with_reducible assumption) | assumption) | (have e_ := (Kd.S_reads' HO_3.out).1; omega))
                        obtain ⟨ve299_1, rfl, ge299_1⟩ := k32_openM hMe299
                        have hv299_1 := hcc299 1 _ rfl
                        rw [add_field _ _ 1 (by omega)] at hv299_1
                        replace hv299_1 := Option.some.inj (hv299_1.symm.trans hx299_1)
                        rw [hv299_1] at ge299_1
                        have HL299_1 := Aside0.mk (show Kd.R (Kd.int .i64) 3 _ _ _ _ ((rd_T32 t285 x10_1).f1) from ge299_1)
                        clear hv299_1 ge299_1
                        clear hcc299 hce299
                        have HR299_1 := Aside0.mk hi299_1
                        have HC299_1 := Aside0.mk hl299_1
                        clear hi299_1 hl299_1
                        replace p299 := eq_true p299
                        replace q299 := eq_true q299
                        go_wp2
                        go_meet
                        case rel => exact ⟨_, (false), (by first | rfl | (simp; done) | (simp [*]; done)), H', ⟨by have := HK1.out; first | omega | exact Nat.le_refl _⟩, ⟨by (with_reducible repeat (first | apply Kd.S_alloc | apply Kd.S_drewN | apply Kd.S_drew)); exact HO_3.out⟩, ⟨by (with_reducible repeat (first | apply Kd.R_alloc | apply Kd.R_drewN | apply Kd.R_drew)); exact HO_5.out⟩, ⟨by repeat (first | (with_reducible exact HR297_1.out) | (with_reducible refine Kd.C_alloc ?_ _) | (with_reducible refine Kd.C_drewN ?_ _) | (with_reducible refine Kd.C_drew ?_) | exact HR297_1.out)⟩, ⟨by repeat (first | (with_reducible first | exact HB.out | apply below_alloc | apply pw_below_drewN | apply below_drew1) | exact HB.out)⟩⟩
                      · rw [if_neg c27] at H
                        have c27b0 : (((rd_T32 t285 x10_1).f0) == t290) = false := beq_eq_false_iff_ne.mpr c27
                        have c27b1 : (((rd_T32 t285 x10_1).f0) != t290) = true := bne_iff_ne.mpr c27
                        (first | rw [c27b0] | (simp only [i64_w, i32_w]; rw [c27b0]) | skip)
                        replace H := Option.bind_eq_some_iff.mp H
                        obtain ⟨t301, A280, H⟩ := H
                        replace H : (laws_FnUnseen.j1 k1 t285 t289 t290 t291 t295 x10_1 true t301) = some r := H
                        have A28 := Aside0.mk A280
                        clear A280
                        have H' := Aside0.mk H
                        clear H
                        have p299 : 0 ≤ (x10_1 : Int) := of_decide_eq_true (by first | (with_reducible assumption) | assumption)
                        have q299 : x10_1 < (t285.length : Int) := of_decide_eq_true (by first | (with_reducible assumption) | assumption)
                        obtain ⟨ad299, A299_1, c299_1, e299, hx299_0, hx299_1, hl299_1, hi299_1⟩ := at_T32 (Kd.S_reads' HO_3.out).2.2 x10_1 p299 q299
                        obtain rfl : ad297 = ad299 := (by injection e299)
                        obtain ⟨ce299, hce299, hMe299, hcc299⟩ := Kd.S_get HO_3.out z32 x10_1 p299 (by first | exact q299 | exact of_decide_eq_true (by first | (with_reducible assumption) | assumption) | (have e_ := (Kd.S_reads' HO_3.out).1; omega))
                        obtain ⟨ve299_1, rfl, ge299_1⟩ := k32_openM hMe299
                        have hv299_1 := hcc299 1 _ rfl
                        rw [add_field _ _ 1 (by omega)] at hv299_1
                        replace hv299_1 := Option.some.inj (hv299_1.symm.trans hx299_1)
                        rw [hv299_1] at ge299_1
                        have HL299_1 := Aside0.mk (show Kd.R (Kd.int .i64) 3 _ _ _ _ ((rd_T32 t285 x10_1).f1) from ge299_1)
                        clear hv299_1 ge299_1
                        clear hcc299 hce299
                        have HR299_1 := Aside0.mk hi299_1
                        have HC299_1 := Aside0.mk hl299_1
                        clear hi299_1 hl299_1
                        replace p299 := eq_true p299
                        replace q299 := eq_true q299
                        have p300 : 0 ≤ (x10_1 : Int) := of_decide_eq_true (by first | (with_reducible assumption) | assumption)
                        have q300 : x10_1 < (t285.length : Int) := of_decide_eq_true (by first | (with_reducible assumption) | assumption)
                        obtain ⟨ad300, A300_1, c300_1, e300, hx300_0, hx300_1, hl300_1, hi300_1⟩ := at_T32 (Kd.S_reads' HO_3.out).2.2 x10_1 p300 q300
                        obtain rfl : ad297 = ad300 := (by injection e300)
                        obtain ⟨ce300, hce300, hMe300, hcc300⟩ := Kd.S_get HO_3.out z32 x10_1 p300 (by first | exact q300 | exact of_decide_eq_true (by first | (with_reducible assumption) | assumption) | (have e_ := (Kd.S_reads' HO_3.out).1; omega))
                        obtain ⟨ve300_1, rfl, ge300_1⟩ := k32_openM hMe300
                        have hv300_1 := hcc300 1 _ rfl
                        rw [add_field _ _ 1 (by omega)] at hv300_1
                        replace hv300_1 := Option.some.inj (hv300_1.symm.trans hx300_1)
                        rw [hv300_1] at ge300_1
                        have HL300_1 := Aside0.mk (show Kd.R (Kd.int .i64) 3 _ _ _ _ ((rd_T32 t285 x10_1).f1) from ge300_1)
                        clear hv300_1 ge300_1
                        clear hcc300 hce300
                        have HR300_1 := Aside0.mk hi300_1
                        have HC300_1 := Aside0.mk hl300_1
                        clear hi300_1 hl300_1
                        replace p300 := eq_true p300
                        replace q300 := eq_true q300
                        have ea_ := Option.some.inj (hx299_1.symm.trans hx300_1)
                        injection ea_ with ea_ en_ ec_
                        subst ea_
                        subst ec_
                        clear en_
                        have ea_ := Option.some.inj (hx297_1.symm.trans hx299_1)
                        injection ea_ with ea_ en_ ec_
                        subst ea_
                        subst ec_
                        clear en_
                        go_wp2_with (first | (go_at_call 11; (with_reducible refine (impl_Visible.calls k1 ((rd_T32 t285 x10_1).f0) _ _ ((rd_T32 t285 x10_1).f1) _ _ t289 t290 t291 t301 _ ?side1 ?side2 ?side3 ?side4 A28.out).mono ?_); (case side1 => repeat (first | exact (by repeat (first | (with_reducible exact HR300_1.out) | (with_reducible refine Kd.C_alloc ?_ _) | (with_reducible refine Kd.C_drewN ?_ _) | (with_reducible refine Kd.C_drew ?_) | exact HR300_1.out)) | (with_reducible refine Kd.C_alloc ?_ _) | (with_reducible refine Kd.C_drewN ?_ _) | (with_reducible refine Kd.C_drew ?_))); (case side2 => exact HC300_1.out); (case side3 => repeat (first | exact (Kd.R_reads' HO_5.out).2.2 | (with_reducible refine Kd.C_alloc ?_ _) | (with_reducible refine Kd.C_drewN ?_ _) | (with_reducible refine Kd.C_drew ?_))); (case side4 => exact (Kd.R_reads' HO_5.out).2.1); rintro e w29 ⟨rfl, hb⟩; have n0_ := Aside0.mk (Kd.S_below (by (with_reducible repeat (first | apply Kd.S_alloc | apply Kd.S_drewN | apply Kd.S_drew)); exact HO_3.out) hb); have n1_ := Aside0.mk (Kd.R_below (by (with_reducible repeat (first | apply Kd.R_alloc | apply Kd.R_drewN | apply Kd.R_drew)); exact HO_5.out) hb); have n2_ := Aside0.mk (Kd.R_below (by (with_reducible repeat (first | apply Kd.R_alloc | apply Kd.R_drewN | apply Kd.R_drew)); exact HL297_1.out) hb); have n3_ := Aside0.mk (Kd.R_below (by (with_reducible repeat (first | apply Kd.R_alloc | apply Kd.R_drewN | apply Kd.R_drew)); exact HL299_1.out) hb); have n4_ := Aside0.mk (Kd.R_below (by (with_reducible repeat (first | apply Kd.R_alloc | apply Kd.R_drewN | apply Kd.R_drew)); exact HL300_1.out) hb); have n5_ := Aside0.mk (Kd.C_below (by repeat (first | (with_reducible exact HR297_1.out) | (with_reducible refine Kd.C_alloc ?_ _) | (with_reducible refine Kd.C_drewN ?_ _) | (with_reducible refine Kd.C_drew ?_) | exact HR297_1.out)) hb); have n6_ := Aside0.mk (Kd.C_below (by repeat (first | (with_reducible exact HR299_1.out) | (with_reducible refine Kd.C_alloc ?_ _) | (with_reducible refine Kd.C_drewN ?_ _) | (with_reducible refine Kd.C_drew ?_) | exact HR299_1.out)) hb); have n7_ := Aside0.mk (Kd.C_below (by repeat (first | (with_reducible exact HR300_1.out) | (with_reducible refine Kd.C_alloc ?_ _) | (with_reducible refine Kd.C_drewN ?_ _) | (with_reducible refine Kd.C_drew ?_) | exact HR300_1.out)) hb); have n8_ := Aside0.mk (below_step (by repeat (first | (with_reducible first | exact HB.out | apply below_alloc | apply pw_below_drewN | apply below_drew1) | exact HB.out)) hb); clear HO_3; clear HO_5; clear HL297_1; clear HL299_1; clear HL300_1; clear HR297_1; clear HR299_1; clear HR300_1; clear HB; have HO_3 := n0_; have HO_5 := n1_; have HL297_1 := n2_; have HL299_1 := n3_; have HL300_1 := n4_; have HR297_1 := n5_; have HR299_1 := n6_; have HR300_1 := n7_; have HB := n8_; clear n0_ n1_ n2_ n3_ n4_ n5_ n6_ n7_ n8_; (try clear hb); (try clear hb2); (try clear hk); (try clear hi)))
                        go_meet
                        case rel => exact ⟨_, (t301), (by first | rfl | (simp; done) | (simp [*]; done)), H', ⟨by have := HK1.out; first | omega | exact Nat.le_refl _⟩, ⟨by (with_reducible repeat (first | apply Kd.S_alloc | apply Kd.S_drewN | apply Kd.S_drew)); exact HO_3.out⟩, ⟨by (with_reducible repeat (first | apply Kd.R_alloc | apply Kd.R_drewN | apply Kd.R_drew)); exact HO_5.out⟩, ⟨by repeat (first | (with_reducible exact HR297_1.out) | (with_reducible refine Kd.C_alloc ?_ _) | (with_reducible refine Kd.C_drewN ?_ _) | (with_reducible refine Kd.C_drew ?_) | exact HR297_1.out)⟩, ⟨by repeat (first | (with_reducible first | exact HB.out | apply below_alloc | apply pw_below_drewN | apply below_drew1) | exact HB.out)⟩⟩
                    · replace c26 := Bool.eq_false_iff.mpr c26
                      subst c26
                      have H1 : (laws_FnUnseen.j1 k1 t285 t289 t290 t291 t295 x10_1 false false) = some r := by rw [if_neg (show ¬ (false = true) by decide)] at H; exact H
                      clear H
                      have H := H1
                      clear H1
                      have H' := Aside0.mk H
                      clear H
                      go_wp2
                      go_meet
                      case rel => exact ⟨_, (false), (by first | rfl | (simp; done) | (simp [*]; done)), H', ⟨by have := HK1.out; first | omega | exact Nat.le_refl _⟩, ⟨by (with_reducible repeat (first | apply Kd.S_alloc | apply Kd.S_drewN | apply Kd.S_drew)); exact HO_3.out⟩, ⟨by (with_reducible repeat (first | apply Kd.R_alloc | apply Kd.R_drewN | apply Kd.R_drew)); exact HO_5.out⟩, ⟨by repeat (first | (with_reducible exact HR297_1.out) | (with_reducible refine Kd.C_alloc ?_ _) | (with_reducible refine Kd.C_drewN ?_ _) | (with_reducible refine Kd.C_drew ?_) | exact HR297_1.out)⟩, ⟨by repeat (first | (with_reducible first | exact HB.out | apply below_alloc | apply pw_below_drewN | apply below_drew1) | exact HB.out)⟩⟩
                  case rest =>
                    clear HC24
                    try clear c1
                    try clear c2
                    try clear p2
                    try clear q2
                    try clear hx2
                    try clear c3
                    try clear p3
                    try clear q3
                    try clear hx3
                    try clear c5
                    try clear c6
                    try clear c7
                    try clear c8
                    try clear c8b0
                    try clear c8b1
                    try clear c9
                    try clear c9b0
                    try clear c9b1
                    try clear c10
                    try clear c20
                    try clear c20b0
                    try clear c21
                    try clear c21b0
                    try clear c22
                    try clear c22b0
                    try clear c26
                    try clear c27
                    try clear c27b0
                    try clear c27b1
                    try clear c29
                    try clear p29
                    try clear q29
                    try clear hx29
                    try clear hx297_0
                    try clear hx297_1
                    try clear hx299_0
                    try clear hx299_1
                    try clear hx300_0
                    try clear hx300_1
                    try clear p2
                    try clear p297
                    try clear p299
                    try clear p300
                    try clear q297
                    try clear q299
                    try clear q300
                    obtain ⟨kq, x73_23, rfl, HA, HJ23, HO_3, HO_5, HR297_1, HB⟩ := hcut
                    cases kq with
                    | zero => exact absurd HA.out (by simp [laws_FnUnseen.j1])
                    | succ kj23 =>
                      have H := HA.out
                      clear HA
                      simp only [laws_FnUnseen.j1] at H
                      by_cases c30 : x73_23 = true
                      · subst c30
                        have H1 : (some false) = some r := by rw [if_pos rfl] at H; exact H
                        clear H
                        have H := H1
                        clear H1
                        exact absurd (Option.some.inj H) (by rw [hrt]; decide)
                      · replace c30 := Bool.eq_false_iff.mpr c30
                        subst c30
                        have H1 : ((spec_Dead.f t289 t290 t291 t295).bind fun t302 => (if (t302 != t298) = true then (some false) else (if 0 ≤ x10_1 then (if x10_1 < (t285.length : Int) then ((impl_Sees.f kj23 ((rd_T32 t285 x10_1).f0) ((rd_T32 t285 x10_1).f1) t289 ((rd_T32 t285 x10_1).f0)).bind fun t305 => (if t305 = true then (laws_FnUnseen.l0 kj23 t285 t289 t290 t291 t295 (wrap64 (x10_1 + 1))) else (some false))) else (none)) else (none)))) = some r := by rw [if_neg (show ¬ (false = true) by decide)] at H; exact H
                        clear H
                        have H := H1
                        clear H1
                        replace H := Option.bind_eq_some_iff.mp H
                        obtain ⟨t302, A310, H⟩ := H
                        replace H : (if (t302 != t298) = true then (some false) else (if 0 ≤ x10_1 then (if x10_1 < (t285.length : Int) then ((impl_Sees.f kj23 ((rd_T32 t285 x10_1).f0) ((rd_T32 t285 x10_1).f1) t289 ((rd_T32 t285 x10_1).f0)).bind fun t305 => (if t305 = true then (laws_FnUnseen.l0 kj23 t285 t289 t290 t291 t295 (wrap64 (x10_1 + 1))) else (some false))) else (none)) else (none))) = some r := H
                        have A31 := Aside0.mk A310
                        clear A310
                        by_cases c32 : (t302 != t298) = true
                        · rw [if_pos c32] at H
                          have c32b0 : (t302 != t298) = true := c32
                          (try (have c32b1 : decide (t302 = t298) = false := by simpa using c32))
                          (try (have c32b2 : (t302 == t298) = false := by simpa using c32))
                          (try (have c32b3 : ¬ (t302 = t298) := by simpa using c32))
                          (try (have c32b4 : (!t302 == t298) = true := by have h_ := c32; cases t302 <;> simp at h_ ⊢ <;> first | done | omega | exact List.length_pos_iff.2 h_ | simp_all))
                          clear c32
                          exact absurd (Option.some.inj H) (by rw [hrt]; decide)
                        · rw [if_neg c32] at H
                          have c32b0 : (t302 != t298) = false := by simpa using c32
                          (try (have c32b1 : decide (t302 = t298) = true := by simpa using c32))
                          (try (have c32b2 : (t302 == t298) = true := by simpa using c32))
                          (try (have c32b3 : (!t302 == t298) = false := by have h_ := c32; cases t302 <;> simp at h_ ⊢ <;> first | done | omega | exact List.length_pos_iff.2 h_ | simp_all))
                          clear c32
                          by_cases c33 : 0 ≤ x10_1
                          · rw [if_pos c33] at H
                            have c33b0 : decide (0 ≤ x10_1) = true := decide_eq_true c33
                            clear c33
                            by_cases c34 : x10_1 < (t285.length : Int)
                            · rw [if_pos c34] at H
                              have c34b0 : decide (x10_1 < (t285.length : Int)) = true := decide_eq_true c34
                              clear c34
                              replace H := Option.bind_eq_some_iff.mp H
                              obtain ⟨t305, A350, H⟩ := H
                              replace H : (if t305 = true then (laws_FnUnseen.l0 kj23 t285 t289 t290 t291 t295 (wrap64 (x10_1 + 1))) else (some false)) = some r := H
                              have A35 := Aside0.mk A350
                              clear A350
                              by_cases c36 : t305 = true
                              · subst c36
                                have H1 : (laws_FnUnseen.l0 kj23 t285 t289 t290 t291 t295 (wrap64 (x10_1 + 1))) = some r := by rw [if_pos rfl] at H; exact H
                                clear H
                                have H := H1
                                clear H1
                                have H' := Aside0.mk H
                                clear H
                                try go_wp2
                                have n0_ := Aside0.mk (Kd.S_drew HO_3.out)
                                have n1_ := Aside0.mk (Kd.R_drew HO_5.out)
                                have n2_ := Aside0.mk (Kd.C_drew HR297_1.out)
                                have n3_ := Aside0.mk (below_drew1 HB.out)
                                clear HO_3
                                clear HO_5
                                clear HR297_1
                                clear HB
                                have HO_3 := n0_
                                have HO_5 := n1_
                                have HR297_1 := n2_
                                have HB := n3_
                                clear n0_ n1_ n2_ n3_
                                have p303 : 0 ≤ (x10_1 : Int) := of_decide_eq_true (by first | (with_reducible assumption) | assumption)
                                have q303 : x10_1 < (t285.length : Int) := of_decide_eq_true (by first | (with_reducible assumption) | assumption)
                                obtain ⟨ad303, A303_1, c303_1, e303, hx303_0, hx303_1, hl303_1, hi303_1⟩ := at_T32 (Kd.S_reads' HO_3.out).2.2 x10_1 p303 q303
                                obtain rfl : ad297 = ad303 := (by injection e303)
                                obtain ⟨ce303, hce303, hMe303, hcc303⟩ := Kd.S_get HO_3.out z32 x10_1 p303 (by first | exact q303 | exact of_decide_eq_true (by first | (with_reducible assumption) | assumption) | (have e_ := (Kd.S_reads' HO_3.out).1; omega))
                                obtain ⟨ve303_1, rfl, ge303_1⟩ := k32_openM hMe303
                                have hv303_1 := hcc303 1 _ rfl
                                rw [add_field _ _ 1 (by omega)] at hv303_1
                                replace hv303_1 := Option.some.inj (hv303_1.symm.trans hx303_1)
                                rw [hv303_1] at ge303_1
                                have HL303_1 := Aside0.mk (show Kd.R (Kd.int .i64) 3 _ _ _ _ ((rd_T32 t285 x10_1).f1) from ge303_1)
                                clear hv303_1 ge303_1
                                clear hcc303 hce303
                                have HR303_1 := Aside0.mk hi303_1
                                have HC303_1 := Aside0.mk hl303_1
                                clear hi303_1 hl303_1
                                replace p303 := eq_true p303
                                replace q303 := eq_true q303
                                have p304 : 0 ≤ (x10_1 : Int) := of_decide_eq_true (by first | (with_reducible assumption) | assumption)
                                have q304 : x10_1 < (t285.length : Int) := of_decide_eq_true (by first | (with_reducible assumption) | assumption)
                                obtain ⟨ad304, A304_1, c304_1, e304, hx304_0, hx304_1, hl304_1, hi304_1⟩ := at_T32 (Kd.S_reads' HO_3.out).2.2 x10_1 p304 q304
                                obtain rfl : ad297 = ad304 := (by injection e304)
                                obtain ⟨ce304, hce304, hMe304, hcc304⟩ := Kd.S_get HO_3.out z32 x10_1 p304 (by first | exact q304 | exact of_decide_eq_true (by first | (with_reducible assumption) | assumption) | (have e_ := (Kd.S_reads' HO_3.out).1; omega))
                                obtain ⟨ve304_1, rfl, ge304_1⟩ := k32_openM hMe304
                                have hv304_1 := hcc304 1 _ rfl
                                rw [add_field _ _ 1 (by omega)] at hv304_1
                                replace hv304_1 := Option.some.inj (hv304_1.symm.trans hx304_1)
                                rw [hv304_1] at ge304_1
                                have HL304_1 := Aside0.mk (show Kd.R (Kd.int .i64) 3 _ _ _ _ ((rd_T32 t285 x10_1).f1) from ge304_1)
                                clear hv304_1 ge304_1
                                clear hcc304 hce304
                                have HR304_1 := Aside0.mk hi304_1
                                have HC304_1 := Aside0.mk hl304_1
                                clear hi304_1 hl304_1
                                replace p304 := eq_true p304
                                replace q304 := eq_true q304
                                have ea_ := Option.some.inj (hx303_1.symm.trans hx304_1)
                                injection ea_ with ea_ en_ ec_
                                subst ea_
                                subst ec_
                                clear en_
                                refine start_ (n := 21) (S := fun w' => w'.cell? (ad297.add ((x10_1).toNat * 2)) = some (.int .i64 ((rd_T32 t285 x10_1).f0)) ∧ w'.cell? ⟨(ad297.add ((x10_1).toNat * 2)).block, (ad297.add ((x10_1).toNat * 2)).off + 1, none⟩ = some (.slice A303_1 ((rd_T32 t285 x10_1).f1).length c303_1) ∧ w'.cell? (ad297.add ((x10_1).toNat * 2)) = some (.int .i64 ((rd_T32 t285 x10_1).f0)) ∧ w'.cell? ⟨(ad297.add ((x10_1).toNat * 2)).block, (ad297.add ((x10_1).toNat * 2)).off + 1, none⟩ = some (.slice A303_1 ((rd_T32 t285 x10_1).f1).length c303_1)) (ds := []) #[false, false, false, false, false, false, false, false, false, false, false, false, false, false, false, false, false, false, false, false, false] (by kernel_rfl) rfl rfl ⟨hx303_0, hx303_1, hx304_0, hx304_1⟩ (fun hHeld => ?_); refine with_tabW laws_FnUnseen.tab18 laws_FnUnseen.bits18 (fun HT_ HW_ => ?_)
                                generalize wc.drew = w37 at HO_3 HO_5 HR297_1 HB HL303_1 HL304_1 HR303_1 HR304_1 hx303_0 hx303_1 hx304_0 hx304_1 hHeld ⊢
                                refine pure_ (i := 0) (N := some 74) (v := ?_) (a' := ?_) #[true, false, false, false, false, false, false, false, false, false, false, false, false, false, false, false, false, false, false, false, false] rfl rfl (any_of HT_.out (by kernel_rfl)) (fun _ _ _ h => h) (Or.inl ⟨by rfl, ?_⟩) ?_ ?_
                                rotate_left
                                · intro w'
                                  go_simp
                                  with_reducible rfl
                                rotate_left
                                · simp only [Act.put, List.setIfInBounds_toArray, List.set_cons_zero, List.set_cons_succ, i64_w, i32_w]
                                  rfl
                                refine pure_ (i := 1) (N := some 75) (v := ?_) (a' := ?_) #[true, true, false, false, false, false, false, false, false, false, false, false, false, false, false, false, false, false, false, false, false] rfl rfl (any_of HT_.out (by kernel_rfl)) (fun _ _ _ h => h) (Or.inl ⟨by rfl, ?_⟩) ?_ ?_
                                rotate_left
                                · intro w'
                                  go_simp
                                  with_reducible rfl
                                rotate_left
                                · simp only [Act.put, List.setIfInBounds_toArray, List.set_cons_zero, List.set_cons_succ, i64_w, i32_w]
                                  rfl
                                refine pure_ (i := 2) (N := some 76) (v := ?_) (a' := ?_) #[true, true, true, false, false, false, false, false, false, false, false, false, false, false, false, false, false, false, false, false, false] rfl rfl (any_of HT_.out (by kernel_rfl)) (fun _ _ _ h => h) (Or.inl ⟨by rfl, ?_⟩) ?_ ?_
                                rotate_left
                                · intro w'
                                  go_simp
                                  with_reducible rfl
                                rotate_left
                                · simp only [Act.put, List.setIfInBounds_toArray, List.set_cons_zero, List.set_cons_succ, i64_w, i32_w]
                                  rfl
                                refine pure_ (i := 3) (N := some 77) (v := ?_) (a' := ?_) #[true, true, true, true, false, false, false, false, false, false, false, false, false, false, false, false, false, false, false, false, false] rfl rfl (any_of HT_.out (by kernel_rfl)) (fun _ _ _ h => h) (Or.inl ⟨by rfl, ?_⟩) ?_ ?_
                                rotate_left
                                · intro w'
                                  go_simp
                                  with_reducible rfl
                                rotate_left
                                · simp only [Act.put, List.setIfInBounds_toArray, List.set_cons_zero, List.set_cons_succ, i64_w, i32_w]
                                  rfl
                                refine pure_ (i := 5) (N := some 79) (v := ?_) (a' := ?_) #[true, true, true, true, false, true, false, false, false, false, false, false, false, false, false, false, false, false, false, false, false] rfl rfl (any_of HT_.out (by kernel_rfl)) (fun _ _ _ h => h) (Or.inl ⟨by rfl, ?_⟩) ?_ ?_
                                rotate_left
                                · intro w'
                                  go_simp
                                  with_reducible rfl
                                rotate_left
                                · simp only [Act.put, List.setIfInBounds_toArray, List.set_cons_zero, List.set_cons_succ, i64_w, i32_w]
                                  rfl
                                refine one_ (i := 4) (N := some 78) #[true, true, true, true, true, true, false, false, false, false, false, false, false, false, false, false, false, false, false, false, false] rfl rfl (one_of HT_.out (by kernel_rfl)) (by decide) (fun K hK => ?_)
                                refine goes_ Try.func12 (by kernel_rfl) rfl #[.slice Ao25 t289.length co25, .int .i64 t290, .int .i64 t291, .int .i64 t295] (by rfl) rfl rfl (by (try simp only [List.map_toArray, List.map_cons, List.map_nil]); first | done | rfl | (simp only [List.length_drop, List.length_take]; rfl)) ?_
                                with_reducible refine (spec_Dead.calls _ _ t289 t290 t291 t295 t302 _ ?side1 ?side2 A31.out).mono ?_
                                (case side1 => repeat (first | exact (Kd.R_reads' HO_5.out).2.2 | (with_reducible refine Kd.C_alloc ?_ _) | (with_reducible refine Kd.C_drewN ?_ _) | (with_reducible refine Kd.C_drew ?_)))
                                (case side2 => exact (Kd.R_reads' HO_5.out).2.1)
                                rintro e w' ⟨rfl, ⟨nd, rfl⟩⟩
                                refine ⟨_, rfl, ?_⟩
                                refine hK.out _ _ ⟨hHeld.1, hHeld.2.1, hHeld.2.2.1, hHeld.2.2.2⟩ (fun hHeld => ?_)
                                clear hK K
                                refine norm_ (a' := ?_) ?_ ?_
                                rotate_left
                                · show Act.put _ (some 78) _ = _
                                  simp only [Act.put, List.setIfInBounds_toArray, List.set_cons_zero, List.set_cons_succ, i64_w, i32_w]
                                  rfl
                                refine pure_ (i := 6) (N := some 80) (v := ?_) (a' := ?_) #[true, true, true, true, true, true, true, false, false, false, false, false, false, false, false, false, false, false, false, false, false] rfl rfl (any_of HT_.out (by kernel_rfl)) (fun _ _ _ h => h) (Or.inl ⟨by rfl, ?_⟩) ?_ ?_
                                rotate_left
                                · intro w'
                                  go_simp
                                  with_reducible rfl
                                rotate_left
                                · simp only [Act.put, List.setIfInBounds_toArray, List.set_cons_zero, List.set_cons_succ, i64_w, i32_w]
                                  rfl
                                refine pure_ (i := 7) (N := some 81) (v := ?_) (a' := ?_) #[true, true, true, true, true, true, true, true, false, false, false, false, false, false, false, false, false, false, false, false, false] rfl rfl (any_of HT_.out (by kernel_rfl)) (fun _ _ _ h => h) (Or.inl ⟨by rfl, ?_⟩) ?_ ?_
                                rotate_left
                                · intro w'
                                  go_simp
                                  with_reducible rfl
                                rotate_left
                                · simp only [Act.put, List.setIfInBounds_toArray, List.set_cons_zero, List.set_cons_succ, i64_w, i32_w]
                                  rfl
                                refine pure_ (i := 8) (N := some 82) (v := ?_) (a' := ?_) #[true, true, true, true, true, true, true, true, true, false, false, false, false, false, false, false, false, false, false, false, false] rfl rfl (any_of HT_.out (by kernel_rfl)) (fun _ _ _ h => h) (Or.inl ⟨by rfl, ?_⟩) ?_ ?_
                                rotate_left
                                · intro w'
                                  go_simp
                                  with_reducible rfl
                                rotate_left
                                · simp only [Act.put, List.setIfInBounds_toArray, List.set_cons_zero, List.set_cons_succ, i64_w, i32_w]
                                  rfl
                                refine pure_ (i := 9) (N := some 83) (v := ?_) (a' := ?_) #[true, true, true, true, true, true, true, true, true, true, false, false, false, false, false, false, false, false, false, false, false] rfl rfl (any_of HT_.out (by kernel_rfl)) (fun _ _ _ h => h) (Or.inl ⟨by rfl, ?_⟩) ?_ ?_
                                rotate_left
                                · intro w'
                                  go_simp
                                  with_reducible rfl
                                rotate_left
                                · simp only [Act.put, List.setIfInBounds_toArray, List.set_cons_zero, List.set_cons_succ, i64_w, i32_w]
                                  rfl
                                refine pure_ (i := 10) (N := some 84) (v := ?_) (a' := ?_) #[true, true, true, true, true, true, true, true, true, true, true, false, false, false, false, false, false, false, false, false, false] rfl rfl (any_of HT_.out (by kernel_rfl)) (fun _ _ _ h => h) (Or.inl ⟨by rfl, ?_⟩) ?_ ?_
                                rotate_left
                                · intro w'
                                  go_simp
                                  with_reducible rfl
                                rotate_left
                                · simp only [Act.put, List.setIfInBounds_toArray, List.set_cons_zero, List.set_cons_succ, i64_w, i32_w]
                                  rfl
                                refine pure_ (i := 12) (N := some 86) (v := ?_) (a' := ?_) #[true, true, true, true, true, true, true, true, true, true, true, false, true, false, false, false, false, false, false, false, false] rfl rfl (any_of HT_.out (by kernel_rfl)) (fun _ _ _ h => h) (Or.inl ⟨by rfl, ?_⟩) ?_ ?_
                                rotate_left
                                · intro w'
                                  go_simp
                                  with_reducible rfl
                                rotate_left
                                · simp only [Act.put, List.setIfInBounds_toArray, List.set_cons_zero, List.set_cons_succ, i64_w, i32_w]
                                  rfl
                                refine pure_ (i := 13) (N := some 87) (v := ?_) (a' := ?_) #[true, true, true, true, true, true, true, true, true, true, true, false, true, true, false, false, false, false, false, false, false] rfl rfl (any_of HT_.out (by kernel_rfl)) (fun _ _ _ h => h) (Or.inl ⟨by rfl, ?_⟩) ?_ ?_
                                rotate_left
                                · intro w'
                                  go_simp
                                  with_reducible rfl
                                rotate_left
                                · simp only [Act.put, List.setIfInBounds_toArray, List.set_cons_zero, List.set_cons_succ, i64_w, i32_w]
                                  rfl
                                refine pure_ (i := 14) (N := some 88) (v := ?_) (a' := ?_) #[true, true, true, true, true, true, true, true, true, true, true, false, true, true, true, false, false, false, false, false, false] rfl rfl (any_of HT_.out (by kernel_rfl)) (fun _ _ _ h => h) (Or.inl ⟨by rfl, ?_⟩) ?_ ?_
                                rotate_left
                                · intro w'
                                  go_simp
                                  with_reducible rfl
                                rotate_left
                                · simp only [Act.put, List.setIfInBounds_toArray, List.set_cons_zero, List.set_cons_succ, i64_w, i32_w]
                                  rfl
                                refine pure_ (i := 15) (N := some 89) (v := ?_) (a' := ?_) #[true, true, true, true, true, true, true, true, true, true, true, false, true, true, true, true, false, false, false, false, false] rfl rfl (any_of HT_.out (by kernel_rfl)) (fun _ _ _ h => h) (Or.inl ⟨by rfl, ?_⟩) ?_ ?_
                                rotate_left
                                · intro w'
                                  go_simp
                                  with_reducible rfl
                                rotate_left
                                · simp only [Act.put, List.setIfInBounds_toArray, List.set_cons_zero, List.set_cons_succ, i64_w, i32_w]
                                  rfl
                                refine pure_ (i := 16) (N := some 90) (v := ?_) (a' := ?_) #[true, true, true, true, true, true, true, true, true, true, true, false, true, true, true, true, true, false, false, false, false] rfl rfl (any_of HT_.out (by kernel_rfl)) (fun _ _ _ h => h) (Or.inl ⟨by rfl, ?_⟩) ?_ ?_
                                rotate_left
                                · intro w'
                                  go_simp
                                  with_reducible rfl
                                rotate_left
                                · simp only [Act.put, List.setIfInBounds_toArray, List.set_cons_zero, List.set_cons_succ, i64_w, i32_w]
                                  rfl
                                refine take_ (i := 11) (N := some 85) (v := ?_) (a' := ?_) #[true, true, true, true, true, true, true, true, true, true, true, true, true, true, true, true, true, false, false, false, false] rfl rfl (take_ofW HT_.out HW_.out (by kernel_rfl)) (fun _ _ _ h => h) (Or.inl ⟨by rfl, ?_⟩) hHeld ?_ ?_
                                rotate_left
                                · rintro w' ⟨s0, s1, s2, s3⟩
                                  go_simp
                                  with_reducible rfl
                                rotate_left
                                · simp only [Act.put, List.setIfInBounds_toArray, List.set_cons_zero, List.set_cons_succ, i64_w, i32_w]
                                  rfl
                                refine take_ (i := 17) (N := some 91) (v := ?_) (a' := ?_) #[true, true, true, true, true, true, true, true, true, true, true, true, true, true, true, true, true, true, false, false, false] rfl rfl (take_ofW HT_.out HW_.out (by kernel_rfl)) (fun _ _ _ h => h) (Or.inl ⟨by rfl, ?_⟩) hHeld ?_ ?_
                                rotate_left
                                · rintro w' ⟨s0, s1, s2, s3⟩
                                  go_simp
                                  with_reducible rfl
                                rotate_left
                                · simp only [Act.put, List.setIfInBounds_toArray, List.set_cons_zero, List.set_cons_succ, i64_w, i32_w]
                                  rfl
                                refine one_ (i := 18) (N := some 92) #[true, true, true, true, true, true, true, true, true, true, true, true, true, true, true, true, true, true, true, false, false] rfl rfl (one_of HT_.out (by kernel_rfl)) (by decide) (fun K hK => ?_)
                                refine goes_ Try.func13 (by kernel_rfl) rfl #[.agg #[.int .i64 ((rd_T32 t285 x10_1).f0), .slice A303_1 ((rd_T32 t285 x10_1).f1).length c303_1], .slice Ao25 t289.length co25, .int .i64 ((rd_T32 t285 x10_1).f0)] (by rfl) rfl rfl (by (try simp only [List.map_toArray, List.map_cons, List.map_nil]); first | done | rfl | (simp only [List.length_drop, List.length_take]; rfl)) ?_
                                with_reducible refine (impl_Sees.calls kj23 ((rd_T32 t285 x10_1).f0) _ _ ((rd_T32 t285 x10_1).f1) _ _ t289 ((rd_T32 t285 x10_1).f0) true _ ?side1 ?side2 ?side3 ?side4 A35.out).mono ?_
                                (case side1 => repeat (first | exact (by repeat (first | (with_reducible exact HR303_1.out) | (with_reducible refine Kd.C_alloc ?_ _) | (with_reducible refine Kd.C_drewN ?_ _) | (with_reducible refine Kd.C_drew ?_) | exact HR303_1.out)) | (with_reducible refine Kd.C_alloc ?_ _) | (with_reducible refine Kd.C_drewN ?_ _) | (with_reducible refine Kd.C_drew ?_)))
                                (case side2 => exact HC303_1.out)
                                (case side3 => repeat (first | exact (Kd.R_reads' HO_5.out).2.2 | (with_reducible refine Kd.C_alloc ?_ _) | (with_reducible refine Kd.C_drewN ?_ _) | (with_reducible refine Kd.C_drew ?_)))
                                (case side4 => exact (Kd.R_reads' HO_5.out).2.1)
                                rintro e w38 ⟨rfl, hb⟩
                                have HS0_ := (hb.cell (World.block_lt_of_cell? _ _ (hHeld.1))).trans (hHeld.1)
                                have HS1_ := (hb.cell (World.block_lt_of_cell? _ _ (hHeld.2.1))).trans (hHeld.2.1)
                                have HS2_ := (hb.cell (World.block_lt_of_cell? _ _ (hHeld.2.2.1))).trans (hHeld.2.2.1)
                                have HS3_ := (hb.cell (World.block_lt_of_cell? _ _ (hHeld.2.2.2))).trans (hHeld.2.2.2)
                                refine ⟨_, rfl, ?_⟩
                                have n0_ := Aside0.mk (Kd.S_below (by (with_reducible repeat (first | apply Kd.S_alloc | apply Kd.S_drewN | apply Kd.S_drew)); exact HO_3.out) hb)
                                have n1_ := Aside0.mk (Kd.R_below (by (with_reducible repeat (first | apply Kd.R_alloc | apply Kd.R_drewN | apply Kd.R_drew)); exact HO_5.out) hb)
                                have n2_ := Aside0.mk (Kd.R_below (by (with_reducible repeat (first | apply Kd.R_alloc | apply Kd.R_drewN | apply Kd.R_drew)); exact HL303_1.out) hb)
                                have n3_ := Aside0.mk (Kd.R_below (by (with_reducible repeat (first | apply Kd.R_alloc | apply Kd.R_drewN | apply Kd.R_drew)); exact HL304_1.out) hb)
                                have n4_ := Aside0.mk (Kd.C_below (by repeat (first | (with_reducible exact HR297_1.out) | (with_reducible refine Kd.C_alloc ?_ _) | (with_reducible refine Kd.C_drewN ?_ _) | (with_reducible refine Kd.C_drew ?_) | exact HR297_1.out)) hb)
                                have n5_ := Aside0.mk (Kd.C_below (by repeat (first | (with_reducible exact HR303_1.out) | (with_reducible refine Kd.C_alloc ?_ _) | (with_reducible refine Kd.C_drewN ?_ _) | (with_reducible refine Kd.C_drew ?_) | exact HR303_1.out)) hb)
                                have n6_ := Aside0.mk (Kd.C_below (by repeat (first | (with_reducible exact HR304_1.out) | (with_reducible refine Kd.C_alloc ?_ _) | (with_reducible refine Kd.C_drewN ?_ _) | (with_reducible refine Kd.C_drew ?_) | exact HR304_1.out)) hb)
                                have n7_ := Aside0.mk (below_step (by repeat (first | (with_reducible first | exact HB.out | apply below_alloc | apply pw_below_drewN | apply below_drew1) | exact HB.out)) hb)
                                clear HO_3
                                clear HO_5
                                clear HL303_1
                                clear HL304_1
                                clear HR297_1
                                clear HR303_1
                                clear HR304_1
                                clear HB
                                have HO_3 := n0_
                                have HO_5 := n1_
                                have HL303_1 := n2_
                                have HL304_1 := n3_
                                have HR297_1 := n4_
                                have HR303_1 := n5_
                                have HR304_1 := n6_
                                have HB := n7_
                                clear n0_ n1_ n2_ n3_ n4_ n5_ n6_ n7_
                                (try clear hb)
                                (try clear hb2)
                                (try clear hk)
                                (try clear hi)
                                refine hK.out _ _ ⟨HS0_, HS1_, HS2_, HS3_⟩ (fun hHeld => ?_)
                                clear hK K
                                refine norm_ (a' := ?_) ?_ ?_
                                rotate_left
                                · show Act.put _ (some 92) _ = _
                                  simp only [Act.put, List.setIfInBounds_toArray, List.set_cons_zero, List.set_cons_succ, i64_w, i32_w]
                                  rfl
                                refine pure_ (i := 19) (N := some 93) (v := ?_) (a' := ?_) #[true, true, true, true, true, true, true, true, true, true, true, true, true, true, true, true, true, true, true, true, false] rfl rfl (any_of HT_.out (by kernel_rfl)) (fun _ _ _ h => h) (Or.inl ⟨by rfl, ?_⟩) ?_ ?_
                                rotate_left
                                · intro w'
                                  go_simp
                                  with_reducible rfl
                                rotate_left
                                · simp only [Act.put, List.setIfInBounds_toArray, List.set_cons_zero, List.set_cons_succ, i64_w, i32_w]
                                  rfl
                                refine pure_ (i := 20) (N := some 94) (v := ?_) (a' := ?_) #[true, true, true, true, true, true, true, true, true, true, true, true, true, true, true, true, true, true, true, true, true] rfl rfl (any_of HT_.out (by kernel_rfl)) (fun _ _ _ h => h) (Or.inl ⟨by rfl, ?_⟩) ?_ ?_
                                rotate_left
                                · intro w'
                                  go_simp
                                  with_reducible rfl
                                rotate_left
                                · simp only [Act.put, List.setIfInBounds_toArray, List.set_cons_zero, List.set_cons_succ, i64_w, i32_w]
                                  rfl
                                refine done_ (done_of HT_.out (by kernel_rfl)) ?_
                                try go_wp2
                                go_roundg kj23
                                case measure => have := HK1.out; have := HJ23.out; omega
                                case rel => exact ⟨(wrap64 (x10_1 + 1)), (by first | rfl | (simp; done) | (simp [*]; done)), H', ⟨by have := HK1.out; have := HJ23.out; omega⟩, ⟨by (with_reducible repeat (first | apply Kd.S_alloc | apply Kd.S_drewN | apply Kd.S_drew)); exact HO_3.out⟩, ⟨by (with_reducible repeat (first | apply Kd.R_alloc | apply Kd.R_drewN | apply Kd.R_drew)); exact HO_5.out⟩, ⟨by repeat (first | (with_reducible first | exact HB.out | apply below_alloc | apply pw_below_drewN | apply below_drew1) | exact HB.out)⟩⟩
                              · replace c36 := Bool.eq_false_iff.mpr c36
                                subst c36
                                have H1 : (some false) = some r := by rw [if_neg (show ¬ (false = true) by decide)] at H; exact H
                                clear H
                                have H := H1
                                clear H1
                                exact absurd (Option.some.inj H) (by rw [hrt]; decide)
                            · rw [if_neg c34] at H
                              exact absurd H (by simp)
                          · rw [if_neg c33] at H
                            exact absurd H (by simp)
              · rw [if_neg c21] at H
                exact absurd H (by simp)
            · rw [if_neg c20] at H
              have c20b0 : decide (x10_1 < (t285.length : Int)) = false := decide_eq_false c20
              clear c20
              obtain rfl := Option.some.inj H
              go_wp2
              go_ret
              exact ⟨by first | rfl | (simp [errW_none, errW_some] <;> rfl) | (simp [*, errW_none, errW_some] <;> rfl), by repeat (first | (with_reducible first | exact HB.out | apply below_alloc | apply pw_below_drewN | apply below_drew1) | exact HB.out)⟩
    · rw [if_neg c8] at H
      have c8b0 : (t295 == t296) = false := beq_eq_false_iff_ne.mpr c8
      have c8b1 : (t295 != t296) = true := bne_iff_ne.mpr c8
      exact absurd (Option.some.inj H) (by rw [hrt]; decide)

/-- THE ONE PURE STATEMENT of laws_FnUnseen: yours. -/
def laws_FnUnseen.Pure : Prop := ∀ (l0 : List Int), l0.length ≤ maxLen → l0.length * 1 ≤ 140737488351232 → (∀ x ∈ l0, (Lit.int .u8 x).wf = true) → ∃ k, laws_FnUnseen.f k l0 = some true
theorem laws_FnUnseen.walk (P : laws_FnUnseen.Pure) (a0 : Option Addr) (len0 cap0 : Nat) (z0 : List Int) (w : World) (w0 : (a0 = none ∧ len0 = 0 ∧ cap0 = 0 ∧ z0 = []) ∨ ∃ x, a0 = some x ∧ len0 ≤ cap0 ∧ cap0 ≤ maxLen ∧ z0.length = cap0 ∧ (∀ i, i < z0.length → w.cell? (x.add i) = some (.int .u8 (z0.getD i 0))) ∧ ∀ n ∈ z0, (Lit.int .u8 n).wf = true) (y0 : len0 * 1 ≤ 140737488351232) :
    Calls Try.prog 3 #[.slice a0 len0 cap0] w fun e w' => e = .returned (.bool true) ∧ Below w.heap.size w w' := by
  obtain ⟨l0, rfl, hr0, hm0, hw0, hc0⟩ := ReadsInt.ofRowC w0
  obtain ⟨k, h⟩ := P l0 hm0 y0 hw0
  refine (laws_FnUnseen.calls k _ _ l0 true w (Kd.C_of_reads (d := (0 : Int)) (h1 := fun _ => rfl) hr0) hc0 h rfl).mono ?_
  rintro e w' ⟨rfl, hd⟩
  exact ⟨rfl, hd⟩

end Go.Proofs.Ytjhokmpmecjdhaa.PFnUnseen
